/- Each function of the program does what its Lean function computes (part 3). No conditions. -/
import Derived.Test.YtkkolmlgedjmnaaGreatWaterConflictsSb
import Derived.Test.YtkkolmlgedjmnaaGreatProg
set_option linter.unusedVariables false
set_option maxRecDepth 100000
namespace Go.Den
open Go.Ab Go.Proofs Go.Ab.Runs
noncomputable def C_74 (n:Nat):Code:=cat (bodyOf Tryz.f58) (pth n)
theorem g_w_names_ok (N:Nat) (r:(List ByteArray)) (h:g_w_names N=some r):Sd 58 [] [] 0 (encL cS ByteArray.empty r) []:=by
 unfold g_w_names at h
 refine Sound.of_runs (fu:=Tryz.f58) (c:=C_74 1) (nt:=2) (by kernel_rfl) (by kernel_rfl) (by kernel_rfl) (by kernel_rfl) (fun hm=>rfl) ?_
 intro E hE
 refine sA 1 [.code (C_74 2),.code (C_74 3)] ?_
 refine sR hE ⟨[],[],16⟩ (C_74 2) [] [] [] [] 16 [] trivial ?_
 refine sA 1 [.code (C_74 6),.code (C_74 7)] ?_
 refine sR hE ⟨[(0,(.os 16 0 (([(⟨#[100,114,97,117,103,104,116]⟩:ByteArray),(⟨#[116,114,105,109]⟩:ByteArray),(⟨#[104,101,101,108]⟩:ByteArray),(⟨#[104,111,103]⟩:ByteArray)]:List ByteArray).length)))],[(16,aO 1 cS ByteArray.empty ([(⟨#[100,114,97,117,103,104,116]⟩:ByteArray),(⟨#[116,114,105,109]⟩:ByteArray),(⟨#[104,101,101,108]⟩:ByteArray),(⟨#[104,111,103]⟩:ByteArray)]:List ByteArray))],48⟩ (C_74 6) [] [] [(0,.osl (([(⟨#[100,114,97,117,103,104,116]⟩:ByteArray),(⟨#[116,114,105,109]⟩:ByteArray),(⟨#[104,101,101,108]⟩:ByteArray),(⟨#[104,111,103]⟩:ByteArray)]:List ByteArray).length))] [(16,.arr 16 (([(⟨#[100,114,97,117,103,104,116]⟩:ByteArray),(⟨#[116,114,105,109]⟩:ByteArray),(⟨#[104,101,101,108]⟩:ByteArray),(⟨#[104,111,103]⟩:ByteArray)]:List ByteArray).length) (fun zi=>cS (([(⟨#[100,114,97,117,103,104,116]⟩:ByteArray),(⟨#[116,114,105,109]⟩:ByteArray),(⟨#[104,101,101,108]⟩:ByteArray),(⟨#[104,111,103]⟩:ByteArray)]:List ByteArray).getD zi ByteArray.empty)))] 48 [4=([(⟨#[100,114,97,117,103,104,116]⟩:ByteArray),(⟨#[116,114,105,109]⟩:ByteArray),(⟨#[104,101,101,108]⟩:ByteArray),(⟨#[104,111,103]⟩:ByteArray)]:List ByteArray).length,4=([(⟨#[100,114,97,117,103,104,116]⟩:ByteArray),(⟨#[116,114,105,109]⟩:ByteArray),(⟨#[104,101,101,108]⟩:ByteArray),(⟨#[104,111,103]⟩:ByteArray)]:List ByteArray).length,∀ zi,zi < ([(⟨#[100,114,97,117,103,104,116]⟩:ByteArray),(⟨#[116,114,105,109]⟩:ByteArray),(⟨#[104,101,101,108]⟩:ByteArray),(⟨#[104,111,103]⟩:ByteArray)]:List ByteArray).length→(fun zi=>cS (([(⟨#[100,114,97,117,103,104,116]⟩:ByteArray),(⟨#[116,114,105,109]⟩:ByteArray),(⟨#[104,101,101,108]⟩:ByteArray),(⟨#[104,111,103]⟩:ByteArray)]:List ByteArray).getD zi ByteArray.empty)) zi=(fun zi=>([[(aS (⟨#[100,114,97,117,103,104,116]⟩:ByteArray))],[(aS (⟨#[116,114,105,109]⟩:ByteArray))],[(aS (⟨#[104,101,101,108]⟩:ByteArray))],[(aS (⟨#[104,111,103]⟩:ByteArray))]]:List (List AV)).getD zi []) zi] ⟨rfl,rfl,(fun zq hzq=>get_chunk cS ByteArray.empty ([(⟨#[100,114,97,117,103,104,116]⟩:ByteArray),(⟨#[116,114,105,109]⟩:ByteArray),(⟨#[104,101,101,108]⟩:ByteArray),(⟨#[104,111,103]⟩:ByteArray)]:List ByteArray) zq hzq),trivial⟩ ?_
 obtain rfl:=Option.some.inj h
 refine sW hE ⟨[(0,(encL cS ByteArray.empty ([(⟨#[100,114,97,117,103,104,116]⟩:ByteArray),(⟨#[116,114,105,109]⟩:ByteArray),(⟨#[104,101,101,108]⟩:ByteArray),(⟨#[104,111,103]⟩:ByteArray)]:List ByteArray)))],[],48⟩ [16] [(0,.sl (([(⟨#[100,114,97,117,103,104,116]⟩:ByteArray),(⟨#[116,114,105,109]⟩:ByteArray),(⟨#[104,101,101,108]⟩:ByteArray),(⟨#[104,111,103]⟩:ByteArray)]:List ByteArray).length) (fun zi=>cS (([(⟨#[100,114,97,117,103,104,116]⟩:ByteArray),(⟨#[116,114,105,109]⟩:ByteArray),(⟨#[104,101,101,108]⟩:ByteArray),(⟨#[104,111,103]⟩:ByteArray)]:List ByteArray).getD zi ByteArray.empty)))] [] 48 [([(⟨#[100,114,97,117,103,104,116]⟩:ByteArray),(⟨#[116,114,105,109]⟩:ByteArray),(⟨#[104,101,101,108]⟩:ByteArray),(⟨#[104,111,103]⟩:ByteArray)]:List ByteArray).length=([(⟨#[100,114,97,117,103,104,116]⟩:ByteArray),(⟨#[116,114,105,109]⟩:ByteArray),(⟨#[104,101,101,108]⟩:ByteArray),(⟨#[104,111,103]⟩:ByteArray)]:List ByteArray).length,0+([(⟨#[100,114,97,117,103,104,116]⟩:ByteArray),(⟨#[116,114,105,109]⟩:ByteArray),(⟨#[104,101,101,108]⟩:ByteArray),(⟨#[104,111,103]⟩:ByteArray)]:List ByteArray).length≤([(⟨#[100,114,97,117,103,104,116]⟩:ByteArray),(⟨#[116,114,105,109]⟩:ByteArray),(⟨#[104,101,101,108]⟩:ByteArray),(⟨#[104,111,103]⟩:ByteArray)]:List ByteArray).length,∀ zi,zi < ([(⟨#[100,114,97,117,103,104,116]⟩:ByteArray),(⟨#[116,114,105,109]⟩:ByteArray),(⟨#[104,101,101,108]⟩:ByteArray),(⟨#[104,111,103]⟩:ByteArray)]:List ByteArray).length→(fun zi=>cS (([(⟨#[100,114,97,117,103,104,116]⟩:ByteArray),(⟨#[116,114,105,109]⟩:ByteArray),(⟨#[104,101,101,108]⟩:ByteArray),(⟨#[104,111,103]⟩:ByteArray)]:List ByteArray).getD zi ByteArray.empty)) zi=(fun zi=>cS (([(⟨#[100,114,97,117,103,104,116]⟩:ByteArray),(⟨#[116,114,105,109]⟩:ByteArray),(⟨#[104,101,101,108]⟩:ByteArray),(⟨#[104,111,103]⟩:ByteArray)]:List ByteArray).getD zi ByteArray.empty)) (addz 0 zi)] ⟨rfl,z0,(fun _ _=>rfl),trivial⟩ ?_
 exact sT Tryz.f58 [] [] trivial
noncomputable def C_73 (n:Nat):Code:=cat (bodyOf Tryz.f28) (pth n)
theorem g_w_chosen_J2_ok (N:Nat) (bits:Int) (rnames:(List ByteArray)) (x:Int) (K_g_w_chosen_L1:(List ByteArray)→Int→Option ((List ByteArray)))
  (hK_g_w_chosen_L1:∀ (out:List ByteArray) (x:Int) (r:(List ByteArray)),K_g_w_chosen_L1 out x=some r→∀ E,EnvOk E 0→Runs Tryz.prog E 28 24 (SPost E [] (encL cS ByteArray.empty r)) [.code (C_73 116),.inLoop (C_73 116),.inBlock 0,.code (C_73 15)] ⟨[(0,(aI bits)),(3,(.os 0 0 out.length)),(6,(encL cS ByteArray.empty rnames)),(7,(aI ((rnames.length:Nat):Int))),(8,(aI x))],[(0,aO 1 cS ByteArray.empty out)],1⟩) (out2:List ByteArray) (r:(List ByteArray)) (h:g_w_chosen_J2 N bits rnames x K_g_w_chosen_L1 out2=some r):∀ E,EnvOk E 0→Runs Tryz.prog E 28 24 (SPost E [] (encL cS ByteArray.empty r)) [.code (C_73 935),.inLoop (C_73 116),.inBlock 0,.code (C_73 15)] ⟨[(0,(aI bits)),(3,(.os 0 0 out2.length)),(6,(encL cS ByteArray.empty rnames)),(7,(aI ((rnames.length:Nat):Int))),(8,(aI x))],[(0,aO 1 cS ByteArray.empty out2)],1⟩:=by
 intro E hE
 unfold g_w_chosen_J2 at h
 refine sR hE ⟨[(0,(aI bits)),(3,(.os 0 0 out2.length)),(6,(encL cS ByteArray.empty rnames)),(7,(aI ((rnames.length:Nat):Int))),(8,(aI (w64 (x+1))))],[(0,aO 1 cS ByteArray.empty out2)],33⟩ (C_73 935) [] [] (kp [0,3,6,7,8]) (kq [0]) 33 [] trivial ?_
 refine sA 1 [.code (C_73 116),.inLoop (C_73 116),.inBlock 0,.code (C_73 15)] ?_
 exact sW hE _ [] (kp [0,3,6,7,8]) (kq [0]) 1 [] trivial (hK_g_w_chosen_L1 out2 (w64 (x+1)) _ h E hE)
theorem g_w_chosen_L1_ok (N:Nat) (bits:Int) (rnames:(List ByteArray)) (fuel:Nat):∀ (out:List ByteArray) (x:Int) (r:(List ByteArray)),g_w_chosen_L1 N bits rnames fuel out x=some r→∀ E,EnvOk E 0→Runs Tryz.prog E 28 24 (SPost E [] (encL cS ByteArray.empty r)) [.code (C_73 116),.inLoop (C_73 116),.inBlock 0,.code (C_73 15)] ⟨[(0,(aI bits)),(3,(.os 0 0 out.length)),(6,(encL cS ByteArray.empty rnames)),(7,(aI ((rnames.length:Nat):Int))),(8,(aI x))],[(0,aO 1 cS ByteArray.empty out)],1⟩:=by
 induction fuel with
 | zero=>intro _ _ r h;rw [g_w_chosen_L1.eq_1] at h;cases h
 | succ fuel ih =>
  intro out x r h E hE
  rw [g_w_chosen_L1.eq_2] at h
  refine sA 1 [.code (C_73 232),.code (C_73 233),.inLoop (C_73 116),.inBlock 0,.code (C_73 15)] ?_
  refine sR hE ⟨[(0,(aI bits)),(3,(.os 0 0 out.length)),(6,(encL cS ByteArray.empty rnames)),(7,(aI ((rnames.length:Nat):Int))),(8,(aI x)),(9,(aB (decide (x < ((rnames.length:Nat):Int)))))],[(0,aO 1 cS ByteArray.empty out)],17⟩ (C_73 232) [] [] (kp [0,3,6,7,8,9]) (kq [0]) 17 [] trivial ?_
  refine sA 1 [.code (C_73 466),.code (C_73 467),.inLoop (C_73 116),.inBlock 0,.code (C_73 15)] ?_
  refine sC 9 (C_73 932) (C_73 933) (decide (x < ((rnames.length:Nat):Int))) (fun hq2=>?_) (fun hq2=>?_)
  ·have h:=condT h hq2
   refine sA 4 [.code (C_73 3736),.code (C_73 3737),.inBlock 1,.code (C_73 935),.inLoop (C_73 116),.inBlock 0,.code (C_73 15)] ?_
   obtain ⟨c,h⟩:=ifSome h
   refine sR hE ⟨[(0,(aI bits)),(3,(.os 0 0 out.length)),(4,(aI x)),(5,(aS (rnames.getD ((x).toNat) ByteArray.empty))),(6,(encL cS ByteArray.empty rnames)),(7,(aI ((rnames.length:Nat):Int))),(8,(aI x))],[(0,aO 1 cS ByteArray.empty out)],97⟩ (C_73 3736) [] [] (kp [0,3,4,5,6,7,8]) (kq [0]) 97 [0≤x∧x < ((rnames.length:Nat):Int)] ⟨c,trivial⟩ ?_
   refine sA 1 [.code (C_73 7474),.code (C_73 7475),.inBlock 1,.code (C_73 935),.inLoop (C_73 116),.inBlock 0,.code (C_73 15)] ?_
   obtain ⟨c2,h⟩:=ifSome h
   refine sR hE ⟨[(0,(aI bits)),(3,(.os 0 0 out.length)),(5,(aS (rnames.getD ((x).toNat) ByteArray.empty))),(6,(encL cS ByteArray.empty rnames)),(7,(aI ((rnames.length:Nat):Int))),(8,(aI x)),(17,(aB ((andI .i64 (shrI .i64 bits x) 1) == 1)))],[(0,aO 1 cS ByteArray.empty out)],177⟩ (C_73 7474) [] [] (kp [0,3,5,6,7,8,17]) (kq [0]) 177 [(0:Int)≤x] ⟨c2,trivial⟩ ?_
   refine sC 17 (C_73 14950) (C_73 14951) ((andI .i64 (shrI .i64 bits x) 1) == 1) (fun hq3=>?_) (fun hq3=>?_)
   ·have h:=condT h hq3
    obtain ⟨c3,h⟩:=ifSome h
    refine sR hE ⟨[(0,(aI bits)),(3,(.os 225 0 ((out ++ ([(rnames.getD ((x).toNat) ByteArray.empty)]:List ByteArray)).length))),(6,(encL cS ByteArray.empty rnames)),(7,(aI ((rnames.length:Nat):Int))),(8,(aI x))],[(225,aO 1 cS ByteArray.empty (out ++ ([(rnames.getD ((x).toNat) ByteArray.empty)]:List ByteArray)))],257⟩ (C_73 14950) [] [] (kp [0] ++ [(3,.osl ((out ++ ([(rnames.getD ((x).toNat) ByteArray.empty)]:List ByteArray)).length))] ++ kp [6,7,8]) [(225,.arr 225 ((out ++ ([(rnames.getD ((x).toNat) ByteArray.empty)]:List ByteArray)).length) (fun zi=>cS ((out ++ ([(rnames.getD ((x).toNat) ByteArray.empty)]:List ByteArray)).getD zi ByteArray.empty)))] 257 [out.length=out.length,(out.length+1) * 16≤140737488355328,0+1≤1,∀ zi,zi < 1→AV.oneL ((fun zi=>([[(aS (rnames.getD ((x).toNat) ByteArray.empty))]]:List (List AV)).getD zi []) (addz 0 zi))=true,(out.length+1)=(out ++ ([(rnames.getD ((x).toNat) ByteArray.empty)]:List ByteArray)).length,out.length+1=(out ++ ([(rnames.getD ((x).toNat) ByteArray.empty)]:List ByteArray)).length,∀ zi,zi < (out ++ ([(rnames.getD ((x).toNat) ByteArray.empty)]:List ByteArray)).length→(fun zi=>cS ((out ++ ([(rnames.getD ((x).toNat) ByteArray.empty)]:List ByteArray)).getD zi ByteArray.empty)) zi=((fun zm=>if zm < out.length then (fun zi=>cS (out.getD zi ByteArray.empty)) zm else (fun zi=>([[(aS (rnames.getD ((x).toNat) ByteArray.empty))]]:List (List AV)).getD zi []) (zm - out.length))) zi] ⟨rfl,c3,z0,(oneN rfl),(len_app_raw rfl rfl),(len_app_raw rfl rfl),(get_app_raw cS ByteArray.empty out ([(rnames.getD ((x).toNat) ByteArray.empty)]:List ByteArray) rfl (fun _ _=>rfl) (fun zq hzq=>get_chunk cS ByteArray.empty ([(rnames.getD ((x).toNat) ByteArray.empty)]:List ByteArray) zq hzq)),trivial⟩ ?_
    refine sA 1 [.code (C_73 935),.inLoop (C_73 116),.inBlock 0,.code (C_73 15)] ?_
    exact sW hE _ [] (kp [0,3,6,7,8]) [(0,.keep 225)] 1 [] trivial (g_w_chosen_J2_ok N bits rnames x (g_w_chosen_L1 N bits rnames fuel) ih (out ++ ([(rnames.getD ((x).toNat) ByteArray.empty)]:List ByteArray)) _ h E hE)
   ·have h:=condF h hq3
    refine sA 2 [.code (C_73 935),.inLoop (C_73 116),.inBlock 0,.code (C_73 15)] ?_
    exact sW hE _ [] (kp [0,3,6,7,8]) (kq [0]) 1 [] trivial (g_w_chosen_J2_ok N bits rnames x (g_w_chosen_L1 N bits rnames fuel) ih out _ h E hE)
  ·have h:=condF h hq2
   refine sA 2 [.code (C_73 30),.code (C_73 31)] ?_
   refine sR hE ⟨[(2,(.os 0 0 out.length))],[(0,aO 1 cS ByteArray.empty out)],49⟩ (C_73 30) [] [] (kp [2]) (kq [0]) 49 [] trivial ?_
   obtain rfl:=Option.some.inj h
   refine sW hE ⟨[(2,(encL cS ByteArray.empty out))],[],49⟩ [0] [(2,.sl (out.length) (fun zi=>cS (out.getD zi ByteArray.empty)))] [] 49 [out.length=out.length,0+out.length≤out.length,∀ zi,zi < out.length→(fun zi=>cS (out.getD zi ByteArray.empty)) zi=(fun zi=>cS (out.getD zi ByteArray.empty)) (addz 0 zi)] ⟨rfl,z0,(fun _ _=>rfl),trivial⟩ ?_
   exact sT Tryz.f28 [] [] trivial
theorem g_w_chosen_ok (N:Nat) (bits:Int) (r:(List ByteArray)) (h:g_w_chosen N bits=some r):Sd 28 [(aI bits)] [] 0 (encL cS ByteArray.empty r) []:=by
 unfold g_w_chosen at h
 refine Sound.of_runs (fu:=Tryz.f28) (c:=C_73 1) (nt:=24) (by kernel_rfl) (by kernel_rfl) (by kernel_rfl) (by kernel_rfl) (fun hm=>rfl) ?_
 intro E hE
 refine sA 1 [.code (C_73 2),.code (C_73 3)] ?_
 refine sR hE ⟨[(0,(aI bits))],[],16⟩ (C_73 2) [] [] (kp [0]) [] 16 [] trivial ?_
 refine sA 1 [.code (C_73 6),.code (C_73 7)] ?_
 refine sR hE ⟨[(0,(aI bits)),(3,.nil)],[],32⟩ (C_73 6) [] [] (kp [0,3]) [] 32 [] trivial ?_
 refine sA 2 [.code (C_73 28),.code (C_73 29),.code (C_73 15)] ?_
 obtain ⟨rnames,hr,h⟩:=bindSome h
 refine sR hE ⟨[(0,(aI bits)),(3,.nil),(6,(encL cS ByteArray.empty rnames)),(7,(aI ((rnames.length:Nat):Int))),(8,(aI 0))],[],80⟩ (C_73 28) [(0,⟨[],true,(encL cS ByteArray.empty rnames),[],0,false,none⟩)] [] (kp [0,3,6,7,8]) [] 80 [Sd 58 [] [] 0 (encL cS ByteArray.empty rnames) []] ⟨(g_w_names_ok N rnames hr),trivial⟩ ?_
 refine sA 2 [.code (C_73 116),.inLoop (C_73 116),.inBlock 0,.code (C_73 15)] ?_
 exact sW hE _ [] (kp [0] ++ [(3,.nilos 0)] ++ kp [6,7,8]) [(0,.nil 1 (fun zi=>cS (([]:List ByteArray).getD zi ByteArray.empty)))] 1 [] trivial (g_w_chosen_L1_ok N bits rnames N ([]:List ByteArray) 0 _ h E hE)
noncomputable def C_58 (n:Nat):Code:=cat (bodyOf Tryz.f7) (pth n)
theorem g_w_Conflict_J3_ok (N:Nat) (possible:TS__16_bool) (bit:Int) (K_g_w_Conflict_L2:Int→Int→Option ((List ByteArray)×Int))
  (hK_g_w_Conflict_L2:∀ (rest:Int) (bit:Int) (r:(List ByteArray)×Int),K_g_w_Conflict_L2 rest bit=some r→∀ E,EnvOk E 0→Runs Tryz.prog E 7 64 (SPost E [] (.tup [(encL cS ByteArray.empty r.1),(aI r.2)])) [.code (C_58 32756),.inLoop (C_58 32756),.inBlock 2,.code (C_58 4095)] ⟨[(12,(.fn (.func 27) [] [(.op 0 0 0)])),(13,(aI rest)),(14,(aI bit))],[(0,vO 16 (TS__16_bool.cells possible))],1⟩) (rest2:Int) (r:(List ByteArray)×Int) (h:g_w_Conflict_J3 N possible bit K_g_w_Conflict_L2 rest2=some r):∀ E,EnvOk E 0→Runs Tryz.prog E 7 64 (SPost E [] (.tup [(encL cS ByteArray.empty r.1),(aI r.2)])) [.code (C_58 131027),.inLoop (C_58 32756),.inBlock 2,.code (C_58 4095)] ⟨[(12,(.fn (.func 27) [] [(.op 0 0 0)])),(13,(aI rest2)),(14,(aI bit))],[(0,vO 16 (TS__16_bool.cells possible))],1⟩:=by
 intro E hE
 unfold g_w_Conflict_J3 at h
 refine sR hE ⟨[(12,(.fn (.func 27) [] [(.op 0 0 0)])),(13,(aI rest2)),(14,(aI (shrI .i64 bit 1)))],[(0,vO 16 (TS__16_bool.cells possible))],49⟩ (C_58 131027) [] [] (kp [12,13,14]) (kq [0]) 49 [(0:Int)≤1] ⟨(by decide),trivial⟩ ?_
 refine sA 1 [.code (C_58 32756),.inLoop (C_58 32756),.inBlock 2,.code (C_58 4095)] ?_
 exact sW hE _ [] (kp [12,13,14]) (kq [0]) 1 [] trivial (hK_g_w_Conflict_L2 rest2 (shrI .i64 bit 1) _ h E hE)
theorem g_w_Conflict_L2_ok (N:Nat) (possible:TS__16_bool) (fuel:Nat):∀ (rest:Int) (bit:Int) (r:(List ByteArray)×Int),g_w_Conflict_L2 N possible fuel rest bit=some r→∀ E,EnvOk E 0→Runs Tryz.prog E 7 64 (SPost E [] (.tup [(encL cS ByteArray.empty r.1),(aI r.2)])) [.code (C_58 32756),.inLoop (C_58 32756),.inBlock 2,.code (C_58 4095)] ⟨[(12,(.fn (.func 27) [] [(.op 0 0 0)])),(13,(aI rest)),(14,(aI bit))],[(0,vO 16 (TS__16_bool.cells possible))],1⟩:=by
 induction fuel with
 | zero=>intro _ _ r h;rw [g_w_Conflict_L2.eq_1] at h;cases h
 | succ fuel ih =>
  intro rest bit r h E hE
  rw [g_w_Conflict_L2.eq_2] at h
  refine sA 2 [.code (C_58 131024),.code (C_58 131025),.code (C_58 65513),.inLoop (C_58 32756),.inBlock 2,.code (C_58 4095)] ?_
  refine sR hE ⟨[(12,(.fn (.func 27) [] [(.op 0 0 0)])),(13,(aI rest)),(14,(aI bit)),(50,(aB (decide (bit > 0))))],[(0,vO 16 (TS__16_bool.cells possible))],33⟩ (C_58 131024) [] [] (kp [12,13,14,50]) (kq [0]) 33 [] trivial ?_
  refine sC 50 (C_58 262050) (C_58 262051) (decide (bit > 0)) (fun hq7=>?_) (fun hq7=>?_)
  ·have h:=condT h hq7
   refine sA 4 [.code (C_58 524104),.code (C_58 524105),.inBlock 3,.code (C_58 131027),.inLoop (C_58 32756),.inBlock 2,.code (C_58 4095)] ?_
   obtain ⟨rConflict12,hr8,h⟩:=bindSome h
   refine sR hE ⟨[(12,(.fn (.func 27) [] [(.op 0 0 0)])),(13,(aI rest)),(14,(aI bit)),(58,(aB (!rConflict12)))],[(0,vO 16 (TS__16_bool.cells possible))],129⟩ (C_58 524104) [(4,⟨[0],true,(aB rConflict12),[],0,false,none⟩)] [] (kp [12,13,14,58]) (kq [0]) 129 [Sd 27 [(aI (andNotI .i64 rest bit)),(.op 0 0 0)] [(0,vO 16 (TS__16_bool.cells possible))] 1 (aB rConflict12) [(0,vO 16 (TS__16_bool.cells possible))]] ⟨(g_w_Conflict_1_ok N (andNotI .i64 rest bit) possible rConflict12 hr8),trivial⟩ ?_
   refine sC 58 (C_58 1048210) (C_58 1048211) (!rConflict12) (fun hq8=>?_) (fun hq8=>?_)
   ·have h:=condT h hq8
    refine sR hE ⟨[(12,(.fn (.func 27) [] [(.op 0 0 0)])),(13,(aI (andNotI .i64 rest bit))),(14,(aI bit))],[(0,vO 16 (TS__16_bool.cells possible))],193⟩ (C_58 1048210) [] [] (kp [12,13,14]) (kq [0]) 193 [] trivial ?_
    refine sA 1 [.code (C_58 131027),.inLoop (C_58 32756),.inBlock 2,.code (C_58 4095)] ?_
    exact sW hE _ [] (kp [12,13,14]) (kq [0]) 1 [] trivial (g_w_Conflict_J3_ok N possible bit (g_w_Conflict_L2 N possible fuel) ih (andNotI .i64 rest bit) _ h E hE)
   ·have h:=condF h hq8
    refine sA 2 [.code (C_58 131027),.inLoop (C_58 32756),.inBlock 2,.code (C_58 4095)] ?_
    exact sW hE _ [] (kp [12,13,14]) (kq [0]) 1 [] trivial (g_w_Conflict_J3_ok N possible bit (g_w_Conflict_L2 N possible fuel) ih rest _ h E hE)
  ·have h:=condF h hq7
   refine sA 2 [.code (C_58 8190),.code (C_58 8191)] ?_
   obtain ⟨rchosen,hr9,h⟩:=bindSome h
   refine sR hE ⟨[(4,(encL cS ByteArray.empty rchosen)),(5,(aI 0))],[],97⟩ (C_58 8190) [(1,⟨[],true,(encL cS ByteArray.empty rchosen),[],0,false,none⟩)] [] (kp [4,5]) [] 97 [Sd 28 [(aI rest)] [] 0 (encL cS ByteArray.empty rchosen) []] ⟨(g_w_chosen_ok N rest rchosen hr9),trivial⟩ ?_
   obtain rfl:=Option.some.inj h
   refine sW hE ⟨[(4,(encL cS ByteArray.empty rchosen)),(5,(aI 0))],[],97⟩ [] (kp [4,5]) [] 97 [] trivial ?_
   exact sT Tryz.f7 [] [] trivial
theorem g_w_Conflict_L1_ok (N:Nat) (p:TPn) (rboundsOf:Tw_bounds) (fuel:Nat):∀ (possible:TS__16_bool) (s:Tw_state) (more:Bool) (r:(List ByteArray)×Int),g_w_Conflict_L1 N p rboundsOf fuel possible s more=some r→∀ E,EnvOk E 0→Runs Tryz.prog E 7 64 (SPost E [] (.tup [(encL cS ByteArray.empty r.1),(aI r.2)])) [.code (C_58 2036),.inLoop (C_58 2036),.inBlock 0,.code (C_58 255)] ⟨[(2,(.op 0 0 0)),(8,(.op 1 0 0)),(9,(.op 2 0 0)),(10,(.op 3 0 0)),(11,(aB more))],[(0,vO 5 (TPn.cells p)),(1,vO 5 (Tw_bounds.cells rboundsOf)),(2,vO 16 (TS__16_bool.cells possible)),(3,vO 6 (Tw_state.cells s))],4⟩:=by
 induction fuel with
 | zero=>intro _ _ _ r h;rw [g_w_Conflict_L1.eq_1] at h;cases h
 | succ fuel ih =>
  intro possible s more r h E hE
  rw [g_w_Conflict_L1.eq_2] at h
  refine sA 2 [.code (C_58 8144),.code (C_58 8145),.code (C_58 4073),.inLoop (C_58 2036),.inBlock 0,.code (C_58 255)] ?_
  refine sR hE ⟨[(2,(.op 0 0 0)),(8,(.op 1 0 0)),(9,(.op 2 0 0)),(10,(.op 3 0 0)),(32,(aB more))],[(0,vO 5 (TPn.cells p)),(1,vO 5 (Tw_bounds.cells rboundsOf)),(2,vO 16 (TS__16_bool.cells possible)),(3,vO 6 (Tw_state.cells s))],20⟩ (C_58 8144) [] [] (kp [2,8,9,10,32]) (kq [0,1,2,3]) 20 [] trivial ?_
  refine sC 32 (C_58 16290) (C_58 16291) more (fun hq5=>?_) (fun hq5=>?_)
  ·have h:=condT h hq5
   refine sA 3 [.code (C_58 16292),.inBlock 1,.code (C_58 8147),.inLoop (C_58 2036),.inBlock 0,.code (C_58 255)] ?_
   obtain ⟨rkept,hr5,h⟩:=bindSome h
   obtain ⟨c,h⟩:=ifSome h
   refine sR hE ⟨[(2,(.op 0 0 0)),(8,(.op 1 0 0)),(9,(.op 2 0 0)),(10,(.op 3 0 0))],[(0,vO 5 (TPn.cells p)),(1,vO 5 (Tw_bounds.cells rboundsOf)),(2,vO 16 [(aB (setB ((rkept).toNat) 0 true possible.e0)),(aB (setB ((rkept).toNat) 1 true possible.e1)),(aB (setB ((rkept).toNat) 2 true possible.e2)),(aB (setB ((rkept).toNat) 3 true possible.e3)),(aB (setB ((rkept).toNat) 4 true possible.e4)),(aB (setB ((rkept).toNat) 5 true possible.e5)),(aB (setB ((rkept).toNat) 6 true possible.e6)),(aB (setB ((rkept).toNat) 7 true possible.e7)),(aB (setB ((rkept).toNat) 8 true possible.e8)),(aB (setB ((rkept).toNat) 9 true possible.e9)),(aB (setB ((rkept).toNat) 10 true possible.e10)),(aB (setB ((rkept).toNat) 11 true possible.e11)),(aB (setB ((rkept).toNat) 12 true possible.e12)),(aB (setB ((rkept).toNat) 13 true possible.e13)),(aB (setB ((rkept).toNat) 14 true possible.e14)),(aB (setB ((rkept).toNat) 15 true possible.e15))]),(3,vO 6 (Tw_state.cells s))],116⟩ (C_58 16292) [(3,⟨[],true,(aI rkept),[],0,false,none⟩)] [] (kp [2,8,9,10]) (kq [0,1,2,3]) 116 [0 < 1,0 < 1,0 < 1,Sd 26 [(.agg (Tw_bounds.cells rboundsOf)),(.agg (TPn.cells p)),(.agg (Tw_state.cells s))] [] 0 (aI rkept) [],0≤rkept∧rkept < ((16:Nat):Int),0 < 1] ⟨o1,o1,o1,(g_w_bounds_kept_ok N rboundsOf p s rkept hr5),c,o1,trivial⟩ ?_
   refine sA 3 [.code (C_58 32588),.code (C_58 32589),.code (C_58 16295),.inLoop (C_58 2036),.inBlock 0,.code (C_58 255)] ?_
   refine sR hE ⟨[(2,(.op 0 0 0)),(8,(.op 1 0 0)),(9,(.op 2 0 0)),(44,(.agg (Tw_state.cells s)))],[(0,vO 5 (TPn.cells p)),(1,vO 5 (Tw_bounds.cells rboundsOf)),(2,vO 16 [(aB (setB ((rkept).toNat) 0 true possible.e0)),(aB (setB ((rkept).toNat) 1 true possible.e1)),(aB (setB ((rkept).toNat) 2 true possible.e2)),(aB (setB ((rkept).toNat) 3 true possible.e3)),(aB (setB ((rkept).toNat) 4 true possible.e4)),(aB (setB ((rkept).toNat) 5 true possible.e5)),(aB (setB ((rkept).toNat) 6 true possible.e6)),(aB (setB ((rkept).toNat) 7 true possible.e7)),(aB (setB ((rkept).toNat) 8 true possible.e8)),(aB (setB ((rkept).toNat) 9 true possible.e9)),(aB (setB ((rkept).toNat) 10 true possible.e10)),(aB (setB ((rkept).toNat) 11 true possible.e11)),(aB (setB ((rkept).toNat) 12 true possible.e12)),(aB (setB ((rkept).toNat) 13 true possible.e13)),(aB (setB ((rkept).toNat) 14 true possible.e14)),(aB (setB ((rkept).toNat) 15 true possible.e15))])],132⟩ (C_58 32588) [] [] (kp [2,8,9,44]) (kq [0,1,2]) 132 [0 < 1] ⟨o1,trivial⟩ ?_
   refine sR hE ⟨[(2,(.op 0 0 0)),(8,(.op 1 0 0)),(9,(.op 2 0 0)),(10,(.op 132 0 0))],[(0,vO 5 (TPn.cells p)),(1,vO 5 (Tw_bounds.cells rboundsOf)),(2,vO 16 [(aB (setB ((rkept).toNat) 0 true possible.e0)),(aB (setB ((rkept).toNat) 1 true possible.e1)),(aB (setB ((rkept).toNat) 2 true possible.e2)),(aB (setB ((rkept).toNat) 3 true possible.e3)),(aB (setB ((rkept).toNat) 4 true possible.e4)),(aB (setB ((rkept).toNat) 5 true possible.e5)),(aB (setB ((rkept).toNat) 6 true possible.e6)),(aB (setB ((rkept).toNat) 7 true possible.e7)),(aB (setB ((rkept).toNat) 8 true possible.e8)),(aB (setB ((rkept).toNat) 9 true possible.e9)),(aB (setB ((rkept).toNat) 10 true possible.e10)),(aB (setB ((rkept).toNat) 11 true possible.e11)),(aB (setB ((rkept).toNat) 12 true possible.e12)),(aB (setB ((rkept).toNat) 13 true possible.e13)),(aB (setB ((rkept).toNat) 14 true possible.e14)),(aB (setB ((rkept).toNat) 15 true possible.e15))]),(132,vO 6 (Tw_state.cells s))],164⟩ (C_58 32589) [] [] (kp [2,8,9,10]) (kq [0,1,2,132]) 164 [0 < 1] ⟨o1,trivial⟩ ?_
   obtain ⟨rfollowing,hr6,h⟩:=bindSome h
   refine sR hE ⟨[(2,(.op 0 0 0)),(8,(.op 1 0 0)),(9,(.op 2 0 0)),(10,(.op 132 0 0)),(11,(aB rfollowing.2))],[(0,vO 5 (TPn.cells p)),(1,vO 5 (Tw_bounds.cells rboundsOf)),(2,vO 16 [(aB (setB ((rkept).toNat) 0 true possible.e0)),(aB (setB ((rkept).toNat) 1 true possible.e1)),(aB (setB ((rkept).toNat) 2 true possible.e2)),(aB (setB ((rkept).toNat) 3 true possible.e3)),(aB (setB ((rkept).toNat) 4 true possible.e4)),(aB (setB ((rkept).toNat) 5 true possible.e5)),(aB (setB ((rkept).toNat) 6 true possible.e6)),(aB (setB ((rkept).toNat) 7 true possible.e7)),(aB (setB ((rkept).toNat) 8 true possible.e8)),(aB (setB ((rkept).toNat) 9 true possible.e9)),(aB (setB ((rkept).toNat) 10 true possible.e10)),(aB (setB ((rkept).toNat) 11 true possible.e11)),(aB (setB ((rkept).toNat) 12 true possible.e12)),(aB (setB ((rkept).toNat) 13 true possible.e13)),(aB (setB ((rkept).toNat) 14 true possible.e14)),(aB (setB ((rkept).toNat) 15 true possible.e15))]),(132,vO 6 (Tw_state.cells rfollowing.1))],292⟩ (C_58 16295) [(2,⟨[],true,(.tup [(.agg (Tw_state.cells rfollowing.1)),(aB rfollowing.2)]),[],0,false,none⟩)] [] (kp [2,8,9,10,11]) (kq [0,1,2,132]) 292 [0 < 1,0 < 1,Sd 25 [(.agg (TPn.cells p)),(.agg (Tw_state.cells s))] [] 0 (.tup [(.agg (Tw_state.cells rfollowing.1)),(aB rfollowing.2)]) [],0 < 1] ⟨o1,o1,(g_w_following_ok N p s rfollowing hr6),o1,trivial⟩ ?_
   refine sA 1 [.code (C_58 2036),.inLoop (C_58 2036),.inBlock 0,.code (C_58 255)] ?_
   exact sW hE _ [] (kp [2,8,9,10,11]) (kq [0,1,2] ++ [(3,.keep 132)]) 4 [] trivial (ih (⟨(setB ((rkept).toNat) 0 true possible.e0),(setB ((rkept).toNat) 1 true possible.e1),(setB ((rkept).toNat) 2 true possible.e2),(setB ((rkept).toNat) 3 true possible.e3),(setB ((rkept).toNat) 4 true possible.e4),(setB ((rkept).toNat) 5 true possible.e5),(setB ((rkept).toNat) 6 true possible.e6),(setB ((rkept).toNat) 7 true possible.e7),(setB ((rkept).toNat) 8 true possible.e8),(setB ((rkept).toNat) 9 true possible.e9),(setB ((rkept).toNat) 10 true possible.e10),(setB ((rkept).toNat) 11 true possible.e11),(setB ((rkept).toNat) 12 true possible.e12),(setB ((rkept).toNat) 13 true possible.e13),(setB ((rkept).toNat) 14 true possible.e14),(setB ((rkept).toNat) 15 true possible.e15)⟩:TS__16_bool) rfollowing.1 rfollowing.2 _ h E hE)
  ·have h:=condF h hq5
   refine sA 2 [.code (C_58 510),.code (C_58 511)] ?_
   refine sR hE ⟨[(12,(.fn (.func 27) [] [(.op 2 0 0)]))],[(2,vO 16 (TS__16_bool.cells possible))],52⟩ (C_58 510) [] [] (kp [12]) (kq [2]) 52 [] trivial ?_
   refine sA 1 [.code (C_58 1022),.code (C_58 1023)] ?_
   refine sR hE ⟨[(12,(.fn (.func 27) [] [(.op 2 0 0)])),(13,(aI 15))],[(2,vO 16 (TS__16_bool.cells possible))],68⟩ (C_58 1022) [] [] (kp [12,13]) (kq [2]) 68 [] trivial ?_
   refine sA 2 [.code (C_58 4092),.code (C_58 4093),.code (C_58 2047)] ?_
   obtain ⟨rConflict1,hr7,h⟩:=bindSome h
   refine sR hE ⟨[(12,(.fn (.func 27) [] [(.op 2 0 0)])),(13,(aI 15)),(48,(aB rConflict1))],[(2,vO 16 (TS__16_bool.cells possible))],116⟩ (C_58 4092) [(2,⟨[2],true,(aB rConflict1),[],0,false,none⟩)] [] (kp [12,13,48]) (kq [2]) 116 [Sd 27 [(aI 15),(.op 0 0 0)] [(0,vO 16 (TS__16_bool.cells possible))] 1 (aB rConflict1) [(0,vO 16 (TS__16_bool.cells possible))]] ⟨(g_w_Conflict_1_ok N 15 possible rConflict1 hr7),trivial⟩ ?_
   refine sC 48 (C_58 8186) (C_58 8187) rConflict1 (fun hq6=>?_) (fun hq6=>?_)
   ·have h:=condT h hq6
    refine sA 1 [.code (C_58 16372),.code (C_58 16373),.code (C_58 2047)] ?_
    refine sR hE ⟨[(4,.nil),(5,(aI 0))],[],148⟩ (C_58 16372) [] [] (kp [4,5]) [] 148 [] trivial ?_
    obtain rfl:=Option.some.inj h
    refine sW hE ⟨[(4,(encL cS ByteArray.empty ([]:List ByteArray))),(5,(aI 0))],[],148⟩ [] ([(4,.sl (([]:List ByteArray).length) (fun zi=>cS (([]:List ByteArray).getD zi ByteArray.empty)))] ++ kp [5]) [] 148 [([]:List ByteArray).length=0] ⟨rfl,trivial⟩ ?_
    exact sT Tryz.f7 [] [] trivial
   ·have h:=condF h hq6
    refine sA 3 [.code (C_58 8188),.code (C_58 8189),.code (C_58 4095)] ?_
    refine sR hE ⟨[(12,(.fn (.func 27) [] [(.op 2 0 0)])),(13,(aI 15)),(14,(aI 8))],[(2,vO 16 (TS__16_bool.cells possible))],132⟩ (C_58 8188) [] [] (kp [12,13,14]) (kq [2]) 132 [] trivial ?_
    refine sA 2 [.code (C_58 32756),.inLoop (C_58 32756),.inBlock 2,.code (C_58 4095)] ?_
    exact sW hE _ [] (kp [12,13,14]) [(0,.keep 2)] 1 [] trivial (g_w_Conflict_L2_ok N possible N 15 8 _ h E hE)
theorem g_w_Conflict_ok (N:Nat) (p:TPn) (l:TLimits) (r:(List ByteArray)×Int) (h:g_w_Conflict N p l=some r):Sd 7 [(.agg (TPn.cells p)),(.agg (TLimits.cells l))] [] 0 (.tup [(encL cS ByteArray.empty r.1),(aI r.2)]) []:=by
 unfold g_w_Conflict at h
 refine Sound.of_runs (fu:=Tryz.f7) (c:=C_58 1) (nt:=64) (by kernel_rfl) (by kernel_rfl) (by kernel_rfl) (by kernel_rfl) (fun hm=>rfl) ?_
 intro E hE
 refine sA 1 [.code (C_58 2),.code (C_58 3)] ?_
 refine sR hE ⟨[(2,(.op 0 0 0)),(3,(.op 16 0 0))],[(0,vO 5 (TPn.cells p)),(16,vO 5 (TLimits.cells l))],64⟩ (C_58 2) [] [] (kp [2,3]) (kq [0,16]) 64 [] trivial ?_
 refine sA 2 [.code (C_58 12),.code (C_58 13),.code (C_58 7)] ?_
 obtain ⟨rCP,hr,h⟩:=bindSome h
 refine sR hE ⟨[(2,(.op 0 0 0)),(3,(.op 16 0 0)),(6,(aI rCP))],[(0,vO 5 (TPn.cells p)),(16,vO 5 (TLimits.cells l))],112⟩ (C_58 12) [(1,⟨[],true,(aI rCP),[],0,false,none⟩)] [] (kp [2,3,6]) (kq [0,16]) 112 [0 < 1,Sd 21 [(.agg (TPn.cells p))] [] 0 (aI rCP) []] ⟨o1,(g_w_CheckPontoon_ok N p rCP hr),trivial⟩ ?_
 refine sA 1 [.code (C_58 26),.code (C_58 27),.code (C_58 7)] ?_
 refine sR hE ⟨[(2,(.op 0 0 0)),(3,(.op 16 0 0)),(6,(aI rCP)),(18,(aB (rCP != 0)))],[(0,vO 5 (TPn.cells p)),(16,vO 5 (TLimits.cells l))],144⟩ (C_58 26) [] [] (kp [2,3,6,18]) (kq [0,16]) 144 [] trivial ?_
 refine sC 18 (C_58 54) (C_58 55) (rCP != 0) (fun hq2=>?_) (fun hq2=>?_)
 ·have h:=condT h hq2
  refine sA 1 [.code (C_58 108),.code (C_58 109),.code (C_58 7)] ?_
  refine sR hE ⟨[(4,.nil),(5,(aI rCP))],[],192⟩ (C_58 108) [] [] (kp [4,5]) [] 192 [] trivial ?_
  obtain rfl:=Option.some.inj h
  refine sW hE ⟨[(4,(encL cS ByteArray.empty ([]:List ByteArray))),(5,(aI rCP))],[],192⟩ [] ([(4,.sl (([]:List ByteArray).length) (fun zi=>cS (([]:List ByteArray).getD zi ByteArray.empty)))] ++ kp [5]) [] 192 [([]:List ByteArray).length=0] ⟨rfl,trivial⟩ ?_
  exact sT Tryz.f7 [] [] trivial
 ·have h:=condF h hq2
  refine sA 3 [.code (C_58 28),.code (C_58 29),.code (C_58 15)] ?_
  obtain ⟨rcheckLimits,hr2,h⟩:=bindSome h
  refine sR hE ⟨[(2,(.op 0 0 0)),(3,(.op 16 0 0)),(7,(aI rcheckLimits))],[(0,vO 5 (TPn.cells p)),(16,vO 5 (TLimits.cells l))],192⟩ (C_58 28) [(1,⟨[],true,(aI rcheckLimits),[],0,false,none⟩)] [] (kp [2,3,7]) (kq [0,16]) 192 [0 < 1,Sd 22 [(.agg (TLimits.cells l))] [] 0 (aI rcheckLimits) []] ⟨o1,(g_w_checkLimits_ok N l rcheckLimits hr2),trivial⟩ ?_
  refine sA 1 [.code (C_58 58),.code (C_58 59),.code (C_58 15)] ?_
  refine sR hE ⟨[(2,(.op 0 0 0)),(3,(.op 16 0 0)),(7,(aI rcheckLimits)),(23,(aB (rcheckLimits != 0)))],[(0,vO 5 (TPn.cells p)),(16,vO 5 (TLimits.cells l))],224⟩ (C_58 58) [] [] (kp [2,3,7,23]) (kq [0,16]) 224 [] trivial ?_
  refine sC 23 (C_58 118) (C_58 119) (rcheckLimits != 0) (fun hq3=>?_) (fun hq3=>?_)
  ·have h:=condT h hq3
   refine sA 1 [.code (C_58 236),.code (C_58 237),.code (C_58 15)] ?_
   refine sR hE ⟨[(4,.nil),(5,(aI rcheckLimits))],[],272⟩ (C_58 236) [] [] (kp [4,5]) [] 272 [] trivial ?_
   obtain rfl:=Option.some.inj h
   refine sW hE ⟨[(4,(encL cS ByteArray.empty ([]:List ByteArray))),(5,(aI rcheckLimits))],[],272⟩ [] ([(4,.sl (([]:List ByteArray).length) (fun zi=>cS (([]:List ByteArray).getD zi ByteArray.empty)))] ++ kp [5]) [] 272 [([]:List ByteArray).length=0] ⟨rfl,trivial⟩ ?_
   exact sT Tryz.f7 [] [] trivial
  ·have h:=condF h hq3
   refine sA 3 [.code (C_58 60),.code (C_58 61),.code (C_58 31)] ?_
   obtain ⟨rmany,hr3,h⟩:=bindSome h
   refine sR hE ⟨[(2,(.op 0 0 0)),(3,(.op 16 0 0)),(27,(aB (decide (rmany > 20000))))],[(0,vO 5 (TPn.cells p)),(16,vO 5 (TLimits.cells l))],272⟩ (C_58 60) [(1,⟨[],true,(aI rmany),[],0,false,none⟩)] [] (kp [2,3,27]) (kq [0,16]) 272 [0 < 1,Sd 23 [(.agg (TPn.cells p))] [] 0 (aI rmany) []] ⟨o1,(g_w_many_ok N p rmany hr3),trivial⟩ ?_
   refine sC 27 (C_58 122) (C_58 123) (decide (rmany > 20000)) (fun hq4=>?_) (fun hq4=>?_)
   ·have h:=condT h hq4
    refine sA 1 [.code (C_58 244),.code (C_58 245),.code (C_58 31)] ?_
    refine sR hE ⟨[(4,.nil),(5,(aI 8))],[],304⟩ (C_58 244) [] [] (kp [4,5]) [] 304 [] trivial ?_
    obtain rfl:=Option.some.inj h
    refine sW hE ⟨[(4,(encL cS ByteArray.empty ([]:List ByteArray))),(5,(aI 8))],[],304⟩ [] ([(4,.sl (([]:List ByteArray).length) (fun zi=>cS (([]:List ByteArray).getD zi ByteArray.empty)))] ++ kp [5]) [] 304 [([]:List ByteArray).length=0] ⟨rfl,trivial⟩ ?_
    exact sT Tryz.f7 [] [] trivial
   ·have h:=condF h hq4
    refine sA 2 [.code (C_58 62),.code (C_58 63)] ?_
    obtain ⟨rboundsOf,hr4,h⟩:=bindSome h
    refine sR hE ⟨[(2,(.op 0 0 0)),(8,(.op 320 0 0))],[(0,vO 5 (TPn.cells p)),(320,vO 5 (Tw_bounds.cells rboundsOf))],352⟩ (C_58 62) [(2,⟨[],true,(.agg (Tw_bounds.cells rboundsOf)),[],0,false,none⟩)] [] (kp [2,8]) (kq [0,320]) 352 [0 < 1,0 < 1,Sd 24 [(.agg (TPn.cells p)),(.agg (TLimits.cells l))] [] 0 (.agg (Tw_bounds.cells rboundsOf)) [],0 < 1] ⟨o1,o1,(g_w_boundsOf_ok N p l rboundsOf hr4),o1,trivial⟩ ?_
    refine sA 1 [.code (C_58 126),.code (C_58 127)] ?_
    refine sR hE ⟨[(2,(.op 0 0 0)),(8,(.op 320 0 0)),(9,(.op 352 0 0))],[(0,vO 5 (TPn.cells p)),(320,vO 5 (Tw_bounds.cells rboundsOf)),(352,vO 16 [(aB false),(aB false),(aB false),(aB false),(aB false),(aB false),(aB false),(aB false),(aB false),(aB false),(aB false),(aB false),(aB false),(aB false),(aB false),(aB false)])],368⟩ (C_58 126) [] [] (kp [2,8,9]) (kq [0,320,352]) 368 [] trivial ?_
    refine sA 2 [.code (C_58 508),.code (C_58 509),.code (C_58 255)] ?_
    refine sR hE ⟨[(2,(.op 0 0 0)),(8,(.op 320 0 0)),(9,(.op 352 0 0)),(10,(.op 384 0 0)),(11,(aB true))],[(0,vO 5 (TPn.cells p)),(320,vO 5 (Tw_bounds.cells rboundsOf)),(352,vO 16 [(aB false),(aB false),(aB false),(aB false),(aB false),(aB false),(aB false),(aB false),(aB false),(aB false),(aB false),(aB false),(aB false),(aB false),(aB false),(aB false)]),(384,vO 6 [(aI 0),(aI 0),(aI 0),(aI 0),(aI 0),(aI 0)])],432⟩ (C_58 508) [] [] (kp [2,8,9,10,11]) (kq [0,320,352,384]) 432 [0 < 1] ⟨o1,trivial⟩ ?_
    refine sA 2 [.code (C_58 2036),.inLoop (C_58 2036),.inBlock 0,.code (C_58 255)] ?_
    exact sW hE _ [] (kp [2,8,9,10,11]) (kq [0] ++ [(1,.keep 320),(2,.keep 352),(3,.keep 384)]) 4 [] trivial (g_w_Conflict_L1_ok N p rboundsOf N (⟨false,false,false,false,false,false,false,false,false,false,false,false,false,false,false,false⟩:TS__16_bool) (⟨0,0,0,0,0,0⟩:Tw_state) true _ h E hE)
noncomputable def C_75 (n:Nat):Code:=cat (bodyOf Tryz.f9) (pth n)
theorem g_r05_CheckLimits_ok (N:Nat) (l:TLimits) (r:Int) (h:g_r05_CheckLimits N l=some r):Sd 9 [(.agg (TLimits.cells l))] [] 0 (aI r) []:=by
 unfold g_r05_CheckLimits at h
 refine Sound.of_runs (fu:=Tryz.f9) (c:=C_75 1) (nt:=31) (by kernel_rfl) (by kernel_rfl) (by kernel_rfl) (by kernel_rfl) (fun hm=>rfl) ?_
 intro E hE
 refine sA 1 [.code (C_75 2),.code (C_75 3)] ?_
 refine sR hE ⟨[(1,(.op 0 0 0))],[(0,vO 5 (TLimits.cells l))],32⟩ (C_75 2) [] [] (kp [1]) (kq [0]) 32 [] trivial ?_
 refine sA 2 [.code (C_75 12),.code (C_75 13),.code (C_75 7)] ?_
 obtain ⟨rIn,hr,h⟩:=bindSome h
 obtain ⟨rIn2,hr2,h⟩:=bindSome h
 obtain ⟨rIn3,hr3,h⟩:=bindSome h
 obtain ⟨rIn4,hr4,h⟩:=bindSome h
 obtain ⟨rIn5,hr5,h⟩:=bindSome h
 refine sR hE ⟨[(30,(aB (cond (cond (cond (cond (!rIn) true (!rIn2)) true (!rIn3)) true (!rIn4)) true (!rIn5))))],[],480⟩ (C_75 12) [(2,⟨[],true,(aB rIn),[],0,false,none⟩),(7,⟨[],true,(aB rIn2),[],0,false,none⟩),(13,⟨[],true,(aB rIn3),[],0,false,none⟩),(19,⟨[],true,(aB rIn4),[],0,false,none⟩),(25,⟨[],true,(aB rIn5),[],0,false,none⟩)] [] (kp [30]) [] 480 [0 < 1,Sd 29 [(aI l.f_DraughtLeast),(aI 0),(aI 1000000)] [] 0 (aB rIn) [],(!(!rIn))=true→AllP [(!(!rIn))=true,0 < 1],(!(!rIn))=true→AllP [Sd 29 [(aI l.f_DraughtMost),(aI 0),(aI 1000000)] [] 0 (aB rIn2) [],(!(!rIn))=true],(!(!rIn))=true→AllP [(!(!rIn))=true],(!(!rIn))=true→AllP [(!(!rIn))=true],(!(cond (!rIn) true (!rIn2)))=true→AllP [(!(cond (!rIn) true (!rIn2)))=true,0 < 1],(!(cond (!rIn) true (!rIn2)))=true→AllP [Sd 29 [(aI l.f_TrimMost),(aI 0),(aI 1000)] [] 0 (aB rIn3) [],(!(cond (!rIn) true (!rIn2)))=true],(!(cond (!rIn) true (!rIn2)))=true→AllP [(!(cond (!rIn) true (!rIn2)))=true],(!(cond (!rIn) true (!rIn2)))=true→AllP [(!(cond (!rIn) true (!rIn2)))=true],(!(cond (cond (!rIn) true (!rIn2)) true (!rIn3)))=true→AllP [(!(cond (cond (!rIn) true (!rIn2)) true (!rIn3)))=true,0 < 1],(!(cond (cond (!rIn) true (!rIn2)) true (!rIn3)))=true→AllP [Sd 29 [(aI l.f_HeelMost),(aI 0),(aI 1000)] [] 0 (aB rIn4) [],(!(cond (cond (!rIn) true (!rIn2)) true (!rIn3)))=true],(!(cond (cond (!rIn) true (!rIn2)) true (!rIn3)))=true→AllP [(!(cond (cond (!rIn) true (!rIn2)) true (!rIn3)))=true],(!(cond (cond (!rIn) true (!rIn2)) true (!rIn3)))=true→AllP [(!(cond (cond (!rIn) true (!rIn2)) true (!rIn3)))=true],(!(cond (cond (cond (!rIn) true (!rIn2)) true (!rIn3)) true (!rIn4)))=true→AllP [(!(cond (cond (cond (!rIn) true (!rIn2)) true (!rIn3)) true (!rIn4)))=true,0 < 1],(!(cond (cond (cond (!rIn) true (!rIn2)) true (!rIn3)) true (!rIn4)))=true→AllP [Sd 29 [(aI l.f_HogMost),(aI 0),(aI 1000000000000000000)] [] 0 (aB rIn5) [],(!(cond (cond (cond (!rIn) true (!rIn2)) true (!rIn3)) true (!rIn4)))=true],(!(cond (cond (cond (!rIn) true (!rIn2)) true (!rIn3)) true (!rIn4)))=true→AllP [(!(cond (cond (cond (!rIn) true (!rIn2)) true (!rIn3)) true (!rIn4)))=true],(!(cond (cond (cond (!rIn) true (!rIn2)) true (!rIn3)) true (!rIn4)))=true→AllP [(!(cond (cond (cond (!rIn) true (!rIn2)) true (!rIn3)) true (!rIn4)))=true]] ⟨o1,(g_r05_inside_ok N l.f_DraughtLeast 0 1000000 rIn hr),(fun hg=>⟨hg,o1,trivial⟩),(fun hg=>⟨(g_r05_inside_ok N l.f_DraughtMost 0 1000000 rIn2 (condT hr2 hg)),hg,trivial⟩),(fun hg=>⟨hg,trivial⟩),(fun hq=>⟨hq,trivial⟩),(fun hg=>⟨hg,o1,trivial⟩),(fun hg=>⟨(g_r05_inside_ok N l.f_TrimMost 0 1000 rIn3 (condT hr3 hg)),hg,trivial⟩),(fun hg=>⟨hg,trivial⟩),(fun hq=>⟨hq,trivial⟩),(fun hg=>⟨hg,o1,trivial⟩),(fun hg=>⟨(g_r05_inside_ok N l.f_HeelMost 0 1000 rIn4 (condT hr4 hg)),hg,trivial⟩),(fun hg=>⟨hg,trivial⟩),(fun hq=>⟨hq,trivial⟩),(fun hg=>⟨hg,o1,trivial⟩),(fun hg=>⟨(g_r05_inside_ok N l.f_HogMost 0 1000000000000000000 rIn5 (condT hr5 hg)),hg,trivial⟩),(fun hg=>⟨hg,trivial⟩),(fun hq=>⟨hq,trivial⟩),trivial⟩ ?_
 refine sC 30 (C_75 26) (C_75 27) (cond (cond (cond (cond (!rIn) true (!rIn2)) true (!rIn3)) true (!rIn4)) true (!rIn5)) (fun hq2=>?_) (fun hq2=>?_)
 ·have h:=condT h hq2
  refine sA 1 [.code (C_75 52),.code (C_75 53),.code (C_75 7)] ?_
  refine sR hE ⟨[(2,(aI 2))],[],496⟩ (C_75 52) [] [] (kp [2]) [] 496 [] trivial ?_
  obtain rfl:=Option.some.inj h
  refine sW hE ⟨[(2,(aI 2))],[],496⟩ [] (kp [2]) [] 496 [] trivial ?_
  exact sT Tryz.f9 [] [] trivial
 ·have h:=condF h hq2
  refine sA 2 [.code (C_75 14),.code (C_75 15)] ?_
  refine sR hE ⟨[(2,(aI 0))],[],496⟩ (C_75 14) [] [] (kp [2]) [] 496 [] trivial ?_
  obtain rfl:=Option.some.inj h
  refine sW hE ⟨[(2,(aI 0))],[],496⟩ [] (kp [2]) [] 496 [] trivial ?_
  exact sT Tryz.f9 [] [] trivial
noncomputable def C_78 (n:Nat):Code:=cat (bodyOf Tryz.f32) (pth n)
theorem g_r05_State_L1_ok (N:Nat) (p:TPn) (fuel:Nat):∀ (k2:Int) (out:List Int) (i:Int) (r:(List Int)),g_r05_State_L1 N p fuel k2 out i=some r→∀ E,EnvOk E 0→Runs Tryz.prog E 32 36 (SPost E [] (encL cI 0 r)) [.code (C_78 116),.inLoop (C_78 116),.inBlock 0,.code (C_78 15)] ⟨[(1,(aI k2)),(2,(.op 0 0 0)),(5,(.os 1 0 out.length)),(6,(aI i))],[(0,vO 5 (TPn.cells p)),(1,aO 1 cI 0 out)],2⟩:=by
 induction fuel with
 | zero=>intro _ _ _ r h;rw [g_r05_State_L1.eq_1] at h;cases h
 | succ fuel ih =>
  intro k2 out i r h E hE
  rw [g_r05_State_L1.eq_2] at h
  refine sA 2 [.code (C_78 464),.code (C_78 465),.code (C_78 233),.inLoop (C_78 116),.inBlock 0,.code (C_78 15)] ?_
  refine sR hE ⟨[(1,(aI k2)),(2,(.op 0 0 0)),(5,(.os 1 0 out.length)),(6,(aI i)),(11,(aB (decide (i < ((p.fTk.length:Nat):Int)))))],[(0,vO 5 (TPn.cells p)),(1,aO 1 cI 0 out)],82⟩ (C_78 464) [] [] (kp [1,2,5,6,11]) (kq [0,1]) 82 [0 < 1] ⟨o1,trivial⟩ ?_
  refine sC 11 (C_78 930) (C_78 931) (decide (i < ((p.fTk.length:Nat):Int))) (fun hq2=>?_) (fun hq2=>?_)
  ·have h:=condT h hq2
   refine sA 4 [.code (C_78 1864),.code (C_78 1865),.inBlock 1,.code (C_78 467),.inLoop (C_78 116),.inBlock 0,.code (C_78 15)] ?_
   obtain ⟨c,h⟩:=ifSome h
   obtain ⟨c2,h⟩:=ifSome h
   obtain ⟨c3,h⟩:=ifSome h
   refine sR hE ⟨[(1,(aI k2)),(2,(.op 0 0 0)),(5,(.os 258 0 ((out ++ ([(k2.tmod (w64 ((p.fTk.getD ((i).toNat) TTank.d).f_Steps+1)))]:List Int)).length))),(6,(aI i))],[(0,vO 5 (TPn.cells p)),(258,aO 1 cI 0 (out ++ ([(k2.tmod (w64 ((p.fTk.getD ((i).toNat) TTank.d).f_Steps+1)))]:List Int)))],290⟩ (C_78 1864) [] [] (kp [1,2] ++ [(5,.osl ((out ++ ([(k2.tmod (w64 ((p.fTk.getD ((i).toNat) TTank.d).f_Steps+1)))]:List Int)).length))] ++ kp [6]) (kq [0] ++ [(258,.arr 258 ((out ++ ([(k2.tmod (w64 ((p.fTk.getD ((i).toNat) TTank.d).f_Steps+1)))]:List Int)).length) (fun zi=>cI ((out ++ ([(k2.tmod (w64 ((p.fTk.getD ((i).toNat) TTank.d).f_Steps+1)))]:List Int)).getD zi 0)))]) 290 [0 < 1,0≤i∧i < ((p.fTk.length:Nat):Int),((w64 ((p.fTk.getD ((i).toNat) TTank.d).f_Steps+1)):Int)≠0,out.length=out.length,(out.length+1) * 8≤140737488355328,0+1≤1,∀ zi,zi < 1→AV.oneL ((fun zi=>([[(aI (k2.tmod (w64 ((p.fTk.getD ((i).toNat) TTank.d).f_Steps+1))))]]:List (List AV)).getD zi []) (addz 0 zi))=true,(out.length+1)=(out ++ ([(k2.tmod (w64 ((p.fTk.getD ((i).toNat) TTank.d).f_Steps+1)))]:List Int)).length,out.length+1=(out ++ ([(k2.tmod (w64 ((p.fTk.getD ((i).toNat) TTank.d).f_Steps+1)))]:List Int)).length,∀ zi,zi < (out ++ ([(k2.tmod (w64 ((p.fTk.getD ((i).toNat) TTank.d).f_Steps+1)))]:List Int)).length→(fun zi=>cI ((out ++ ([(k2.tmod (w64 ((p.fTk.getD ((i).toNat) TTank.d).f_Steps+1)))]:List Int)).getD zi 0)) zi=((fun zm=>if zm < out.length then (fun zi=>cI (out.getD zi 0)) zm else (fun zi=>([[(aI (k2.tmod (w64 ((p.fTk.getD ((i).toNat) TTank.d).f_Steps+1))))]]:List (List AV)).getD zi []) (zm - out.length))) zi] ⟨o1,c,c2,rfl,c3,z0,(oneN rfl),(len_app_raw rfl rfl),(len_app_raw rfl rfl),(get_app_raw cI 0 out ([(k2.tmod (w64 ((p.fTk.getD ((i).toNat) TTank.d).f_Steps+1)))]:List Int) rfl (fun _ _=>rfl) (fun zq hzq=>get_chunk cI 0 ([(k2.tmod (w64 ((p.fTk.getD ((i).toNat) TTank.d).f_Steps+1)))]:List Int) zq hzq)),trivial⟩ ?_
   refine sR hE ⟨[(1,(aI (w64 (k2.tdiv (w64 ((p.fTk.getD ((i).toNat) TTank.d).f_Steps+1)))))),(2,(.op 0 0 0)),(5,(.os 258 0 ((out ++ ([(k2.tmod (w64 ((p.fTk.getD ((i).toNat) TTank.d).f_Steps+1)))]:List Int)).length))),(6,(aI i))],[(0,vO 5 (TPn.cells p)),(258,aO 1 cI 0 (out ++ ([(k2.tmod (w64 ((p.fTk.getD ((i).toNat) TTank.d).f_Steps+1)))]:List Int)))],450⟩ (C_78 1865) [] [] (kp [1,2,5,6]) (kq [0,258]) 450 [0 < 1,0≤i∧i < ((p.fTk.length:Nat):Int),((w64 ((p.fTk.getD ((i).toNat) TTank.d).f_Steps+1)):Int)≠0] ⟨o1,c,c2,trivial⟩ ?_
   refine sA 1 [.code (C_78 467),.inLoop (C_78 116),.inBlock 0,.code (C_78 15)] ?_
   refine sR hE ⟨[(1,(aI (w64 (k2.tdiv (w64 ((p.fTk.getD ((i).toNat) TTank.d).f_Steps+1)))))),(2,(.op 0 0 0)),(5,(.os 258 0 ((out ++ ([(k2.tmod (w64 ((p.fTk.getD ((i).toNat) TTank.d).f_Steps+1)))]:List Int)).length))),(6,(aI (w64 (i+1))))],[(0,vO 5 (TPn.cells p)),(258,aO 1 cI 0 (out ++ ([(k2.tmod (w64 ((p.fTk.getD ((i).toNat) TTank.d).f_Steps+1)))]:List Int)))],498⟩ (C_78 467) [] [] (kp [1,2,5,6]) (kq [0,258]) 498 [] trivial ?_
   refine sA 1 [.code (C_78 116),.inLoop (C_78 116),.inBlock 0,.code (C_78 15)] ?_
   exact sW hE _ [] (kp [1,2,5,6]) (kq [0] ++ [(1,.keep 258)]) 2 [] trivial (ih (w64 (k2.tdiv (w64 ((p.fTk.getD ((i).toNat) TTank.d).f_Steps+1)))) (out ++ ([(k2.tmod (w64 ((p.fTk.getD ((i).toNat) TTank.d).f_Steps+1)))]:List Int)) (w64 (i+1)) _ h E hE)
  ·have h:=condF h hq2
   refine sA 2 [.code (C_78 30),.code (C_78 31)] ?_
   refine sR hE ⟨[(4,(.os 1 0 out.length))],[(1,aO 1 cI 0 out)],114⟩ (C_78 30) [] [] (kp [4]) (kq [1]) 114 [] trivial ?_
   obtain rfl:=Option.some.inj h
   refine sW hE ⟨[(4,(encL cI 0 out))],[],114⟩ [1] [(4,.sl (out.length) (fun zi=>cI (out.getD zi 0)))] [] 114 [out.length=out.length,0+out.length≤out.length,∀ zi,zi < out.length→(fun zi=>cI (out.getD zi 0)) zi=(fun zi=>cI (out.getD zi 0)) (addz 0 zi)] ⟨rfl,z0,(fun _ _=>rfl),trivial⟩ ?_
   exact sT Tryz.f32 [] [] trivial
theorem g_r05_State_ok (N:Nat) (p:TPn) (k:Int) (r:(List Int)) (h:g_r05_State N p k=some r):Sd 32 [(.agg (TPn.cells p)),(aI k)] [] 0 (encL cI 0 r) []:=by
 unfold g_r05_State at h
 refine Sound.of_runs (fu:=Tryz.f32) (c:=C_78 1) (nt:=36) (by kernel_rfl) (by kernel_rfl) (by kernel_rfl) (by kernel_rfl) (fun hm=>rfl) ?_
 intro E hE
 refine sA 1 [.code (C_78 2),.code (C_78 3)] ?_
 refine sR hE ⟨[(1,(aI k)),(2,(.op 0 0 0))],[(0,vO 5 (TPn.cells p))],32⟩ (C_78 2) [] [] (kp [1,2]) (kq [0]) 32 [] trivial ?_
 refine sA 1 [.code (C_78 6),.code (C_78 7)] ?_
 refine sR hE ⟨[(1,(aI k)),(2,(.op 0 0 0)),(5,.nil)],[(0,vO 5 (TPn.cells p))],48⟩ (C_78 6) [] [] (kp [1,2,5]) (kq [0]) 48 [] trivial ?_
 refine sA 2 [.code (C_78 28),.code (C_78 29),.code (C_78 15)] ?_
 refine sR hE ⟨[(1,(aI k)),(2,(.op 0 0 0)),(5,.nil),(6,(aI 0))],[(0,vO 5 (TPn.cells p))],64⟩ (C_78 28) [] [] (kp [1,2,5,6]) (kq [0]) 64 [] trivial ?_
 refine sA 2 [.code (C_78 116),.inLoop (C_78 116),.inBlock 0,.code (C_78 15)] ?_
 exact sW hE _ [] (kp [1,2] ++ [(5,.nilos 1)] ++ kp [6]) (kq [0] ++ [(1,.nil 1 (fun zi=>cI (([]:List Int).getD zi 0)))]) 2 [] trivial (g_r05_State_L1_ok N p N k ([]:List Int) 0 _ h E hE)
noncomputable def C_83 (n:Nat):Code:=cat (bodyOf Tryz.f118) (pth n)
theorem g_r01_made_L1_ok (N:Nat) (neg:Bool) (a:List Int) (fuel:Nat):∀ (x:List Int) (i:Int) (r:TInt),g_r01_made_L1 N neg a fuel x i=some r→∀ E,EnvOk E 0→Runs Tryz.prog E 118 31 (SPost E [] (.agg (TInt.cells r))) [.code (C_83 116),.inLoop (C_83 116),.inBlock 0,.code (C_83 15)] ⟨[(1,(encL cI 0 a)),(4,(.op 0 0 0)),(5,(.op 1 0 0)),(6,(aI i))],[(0,vO 2 [(aB false),.nil]),(1,vN 2 [(aB (cond neg (decide (((a.length:Nat):Int) > 0)) false)),(.os 2 0 x.length)]),(2,aU x)],3⟩:=by
 induction fuel with
 | zero=>intro _ _ r h;rw [g_r01_made_L1.eq_1] at h;cases h
 | succ fuel ih =>
  intro x i r h E hE
  rw [g_r01_made_L1.eq_2] at h
  refine sA 2 [.code (C_83 464),.code (C_83 465),.code (C_83 233),.inLoop (C_83 116),.inBlock 0,.code (C_83 15)] ?_
  refine sR hE ⟨[(1,(encL cI 0 a)),(4,(.op 0 0 0)),(5,(.op 1 0 0)),(6,(aI i)),(17,(aB (decide (i < ((a.length:Nat):Int)))))],[(0,vO 2 [(aB false),.nil]),(1,vN 2 [(aB (cond neg (decide (((a.length:Nat):Int) > 0)) false)),(.os 2 0 x.length)]),(2,aU x)],67⟩ (C_83 464) [] [] (kp [1,4,5,6,17]) (kq [0,1,2]) 67 [] trivial ?_
  refine sC 17 (C_83 930) (C_83 931) (decide (i < ((a.length:Nat):Int))) (fun hq2=>?_) (fun hq2=>?_)
  ·have h:=condT h hq2
   refine sA 3 [.code (C_83 932),.inBlock 1,.code (C_83 467),.inLoop (C_83 116),.inBlock 0,.code (C_83 15)] ?_
   obtain ⟨c,h⟩:=ifSome h
   obtain ⟨c2,h⟩:=ifSome h
   refine sR hE ⟨[(1,(encL cI 0 a)),(4,(.op 0 0 0)),(5,(.op 1 0 0)),(6,(aI i))],[(0,vO 2 [(aB false),.nil]),(1,vN 2 [(aB (cond neg (decide (((a.length:Nat):Int) > 0)) false)),(.os 195 0 ((x ++ ([(IntKind.u16.wrap ((a.getD ((i).toNat) 0)))]:List Int)).length))]),(195,aU (x ++ ([(IntKind.u16.wrap ((a.getD ((i).toNat) 0)))]:List Int)))],243⟩ (C_83 932) [] [] (kp [1,4,5,6]) (kq [0] ++ [(1,.var 1 [.keep,.osl ((x ++ ([(IntKind.u16.wrap ((a.getD ((i).toNat) 0)))]:List Int)).length)]),(195,.arr 195 ((x ++ ([(IntKind.u16.wrap ((a.getD ((i).toNat) 0)))]:List Int)).length) (fun zi=>(cU .u16) ((x ++ ([(IntKind.u16.wrap ((a.getD ((i).toNat) 0)))]:List Int)).getD zi 0)))]) 243 [0 < 1,0≤i∧i < ((a.length:Nat):Int),x.length=x.length,(x.length+1) * 2≤140737488355328,0+1≤1,∀ zi,zi < 1→AV.oneL ((fun zi=>([[(a16 (IntKind.u16.wrap ((a.getD ((i).toNat) 0))))]]:List (List AV)).getD zi []) (addz 0 zi))=true,0 < 1,(x.length+1)=(x ++ ([(IntKind.u16.wrap ((a.getD ((i).toNat) 0)))]:List Int)).length,x.length+1=(x ++ ([(IntKind.u16.wrap ((a.getD ((i).toNat) 0)))]:List Int)).length,∀ zi,zi < (x ++ ([(IntKind.u16.wrap ((a.getD ((i).toNat) 0)))]:List Int)).length→(fun zi=>(cU .u16) ((x ++ ([(IntKind.u16.wrap ((a.getD ((i).toNat) 0)))]:List Int)).getD zi 0)) zi=((fun zm=>if zm < x.length then (fun zi=>(cU .u16) (x.getD zi 0)) zm else (fun zi=>([[(a16 (IntKind.u16.wrap ((a.getD ((i).toNat) 0))))]]:List (List AV)).getD zi []) (zm - x.length))) zi] ⟨o1,c,rfl,c2,z0,(oneN rfl),o1,(len_app_raw rfl rfl),(len_app_raw rfl rfl),(get_app_raw (cU .u16) 0 x ([(IntKind.u16.wrap ((a.getD ((i).toNat) 0)))]:List Int) rfl (fun _ _=>rfl) (fun zq hzq=>get_chunk (cU .u16) 0 ([(IntKind.u16.wrap ((a.getD ((i).toNat) 0)))]:List Int) zq hzq)),trivial⟩ ?_
   refine sA 1 [.code (C_83 467),.inLoop (C_83 116),.inBlock 0,.code (C_83 15)] ?_
   refine sR hE ⟨[(1,(encL cI 0 a)),(4,(.op 0 0 0)),(5,(.op 1 0 0)),(6,(aI (w64 (i+1))))],[(0,vO 2 [(aB false),.nil]),(1,vN 2 [(aB (cond neg (decide (((a.length:Nat):Int) > 0)) false)),(.os 195 0 ((x ++ ([(IntKind.u16.wrap ((a.getD ((i).toNat) 0)))]:List Int)).length))]),(195,aU (x ++ ([(IntKind.u16.wrap ((a.getD ((i).toNat) 0)))]:List Int)))],291⟩ (C_83 467) [] [] (kp [1,4,5,6]) (kq [0,1,195]) 291 [] trivial ?_
   refine sA 1 [.code (C_83 116),.inLoop (C_83 116),.inBlock 0,.code (C_83 15)] ?_
   exact sW hE _ [] (kp [1,4,5,6]) (kq [0,1] ++ [(2,.keep 195)]) 3 [] trivial (ih (x ++ ([(IntKind.u16.wrap ((a.getD ((i).toNat) 0)))]:List Int)) (w64 (i+1)) _ h E hE)
  ·have h:=condF h hq2
   refine sA 2 [.code (C_83 30),.code (C_83 31)] ?_
   refine sR hE ⟨[(4,(.op 0 0 0))],[(0,vN 2 [(aB (cond neg (decide (((a.length:Nat):Int) > 0)) false)),(.os 2 0 x.length)]),(2,aU x)],99⟩ (C_83 30) [] [] (kp [4]) (kq [0,2]) 99 [0 < 1,0 < 1] ⟨o1,o1,trivial⟩ ?_
   obtain rfl:=Option.some.inj h
   refine sW hE ⟨[(4,(.op 16 0 0))],[(16,vO 2 [(aB (cond neg (decide (((a.length:Nat):Int) > 0)) false)),(eU x)])],99⟩ [2] (kp [4]) [(16,.var 0 [.keep,.sl (x.length) (fun zi=>(cU .u16) (x.getD zi 0))])] 99 [x.length=x.length,0+x.length≤x.length,∀ zi,zi < x.length→(fun zi=>(cU .u16) (x.getD zi 0)) zi=(fun zi=>(cU .u16) (x.getD zi 0)) (addz 0 zi)] ⟨rfl,z0,(fun _ _=>rfl),trivial⟩ ?_
   exact sT Tryz.f118 [16] [0 < 1] ⟨o1,trivial⟩
theorem g_r01_made_ok (N:Nat) (neg:Bool) (a:List Int) (r:TInt) (h:g_r01_made N neg a=some r):Sd 118 [(aB neg),(encL cI 0 a)] [] 0 (.agg (TInt.cells r)) []:=by
 unfold g_r01_made at h
 refine Sound.of_runs (fu:=Tryz.f118) (c:=C_83 1) (nt:=31) (by kernel_rfl) (by kernel_rfl) (by kernel_rfl) (by kernel_rfl) (fun hm=>rfl) ?_
 intro E hE
 refine sA 1 [.code (C_83 2),.code (C_83 3)] ?_
 refine sR hE ⟨[(0,(aB neg)),(1,(encL cI 0 a)),(4,(.op 0 0 0))],[(0,vO 2 [(aB false),.nil])],16⟩ (C_83 2) [] [] (kp [0,1,4]) (kq [0]) 16 [] trivial ?_
 refine sA 1 [.code (C_83 6),.code (C_83 7)] ?_
 refine sR hE ⟨[(1,(encL cI 0 a)),(4,(.op 0 0 0)),(5,(.op 128 0 0))],[(0,vO 2 [(aB false),.nil]),(128,vO 2 [(aB (cond neg (decide (((a.length:Nat):Int) > 0)) false)),.nil])],160⟩ (C_83 6) [] [] (kp [1,4,5]) (kq [0,128]) 160 [neg=true→AllP [neg=true],neg=true→AllP [neg=true],neg=true→AllP [neg=true],0 < 1] ⟨(fun hg=>⟨hg,trivial⟩),(fun hg=>⟨hg,trivial⟩),(fun hq=>⟨hq,trivial⟩),o1,trivial⟩ ?_
 refine sA 2 [.code (C_83 28),.code (C_83 29),.code (C_83 15)] ?_
 refine sR hE ⟨[(1,(encL cI 0 a)),(4,(.op 0 0 0)),(5,(.op 128 0 0)),(6,(aI 0))],[(0,vO 2 [(aB false),.nil]),(128,vO 2 [(aB (cond neg (decide (((a.length:Nat):Int) > 0)) false)),.nil])],176⟩ (C_83 28) [] [] (kp [1,4,5,6]) (kq [0,128]) 176 [] trivial ?_
 refine sA 2 [.code (C_83 116),.inLoop (C_83 116),.inBlock 0,.code (C_83 15)] ?_
 exact sW hE _ [] (kp [1,4,5,6]) (kq [0] ++ [(1,.var 128 [.keep,.nilos 2]),(2,.nil 1 (fun zi=>(cU .u16) (([]:List Int).getD zi 0)))]) 3 [] trivial (g_r01_made_L1_ok N neg a N ([]:List Int) 0 _ h E hE)
noncomputable def C_82 (n:Nat):Code:=cat (bodyOf Tryz.f103) (pth n)
theorem g_r01_Of_L1_ok (N:Nat) (n:Int) (fuel:Nat):∀ (a:List Int) (u:Int) (r:TInt),g_r01_Of_L1 N n fuel a u=some r→∀ E,EnvOk E 0→Runs Tryz.prog E 103 25 (SPost E [] (.agg (TInt.cells r))) [.code (C_82 248),.inLoop (C_82 248),.inBlock 0,.code (C_82 63)] ⟨[(0,(aI n)),(2,(.op 0 0 0)),(3,(.os 1 0 a.length)),(4,(a64 u))],[(0,vO 2 [(aB false),.nil]),(1,aO 1 cI 0 a)],2⟩:=by
 induction fuel with
 | zero=>intro _ _ r h;rw [g_r01_Of_L1.eq_1] at h;cases h
 | succ fuel ih =>
  intro a u r h E hE
  rw [g_r01_Of_L1.eq_2] at h
  refine sA 2 [.code (C_82 992),.code (C_82 993),.code (C_82 497),.inLoop (C_82 248),.inBlock 0,.code (C_82 63)] ?_
  refine sR hE ⟨[(0,(aI n)),(2,(.op 0 0 0)),(3,(.os 1 0 a.length)),(4,(a64 u)),(12,(aB (decide (u > 0))))],[(0,vO 2 [(aB false),.nil]),(1,aO 1 cI 0 a)],34⟩ (C_82 992) [] [] (kp [0,2,3,4,12]) (kq [0,1]) 34 [] trivial ?_
  refine sC 12 (C_82 1986) (C_82 1987) (decide (u > 0)) (fun hq3=>?_) (fun hq3=>?_)
  ·have h:=condT h hq3
   refine sA 3 [.code (C_82 1988),.inBlock 1,.code (C_82 995),.inLoop (C_82 248),.inBlock 0,.code (C_82 63)] ?_
   obtain ⟨c,h⟩:=ifSome h
   refine sR hE ⟨[(0,(aI n)),(2,(.op 0 0 0)),(3,(.os 114 0 ((a ++ ([(w64 ((u.tmod 65536)))]:List Int)).length))),(4,(a64 u))],[(0,vO 2 [(aB false),.nil]),(114,aO 1 cI 0 (a ++ ([(w64 ((u.tmod 65536)))]:List Int)))],146⟩ (C_82 1988) [] [] (kp [0,2] ++ [(3,.osl ((a ++ ([(w64 ((u.tmod 65536)))]:List Int)).length))] ++ kp [4]) (kq [0] ++ [(114,.arr 114 ((a ++ ([(w64 ((u.tmod 65536)))]:List Int)).length) (fun zi=>cI ((a ++ ([(w64 ((u.tmod 65536)))]:List Int)).getD zi 0)))]) 146 [(65536:Int)≠0,a.length=a.length,(a.length+1) * 8≤140737488355328,0+1≤1,∀ zi,zi < 1→AV.oneL ((fun zi=>([[(aI (w64 ((u.tmod 65536))))]]:List (List AV)).getD zi []) (addz 0 zi))=true,(a.length+1)=(a ++ ([(w64 ((u.tmod 65536)))]:List Int)).length,a.length+1=(a ++ ([(w64 ((u.tmod 65536)))]:List Int)).length,∀ zi,zi < (a ++ ([(w64 ((u.tmod 65536)))]:List Int)).length→(fun zi=>cI ((a ++ ([(w64 ((u.tmod 65536)))]:List Int)).getD zi 0)) zi=((fun zm=>if zm < a.length then (fun zi=>cI (a.getD zi 0)) zm else (fun zi=>([[(aI (w64 ((u.tmod 65536))))]]:List (List AV)).getD zi []) (zm - a.length))) zi] ⟨(by decide),rfl,c,z0,(oneN rfl),(len_app_raw rfl rfl),(len_app_raw rfl rfl),(get_app_raw cI 0 a ([(w64 ((u.tmod 65536)))]:List Int) rfl (fun _ _=>rfl) (fun zq hzq=>get_chunk cI 0 ([(w64 ((u.tmod 65536)))]:List Int) zq hzq)),trivial⟩ ?_
   refine sA 1 [.code (C_82 995),.inLoop (C_82 248),.inBlock 0,.code (C_82 63)] ?_
   refine sR hE ⟨[(0,(aI n)),(2,(.op 0 0 0)),(3,(.os 114 0 ((a ++ ([(w64 ((u.tmod 65536)))]:List Int)).length))),(4,(a64 (IntKind.u64.wrap (u.tdiv 65536))))],[(0,vO 2 [(aB false),.nil]),(114,aO 1 cI 0 (a ++ ([(w64 ((u.tmod 65536)))]:List Int)))],194⟩ (C_82 995) [] [] (kp [0,2,3,4]) (kq [0,114]) 194 [(65536:Int)≠0] ⟨(by decide),trivial⟩ ?_
   refine sA 1 [.code (C_82 248),.inLoop (C_82 248),.inBlock 0,.code (C_82 63)] ?_
   exact sW hE _ [] (kp [0,2,3,4]) (kq [0] ++ [(1,.keep 114)]) 2 [] trivial (ih (a ++ ([(w64 ((u.tmod 65536)))]:List Int)) (IntKind.u64.wrap (u.tdiv 65536)) _ h E hE)
  ·have h:=condF h hq3
   refine sA 2 [.code (C_82 126),.code (C_82 127)] ?_
   obtain ⟨rmade,hr,h⟩:=bindSome h
   refine sR hE ⟨[(2,(.op 0 0 0))],[(0,vO 2 (TInt.cells rmade))],114⟩ (C_82 126) [(3,⟨[],true,(.agg (TInt.cells rmade)),[],0,true,none⟩)] [] (kp [2]) (kq [0]) 114 [Sd 118 [(aB (decide (n < 0))),(encL cI 0 a)] [] 0 (.agg (TInt.cells rmade)) [],0+a.length≤a.length,0 < 1] ⟨(g_r01_made_ok N (decide (n < 0)) a rmade hr),z0,o1,trivial⟩ ?_
   obtain rfl:=Option.some.inj h
   refine sW hE ⟨[(2,(.op 16 0 0))],[(16,vO 2 (TInt.cells rmade))],114⟩ [] (kp [2]) [(16,.keep 0)] 114 [] trivial ?_
   exact sT Tryz.f103 [16] [0 < 1] ⟨o1,trivial⟩
theorem g_r01_Of_ok (N:Nat) (n:Int) (r:TInt) (h:g_r01_Of N n=some r):Sd 103 [(aI n)] [] 0 (.agg (TInt.cells r)) []:=by
 unfold g_r01_Of at h
 refine Sound.of_runs (fu:=Tryz.f103) (c:=C_82 1) (nt:=25) (by kernel_rfl) (by kernel_rfl) (by kernel_rfl) (by kernel_rfl) (fun hm=>rfl) ?_
 intro E hE
 refine sA 1 [.code (C_82 2),.code (C_82 3)] ?_
 refine sR hE ⟨[(0,(aI n)),(2,(.op 0 0 0))],[(0,vO 2 [(aB false),.nil])],16⟩ (C_82 2) [] [] (kp [0,2]) (kq [0]) 16 [] trivial ?_
 refine sA 1 [.code (C_82 6),.code (C_82 7)] ?_
 refine sR hE ⟨[(0,(aI n)),(2,(.op 0 0 0)),(3,.nil)],[(0,vO 2 [(aB false),.nil])],32⟩ (C_82 6) [] [] (kp [0,2,3]) (kq [0]) 32 [] trivial ?_
 refine sA 1 [.code (C_82 14),.code (C_82 15)] ?_
 refine sR hE ⟨[(0,(aI n)),(2,(.op 0 0 0)),(3,.nil),(4,(a64 (IntKind.u64.wrap (n))))],[(0,vO 2 [(aB false),.nil])],80⟩ (C_82 14) [] [] (kp [0,2,3,4]) (kq [0]) 80 [] trivial ?_
 refine sA 2 [.code (C_82 60),.code (C_82 61),.code (C_82 31)] ?_
 refine sR hE ⟨[(0,(aI n)),(2,(.op 0 0 0)),(3,.nil),(4,(a64 (IntKind.u64.wrap (n)))),(8,(aB (decide (n < 0))))],[(0,vO 2 [(aB false),.nil])],112⟩ (C_82 60) [] [] (kp [0,2,3,4,8]) (kq [0]) 112 [] trivial ?_
 refine sC 8 (C_82 122) (C_82 123) (decide (n < 0)) (fun hq2=>?_) (fun hq2=>?_)
 ·have h:=condT h hq2
  refine sR hE ⟨[(0,(aI n)),(2,(.op 0 0 0)),(3,.nil),(4,(a64 (IntKind.u64.wrap (0 - (IntKind.u64.wrap (n))))))],[(0,vO 2 [(aB false),.nil])],160⟩ (C_82 122) [] [] (kp [0,2,3,4]) (kq [0]) 160 [] trivial ?_
  refine sA 3 [.code (C_82 248),.inLoop (C_82 248),.inBlock 0,.code (C_82 63)] ?_
  exact sW hE _ [] (kp [0,2] ++ [(3,.nilos 1)] ++ kp [4]) (kq [0] ++ [(1,.nil 1 (fun zi=>cI (([]:List Int).getD zi 0)))]) 2 [] trivial (g_r01_Of_L1_ok N n N ([]:List Int) (IntKind.u64.wrap (0 - (IntKind.u64.wrap (n)))) _ h E hE)
 ·have h:=condF h hq2
  refine sA 4 [.code (C_82 248),.inLoop (C_82 248),.inBlock 0,.code (C_82 63)] ?_
  exact sW hE _ [] (kp [0,2] ++ [(3,.nilos 1)] ++ kp [4]) (kq [0] ++ [(1,.nil 1 (fun zi=>cI (([]:List Int).getD zi 0)))]) 2 [] trivial (g_r01_Of_L1_ok N n N ([]:List Int) (IntKind.u64.wrap (n)) _ h E hE)
noncomputable def C_81 (n:Nat):Code:=cat (bodyOf Tryz.f78) (pth n)
theorem g_r01_Q_ok (N:Nat) (n:Int) (r:TRat) (h:g_r01_Q N n=some r):Sd 78 [(aI n)] [] 0 (.agg (TRat.cells r)) []:=by
 unfold g_r01_Q at h
 refine Sound.of_runs (fu:=Tryz.f78) (c:=C_81 1) (nt:=7) (by kernel_rfl) (by kernel_rfl) (by kernel_rfl) (by kernel_rfl) (fun hm=>rfl) ?_
 intro E hE
 refine sA 1 [.code (C_81 2),.code (C_81 3)] ?_
 refine sR hE ⟨[(0,(aI n)),(2,(.op 0 0 0))],[(0,vO 4 [(aB false),.nil,(aB false),.nil])],16⟩ (C_81 2) [] [] (kp [0,2]) (kq [0]) 16 [] trivial ?_
 refine sA 1 [.code (C_81 6),.code (C_81 7)] ?_
 obtain ⟨rOf,hr,h⟩:=bindSome h
 obtain ⟨rOf2,hr2,h⟩:=bindSome h
 refine sR hE ⟨[(2,(.op 0 0 0))],[(0,vO 4 [(aB rOf.fG),(eU rOf.fL),(aB rOf2.fG),(eU rOf2.fL)])],96⟩ (C_81 6) [(1,⟨[],true,(.agg (TInt.cells rOf)),[],0,false,none⟩),(2,⟨[],true,(.agg (TInt.cells rOf2)),[],0,false,none⟩)] [] (kp [2]) (kq [0]) 96 [Sd 103 [(aI n)] [] 0 (.agg (TInt.cells rOf)) [],Sd 103 [(aI 1)] [] 0 (.agg (TInt.cells rOf2)) [],0 < 1] ⟨(g_r01_Of_ok N n rOf hr),(g_r01_Of_ok N 1 rOf2 hr2),o1,trivial⟩ ?_
 obtain rfl:=Option.some.inj h
 refine sW hE ⟨[(2,(.op 16 0 0))],[(16,vO 4 [(aB rOf.fG),(eU rOf.fL),(aB rOf2.fG),(eU rOf2.fL)])],96⟩ [] (kp [2]) [(16,.keep 0)] 96 [] trivial ?_
 exact sT Tryz.f78 [16] [0 < 1] ⟨o1,trivial⟩
noncomputable def C_84 (n:Nat):Code:=cat (bodyOf Tryz.f79) (pth n)
theorem g_r05_loads_L1_ok (N:Nat) (p:TPn) (steps:List Int) (fuel:Nat):∀ (out:List TPm) (i:Int) (r:(List TPm)),g_r05_loads_L1 N p steps fuel out i=some r→∀ E,EnvOk E 0→Runs Tryz.prog E 79 45 (SPost E [] (encL TPm.cells TPm.d r)) [.code (C_84 116),.inLoop (C_84 116),.inBlock 0,.code (C_84 15)] ⟨[(1,(encL cI 0 steps)),(2,(.op 0 0 0)),(5,(.os 1 0 out.length)),(6,(aI i))],[(0,vO 5 (TPn.cells p)),(1,aO 3 TPm.cells TPm.d out)],2⟩:=by
 induction fuel with
 | zero=>intro _ _ r h;rw [g_r05_loads_L1.eq_1] at h;cases h
 | succ fuel ih =>
  intro out i r h E hE
  rw [g_r05_loads_L1.eq_2] at h
  refine sA 2 [.code (C_84 464),.code (C_84 465),.code (C_84 233),.inLoop (C_84 116),.inBlock 0,.code (C_84 15)] ?_
  refine sR hE ⟨[(1,(encL cI 0 steps)),(2,(.op 0 0 0)),(5,(.os 1 0 out.length)),(6,(aI i)),(14,(aB (decide (i < ((steps.length:Nat):Int)))))],[(0,vO 5 (TPn.cells p)),(1,aO 3 TPm.cells TPm.d out)],66⟩ (C_84 464) [] [] (kp [1,2,5,6,14]) (kq [0,1]) 66 [] trivial ?_
  refine sC 14 (C_84 930) (C_84 931) (decide (i < ((steps.length:Nat):Int))) (fun hq2=>?_) (fun hq2=>?_)
  ·have h:=condT h hq2
   refine sA 3 [.code (C_84 932),.inBlock 1,.code (C_84 467),.inLoop (C_84 116),.inBlock 0,.code (C_84 15)] ?_
   obtain ⟨c2,h⟩:=ifSome h
   obtain ⟨c3,h⟩:=ifSome h
   obtain ⟨c4,h⟩:=ifSome h
   refine sR hE ⟨[(1,(encL cI 0 steps)),(2,(.op 0 0 0)),(5,(.os 482 0 ((out ++ ([(⟨(p.fTk.getD ((i).toNat) TTank.d).f_X,(p.fTk.getD ((i).toNat) TTank.d).f_Y,(w64 ((steps.getD ((i).toNat) 0) * (p.fTk.getD ((i).toNat) TTank.d).fMa))⟩:TPm)]:List TPm)).length))),(6,(aI i))],[(0,vO 5 (TPn.cells p)),(482,aO 3 TPm.cells TPm.d (out ++ ([(⟨(p.fTk.getD ((i).toNat) TTank.d).f_X,(p.fTk.getD ((i).toNat) TTank.d).f_Y,(w64 ((steps.getD ((i).toNat) 0) * (p.fTk.getD ((i).toNat) TTank.d).fMa))⟩:TPm)]:List TPm)))],514⟩ (C_84 932) [] [] (kp [1,2] ++ [(5,.osl ((out ++ ([(⟨(p.fTk.getD ((i).toNat) TTank.d).f_X,(p.fTk.getD ((i).toNat) TTank.d).f_Y,(w64 ((steps.getD ((i).toNat) 0) * (p.fTk.getD ((i).toNat) TTank.d).fMa))⟩:TPm)]:List TPm)).length))] ++ kp [6]) (kq [0] ++ [(482,.arr 482 ((out ++ ([(⟨(p.fTk.getD ((i).toNat) TTank.d).f_X,(p.fTk.getD ((i).toNat) TTank.d).f_Y,(w64 ((steps.getD ((i).toNat) 0) * (p.fTk.getD ((i).toNat) TTank.d).fMa))⟩:TPm)]:List TPm)).length) (fun zi=>TPm.cells ((out ++ ([(⟨(p.fTk.getD ((i).toNat) TTank.d).f_X,(p.fTk.getD ((i).toNat) TTank.d).f_Y,(w64 ((steps.getD ((i).toNat) 0) * (p.fTk.getD ((i).toNat) TTank.d).fMa))⟩:TPm)]:List TPm)).getD zi TPm.d)))]) 514 [0 < 1,0≤i∧i < ((p.fTk.length:Nat):Int),0 < 1,0≤i∧i < ((p.fTk.length:Nat):Int),0≤i∧i < ((steps.length:Nat):Int),0 < 1,0≤i∧i < ((p.fTk.length:Nat):Int),out.length=out.length,(out.length+1) * 24≤140737488355328,0+1≤1,∀ zi,zi < 1→AV.oneL ((fun zi=>([[(aI ((p.fTk.getD ((i).toNat) TTank.d).f_X)),(aI ((p.fTk.getD ((i).toNat) TTank.d).f_Y)),(aI (w64 ((steps.getD ((i).toNat) 0) * (p.fTk.getD ((i).toNat) TTank.d).fMa)))]]:List (List AV)).getD zi []) (addz 0 zi))=true,(out.length+1)=(out ++ ([(⟨(p.fTk.getD ((i).toNat) TTank.d).f_X,(p.fTk.getD ((i).toNat) TTank.d).f_Y,(w64 ((steps.getD ((i).toNat) 0) * (p.fTk.getD ((i).toNat) TTank.d).fMa))⟩:TPm)]:List TPm)).length,out.length+1=(out ++ ([(⟨(p.fTk.getD ((i).toNat) TTank.d).f_X,(p.fTk.getD ((i).toNat) TTank.d).f_Y,(w64 ((steps.getD ((i).toNat) 0) * (p.fTk.getD ((i).toNat) TTank.d).fMa))⟩:TPm)]:List TPm)).length,∀ zi,zi < (out ++ ([(⟨(p.fTk.getD ((i).toNat) TTank.d).f_X,(p.fTk.getD ((i).toNat) TTank.d).f_Y,(w64 ((steps.getD ((i).toNat) 0) * (p.fTk.getD ((i).toNat) TTank.d).fMa))⟩:TPm)]:List TPm)).length→(fun zi=>TPm.cells ((out ++ ([(⟨(p.fTk.getD ((i).toNat) TTank.d).f_X,(p.fTk.getD ((i).toNat) TTank.d).f_Y,(w64 ((steps.getD ((i).toNat) 0) * (p.fTk.getD ((i).toNat) TTank.d).fMa))⟩:TPm)]:List TPm)).getD zi TPm.d)) zi=((fun zm=>if zm < out.length then (fun zi=>TPm.cells (out.getD zi TPm.d)) zm else (fun zi=>([[(aI ((p.fTk.getD ((i).toNat) TTank.d).f_X)),(aI ((p.fTk.getD ((i).toNat) TTank.d).f_Y)),(aI (w64 ((steps.getD ((i).toNat) 0) * (p.fTk.getD ((i).toNat) TTank.d).fMa)))]]:List (List AV)).getD zi []) (zm - out.length))) zi] ⟨o1,c2,o1,c2,c3,o1,c2,rfl,c4,z0,(oneN rfl),(len_app_raw rfl rfl),(len_app_raw rfl rfl),(get_app_raw TPm.cells TPm.d out ([(⟨(p.fTk.getD ((i).toNat) TTank.d).f_X,(p.fTk.getD ((i).toNat) TTank.d).f_Y,(w64 ((steps.getD ((i).toNat) 0) * (p.fTk.getD ((i).toNat) TTank.d).fMa))⟩:TPm)]:List TPm) rfl (fun _ _=>rfl) (fun zq hzq=>get_chunk TPm.cells TPm.d ([(⟨(p.fTk.getD ((i).toNat) TTank.d).f_X,(p.fTk.getD ((i).toNat) TTank.d).f_Y,(w64 ((steps.getD ((i).toNat) 0) * (p.fTk.getD ((i).toNat) TTank.d).fMa))⟩:TPm)]:List TPm) zq hzq)),trivial⟩ ?_
   refine sA 1 [.code (C_84 467),.inLoop (C_84 116),.inBlock 0,.code (C_84 15)] ?_
   refine sR hE ⟨[(1,(encL cI 0 steps)),(2,(.op 0 0 0)),(5,(.os 482 0 ((out ++ ([(⟨(p.fTk.getD ((i).toNat) TTank.d).f_X,(p.fTk.getD ((i).toNat) TTank.d).f_Y,(w64 ((steps.getD ((i).toNat) 0) * (p.fTk.getD ((i).toNat) TTank.d).fMa))⟩:TPm)]:List TPm)).length))),(6,(aI (w64 (i+1))))],[(0,vO 5 (TPn.cells p)),(482,aO 3 TPm.cells TPm.d (out ++ ([(⟨(p.fTk.getD ((i).toNat) TTank.d).f_X,(p.fTk.getD ((i).toNat) TTank.d).f_Y,(w64 ((steps.getD ((i).toNat) 0) * (p.fTk.getD ((i).toNat) TTank.d).fMa))⟩:TPm)]:List TPm)))],562⟩ (C_84 467) [] [] (kp [1,2,5,6]) (kq [0,482]) 562 [] trivial ?_
   refine sA 1 [.code (C_84 116),.inLoop (C_84 116),.inBlock 0,.code (C_84 15)] ?_
   exact sW hE _ [] (kp [1,2,5,6]) (kq [0] ++ [(1,.keep 482)]) 2 [] trivial (ih (out ++ ([(⟨(p.fTk.getD ((i).toNat) TTank.d).f_X,(p.fTk.getD ((i).toNat) TTank.d).f_Y,(w64 ((steps.getD ((i).toNat) 0) * (p.fTk.getD ((i).toNat) TTank.d).fMa))⟩:TPm)]:List TPm)) (w64 (i+1)) _ h E hE)
  ·have h:=condF h hq2
   refine sA 2 [.code (C_84 30),.code (C_84 31)] ?_
   refine sR hE ⟨[(4,(.os 1 0 out.length))],[(1,aO 3 TPm.cells TPm.d out)],98⟩ (C_84 30) [] [] (kp [4]) (kq [1]) 98 [] trivial ?_
   obtain rfl:=Option.some.inj h
   refine sW hE ⟨[(4,(encL TPm.cells TPm.d out))],[],98⟩ [1] [(4,.sl (out.length) (fun zi=>TPm.cells (out.getD zi TPm.d)))] [] 98 [out.length=out.length,0+out.length≤out.length,∀ zi,zi < out.length→(fun zi=>TPm.cells (out.getD zi TPm.d)) zi=(fun zi=>TPm.cells (out.getD zi TPm.d)) (addz 0 zi)] ⟨rfl,z0,(fun _ _=>rfl),trivial⟩ ?_
   exact sT Tryz.f79 [] [] trivial
theorem g_r05_loads_ok (N:Nat) (p:TPn) (steps:List Int) (r:(List TPm)) (h:g_r05_loads N p steps=some r):Sd 79 [(.agg (TPn.cells p)),(encL cI 0 steps)] [] 0 (encL TPm.cells TPm.d r) []:=by
 unfold g_r05_loads at h
 refine Sound.of_runs (fu:=Tryz.f79) (c:=C_84 1) (nt:=45) (by kernel_rfl) (by kernel_rfl) (by kernel_rfl) (by kernel_rfl) (fun hm=>rfl) ?_
 intro E hE
 refine sA 1 [.code (C_84 2),.code (C_84 3)] ?_
 refine sR hE ⟨[(1,(encL cI 0 steps)),(2,(.op 0 0 0))],[(0,vO 5 (TPn.cells p))],32⟩ (C_84 2) [] [] (kp [1,2]) (kq [0]) 32 [] trivial ?_
 refine sA 1 [.code (C_84 6),.code (C_84 7)] ?_
 obtain ⟨c,h⟩:=ifSome h
 refine sR hE ⟨[(1,(encL cI 0 steps)),(2,(.op 0 0 0)),(5,(.os 80 0 ((([]:List TPm) ++ p.fMs).length)))],[(0,vO 5 (TPn.cells p)),(80,aO 3 TPm.cells TPm.d (([]:List TPm) ++ p.fMs))],112⟩ (C_84 6) [] [] (kp [1,2] ++ [(5,.osl ((([]:List TPm) ++ p.fMs).length))]) (kq [0] ++ [(80,.arr 80 ((([]:List TPm) ++ p.fMs).length) (fun zi=>TPm.cells ((([]:List TPm) ++ p.fMs).getD zi TPm.d)))]) 112 [0 < 1,0=0,(0+p.fMs.length) * 24≤140737488355328,∀ zi,zi < p.fMs.length→AV.oneL ((fun zi=>TPm.cells (p.fMs.getD zi TPm.d)) zi)=true,(0+p.fMs.length)=(([]:List TPm) ++ p.fMs).length,0+p.fMs.length=(([]:List TPm) ++ p.fMs).length,∀ zi,zi < (([]:List TPm) ++ p.fMs).length→(fun zi=>TPm.cells ((([]:List TPm) ++ p.fMs).getD zi TPm.d)) zi=((fun zm=>if zm < 0 then (fun _=>[]) zm else (fun zi=>TPm.cells (p.fMs.getD zi TPm.d)) (zm - 0))) zi] ⟨o1,rfl,c,(fun _ _=>rfl),(len_app_raw rfl rfl),(len_app_raw rfl rfl),(get_app_raw TPm.cells TPm.d ([]:List TPm) p.fMs rfl (fun zq hzq=>absurd hzq (Nat.not_lt_zero _)) (fun _ _=>rfl)),trivial⟩ ?_
 refine sA 2 [.code (C_84 28),.code (C_84 29),.code (C_84 15)] ?_
 refine sR hE ⟨[(1,(encL cI 0 steps)),(2,(.op 0 0 0)),(5,(.os 80 0 ((([]:List TPm) ++ p.fMs).length))),(6,(aI 0))],[(0,vO 5 (TPn.cells p)),(80,aO 3 TPm.cells TPm.d (([]:List TPm) ++ p.fMs))],128⟩ (C_84 28) [] [] (kp [1,2,5,6]) (kq [0,80]) 128 [] trivial ?_
 refine sA 2 [.code (C_84 116),.inLoop (C_84 116),.inBlock 0,.code (C_84 15)] ?_
 exact sW hE _ [] (kp [1,2,5,6]) (kq [0] ++ [(1,.keep 80)]) 2 [] trivial (g_r05_loads_L1_ok N p steps N (([]:List TPm) ++ p.fMs) 0 _ h E hE)
noncomputable def C_89 (n:Nat):Code:=cat (bodyOf Tryz.f131) (pth n)
theorem g_r01_trim_L1_ok (N:Nat) (a:List Int) (fuel:Nat):∀ (n:Int) (r:(List Int)),g_r01_trim_L1 N a fuel n=some r→∀ E,EnvOk E 0→Runs Tryz.prog E 131 23 (SPost E [] (encL cI 0 r)) [.code (C_89 56),.inLoop (C_89 56),.inBlock 0,.code (C_89 15)] ⟨[(0,(encL cI 0 a)),(3,(aI n))],[],0⟩:=by
 induction fuel with
 | zero=>intro _ r h;rw [g_r01_trim_L1.eq_1] at h;cases h
 | succ fuel ih =>
  intro n r h E hE
  rw [g_r01_trim_L1.eq_2] at h
  refine sA 2 [.code (C_89 224),.code (C_89 225),.code (C_89 113),.inLoop (C_89 56),.inBlock 0,.code (C_89 15)] ?_
  obtain ⟨c,h⟩:=ifSome h
  refine sR hE ⟨[(0,(encL cI 0 a)),(3,(aI n)),(15,(aB (cond (decide (n > 0)) ((a.getD ((w64 (n - 1)).toNat) 0) == 0) false)))],[],160⟩ (C_89 224) [] [] (kp [0,3,15]) [] 160 [(decide (n > 0))=true→AllP [(decide (n > 0))=true],(decide (n > 0))=true→AllP [(decide (n > 0))=true,(decide (n > 0))=true,0≤(w64 (n - 1))∧(w64 (n - 1)) < ((a.length:Nat):Int)],(decide (n > 0))=true→AllP [(decide (n > 0))=true],(decide (n > 0))=true→AllP [(decide (n > 0))=true],(decide (n > 0))=true→AllP [(decide (n > 0))=true]] ⟨(fun hg=>⟨hg,trivial⟩),(fun hg=>⟨hg,hg,(c hg),trivial⟩),(fun hg=>⟨hg,trivial⟩),(fun hg=>⟨hg,trivial⟩),(fun hq=>⟨hq,trivial⟩),trivial⟩ ?_
  refine sC 15 (C_89 450) (C_89 451) (cond (decide (n > 0)) ((a.getD ((w64 (n - 1)).toNat) 0) == 0) false) (fun hq2=>?_) (fun hq2=>?_)
  ·have h:=condT h hq2
   refine sA 2 [.code (C_89 226),.inBlock 1,.inLoop (C_89 56),.inBlock 0,.code (C_89 15)] ?_
   refine sR hE ⟨[(0,(encL cI 0 a)),(3,(aI (w64 (n - 1))))],[],208⟩ (C_89 226) [] [] (kp [0,3]) [] 208 [] trivial ?_
   refine sA 2 [.code (C_89 56),.inLoop (C_89 56),.inBlock 0,.code (C_89 15)] ?_
   exact sW hE _ [] (kp [0,3]) [] 0 [] trivial (ih (w64 (n - 1)) _ h E hE)
  ·have h:=condF h hq2
   refine sA 2 [.code (C_89 30),.code (C_89 31)] ?_
   obtain ⟨c2,h⟩:=ifSome h
   obtain ⟨c3,h⟩:=ifSome h
   obtain ⟨c4,h⟩:=ifSome h
   refine sR hE ⟨[(2,(.os 224 0 ((([]:List Int) ++ ((a.take ((n).toNat)).drop 0)).length)))],[(224,aO 1 cI 0 (([]:List Int) ++ ((a.take ((n).toNat)).drop 0)))],256⟩ (C_89 30) [] [] [(2,.osl ((([]:List Int) ++ ((a.take ((n).toNat)).drop 0)).length))] [(224,.arr 224 ((([]:List Int) ++ ((a.take ((n).toNat)).drop 0)).length) (fun zi=>cI ((([]:List Int) ++ ((a.take ((n).toNat)).drop 0)).getD zi 0)))] 256 [0≤(n).toNat∧(n).toNat≤a.length,0≤n,0=0,(0+((n).toNat - 0)) * 8≤140737488355328,∀ zi,zi < ((n).toNat - 0)→AV.oneL ((fun zi=>cI (a.getD (addz 0 zi) 0)) zi)=true,(0+((n).toNat - 0))=(([]:List Int) ++ ((a.take ((n).toNat)).drop 0)).length,0+((n).toNat - 0)=(([]:List Int) ++ ((a.take ((n).toNat)).drop 0)).length,∀ zi,zi < (([]:List Int) ++ ((a.take ((n).toNat)).drop 0)).length→(fun zi=>cI ((([]:List Int) ++ ((a.take ((n).toNat)).drop 0)).getD zi 0)) zi=((fun zm=>if zm < 0 then (fun _=>[]) zm else (fun zi=>cI (a.getD (addz 0 zi) 0)) (zm - 0))) zi] ⟨c2,c3,rfl,c4,(fun _ _=>rfl),(len_app_raw rfl (len_ext' a 0 ((n).toNat) c2)),(len_app_raw rfl (len_ext' a 0 ((n).toNat) c2)),(get_app_raw cI 0 ([]:List Int) ((a.take ((n).toNat)).drop 0) rfl (fun zq hzq=>absurd hzq (Nat.not_lt_zero _)) (fun zq hzq=>get_ext cI 0 a 0 ((n).toNat) zq hzq)),trivial⟩ ?_
   obtain rfl:=Option.some.inj h
   refine sW hE ⟨[(2,(encL cI 0 (([]:List Int) ++ ((a.take ((n).toNat)).drop 0))))],[],256⟩ [224] [(2,.sl ((([]:List Int) ++ ((a.take ((n).toNat)).drop 0)).length) (fun zi=>cI ((([]:List Int) ++ ((a.take ((n).toNat)).drop 0)).getD zi 0)))] [] 256 [(([]:List Int) ++ ((a.take ((n).toNat)).drop 0)).length=(([]:List Int) ++ ((a.take ((n).toNat)).drop 0)).length,0+(([]:List Int) ++ ((a.take ((n).toNat)).drop 0)).length≤(([]:List Int) ++ ((a.take ((n).toNat)).drop 0)).length,∀ zi,zi < (([]:List Int) ++ ((a.take ((n).toNat)).drop 0)).length→(fun zi=>cI ((([]:List Int) ++ ((a.take ((n).toNat)).drop 0)).getD zi 0)) zi=(fun zi=>cI ((([]:List Int) ++ ((a.take ((n).toNat)).drop 0)).getD zi 0)) (addz 0 zi)] ⟨rfl,z0,(fun _ _=>rfl),trivial⟩ ?_
   exact sT Tryz.f131 [] [] trivial
theorem g_r01_trim_ok (N:Nat) (a:List Int) (r:(List Int)) (h:g_r01_trim N a=some r):Sd 131 [(encL cI 0 a)] [] 0 (encL cI 0 r) []:=by
 unfold g_r01_trim at h
 refine Sound.of_runs (fu:=Tryz.f131) (c:=C_89 1) (nt:=23) (by kernel_rfl) (by kernel_rfl) (by kernel_rfl) (by kernel_rfl) (fun hm=>rfl) ?_
 intro E hE
 refine sA 1 [.code (C_89 2),.code (C_89 3)] ?_
 refine sR hE ⟨[(0,(encL cI 0 a))],[],16⟩ (C_89 2) [] [] (kp [0]) [] 16 [] trivial ?_
 refine sA 1 [.code (C_89 6),.code (C_89 7)] ?_
 refine sR hE ⟨[(0,(encL cI 0 a)),(3,(aI ((a.length:Nat):Int)))],[],64⟩ (C_89 6) [] [] (kp [0,3]) [] 64 [] trivial ?_
 refine sA 3 [.code (C_89 56),.inLoop (C_89 56),.inBlock 0,.code (C_89 15)] ?_
 exact sW hE _ [] (kp [0,3]) [] 0 [] trivial (g_r01_trim_L1_ok N a N ((a.length:Nat):Int) _ h E hE)
noncomputable def C_88 (n:Nat):Code:=cat (bodyOf Tryz.f119) (pth n)
theorem g_r01_read_L1_ok (N:Nat) (l:List Int) (fuel:Nat):∀ (a:List Int) (i:Int) (r:(List Int)),g_r01_read_L1 N l fuel a i=some r→∀ E,EnvOk E 0→Runs Tryz.prog E 119 21 (SPost E [] (encL cI 0 r)) [.code (C_88 116),.inLoop (C_88 116),.inBlock 0,.code (C_88 15)] ⟨[(0,(eU l)),(3,(.os 0 0 a.length)),(4,(aI i))],[(0,aO 1 cI 0 a)],1⟩:=by
 induction fuel with
 | zero=>intro _ _ r h;rw [g_r01_read_L1.eq_1] at h;cases h
 | succ fuel ih =>
  intro a i r h E hE
  rw [g_r01_read_L1.eq_2] at h
  refine sA 2 [.code (C_88 464),.code (C_88 465),.code (C_88 233),.inLoop (C_88 116),.inBlock 0,.code (C_88 15)] ?_
  refine sR hE ⟨[(0,(eU l)),(3,(.os 0 0 a.length)),(4,(aI i)),(8,(aB (decide (i < ((l.length:Nat):Int)))))],[(0,aO 1 cI 0 a)],65⟩ (C_88 464) [] [] (kp [0,3,4,8]) (kq [0]) 65 [] trivial ?_
  refine sC 8 (C_88 930) (C_88 931) (decide (i < ((l.length:Nat):Int))) (fun hq2=>?_) (fun hq2=>?_)
  ·have h:=condT h hq2
   refine sA 3 [.code (C_88 932),.inBlock 1,.code (C_88 467),.inLoop (C_88 116),.inBlock 0,.code (C_88 15)] ?_
   obtain ⟨c,h⟩:=ifSome h
   obtain ⟨c2,h⟩:=ifSome h
   refine sR hE ⟨[(0,(eU l)),(3,(.os 177 0 ((a ++ ([(w64 ((l.getD ((i).toNat) 0)))]:List Int)).length))),(4,(aI i))],[(177,aO 1 cI 0 (a ++ ([(w64 ((l.getD ((i).toNat) 0)))]:List Int)))],209⟩ (C_88 932) [] [] (kp [0] ++ [(3,.osl ((a ++ ([(w64 ((l.getD ((i).toNat) 0)))]:List Int)).length))] ++ kp [4]) [(177,.arr 177 ((a ++ ([(w64 ((l.getD ((i).toNat) 0)))]:List Int)).length) (fun zi=>cI ((a ++ ([(w64 ((l.getD ((i).toNat) 0)))]:List Int)).getD zi 0)))] 209 [0≤i∧i < ((l.length:Nat):Int),a.length=a.length,(a.length+1) * 8≤140737488355328,0+1≤1,∀ zi,zi < 1→AV.oneL ((fun zi=>([[(aI (w64 ((l.getD ((i).toNat) 0))))]]:List (List AV)).getD zi []) (addz 0 zi))=true,(a.length+1)=(a ++ ([(w64 ((l.getD ((i).toNat) 0)))]:List Int)).length,a.length+1=(a ++ ([(w64 ((l.getD ((i).toNat) 0)))]:List Int)).length,∀ zi,zi < (a ++ ([(w64 ((l.getD ((i).toNat) 0)))]:List Int)).length→(fun zi=>cI ((a ++ ([(w64 ((l.getD ((i).toNat) 0)))]:List Int)).getD zi 0)) zi=((fun zm=>if zm < a.length then (fun zi=>cI (a.getD zi 0)) zm else (fun zi=>([[(aI (w64 ((l.getD ((i).toNat) 0))))]]:List (List AV)).getD zi []) (zm - a.length))) zi] ⟨c,rfl,c2,z0,(oneN rfl),(len_app_raw rfl rfl),(len_app_raw rfl rfl),(get_app_raw cI 0 a ([(w64 ((l.getD ((i).toNat) 0)))]:List Int) rfl (fun _ _=>rfl) (fun zq hzq=>get_chunk cI 0 ([(w64 ((l.getD ((i).toNat) 0)))]:List Int) zq hzq)),trivial⟩ ?_
   refine sA 1 [.code (C_88 467),.inLoop (C_88 116),.inBlock 0,.code (C_88 15)] ?_
   refine sR hE ⟨[(0,(eU l)),(3,(.os 177 0 ((a ++ ([(w64 ((l.getD ((i).toNat) 0)))]:List Int)).length))),(4,(aI (w64 (i+1))))],[(177,aO 1 cI 0 (a ++ ([(w64 ((l.getD ((i).toNat) 0)))]:List Int)))],257⟩ (C_88 467) [] [] (kp [0,3,4]) (kq [177]) 257 [] trivial ?_
   refine sA 1 [.code (C_88 116),.inLoop (C_88 116),.inBlock 0,.code (C_88 15)] ?_
   exact sW hE _ [] (kp [0,3,4]) [(0,.keep 177)] 1 [] trivial (ih (a ++ ([(w64 ((l.getD ((i).toNat) 0)))]:List Int)) (w64 (i+1)) _ h E hE)
  ·have h:=condF h hq2
   refine sA 2 [.code (C_88 30),.code (C_88 31)] ?_
   obtain ⟨rtrim,hr,h⟩:=bindSome h
   refine sR hE ⟨[(2,(encL cI 0 rtrim))],[],113⟩ (C_88 30) [(1,⟨[],true,(encL cI 0 rtrim),[],0,true,none⟩)] [] (kp [2]) [] 113 [Sd 131 [(encL cI 0 a)] [] 0 (encL cI 0 rtrim) [],0+a.length≤a.length] ⟨(g_r01_trim_ok N a rtrim hr),z0,trivial⟩ ?_
   obtain rfl:=Option.some.inj h
   refine sW hE ⟨[(2,(encL cI 0 rtrim))],[],113⟩ [] (kp [2]) [] 113 [] trivial ?_
   exact sT Tryz.f119 [] [] trivial
theorem g_r01_read_ok (N:Nat) (l:List Int) (r:(List Int)) (h:g_r01_read N l=some r):Sd 119 [(eU l)] [] 0 (encL cI 0 r) []:=by
 unfold g_r01_read at h
 refine Sound.of_runs (fu:=Tryz.f119) (c:=C_88 1) (nt:=21) (by kernel_rfl) (by kernel_rfl) (by kernel_rfl) (by kernel_rfl) (fun hm=>rfl) ?_
 intro E hE
 refine sA 1 [.code (C_88 2),.code (C_88 3)] ?_
 refine sR hE ⟨[(0,(eU l))],[],16⟩ (C_88 2) [] [] (kp [0]) [] 16 [] trivial ?_
 refine sA 1 [.code (C_88 6),.code (C_88 7)] ?_
 refine sR hE ⟨[(0,(eU l)),(3,.nil)],[],32⟩ (C_88 6) [] [] (kp [0,3]) [] 32 [] trivial ?_
 refine sA 2 [.code (C_88 28),.code (C_88 29),.code (C_88 15)] ?_
 refine sR hE ⟨[(0,(eU l)),(3,.nil),(4,(aI 0))],[],48⟩ (C_88 28) [] [] (kp [0,3,4]) [] 48 [] trivial ?_
 refine sA 2 [.code (C_88 116),.inLoop (C_88 116),.inBlock 0,.code (C_88 15)] ?_
 exact sW hE _ [] (kp [0] ++ [(3,.nilos 0)] ++ kp [4]) [(0,.nil 1 (fun zi=>cI (([]:List Int).getD zi 0)))] 1 [] trivial (g_r01_read_L1_ok N l N ([]:List Int) 0 _ h E hE)
noncomputable def C_93 (n:Nat):Code:=cat (bodyOf Tryz.f132) (pth n)
theorem g_r01_digit_ok (N:Nat) (a:List Int) (i:Int) (r:Int) (h:g_r01_digit N a i=some r):Sd 132 [(encL cI 0 a),(aI i)] [] 0 (aI r) []:=by
 unfold g_r01_digit at h
 refine Sound.of_runs (fu:=Tryz.f132) (c:=C_93 1) (nt:=13) (by kernel_rfl) (by kernel_rfl) (by kernel_rfl) (by kernel_rfl) (fun hm=>rfl) ?_
 intro E hE
 refine sA 1 [.code (C_93 2),.code (C_93 3)] ?_
 refine sR hE ⟨[(0,(encL cI 0 a)),(1,(aI i))],[],16⟩ (C_93 2) [] [] (kp [0,1]) [] 16 [] trivial ?_
 refine sA 2 [.code (C_93 12),.code (C_93 13),.code (C_93 7)] ?_
 refine sR hE ⟨[(0,(encL cI 0 a)),(1,(aI i)),(8,(aB (decide (i < ((a.length:Nat):Int)))))],[],80⟩ (C_93 12) [] [] (kp [0,1,8]) [] 80 [] trivial ?_
 refine sC 8 (C_93 26) (C_93 27) (decide (i < ((a.length:Nat):Int))) (fun hq2=>?_) (fun hq2=>?_)
 ·have h:=condT h hq2
  refine sA 1 [.code (C_93 52),.code (C_93 53),.code (C_93 7)] ?_
  obtain ⟨c,h⟩:=ifSome h
  refine sR hE ⟨[(4,(aI (a.getD ((i).toNat) 0)))],[],160⟩ (C_93 52) [] [] (kp [4]) [] 160 [0≤i∧i < ((a.length:Nat):Int)] ⟨c,trivial⟩ ?_
  obtain rfl:=Option.some.inj h
  refine sW hE ⟨[(4,(aI (a.getD ((i).toNat) 0)))],[],160⟩ [] (kp [4]) [] 160 [] trivial ?_
  exact sT Tryz.f132 [] [] trivial
 ·have h:=condF h hq2
  refine sA 2 [.code (C_93 14),.code (C_93 15)] ?_
  refine sR hE ⟨[(4,(aI 0))],[],96⟩ (C_93 14) [] [] (kp [4]) [] 96 [] trivial ?_
  obtain rfl:=Option.some.inj h
  refine sW hE ⟨[(4,(aI 0))],[],96⟩ [] (kp [4]) [] 96 [] trivial ?_
  exact sT Tryz.f132 [] [] trivial
noncomputable def C_92 (n:Nat):Code:=cat (bodyOf Tryz.f125) (pth n)
theorem g_r01_times_L2_ok (N:Nat) (a:List Int) (b:List Int) (i:Int) (K_g_r01_times_L1:(List Int)→Int→Option ((List Int)))
  (hK_g_r01_times_L1:∀ (out:List Int) (i:Int) (r:(List Int)),K_g_r01_times_L1 out i=some r→∀ E,EnvOk E 0→Runs Tryz.prog E 125 61 (SPost E [] (encL cI 0 r)) [.code (C_92 116),.inLoop (C_92 116),.inBlock 0,.code (C_92 15)] ⟨[(0,(encL cI 0 a)),(1,(encL cI 0 b)),(5,(.os 0 0 out.length)),(6,(aI i))],[(0,aO 1 cI 0 out)],1⟩) (fuel:Nat):∀ (out2:List Int) (carry:Int) (k:Int) (r:(List Int)),g_r01_times_L2 N a b i K_g_r01_times_L1 fuel out2 carry k=some r→∀ E,EnvOk E 0→Runs Tryz.prog E 125 61 (SPost E [] (encL cI 0 r)) [.code (C_92 14924),.inLoop (C_92 14924),.inBlock 2,.inBlock 1,.code (C_92 467),.inLoop (C_92 116),.inBlock 0,.code (C_92 15)] ⟨[(0,(encL cI 0 a)),(1,(encL cI 0 b)),(5,(.os 0 0 out2.length)),(6,(aI i)),(7,(aI carry)),(8,(aI k))],[(0,aO 1 cI 0 out2)],1⟩:=by
 induction fuel with
 | zero=>intro _ _ _ r h;rw [g_r01_times_L2.eq_1] at h;cases h
 | succ fuel ih =>
  intro out2 carry k r h E hE
  rw [g_r01_times_L2.eq_2] at h
  refine sA 2 [.code (C_92 59696),.code (C_92 59697),.code (C_92 29849),.inLoop (C_92 14924),.inBlock 2,.inBlock 1,.code (C_92 467),.inLoop (C_92 116),.inBlock 0,.code (C_92 15)] ?_
  refine sR hE ⟨[(0,(encL cI 0 a)),(1,(encL cI 0 b)),(5,(.os 0 0 out2.length)),(6,(aI i)),(7,(aI carry)),(8,(aI k)),(30,(aB (cond (decide (k < ((b.length:Nat):Int))) true (decide (carry > 0)))))],[(0,aO 1 cI 0 out2)],129⟩ (C_92 59696) [] [] (kp [0,1,5,6,7,8,30]) (kq [0]) 129 [(!(decide (k < ((b.length:Nat):Int))))=true→AllP [(!(decide (k < ((b.length:Nat):Int))))=true],(!(decide (k < ((b.length:Nat):Int))))=true→AllP [(!(decide (k < ((b.length:Nat):Int))))=true]] ⟨(fun hg=>⟨hg,trivial⟩),(fun hq=>⟨hq,trivial⟩),trivial⟩ ?_
  refine sC 30 (C_92 119394) (C_92 119395) (cond (decide (k < ((b.length:Nat):Int))) true (decide (carry > 0))) (fun hq3=>?_) (fun hq3=>?_)
  ·have h:=condT h hq3
   refine sA 4 [.code (C_92 238792),.code (C_92 238793),.inBlock 3,.code (C_92 59699),.inLoop (C_92 14924),.inBlock 2,.inBlock 1,.code (C_92 467),.inLoop (C_92 116),.inBlock 0,.code (C_92 15)] ?_
   obtain ⟨c2,h⟩:=ifSome h
   obtain ⟨c3,h⟩:=ifSome h
   obtain ⟨rdigit,hr,h⟩:=bindSome h
   refine sR hE ⟨[(0,(encL cI 0 a)),(1,(encL cI 0 b)),(5,(.os 0 0 out2.length)),(6,(aI i)),(8,(aI k)),(9,(aI (w64 ((w64 ((out2.getD ((w64 (i+k)).toNat) 0)+(w64 ((a.getD ((i).toNat) 0) * rdigit))))+carry))))],[(0,aO 1 cI 0 out2)],417⟩ (C_92 238792) [(12,⟨[],true,(aI rdigit),[],0,false,none⟩)] [] (kp [0,1,5,6,8,9]) (kq [0]) 417 [0≤(w64 (i+k))∧(w64 (i+k)) < ((out2.length:Nat):Int),(w64 (i+k)).toNat < out2.length,0≤i∧i < ((a.length:Nat):Int),Sd 132 [(encL cI 0 b),(aI k)] [] 0 (aI rdigit) []] ⟨c2,(ltOf c2),c3,(g_r01_digit_ok N b k rdigit hr),trivial⟩ ?_
   refine sA 1 [.code (C_92 477586),.code (C_92 477587),.inBlock 3,.code (C_92 59699),.inLoop (C_92 14924),.inBlock 2,.inBlock 1,.code (C_92 467),.inLoop (C_92 116),.inBlock 0,.code (C_92 15)] ?_
   refine sR hE ⟨[(0,(encL cI 0 a)),(1,(encL cI 0 b)),(5,(.os 0 0 ((out2.set ((w64 (i+k)).toNat) ((w64 ((w64 ((out2.getD ((w64 (i+k)).toNat) 0)+(w64 ((a.getD ((i).toNat) 0) * rdigit))))+carry)).tmod 65536)).length))),(6,(aI i)),(8,(aI k)),(9,(aI (w64 ((w64 ((out2.getD ((w64 (i+k)).toNat) 0)+(w64 ((a.getD ((i).toNat) 0) * rdigit))))+carry))))],[(0,aO 1 cI 0 (out2.set ((w64 (i+k)).toNat) ((w64 ((w64 ((out2.getD ((w64 (i+k)).toNat) 0)+(w64 ((a.getD ((i).toNat) 0) * rdigit))))+carry)).tmod 65536)))],545⟩ (C_92 477586) [] [] (kp [0,1] ++ [(5,.osl ((out2.set ((w64 (i+k)).toNat) ((w64 ((w64 ((out2.getD ((w64 (i+k)).toNat) 0)+(w64 ((a.getD ((i).toNat) 0) * rdigit))))+carry)).tmod 65536)).length))] ++ kp [6,8,9]) [(0,.arr 0 ((out2.set ((w64 (i+k)).toNat) ((w64 ((w64 ((out2.getD ((w64 (i+k)).toNat) 0)+(w64 ((a.getD ((i).toNat) 0) * rdigit))))+carry)).tmod 65536)).length) (fun zi=>cI ((out2.set ((w64 (i+k)).toNat) ((w64 ((w64 ((out2.getD ((w64 (i+k)).toNat) 0)+(w64 ((a.getD ((i).toNat) 0) * rdigit))))+carry)).tmod 65536)).getD zi 0)))] 545 [(65536:Int)≠0,0≤(w64 (i+k))∧(w64 (i+k)) < ((out2.length:Nat):Int),(w64 (i+k)).toNat < out2.length,out2.length=(out2.set ((w64 (i+k)).toNat) ((w64 ((w64 ((out2.getD ((w64 (i+k)).toNat) 0)+(w64 ((a.getD ((i).toNat) 0) * rdigit))))+carry)).tmod 65536)).length,out2.length=(out2.set ((w64 (i+k)).toNat) ((w64 ((w64 ((out2.getD ((w64 (i+k)).toNat) 0)+(w64 ((a.getD ((i).toNat) 0) * rdigit))))+carry)).tmod 65536)).length,∀ zi,zi < (out2.set ((w64 (i+k)).toNat) ((w64 ((w64 ((out2.getD ((w64 (i+k)).toNat) 0)+(w64 ((a.getD ((i).toNat) 0) * rdigit))))+carry)).tmod 65536)).length→(fun zi=>cI ((out2.set ((w64 (i+k)).toNat) ((w64 ((w64 ((out2.getD ((w64 (i+k)).toNat) 0)+(w64 ((a.getD ((i).toNat) 0) * rdigit))))+carry)).tmod 65536)).getD zi 0)) zi=((fun zm=>if zm=(w64 (i+k)).toNat then [(aI ((w64 ((w64 ((out2.getD ((w64 (i+k)).toNat) 0)+(w64 ((a.getD ((i).toNat) 0) * rdigit))))+carry)).tmod 65536))] else (fun zi=>cI (out2.getD zi 0)) zm)) zi] ⟨(by decide),c2,(ltOf c2),(len_set_raw rfl),(len_set_raw rfl),(get_set_raw cI 0 out2 ((w64 (i+k)).toNat) ((w64 ((w64 ((out2.getD ((w64 (i+k)).toNat) 0)+(w64 ((a.getD ((i).toNat) 0) * rdigit))))+carry)).tmod 65536) (fun _ _=>rfl)),trivial⟩ ?_
   refine sR hE ⟨[(0,(encL cI 0 a)),(1,(encL cI 0 b)),(5,(.os 0 0 ((out2.set ((w64 (i+k)).toNat) ((w64 ((w64 ((out2.getD ((w64 (i+k)).toNat) 0)+(w64 ((a.getD ((i).toNat) 0) * rdigit))))+carry)).tmod 65536)).length))),(6,(aI i)),(7,(aI (w64 ((w64 ((w64 ((out2.getD ((w64 (i+k)).toNat) 0)+(w64 ((a.getD ((i).toNat) 0) * rdigit))))+carry)).tdiv 65536)))),(8,(aI k))],[(0,aO 1 cI 0 (out2.set ((w64 (i+k)).toNat) ((w64 ((w64 ((out2.getD ((w64 (i+k)).toNat) 0)+(w64 ((a.getD ((i).toNat) 0) * rdigit))))+carry)).tmod 65536)))],593⟩ (C_92 477587) [] [] (kp [0,1,5,6,7,8]) (kq [0]) 593 [(65536:Int)≠0] ⟨(by decide),trivial⟩ ?_
   refine sA 1 [.code (C_92 59699),.inLoop (C_92 14924),.inBlock 2,.inBlock 1,.code (C_92 467),.inLoop (C_92 116),.inBlock 0,.code (C_92 15)] ?_
   refine sR hE ⟨[(0,(encL cI 0 a)),(1,(encL cI 0 b)),(5,(.os 0 0 ((out2.set ((w64 (i+k)).toNat) ((w64 ((w64 ((out2.getD ((w64 (i+k)).toNat) 0)+(w64 ((a.getD ((i).toNat) 0) * rdigit))))+carry)).tmod 65536)).length))),(6,(aI i)),(7,(aI (w64 ((w64 ((w64 ((out2.getD ((w64 (i+k)).toNat) 0)+(w64 ((a.getD ((i).toNat) 0) * rdigit))))+carry)).tdiv 65536)))),(8,(aI (w64 (k+1))))],[(0,aO 1 cI 0 (out2.set ((w64 (i+k)).toNat) ((w64 ((w64 ((out2.getD ((w64 (i+k)).toNat) 0)+(w64 ((a.getD ((i).toNat) 0) * rdigit))))+carry)).tmod 65536)))],641⟩ (C_92 59699) [] [] (kp [0,1,5,6,7,8]) (kq [0]) 641 [] trivial ?_
   refine sA 1 [.code (C_92 14924),.inLoop (C_92 14924),.inBlock 2,.inBlock 1,.code (C_92 467),.inLoop (C_92 116),.inBlock 0,.code (C_92 15)] ?_
   exact sW hE _ [] (kp [0,1,5,6,7,8]) (kq [0]) 1 [] trivial (ih (out2.set ((w64 (i+k)).toNat) ((w64 ((w64 ((out2.getD ((w64 (i+k)).toNat) 0)+(w64 ((a.getD ((i).toNat) 0) * rdigit))))+carry)).tmod 65536)) (w64 ((w64 ((w64 ((out2.getD ((w64 (i+k)).toNat) 0)+(w64 ((a.getD ((i).toNat) 0) * rdigit))))+carry)).tdiv 65536)) (w64 (k+1)) _ h E hE)
  ·have h:=condF h hq3
   refine sA 2 [.code (C_92 467),.inLoop (C_92 116),.inBlock 0,.code (C_92 15)] ?_
   refine sR hE ⟨[(0,(encL cI 0 a)),(1,(encL cI 0 b)),(5,(.os 0 0 out2.length)),(6,(aI (w64 (i+1))))],[(0,aO 1 cI 0 out2)],177⟩ (C_92 467) [] [] (kp [0,1,5,6]) (kq [0]) 177 [] trivial ?_
   refine sA 1 [.code (C_92 116),.inLoop (C_92 116),.inBlock 0,.code (C_92 15)] ?_
   exact sW hE _ [] (kp [0,1,5,6]) (kq [0]) 1 [] trivial (hK_g_r01_times_L1 out2 (w64 (i+1)) _ h E hE)
theorem g_r01_times_L1_ok (N:Nat) (a:List Int) (b:List Int) (fuel:Nat):∀ (out:List Int) (i:Int) (r:(List Int)),g_r01_times_L1 N a b fuel out i=some r→∀ E,EnvOk E 0→Runs Tryz.prog E 125 61 (SPost E [] (encL cI 0 r)) [.code (C_92 116),.inLoop (C_92 116),.inBlock 0,.code (C_92 15)] ⟨[(0,(encL cI 0 a)),(1,(encL cI 0 b)),(5,(.os 0 0 out.length)),(6,(aI i))],[(0,aO 1 cI 0 out)],1⟩:=by
 induction fuel with
 | zero=>intro _ _ r h;rw [g_r01_times_L1.eq_1] at h;cases h
 | succ fuel ih =>
  intro out i r h E hE
  rw [g_r01_times_L1.eq_2] at h
  refine sA 2 [.code (C_92 464),.code (C_92 465),.code (C_92 233),.inLoop (C_92 116),.inBlock 0,.code (C_92 15)] ?_
  refine sR hE ⟨[(0,(encL cI 0 a)),(1,(encL cI 0 b)),(5,(.os 0 0 out.length)),(6,(aI i)),(20,(aB (decide (i < ((a.length:Nat):Int)))))],[(0,aO 1 cI 0 out)],65⟩ (C_92 464) [] [] (kp [0,1,5,6,20]) (kq [0]) 65 [] trivial ?_
  refine sC 20 (C_92 930) (C_92 931) (decide (i < ((a.length:Nat):Int))) (fun hq2=>?_) (fun hq2=>?_)
  ·have h:=condT h hq2
   refine sA 4 [.code (C_92 1864),.code (C_92 1865),.inBlock 1,.code (C_92 467),.inLoop (C_92 116),.inBlock 0,.code (C_92 15)] ?_
   refine sR hE ⟨[(0,(encL cI 0 a)),(1,(encL cI 0 b)),(5,(.os 0 0 out.length)),(6,(aI i)),(7,(aI 0))],[(0,aO 1 cI 0 out)],81⟩ (C_92 1864) [] [] (kp [0,1,5,6,7]) (kq [0]) 81 [] trivial ?_
   refine sA 1 [.code (C_92 3730),.code (C_92 3731),.inBlock 1,.code (C_92 467),.inLoop (C_92 116),.inBlock 0,.code (C_92 15)] ?_
   refine sR hE ⟨[(0,(encL cI 0 a)),(1,(encL cI 0 b)),(5,(.os 0 0 out.length)),(6,(aI i)),(7,(aI 0)),(8,(aI 0))],[(0,aO 1 cI 0 out)],97⟩ (C_92 3730) [] [] (kp [0,1,5,6,7,8]) (kq [0]) 97 [] trivial ?_
   refine sA 2 [.code (C_92 14924),.inLoop (C_92 14924),.inBlock 2,.inBlock 1,.code (C_92 467),.inLoop (C_92 116),.inBlock 0,.code (C_92 15)] ?_
   exact sW hE _ [] (kp [0,1,5,6,7,8]) (kq [0]) 1 [] trivial (g_r01_times_L2_ok N a b i (g_r01_times_L1 N a b fuel) ih N out 0 0 _ h E hE)
  ·have h:=condF h hq2
   refine sA 2 [.code (C_92 30),.code (C_92 31)] ?_
   obtain ⟨rtrim,hr2,h⟩:=bindSome h
   refine sR hE ⟨[(4,(encL cI 0 rtrim))],[],113⟩ (C_92 30) [(1,⟨[],true,(encL cI 0 rtrim),[],0,true,none⟩)] [] (kp [4]) [] 113 [Sd 131 [(encL cI 0 out)] [] 0 (encL cI 0 rtrim) [],0+out.length≤out.length] ⟨(g_r01_trim_ok N out rtrim hr2),z0,trivial⟩ ?_
   obtain rfl:=Option.some.inj h
   refine sW hE ⟨[(4,(encL cI 0 rtrim))],[],113⟩ [] (kp [4]) [] 113 [] trivial ?_
   exact sT Tryz.f125 [] [] trivial
theorem g_r01_times_ok (N:Nat) (a:List Int) (b:List Int) (r:(List Int)) (h:g_r01_times N a b=some r):Sd 125 [(encL cI 0 a),(encL cI 0 b)] [] 0 (encL cI 0 r) []:=by
 unfold g_r01_times at h
 refine Sound.of_runs (fu:=Tryz.f125) (c:=C_92 1) (nt:=61) (by kernel_rfl) (by kernel_rfl) (by kernel_rfl) (by kernel_rfl) (fun hm=>rfl) ?_
 intro E hE
 refine sA 1 [.code (C_92 2),.code (C_92 3)] ?_
 refine sR hE ⟨[(0,(encL cI 0 a)),(1,(encL cI 0 b))],[],16⟩ (C_92 2) [] [] (kp [0,1]) [] 16 [] trivial ?_
 refine sA 1 [.code (C_92 6),.code (C_92 7)] ?_
 obtain ⟨c,h⟩:=ifSome h
 refine sR hE ⟨[(0,(encL cI 0 a)),(1,(encL cI 0 b)),(5,(.os 112 0 ((List.replicate ((w64 ((w64 (((a.length:Nat):Int)+((b.length:Nat):Int)))+1)).toNat) 0:List Int).length)))],[(112,aO 1 cI 0 (List.replicate ((w64 ((w64 (((a.length:Nat):Int)+((b.length:Nat):Int)))+1)).toNat) 0:List Int))],144⟩ (C_92 6) [] [] (kp [0,1] ++ [(5,.osl ((List.replicate ((w64 ((w64 (((a.length:Nat):Int)+((b.length:Nat):Int)))+1)).toNat) 0:List Int).length))]) [(112,.arr 112 ((List.replicate ((w64 ((w64 (((a.length:Nat):Int)+((b.length:Nat):Int)))+1)).toNat) 0:List Int).length) (fun zi=>cI ((List.replicate ((w64 ((w64 (((a.length:Nat):Int)+((b.length:Nat):Int)))+1)).toNat) 0:List Int).getD zi 0)))] 144 [0≤(w64 ((w64 (((a.length:Nat):Int)+((b.length:Nat):Int)))+1)),(w64 ((w64 (((a.length:Nat):Int)+((b.length:Nat):Int)))+1))≤(w64 ((w64 (((a.length:Nat):Int)+((b.length:Nat):Int)))+1)),(8:Int) * (w64 ((w64 (((a.length:Nat):Int)+((b.length:Nat):Int)))+1))≤281474976710656,(w64 ((w64 (((a.length:Nat):Int)+((b.length:Nat):Int)))+1))≤9223372036854775807,(w64 ((w64 (((a.length:Nat):Int)+((b.length:Nat):Int)))+1)).toNat=(List.replicate ((w64 ((w64 (((a.length:Nat):Int)+((b.length:Nat):Int)))+1)).toNat) 0:List Int).length,(w64 ((w64 (((a.length:Nat):Int)+((b.length:Nat):Int)))+1)).toNat=(List.replicate ((w64 ((w64 (((a.length:Nat):Int)+((b.length:Nat):Int)))+1)).toNat) 0:List Int).length,∀ zi,zi < (List.replicate ((w64 ((w64 (((a.length:Nat):Int)+((b.length:Nat):Int)))+1)).toNat) 0:List Int).length→(fun zi=>cI ((List.replicate ((w64 ((w64 (((a.length:Nat):Int)+((b.length:Nat):Int)))+1)).toNat) 0:List Int).getD zi 0)) zi=(fun _=>[(aI 0)]) zi] ⟨c.1,(Int.le_refl _),c.2.1,c.2.2,(List.length_replicate).symm,(List.length_replicate).symm,(fun zq hzq=>get_rep cI 0 0 ((w64 ((w64 (((a.length:Nat):Int)+((b.length:Nat):Int)))+1)).toNat) zq hzq),trivial⟩ ?_
 refine sA 2 [.code (C_92 28),.code (C_92 29),.code (C_92 15)] ?_
 refine sR hE ⟨[(0,(encL cI 0 a)),(1,(encL cI 0 b)),(5,(.os 112 0 ((List.replicate ((w64 ((w64 (((a.length:Nat):Int)+((b.length:Nat):Int)))+1)).toNat) 0:List Int).length))),(6,(aI 0))],[(112,aO 1 cI 0 (List.replicate ((w64 ((w64 (((a.length:Nat):Int)+((b.length:Nat):Int)))+1)).toNat) 0:List Int))],160⟩ (C_92 28) [] [] (kp [0,1,5,6]) (kq [112]) 160 [] trivial ?_
 refine sA 2 [.code (C_92 116),.inLoop (C_92 116),.inBlock 0,.code (C_92 15)] ?_
 exact sW hE _ [] (kp [0,1,5,6]) [(0,.keep 112)] 1 [] trivial (g_r01_times_L1_ok N a b N (List.replicate ((w64 ((w64 (((a.length:Nat):Int)+((b.length:Nat):Int)))+1)).toNat) 0:List Int) 0 _ h E hE)
noncomputable def C_94 (n:Nat):Code:=cat (bodyOf Tryz.f123) (pth n)
theorem g_r01_compare_L1_ok (N:Nat) (a:List Int) (b:List Int) (fuel:Nat):∀ (i:Int) (r:Int),g_r01_compare_L1 N a b fuel i=some r→∀ E,EnvOk E 0→Runs Tryz.prog E 123 41 (SPost E [] (aI r)) [.code (C_94 116),.inLoop (C_94 116),.inBlock 0,.code (C_94 15)] ⟨[(0,(encL cI 0 a)),(1,(encL cI 0 b)),(5,(aI i))],[],0⟩:=by
 induction fuel with
 | zero=>intro _ r h;rw [g_r01_compare_L1.eq_1] at h;cases h
 | succ fuel ih =>
  intro i r h E hE
  rw [g_r01_compare_L1.eq_2] at h
  refine sA 2 [.code (C_94 464),.code (C_94 465),.code (C_94 233),.inLoop (C_94 116),.inBlock 0,.code (C_94 15)] ?_
  refine sR hE ⟨[(0,(encL cI 0 a)),(1,(encL cI 0 b)),(5,(aI i)),(20,(aB (decide (i≥0))))],[],32⟩ (C_94 464) [] [] (kp [0,1,5,20]) [] 32 [] trivial ?_
  refine sC 20 (C_94 930) (C_94 931) (decide (i≥0)) (fun hq3=>?_) (fun hq3=>?_)
  ·have h:=condT h hq3
   refine sA 4 [.code (C_94 1864),.code (C_94 1865),.inBlock 1,.code (C_94 467),.inLoop (C_94 116),.inBlock 0,.code (C_94 15)] ?_
   obtain ⟨c,h⟩:=ifSome h
   obtain ⟨c2,h⟩:=ifSome h
   refine sR hE ⟨[(0,(encL cI 0 a)),(1,(encL cI 0 b)),(5,(aI i)),(31,(aB ((a.getD ((i).toNat) 0) != (b.getD ((i).toNat) 0))))],[],176⟩ (C_94 1864) [] [] (kp [0,1,5,31]) [] 176 [0≤i∧i < ((a.length:Nat):Int),0≤i∧i < ((b.length:Nat):Int)] ⟨c,c2,trivial⟩ ?_
   refine sC 31 (C_94 3730) (C_94 3731) ((a.getD ((i).toNat) 0) != (b.getD ((i).toNat) 0)) (fun hq4=>?_) (fun hq4=>?_)
   ·have h:=condT h hq4
    refine sA 1 [.code (C_94 7460),.code (C_94 7461),.inBlock 1,.code (C_94 467),.inLoop (C_94 116),.inBlock 0,.code (C_94 15)] ?_
    refine sR hE ⟨[(4,(aI (w64 ((a.getD ((i).toNat) 0) - (b.getD ((i).toNat) 0)))))],[],336⟩ (C_94 7460) [] [] (kp [4]) [] 336 [0≤i∧i < ((a.length:Nat):Int),0≤i∧i < ((b.length:Nat):Int)] ⟨c,c2,trivial⟩ ?_
    obtain rfl:=Option.some.inj h
    refine sW hE ⟨[(4,(aI (w64 ((a.getD ((i).toNat) 0) - (b.getD ((i).toNat) 0)))))],[],336⟩ [] (kp [4]) [] 336 [] trivial ?_
    exact sT Tryz.f123 [] [] trivial
   ·have h:=condF h hq4
    refine sA 2 [.code (C_94 467),.inLoop (C_94 116),.inBlock 0,.code (C_94 15)] ?_
    refine sR hE ⟨[(0,(encL cI 0 a)),(1,(encL cI 0 b)),(5,(aI (w64 (i - 1))))],[],224⟩ (C_94 467) [] [] (kp [0,1,5]) [] 224 [] trivial ?_
    refine sA 1 [.code (C_94 116),.inLoop (C_94 116),.inBlock 0,.code (C_94 15)] ?_
    exact sW hE _ [] (kp [0,1,5]) [] 0 [] trivial (ih (w64 (i - 1)) _ h E hE)
  ·have h:=condF h hq3
   refine sA 2 [.code (C_94 30),.code (C_94 31)] ?_
   refine sR hE ⟨[(4,(aI 0))],[],48⟩ (C_94 30) [] [] (kp [4]) [] 48 [] trivial ?_
   obtain rfl:=Option.some.inj h
   refine sW hE ⟨[(4,(aI 0))],[],48⟩ [] (kp [4]) [] 48 [] trivial ?_
   exact sT Tryz.f123 [] [] trivial
theorem g_r01_compare_ok (N:Nat) (a:List Int) (b:List Int) (r:Int) (h:g_r01_compare N a b=some r):Sd 123 [(encL cI 0 a),(encL cI 0 b)] [] 0 (aI r) []:=by
 unfold g_r01_compare at h
 refine Sound.of_runs (fu:=Tryz.f123) (c:=C_94 1) (nt:=41) (by kernel_rfl) (by kernel_rfl) (by kernel_rfl) (by kernel_rfl) (fun hm=>rfl) ?_
 intro E hE
 refine sA 1 [.code (C_94 2),.code (C_94 3)] ?_
 refine sR hE ⟨[(0,(encL cI 0 a)),(1,(encL cI 0 b))],[],16⟩ (C_94 2) [] [] (kp [0,1]) [] 16 [] trivial ?_
 refine sA 2 [.code (C_94 12),.code (C_94 13),.code (C_94 7)] ?_
 refine sR hE ⟨[(0,(encL cI 0 a)),(1,(encL cI 0 b)),(10,(aB (((a.length:Nat):Int) != ((b.length:Nat):Int))))],[],96⟩ (C_94 12) [] [] (kp [0,1,10]) [] 96 [] trivial ?_
 refine sC 10 (C_94 26) (C_94 27) (((a.length:Nat):Int) != ((b.length:Nat):Int)) (fun hq2=>?_) (fun hq2=>?_)
 ·have h:=condT h hq2
  refine sA 1 [.code (C_94 52),.code (C_94 53),.code (C_94 7)] ?_
  refine sR hE ⟨[(4,(aI (w64 (((a.length:Nat):Int) - ((b.length:Nat):Int)))))],[],192⟩ (C_94 52) [] [] (kp [4]) [] 192 [] trivial ?_
  obtain rfl:=Option.some.inj h
  refine sW hE ⟨[(4,(aI (w64 (((a.length:Nat):Int) - ((b.length:Nat):Int)))))],[],192⟩ [] (kp [4]) [] 192 [] trivial ?_
  exact sT Tryz.f123 [] [] trivial
 ·have h:=condF h hq2
  refine sA 3 [.code (C_94 28),.code (C_94 29),.code (C_94 15)] ?_
  refine sR hE ⟨[(0,(encL cI 0 a)),(1,(encL cI 0 b)),(5,(aI (w64 (((a.length:Nat):Int) - 1))))],[],160⟩ (C_94 28) [] [] (kp [0,1,5]) [] 160 [] trivial ?_
  refine sA 2 [.code (C_94 116),.inLoop (C_94 116),.inBlock 0,.code (C_94 15)] ?_
  exact sW hE _ [] (kp [0,1,5]) [] 0 [] trivial (g_r01_compare_L1_ok N a b N (w64 (((a.length:Nat):Int) - 1)) _ h E hE)
noncomputable def C_95 (n:Nat):Code:=cat (bodyOf Tryz.f124) (pth n)
theorem g_r01_minus_J2_ok (N:Nat) (a:List Int) (b:List Int) (out:List Int) (i:Int) (K_g_r01_minus_L1:(List Int)→Int→Int→Option ((List Int)))
  (hK_g_r01_minus_L1:∀ (out:List Int) (borrow:Int) (i:Int) (r:(List Int)),K_g_r01_minus_L1 out borrow i=some r→∀ E,EnvOk E 0→Runs Tryz.prog E 124 35 (SPost E [] (encL cI 0 r)) [.code (C_95 244),.inLoop (C_95 244),.inBlock 0,.code (C_95 31)] ⟨[(0,(encL cI 0 a)),(1,(encL cI 0 b)),(5,(.os 0 0 out.length)),(6,(aI borrow)),(7,(aI i))],[(0,aO 1 cI 0 out)],1⟩) (borrow2:Int) (s:Int) (r:(List Int)) (h:g_r01_minus_J2 N a b out i K_g_r01_minus_L1 borrow2 s=some r):∀ E,EnvOk E 0→Runs Tryz.prog E 124 35 (SPost E [] (encL cI 0 r)) [.code (C_95 15655),.inBlock 1,.code (C_95 979),.inLoop (C_95 244),.inBlock 0,.code (C_95 31)] ⟨[(0,(encL cI 0 a)),(1,(encL cI 0 b)),(5,(.os 0 0 out.length)),(6,(aI borrow2)),(7,(aI i)),(8,(aI s))],[(0,aO 1 cI 0 out)],1⟩:=by
 intro E hE
 unfold g_r01_minus_J2 at h
 obtain ⟨c2,h⟩:=ifSome h
 refine sR hE ⟨[(0,(encL cI 0 a)),(1,(encL cI 0 b)),(5,(.os 49 0 ((out ++ ([s]:List Int)).length))),(6,(aI borrow2)),(7,(aI i))],[(49,aO 1 cI 0 (out ++ ([s]:List Int)))],81⟩ (C_95 15655) [] [] (kp [0,1] ++ [(5,.osl ((out ++ ([s]:List Int)).length))] ++ kp [6,7]) [(49,.arr 49 ((out ++ ([s]:List Int)).length) (fun zi=>cI ((out ++ ([s]:List Int)).getD zi 0)))] 81 [out.length=out.length,(out.length+1) * 8≤140737488355328,0+1≤1,∀ zi,zi < 1→AV.oneL ((fun zi=>([[(aI s)]]:List (List AV)).getD zi []) (addz 0 zi))=true,(out.length+1)=(out ++ ([s]:List Int)).length,out.length+1=(out ++ ([s]:List Int)).length,∀ zi,zi < (out ++ ([s]:List Int)).length→(fun zi=>cI ((out ++ ([s]:List Int)).getD zi 0)) zi=((fun zm=>if zm < out.length then (fun zi=>cI (out.getD zi 0)) zm else (fun zi=>([[(aI s)]]:List (List AV)).getD zi []) (zm - out.length))) zi] ⟨rfl,c2,z0,(oneN rfl),(len_app_raw rfl rfl),(len_app_raw rfl rfl),(get_app_raw cI 0 out ([s]:List Int) rfl (fun _ _=>rfl) (fun zq hzq=>get_chunk cI 0 ([s]:List Int) zq hzq)),trivial⟩ ?_
 refine sA 1 [.code (C_95 979),.inLoop (C_95 244),.inBlock 0,.code (C_95 31)] ?_
 refine sR hE ⟨[(0,(encL cI 0 a)),(1,(encL cI 0 b)),(5,(.os 49 0 ((out ++ ([s]:List Int)).length))),(6,(aI borrow2)),(7,(aI (w64 (i+1))))],[(49,aO 1 cI 0 (out ++ ([s]:List Int)))],129⟩ (C_95 979) [] [] (kp [0,1,5,6,7]) (kq [49]) 129 [] trivial ?_
 refine sA 1 [.code (C_95 244),.inLoop (C_95 244),.inBlock 0,.code (C_95 31)] ?_
 exact sW hE _ [] (kp [0,1,5,6,7]) [(0,.keep 49)] 1 [] trivial (hK_g_r01_minus_L1 (out ++ ([s]:List Int)) borrow2 (w64 (i+1)) _ h E hE)
theorem g_r01_minus_L1_ok (N:Nat) (a:List Int) (b:List Int) (fuel:Nat):∀ (out:List Int) (borrow:Int) (i:Int) (r:(List Int)),g_r01_minus_L1 N a b fuel out borrow i=some r→∀ E,EnvOk E 0→Runs Tryz.prog E 124 35 (SPost E [] (encL cI 0 r)) [.code (C_95 244),.inLoop (C_95 244),.inBlock 0,.code (C_95 31)] ⟨[(0,(encL cI 0 a)),(1,(encL cI 0 b)),(5,(.os 0 0 out.length)),(6,(aI borrow)),(7,(aI i))],[(0,aO 1 cI 0 out)],1⟩:=by
 induction fuel with
 | zero=>intro _ _ _ r h;rw [g_r01_minus_L1.eq_1] at h;cases h
 | succ fuel ih =>
  intro out borrow i r h E hE
  rw [g_r01_minus_L1.eq_2] at h
  refine sA 2 [.code (C_95 976),.code (C_95 977),.code (C_95 489),.inLoop (C_95 244),.inBlock 0,.code (C_95 31)] ?_
  refine sR hE ⟨[(0,(encL cI 0 a)),(1,(encL cI 0 b)),(5,(.os 0 0 out.length)),(6,(aI borrow)),(7,(aI i)),(12,(aB (decide (i < ((a.length:Nat):Int)))))],[(0,aO 1 cI 0 out)],65⟩ (C_95 976) [] [] (kp [0,1,5,6,7,12]) (kq [0]) 65 [] trivial ?_
  refine sC 12 (C_95 1954) (C_95 1955) (decide (i < ((a.length:Nat):Int))) (fun hq2=>?_) (fun hq2=>?_)
  ·have h:=condT h hq2
   refine sA 4 [.code (C_95 3912),.code (C_95 3913),.inBlock 1,.code (C_95 979),.inLoop (C_95 244),.inBlock 0,.code (C_95 31)] ?_
   obtain ⟨c,h⟩:=ifSome h
   obtain ⟨rdigit,hr,h⟩:=bindSome h
   refine sR hE ⟨[(0,(encL cI 0 a)),(1,(encL cI 0 b)),(5,(.os 0 0 out.length)),(7,(aI i)),(8,(aI (w64 ((w64 ((a.getD ((i).toNat) 0) - rdigit)) - borrow))))],[(0,aO 1 cI 0 out)],241⟩ (C_95 3912) [(6,⟨[],true,(aI rdigit),[],0,false,none⟩)] [] (kp [0,1,5,7,8]) (kq [0]) 241 [0≤i∧i < ((a.length:Nat):Int),Sd 132 [(encL cI 0 b),(aI i)] [] 0 (aI rdigit) []] ⟨c,(g_r01_digit_ok N b i rdigit hr),trivial⟩ ?_
   refine sA 1 [.code (C_95 7826),.code (C_95 7827),.inBlock 1,.code (C_95 979),.inLoop (C_95 244),.inBlock 0,.code (C_95 31)] ?_
   refine sR hE ⟨[(0,(encL cI 0 a)),(1,(encL cI 0 b)),(5,(.os 0 0 out.length)),(6,(aI 0)),(7,(aI i)),(8,(aI (w64 ((w64 ((a.getD ((i).toNat) 0) - rdigit)) - borrow))))],[(0,aO 1 cI 0 out)],257⟩ (C_95 7826) [] [] (kp [0,1,5,6,7,8]) (kq [0]) 257 [] trivial ?_
   refine sA 2 [.code (C_95 31308),.code (C_95 31309),.code (C_95 15655),.inBlock 1,.code (C_95 979),.inLoop (C_95 244),.inBlock 0,.code (C_95 31)] ?_
   refine sR hE ⟨[(0,(encL cI 0 a)),(1,(encL cI 0 b)),(5,(.os 0 0 out.length)),(6,(aI 0)),(7,(aI i)),(8,(aI (w64 ((w64 ((a.getD ((i).toNat) 0) - rdigit)) - borrow)))),(26,(aB (decide ((w64 ((w64 ((a.getD ((i).toNat) 0) - rdigit)) - borrow)) < 0))))],[(0,aO 1 cI 0 out)],289⟩ (C_95 31308) [] [] (kp [0,1,5,6,7,8,26]) (kq [0]) 289 [] trivial ?_
   refine sC 26 (C_95 62618) (C_95 62619) (decide ((w64 ((w64 ((a.getD ((i).toNat) 0) - rdigit)) - borrow)) < 0)) (fun hq3=>?_) (fun hq3=>?_)
   ·have h:=condT h hq3
    refine sA 1 [.code (C_95 125236),.code (C_95 125237),.code (C_95 15655),.inBlock 1,.code (C_95 979),.inLoop (C_95 244),.inBlock 0,.code (C_95 31)] ?_
    refine sR hE ⟨[(0,(encL cI 0 a)),(1,(encL cI 0 b)),(5,(.os 0 0 out.length)),(7,(aI i)),(8,(aI (w64 ((w64 ((w64 ((a.getD ((i).toNat) 0) - rdigit)) - borrow))+65536))))],[(0,aO 1 cI 0 out)],337⟩ (C_95 125236) [] [] (kp [0,1,5,7,8]) (kq [0]) 337 [] trivial ?_
    refine sR hE ⟨[(0,(encL cI 0 a)),(1,(encL cI 0 b)),(5,(.os 0 0 out.length)),(6,(aI 1)),(7,(aI i)),(8,(aI (w64 ((w64 ((w64 ((a.getD ((i).toNat) 0) - rdigit)) - borrow))+65536))))],[(0,aO 1 cI 0 out)],353⟩ (C_95 125237) [] [] (kp [0,1,5,6,7,8]) (kq [0]) 353 [] trivial ?_
    exact sW hE _ [] (kp [0,1,5,6,7,8]) (kq [0]) 1 [] trivial (g_r01_minus_J2_ok N a b out i (g_r01_minus_L1 N a b fuel) ih 1 (w64 ((w64 ((w64 ((a.getD ((i).toNat) 0) - rdigit)) - borrow))+65536)) _ h E hE)
   ·have h:=condF h hq3
    refine sA 1 [.code (C_95 15655),.inBlock 1,.code (C_95 979),.inLoop (C_95 244),.inBlock 0,.code (C_95 31)] ?_
    exact sW hE _ [] (kp [0,1,5,6,7,8]) (kq [0]) 1 [] trivial (g_r01_minus_J2_ok N a b out i (g_r01_minus_L1 N a b fuel) ih 0 (w64 ((w64 ((a.getD ((i).toNat) 0) - rdigit)) - borrow)) _ h E hE)
  ·have h:=condF h hq2
   refine sA 2 [.code (C_95 62),.code (C_95 63)] ?_
   obtain ⟨rtrim,hr2,h⟩:=bindSome h
   refine sR hE ⟨[(4,(encL cI 0 rtrim))],[],113⟩ (C_95 62) [(1,⟨[],true,(encL cI 0 rtrim),[],0,true,none⟩)] [] (kp [4]) [] 113 [Sd 131 [(encL cI 0 out)] [] 0 (encL cI 0 rtrim) [],0+out.length≤out.length] ⟨(g_r01_trim_ok N out rtrim hr2),z0,trivial⟩ ?_
   obtain rfl:=Option.some.inj h
   refine sW hE ⟨[(4,(encL cI 0 rtrim))],[],113⟩ [] (kp [4]) [] 113 [] trivial ?_
   exact sT Tryz.f124 [] [] trivial
theorem g_r01_minus_ok (N:Nat) (a:List Int) (b:List Int) (r:(List Int)) (h:g_r01_minus N a b=some r):Sd 124 [(encL cI 0 a),(encL cI 0 b)] [] 0 (encL cI 0 r) []:=by
 unfold g_r01_minus at h
 refine Sound.of_runs (fu:=Tryz.f124) (c:=C_95 1) (nt:=35) (by kernel_rfl) (by kernel_rfl) (by kernel_rfl) (by kernel_rfl) (fun hm=>rfl) ?_
 intro E hE
 refine sA 1 [.code (C_95 2),.code (C_95 3)] ?_
 refine sR hE ⟨[(0,(encL cI 0 a)),(1,(encL cI 0 b))],[],16⟩ (C_95 2) [] [] (kp [0,1]) [] 16 [] trivial ?_
 refine sA 1 [.code (C_95 6),.code (C_95 7)] ?_
 refine sR hE ⟨[(0,(encL cI 0 a)),(1,(encL cI 0 b)),(5,.nil)],[],32⟩ (C_95 6) [] [] (kp [0,1,5]) [] 32 [] trivial ?_
 refine sA 1 [.code (C_95 14),.code (C_95 15)] ?_
 refine sR hE ⟨[(0,(encL cI 0 a)),(1,(encL cI 0 b)),(5,.nil),(6,(aI 0))],[],48⟩ (C_95 14) [] [] (kp [0,1,5,6]) [] 48 [] trivial ?_
 refine sA 2 [.code (C_95 60),.code (C_95 61),.code (C_95 31)] ?_
 refine sR hE ⟨[(0,(encL cI 0 a)),(1,(encL cI 0 b)),(5,.nil),(6,(aI 0)),(7,(aI 0))],[],64⟩ (C_95 60) [] [] (kp [0,1,5,6,7]) [] 64 [] trivial ?_
 refine sA 2 [.code (C_95 244),.inLoop (C_95 244),.inBlock 0,.code (C_95 31)] ?_
 exact sW hE _ [] (kp [0,1] ++ [(5,.nilos 0)] ++ kp [6,7]) [(0,.nil 1 (fun zi=>cI (([]:List Int).getD zi 0)))] 1 [] trivial (g_r01_minus_L1_ok N a b N ([]:List Int) 0 0 _ h E hE)
noncomputable def C_91 (n:Nat):Code:=cat (bodyOf Tryz.f121) (pth n)
theorem g_r01_over_J3_ok (N:Nat) (a:List Int) (b:List Int) (q:List Int) (i:Int) (lo:Int) (K_g_r01_over_L1:(List Int)→(List Int)→Int→Option ((List Int)×(List Int)))
  (hK_g_r01_over_L1:∀ (rest:List Int) (q:List Int) (i:Int) (r:(List Int)×(List Int)),K_g_r01_over_L1 rest q i=some r→∀ E,EnvOk E 0→Runs Tryz.prog E 121 63 (SPost E [] (.tup [(encL cI 0 r.1),(encL cI 0 r.2)])) [.code (C_91 244),.inLoop (C_91 244),.inBlock 0,.code (C_91 31)] ⟨[(0,(encL cI 0 a)),(1,(encL cI 0 b)),(6,(encL cI 0 rest)),(7,(.os 0 0 q.length)),(8,(aI i))],[(0,aO 1 cI 0 q)],1⟩) (rest2:List Int) (r:(List Int)×(List Int)) (h:g_r01_over_J3 N a b q i lo K_g_r01_over_L1 rest2=some r):∀ E,EnvOk E 0→Runs Tryz.prog E 121 63 (SPost E [] (.tup [(encL cI 0 r.1),(encL cI 0 r.2)])) [.code (C_91 979),.inLoop (C_91 244),.inBlock 0,.code (C_91 31)] ⟨[(0,(encL cI 0 a)),(1,(encL cI 0 b)),(6,(encL cI 0 rest2)),(7,(.os 0 0 ((q.set ((i).toNat) lo).length))),(8,(aI i))],[(0,aO 1 cI 0 (q.set ((i).toNat) lo))],1⟩:=by
 intro E hE
 unfold g_r01_over_J3 at h
 refine sR hE ⟨[(0,(encL cI 0 a)),(1,(encL cI 0 b)),(6,(encL cI 0 rest2)),(7,(.os 0 0 ((q.set ((i).toNat) lo).length))),(8,(aI (w64 (i - 1))))],[(0,aO 1 cI 0 (q.set ((i).toNat) lo))],49⟩ (C_91 979) [] [] (kp [0,1,6,7,8]) (kq [0]) 49 [] trivial ?_
 refine sA 1 [.code (C_91 244),.inLoop (C_91 244),.inBlock 0,.code (C_91 31)] ?_
 exact sW hE _ [] (kp [0,1,6,7,8]) (kq [0]) 1 [] trivial (hK_g_r01_over_L1 rest2 (q.set ((i).toNat) lo) (w64 (i - 1)) _ h E hE)
theorem g_r01_over_L2_ok (N:Nat) (a:List Int) (b:List Int) (q:List Int) (i:Int) (rtrim:(List Int)) (K_g_r01_over_L1:(List Int)→(List Int)→Int→Option ((List Int)×(List Int)))
  (hK_g_r01_over_L1:∀ (rest:List Int) (q:List Int) (i:Int) (r:(List Int)×(List Int)),K_g_r01_over_L1 rest q i=some r→∀ E,EnvOk E 0→Runs Tryz.prog E 121 63 (SPost E [] (.tup [(encL cI 0 r.1),(encL cI 0 r.2)])) [.code (C_91 244),.inLoop (C_91 244),.inBlock 0,.code (C_91 31)] ⟨[(0,(encL cI 0 a)),(1,(encL cI 0 b)),(6,(encL cI 0 rest)),(7,(.os 0 0 q.length)),(8,(aI i))],[(0,aO 1 cI 0 q)],1⟩) (fuel:Nat):∀ (lo:Int) (hi:Int) (r:(List Int)×(List Int)),g_r01_over_L2 N a b q i rtrim K_g_r01_over_L1 fuel lo hi=some r→∀ E,EnvOk E 0→Runs Tryz.prog E 121 63 (SPost E [] (.tup [(encL cI 0 r.1),(encL cI 0 r.2)])) [.code (C_91 62616),.inLoop (C_91 62616),.inBlock 2,.code (C_91 15655),.inBlock 1,.code (C_91 979),.inLoop (C_91 244),.inBlock 0,.code (C_91 31)] ⟨[(0,(encL cI 0 a)),(1,(encL cI 0 b)),(6,(encL cI 0 rtrim)),(7,(.os 0 0 q.length)),(8,(aI i)),(9,(aI lo)),(10,(aI hi))],[(0,aO 1 cI 0 q)],1⟩:=by
 induction fuel with
 | zero=>intro _ _ r h;rw [g_r01_over_L2.eq_1] at h;cases h
 | succ fuel ih =>
  intro lo hi r h E hE
  rw [g_r01_over_L2.eq_2] at h
  refine sA 2 [.code (C_91 250464),.code (C_91 250465),.code (C_91 125233),.inLoop (C_91 62616),.inBlock 2,.code (C_91 15655),.inBlock 1,.code (C_91 979),.inLoop (C_91 244),.inBlock 0,.code (C_91 31)] ?_
  refine sR hE ⟨[(0,(encL cI 0 a)),(1,(encL cI 0 b)),(6,(encL cI 0 rtrim)),(7,(.os 0 0 q.length)),(8,(aI i)),(9,(aI lo)),(10,(aI hi)),(32,(aB (decide (lo < hi))))],[(0,aO 1 cI 0 q)],49⟩ (C_91 250464) [] [] (kp [0,1,6,7,8,9,10,32]) (kq [0]) 49 [] trivial ?_
  refine sC 32 (C_91 500930) (C_91 500931) (decide (lo < hi)) (fun hq3=>?_) (fun hq3=>?_)
  ·have h:=condT h hq3
   refine sA 3 [.code (C_91 500932),.code (C_91 500933),.inBlock 3,.inLoop (C_91 62616),.inBlock 2,.code (C_91 15655),.inBlock 1,.code (C_91 979),.inLoop (C_91 244),.inBlock 0,.code (C_91 31)] ?_
   refine sR hE ⟨[(0,(encL cI 0 a)),(1,(encL cI 0 b)),(6,(encL cI 0 rtrim)),(7,(.os 0 0 q.length)),(8,(aI i)),(9,(aI lo)),(10,(aI hi)),(11,(aI (w64 ((w64 ((w64 (lo+hi))+1)).tdiv 2))))],[(0,aO 1 cI 0 q)],145⟩ (C_91 500932) [] [] (kp [0,1,6,7,8,9,10,11]) (kq [0]) 145 [(2:Int)≠0] ⟨(by decide),trivial⟩ ?_
   refine sA 1 [.code (C_91 1001866),.code (C_91 1001867),.inBlock 3,.inLoop (C_91 62616),.inBlock 2,.code (C_91 15655),.inBlock 1,.code (C_91 979),.inLoop (C_91 244),.inBlock 0,.code (C_91 31)] ?_
   obtain ⟨rtimes,hr2,h⟩:=bindSome h
   obtain ⟨rcompare,hr3,h⟩:=bindSome h
   refine sR hE ⟨[(0,(encL cI 0 a)),(1,(encL cI 0 b)),(6,(encL cI 0 rtrim)),(7,(.os 0 0 q.length)),(8,(aI i)),(9,(aI lo)),(10,(aI hi)),(11,(aI (w64 ((w64 ((w64 (lo+hi))+1)).tdiv 2)))),(44,(aB (decide (rcompare≤0))))],[(0,aO 1 cI 0 q)],257⟩ (C_91 1001866) [(3,⟨[],true,(encL cI 0 rtimes),[],0,true,none⟩),(5,⟨[],true,(aI rcompare),[],0,false,none⟩)] [] (kp [0,1,6,7,8,9,10,11,44]) (kq [0]) 257 [Sd 125 [(encL cI 0 b),(.sl 1 (fun zi=>(fun zi=>([[(aI (w64 ((w64 ((w64 (lo+hi))+1)).tdiv 2)))]]:List (List AV)).getD zi []) (addz 0 zi)))] [] 0 (encL cI 0 rtimes) [],0+1≤1,Sd 123 [(encL cI 0 rtimes),(encL cI 0 rtrim)] [] 0 (aI rcompare) []] ⟨(Sound.conv (g_r01_times_ok N b ([(w64 ((w64 ((w64 (lo+hi))+1)).tdiv 2))]:List Int) rtimes hr2) (.cons (Alike.refl _) (.cons (Alike.sl rfl (fun zq hzq=>get_chunk cI 0 ([(w64 ((w64 ((w64 (lo+hi))+1)).tdiv 2))]:List Int) zq hzq)) .nil))),z0,(g_r01_compare_ok N rtimes rtrim rcompare hr3),trivial⟩ ?_
   refine sC 44 (C_91 2003734) (C_91 2003735) (decide (rcompare≤0)) (fun hq4=>?_) (fun hq4=>?_)
   ·have h:=condT h hq4
    refine sR hE ⟨[(0,(encL cI 0 a)),(1,(encL cI 0 b)),(6,(encL cI 0 rtrim)),(7,(.os 0 0 q.length)),(8,(aI i)),(9,(aI (w64 ((w64 ((w64 (lo+hi))+1)).tdiv 2)))),(10,(aI hi))],[(0,aO 1 cI 0 q)],289⟩ (C_91 2003734) [] [] (kp [0,1,6,7,8,9,10]) (kq [0]) 289 [] trivial ?_
    refine sA 2 [.code (C_91 62616),.inLoop (C_91 62616),.inBlock 2,.code (C_91 15655),.inBlock 1,.code (C_91 979),.inLoop (C_91 244),.inBlock 0,.code (C_91 31)] ?_
    exact sW hE _ [] (kp [0,1,6,7,8,9,10]) (kq [0]) 1 [] trivial (ih (w64 ((w64 ((w64 (lo+hi))+1)).tdiv 2)) hi _ h E hE)
   ·have h:=condF h hq4
    refine sR hE ⟨[(0,(encL cI 0 a)),(1,(encL cI 0 b)),(6,(encL cI 0 rtrim)),(7,(.os 0 0 q.length)),(8,(aI i)),(9,(aI lo)),(10,(aI (w64 ((w64 ((w64 ((w64 (lo+hi))+1)).tdiv 2)) - 1))))],[(0,aO 1 cI 0 q)],305⟩ (C_91 2003735) [] [] (kp [0,1,6,7,8,9,10]) (kq [0]) 305 [] trivial ?_
    refine sA 2 [.code (C_91 62616),.inLoop (C_91 62616),.inBlock 2,.code (C_91 15655),.inBlock 1,.code (C_91 979),.inLoop (C_91 244),.inBlock 0,.code (C_91 31)] ?_
    exact sW hE _ [] (kp [0,1,6,7,8,9,10]) (kq [0]) 1 [] trivial (ih lo (w64 ((w64 ((w64 ((w64 (lo+hi))+1)).tdiv 2)) - 1)) _ h E hE)
  ·have h:=condF h hq3
   refine sA 2 [.code (C_91 31310),.code (C_91 31311),.inBlock 1,.code (C_91 979),.inLoop (C_91 244),.inBlock 0,.code (C_91 31)] ?_
   obtain ⟨c4,h⟩:=ifSome h
   refine sR hE ⟨[(0,(encL cI 0 a)),(1,(encL cI 0 b)),(6,(encL cI 0 rtrim)),(7,(.os 0 0 ((q.set ((i).toNat) lo).length))),(8,(aI i)),(9,(aI lo))],[(0,aO 1 cI 0 (q.set ((i).toNat) lo))],129⟩ (C_91 31310) [] [] (kp [0,1,6] ++ [(7,.osl ((q.set ((i).toNat) lo).length))] ++ kp [8,9]) [(0,.arr 0 ((q.set ((i).toNat) lo).length) (fun zi=>cI ((q.set ((i).toNat) lo).getD zi 0)))] 129 [0≤i∧i < ((q.length:Nat):Int),(i).toNat < q.length,q.length=(q.set ((i).toNat) lo).length,q.length=(q.set ((i).toNat) lo).length,∀ zi,zi < (q.set ((i).toNat) lo).length→(fun zi=>cI ((q.set ((i).toNat) lo).getD zi 0)) zi=((fun zm=>if zm=(i).toNat then [(aI lo)] else (fun zi=>cI (q.getD zi 0)) zm)) zi] ⟨c4,(ltOf c4),(len_set_raw rfl),(len_set_raw rfl),(get_set_raw cI 0 q ((i).toNat) lo (fun _ _=>rfl)),trivial⟩ ?_
   refine sA 1 [.code (C_91 62622),.code (C_91 62623),.inBlock 1,.code (C_91 979),.inLoop (C_91 244),.inBlock 0,.code (C_91 31)] ?_
   refine sR hE ⟨[(0,(encL cI 0 a)),(1,(encL cI 0 b)),(6,(encL cI 0 rtrim)),(7,(.os 0 0 ((q.set ((i).toNat) lo).length))),(8,(aI i)),(9,(aI lo)),(53,(aB (decide (lo > 0))))],[(0,aO 1 cI 0 (q.set ((i).toNat) lo))],161⟩ (C_91 62622) [] [] (kp [0,1,6,7,8,9,53]) (kq [0]) 161 [] trivial ?_
   refine sC 53 (C_91 125246) (C_91 125247) (decide (lo > 0)) (fun hq5=>?_) (fun hq5=>?_)
   ·have h:=condT h hq5
    obtain ⟨rtimes2,hr4,h⟩:=bindSome h
    obtain ⟨rminus,hr5,h⟩:=bindSome h
    refine sR hE ⟨[(0,(encL cI 0 a)),(1,(encL cI 0 b)),(6,(encL cI 0 rminus)),(7,(.os 0 0 ((q.set ((i).toNat) lo).length))),(8,(aI i))],[(0,aO 1 cI 0 (q.set ((i).toNat) lo))],273⟩ (C_91 125246) [(4,⟨[],true,(encL cI 0 rtimes2),[],0,true,none⟩),(5,⟨[],true,(encL cI 0 rminus),[],0,false,none⟩)] [] (kp [0,1,6,7,8]) (kq [0]) 273 [Sd 125 [(encL cI 0 b),(.sl 1 (fun zi=>(fun zi=>([[(aI lo)]]:List (List AV)).getD zi []) (addz 0 zi)))] [] 0 (encL cI 0 rtimes2) [],0+1≤1,Sd 124 [(encL cI 0 rtrim),(encL cI 0 rtimes2)] [] 0 (encL cI 0 rminus) []] ⟨(Sound.conv (g_r01_times_ok N b ([lo]:List Int) rtimes2 hr4) (.cons (Alike.refl _) (.cons (Alike.sl rfl (fun zq hzq=>get_chunk cI 0 ([lo]:List Int) zq hzq)) .nil))),z0,(g_r01_minus_ok N rtrim rtimes2 rminus hr5),trivial⟩ ?_
    refine sA 1 [.code (C_91 979),.inLoop (C_91 244),.inBlock 0,.code (C_91 31)] ?_
    exact sW hE _ [] (kp [0,1,6,7,8]) (kq [0]) 1 [] trivial (g_r01_over_J3_ok N a b q i lo K_g_r01_over_L1 hK_g_r01_over_L1 rminus _ h E hE)
   ·have h:=condF h hq5
    refine sA 2 [.code (C_91 979),.inLoop (C_91 244),.inBlock 0,.code (C_91 31)] ?_
    exact sW hE _ [] (kp [0,1,6,7,8]) (kq [0]) 1 [] trivial (g_r01_over_J3_ok N a b q i lo K_g_r01_over_L1 hK_g_r01_over_L1 rtrim _ h E hE)
theorem g_r01_over_L1_ok (N:Nat) (a:List Int) (b:List Int) (fuel:Nat):∀ (rest:List Int) (q:List Int) (i:Int) (r:(List Int)×(List Int)),g_r01_over_L1 N a b fuel rest q i=some r→∀ E,EnvOk E 0→Runs Tryz.prog E 121 63 (SPost E [] (.tup [(encL cI 0 r.1),(encL cI 0 r.2)])) [.code (C_91 244),.inLoop (C_91 244),.inBlock 0,.code (C_91 31)] ⟨[(0,(encL cI 0 a)),(1,(encL cI 0 b)),(6,(encL cI 0 rest)),(7,(.os 0 0 q.length)),(8,(aI i))],[(0,aO 1 cI 0 q)],1⟩:=by
 induction fuel with
 | zero=>intro _ _ _ r h;rw [g_r01_over_L1.eq_1] at h;cases h
 | succ fuel ih =>
  intro rest q i r h E hE
  rw [g_r01_over_L1.eq_2] at h
  refine sA 2 [.code (C_91 976),.code (C_91 977),.code (C_91 489),.inLoop (C_91 244),.inBlock 0,.code (C_91 31)] ?_
  refine sR hE ⟨[(0,(encL cI 0 a)),(1,(encL cI 0 b)),(6,(encL cI 0 rest)),(7,(.os 0 0 q.length)),(8,(aI i)),(19,(aB (decide (i≥0))))],[(0,aO 1 cI 0 q)],33⟩ (C_91 976) [] [] (kp [0,1,6,7,8,19]) (kq [0]) 33 [] trivial ?_
  refine sC 19 (C_91 1954) (C_91 1955) (decide (i≥0)) (fun hq2=>?_) (fun hq2=>?_)
  ·have h:=condT h hq2
   refine sA 4 [.code (C_91 3912),.code (C_91 3913),.inBlock 1,.code (C_91 979),.inLoop (C_91 244),.inBlock 0,.code (C_91 31)] ?_
   obtain ⟨c2,h⟩:=ifSome h
   obtain ⟨c3,h⟩:=ifSome h
   obtain ⟨rtrim,hr,h⟩:=bindSome h
   refine sR hE ⟨[(0,(encL cI 0 a)),(1,(encL cI 0 b)),(6,(encL cI 0 rtrim)),(7,(.os 0 0 q.length)),(8,(aI i))],[(0,aO 1 cI 0 q)],177⟩ (C_91 3912) [(7,⟨[],true,(encL cI 0 rtrim),[],0,true,none⟩)] [] (kp [0,1,6,7,8]) (kq [0]) 177 [0≤i∧i < ((a.length:Nat):Int),1=1,(1+rest.length) * 8≤140737488355328,∀ zi,zi < rest.length→AV.oneL ((fun zi=>cI (rest.getD zi 0)) zi)=true,Sd 131 [(.sl (1+rest.length) (fun zi=>((fun zm=>if zm < 1 then (fun zi=>([[(aI (a.getD ((i).toNat) 0))]]:List (List AV)).getD zi []) zm else (fun zi=>cI (rest.getD zi 0)) (zm - 1))) (addz 0 zi)))] [] 0 (encL cI 0 rtrim) [],0+(1+rest.length)≤1+rest.length] ⟨c2,rfl,c3,(fun _ _=>rfl),(Sound.conv (g_r01_trim_ok N (([(a.getD ((i).toNat) 0)]:List Int) ++ rest) rtrim hr) (.cons (Alike.sl (len_app_raw rfl rfl) (get_app_raw cI 0 ([(a.getD ((i).toNat) 0)]:List Int) rest rfl (fun zq hzq=>get_chunk cI 0 ([(a.getD ((i).toNat) 0)]:List Int) zq hzq) (fun _ _=>rfl))) .nil)),z0,trivial⟩ ?_
   refine sA 1 [.code (C_91 7826),.code (C_91 7827),.inBlock 1,.code (C_91 979),.inLoop (C_91 244),.inBlock 0,.code (C_91 31)] ?_
   refine sR hE ⟨[(0,(encL cI 0 a)),(1,(encL cI 0 b)),(6,(encL cI 0 rtrim)),(7,(.os 0 0 q.length)),(8,(aI i)),(9,(aI 0)),(10,(aI 65535))],[(0,aO 1 cI 0 q)],209⟩ (C_91 7826) [] [] (kp [0,1,6,7,8,9,10]) (kq [0]) 209 [] trivial ?_
   refine sA 3 [.code (C_91 62616),.inLoop (C_91 62616),.inBlock 2,.code (C_91 15655),.inBlock 1,.code (C_91 979),.inLoop (C_91 244),.inBlock 0,.code (C_91 31)] ?_
   exact sW hE _ [] (kp [0,1,6,7,8,9,10]) (kq [0]) 1 [] trivial (g_r01_over_L2_ok N a b q i rtrim (g_r01_over_L1 N a b fuel) ih N 0 65535 _ h E hE)
  ·have h:=condF h hq2
   refine sA 2 [.code (C_91 62),.code (C_91 63)] ?_
   obtain ⟨rtrim2,hr6,h⟩:=bindSome h
   refine sR hE ⟨[(4,(encL cI 0 rtrim2)),(5,(encL cI 0 rest))],[],113⟩ (C_91 62) [(1,⟨[],true,(encL cI 0 rtrim2),[],0,true,none⟩)] [] (kp [4,5]) [] 113 [Sd 131 [(encL cI 0 q)] [] 0 (encL cI 0 rtrim2) [],0+q.length≤q.length] ⟨(g_r01_trim_ok N q rtrim2 hr6),z0,trivial⟩ ?_
   obtain rfl:=Option.some.inj h
   refine sW hE ⟨[(4,(encL cI 0 rtrim2)),(5,(encL cI 0 rest))],[],113⟩ [] (kp [4,5]) [] 113 [] trivial ?_
   exact sT Tryz.f121 [] [] trivial
theorem g_r01_over_ok (N:Nat) (a:List Int) (b:List Int) (r:(List Int)×(List Int)) (h:g_r01_over N a b=some r):Sd 121 [(encL cI 0 a),(encL cI 0 b)] [] 0 (.tup [(encL cI 0 r.1),(encL cI 0 r.2)]) []:=by
 unfold g_r01_over at h
 refine Sound.of_runs (fu:=Tryz.f121) (c:=C_91 1) (nt:=63) (by kernel_rfl) (by kernel_rfl) (by kernel_rfl) (by kernel_rfl) (fun hm=>rfl) ?_
 intro E hE
 refine sA 1 [.code (C_91 2),.code (C_91 3)] ?_
 refine sR hE ⟨[(0,(encL cI 0 a)),(1,(encL cI 0 b))],[],32⟩ (C_91 2) [] [] (kp [0,1]) [] 32 [] trivial ?_
 refine sA 1 [.code (C_91 6),.code (C_91 7)] ?_
 refine sR hE ⟨[(0,(encL cI 0 a)),(1,(encL cI 0 b)),(6,.nil)],[],48⟩ (C_91 6) [] [] (kp [0,1,6]) [] 48 [] trivial ?_
 refine sA 1 [.code (C_91 14),.code (C_91 15)] ?_
 obtain ⟨c,h⟩:=ifSome h
 refine sR hE ⟨[(0,(encL cI 0 a)),(1,(encL cI 0 b)),(6,.nil),(7,(.os 80 0 ((List.replicate a.length 0:List Int).length)))],[(80,aO 1 cI 0 (List.replicate a.length 0:List Int))],112⟩ (C_91 14) [] [] (kp [0,1,6] ++ [(7,.osl ((List.replicate a.length 0:List Int).length))]) [(80,.arr 80 ((List.replicate a.length 0:List Int).length) (fun zi=>cI ((List.replicate a.length 0:List Int).getD zi 0)))] 112 [0≤((a.length:Nat):Int),((a.length:Nat):Int)≤((a.length:Nat):Int),(8:Int) * ((a.length:Nat):Int)≤281474976710656,((a.length:Nat):Int)≤9223372036854775807,a.length=(List.replicate a.length 0:List Int).length,a.length=(List.replicate a.length 0:List Int).length,∀ zi,zi < (List.replicate a.length 0:List Int).length→(fun zi=>cI ((List.replicate a.length 0:List Int).getD zi 0)) zi=(fun _=>[(aI 0)]) zi] ⟨c.1,(Int.le_refl _),c.2.1,c.2.2,(List.length_replicate).symm,(List.length_replicate).symm,(fun zq hzq=>get_rep cI 0 0 a.length zq hzq),trivial⟩ ?_
 refine sA 2 [.code (C_91 60),.code (C_91 61),.code (C_91 31)] ?_
 refine sR hE ⟨[(0,(encL cI 0 a)),(1,(encL cI 0 b)),(6,.nil),(7,(.os 80 0 ((List.replicate a.length 0:List Int).length))),(8,(aI (w64 (((a.length:Nat):Int) - 1))))],[(80,aO 1 cI 0 (List.replicate a.length 0:List Int))],176⟩ (C_91 60) [] [] (kp [0,1,6,7,8]) (kq [80]) 176 [] trivial ?_
 refine sA 2 [.code (C_91 244),.inLoop (C_91 244),.inBlock 0,.code (C_91 31)] ?_
 exact sW hE _ [] (kp [0,1] ++ [(6,.sl (([]:List Int).length) (fun zi=>cI (([]:List Int).getD zi 0)))] ++ kp [7,8]) [(0,.keep 80)] 1 [([]:List Int).length=0] ⟨rfl,trivial⟩ (g_r01_over_L1_ok N a b N ([]:List Int) (List.replicate a.length 0:List Int) (w64 (((a.length:Nat):Int) - 1)) _ h E hE)
noncomputable def C_90 (n:Nat):Code:=cat (bodyOf Tryz.f120) (pth n)
theorem g_r01_gcd_L1_ok (N:Nat) (fuel:Nat):∀ (a2:List Int) (b2:List Int) (r:(List Int)),g_r01_gcd_L1 N fuel a2 b2=some r→∀ E,EnvOk E 0→Runs Tryz.prog E 120 19 (SPost E [] (encL cI 0 r)) [.code (C_90 24),.inLoop (C_90 24),.inBlock 0,.code (C_90 7)] ⟨[(0,(encL cI 0 a2)),(1,(encL cI 0 b2))],[],0⟩:=by
 induction fuel with
 | zero=>intro _ _ r h;rw [g_r01_gcd_L1.eq_1] at h;cases h
 | succ fuel ih =>
  intro a2 b2 r h E hE
  rw [g_r01_gcd_L1.eq_2] at h
  refine sA 2 [.code (C_90 96),.code (C_90 97),.code (C_90 49),.inLoop (C_90 24),.inBlock 0,.code (C_90 7)] ?_
  refine sR hE ⟨[(0,(encL cI 0 a2)),(1,(encL cI 0 b2)),(9,(aB (decide (((b2.length:Nat):Int) > 0))))],[],48⟩ (C_90 96) [] [] (kp [0,1,9]) [] 48 [] trivial ?_
  refine sC 9 (C_90 194) (C_90 195) (decide (((b2.length:Nat):Int) > 0)) (fun hq2=>?_) (fun hq2=>?_)
  ·have h:=condT h hq2
   refine sA 3 [.code (C_90 196),.code (C_90 197),.inBlock 1,.inLoop (C_90 24),.inBlock 0,.code (C_90 7)] ?_
   obtain ⟨rover,hr,h⟩:=bindSome h
   refine sR hE ⟨[(1,(encL cI 0 b2)),(6,(encL cI 0 rover.2))],[],176⟩ (C_90 196) [(2,⟨[],true,(.tup [(encL cI 0 rover.1),(encL cI 0 rover.2)]),[],0,false,none⟩)] [] (kp [1,6]) [] 176 [Sd 121 [(encL cI 0 a2),(encL cI 0 b2)] [] 0 (.tup [(encL cI 0 rover.1),(encL cI 0 rover.2)]) []] ⟨(g_r01_over_ok N a2 b2 rover hr),trivial⟩ ?_
   refine sR hE ⟨[(0,(encL cI 0 b2)),(1,(encL cI 0 rover.2))],[],240⟩ (C_90 197) [] [] (kp [0,1]) [] 240 [] trivial ?_
   refine sA 2 [.code (C_90 24),.inLoop (C_90 24),.inBlock 0,.code (C_90 7)] ?_
   exact sW hE _ [] (kp [0,1]) [] 0 [] trivial (ih b2 rover.2 _ h E hE)
  ·have h:=condF h hq2
   refine sA 2 [.code (C_90 14),.code (C_90 15)] ?_
   refine sR hE ⟨[(4,(encL cI 0 a2))],[],80⟩ (C_90 14) [] [] (kp [4]) [] 80 [] trivial ?_
   obtain rfl:=Option.some.inj h
   refine sW hE ⟨[(4,(encL cI 0 a2))],[],80⟩ [] (kp [4]) [] 80 [] trivial ?_
   exact sT Tryz.f120 [] [] trivial
theorem g_r01_gcd_ok (N:Nat) (a:List Int) (b:List Int) (r:(List Int)) (h:g_r01_gcd N a b=some r):Sd 120 [(encL cI 0 a),(encL cI 0 b)] [] 0 (encL cI 0 r) []:=by
 unfold g_r01_gcd at h
 refine Sound.of_runs (fu:=Tryz.f120) (c:=C_90 1) (nt:=19) (by kernel_rfl) (by kernel_rfl) (by kernel_rfl) (by kernel_rfl) (fun hm=>rfl) ?_
 intro E hE
 refine sA 1 [.code (C_90 2),.code (C_90 3)] ?_
 refine sR hE ⟨[(0,(encL cI 0 a)),(1,(encL cI 0 b))],[],16⟩ (C_90 2) [] [] (kp [0,1]) [] 16 [] trivial ?_
 refine sA 3 [.code (C_90 24),.inLoop (C_90 24),.inBlock 0,.code (C_90 7)] ?_
 exact sW hE _ [] (kp [0,1]) [] 0 [] trivial (g_r01_gcd_L1_ok N N a b _ h E hE)
noncomputable def C_87 (n:Nat):Code:=cat (bodyOf Tryz.f105) (pth n)
theorem g_r01_Over_ok (N:Nat) (a:TInt) (b:TInt) (r:TRat) (h:g_r01_Over N a b=some r):Sd 105 [(.agg (TInt.cells a)),(.agg (TInt.cells b))] [] 0 (.agg (TRat.cells r)) []:=by
 unfold g_r01_Over at h
 refine Sound.of_runs (fu:=Tryz.f105) (c:=C_87 1) (nt:=52) (by kernel_rfl) (by kernel_rfl) (by kernel_rfl) (by kernel_rfl) (fun hm=>rfl) ?_
 intro E hE
 refine sA 1 [.code (C_87 2),.code (C_87 3)] ?_
 refine sR hE ⟨[(2,(.op 0 0 0)),(3,(.op 16 0 0)),(4,(.op 32 0 0))],[(0,vO 2 (TInt.cells a)),(16,vO 2 (TInt.cells b)),(32,vO 4 [(aB false),.nil,(aB false),.nil])],48⟩ (C_87 2) [] [] (kp [2,3,4]) (kq [0,16,32]) 48 [] trivial ?_
 refine sA 1 [.code (C_87 6),.code (C_87 7)] ?_
 obtain ⟨rread,hr,h⟩:=bindSome h
 obtain ⟨rread2,hr2,h⟩:=bindSome h
 refine sR hE ⟨[(2,(.op 0 0 0)),(3,(.op 16 0 0)),(4,(.op 32 0 0)),(5,(encL cI 0 rread)),(6,(encL cI 0 rread2))],[(0,vO 2 (TInt.cells a)),(16,vO 2 (TInt.cells b)),(32,vO 4 [(aB false),.nil,(aB false),.nil])],176⟩ (C_87 6) [(2,⟨[],true,(encL cI 0 rread),[],0,false,none⟩),(5,⟨[],true,(encL cI 0 rread2),[],0,false,none⟩)] [] (kp [2,3,4,5,6]) (kq [0,16,32]) 176 [0 < 1,Sd 119 [(eU a.fL)] [] 0 (encL cI 0 rread) [],0 < 1,Sd 119 [(eU b.fL)] [] 0 (encL cI 0 rread2) []] ⟨o1,(g_r01_read_ok N a.fL rread hr),o1,(g_r01_read_ok N b.fL rread2 hr2),trivial⟩ ?_
 refine sA 2 [.code (C_87 28),.code (C_87 29),.code (C_87 15)] ?_
 refine sR hE ⟨[(2,(.op 0 0 0)),(3,(.op 16 0 0)),(4,(.op 32 0 0)),(5,(encL cI 0 rread)),(6,(encL cI 0 rread2)),(20,(aB (((rread2.length:Nat):Int) == 0)))],[(0,vO 2 (TInt.cells a)),(16,vO 2 (TInt.cells b)),(32,vO 4 [(aB false),.nil,(aB false),.nil])],224⟩ (C_87 28) [] [] (kp [2,3,4,5,6,20]) (kq [0,16,32]) 224 [] trivial ?_
 refine sC 20 (C_87 58) (C_87 59) (((rread2.length:Nat):Int) == 0) (fun hq2=>?_) (fun hq2=>?_)
 ·have h:=condT h hq2
  refine sA 1 [.code (C_87 116),.code (C_87 117),.code (C_87 15)] ?_
  obtain ⟨rmade,hr3,h⟩:=bindSome h
  obtain ⟨rOf,hr4,h⟩:=bindSome h
  refine sR hE ⟨[(4,(.op 32 0 0))],[(32,vO 4 [(aB rmade.fG),(eU rmade.fL),(aB rOf.fG),(eU rOf.fL)])],336⟩ (C_87 116) [(3,⟨[],true,(.agg (TInt.cells rmade)),[],0,false,none⟩),(4,⟨[],true,(.agg (TInt.cells rOf)),[],0,false,none⟩)] [] (kp [4]) (kq [32]) 336 [0 < 1,Sd 118 [(aB a.fG),(encL cI 0 rread)] [] 0 (.agg (TInt.cells rmade)) [],Sd 103 [(aI 1)] [] 0 (.agg (TInt.cells rOf)) [],0 < 1] ⟨o1,(g_r01_made_ok N a.fG rread rmade hr3),(g_r01_Of_ok N 1 rOf hr4),o1,trivial⟩ ?_
  obtain rfl:=Option.some.inj h
  refine sW hE ⟨[(4,(.op 16 0 0))],[(16,vO 4 [(aB rmade.fG),(eU rmade.fL),(aB rOf.fG),(eU rOf.fL)])],336⟩ [] (kp [4]) [(16,.keep 32)] 336 [] trivial ?_
  exact sT Tryz.f105 [16] [0 < 1] ⟨o1,trivial⟩
 ·have h:=condF h hq2
  refine sA 2 [.code (C_87 30),.code (C_87 31)] ?_
  obtain ⟨rgcd,hr5,h⟩:=bindSome h
  refine sR hE ⟨[(2,(.op 0 0 0)),(3,(.op 16 0 0)),(4,(.op 32 0 0)),(5,(encL cI 0 rread)),(6,(encL cI 0 rread2)),(7,(encL cI 0 rgcd))],[(0,vO 2 (TInt.cells a)),(16,vO 2 (TInt.cells b)),(32,vO 4 [(aB false),.nil,(aB false),.nil])],288⟩ (C_87 30) [(2,⟨[],true,(encL cI 0 rgcd),[],0,false,none⟩)] [] (kp [2,3,4,5,6,7]) (kq [0,16,32]) 288 [Sd 120 [(encL cI 0 rread),(encL cI 0 rread2)] [] 0 (encL cI 0 rgcd) []] ⟨(g_r01_gcd_ok N rread rread2 rgcd hr5),trivial⟩ ?_
  refine sA 1 [.code (C_87 62),.code (C_87 63)] ?_
  obtain ⟨rover,hr6,h⟩:=bindSome h
  refine sR hE ⟨[(2,(.op 0 0 0)),(3,(.op 16 0 0)),(4,(.op 32 0 0)),(6,(encL cI 0 rread2)),(7,(encL cI 0 rgcd)),(8,(encL cI 0 rover.1))],[(0,vO 2 (TInt.cells a)),(16,vO 2 (TInt.cells b)),(32,vO 4 [(aB false),.nil,(aB false),.nil])],416⟩ (C_87 62) [(2,⟨[],true,(.tup [(encL cI 0 rover.1),(encL cI 0 rover.2)]),[],0,false,none⟩)] [] (kp [2,3,4,6,7,8]) (kq [0,16,32]) 416 [Sd 121 [(encL cI 0 rread),(encL cI 0 rgcd)] [] 0 (.tup [(encL cI 0 rover.1),(encL cI 0 rover.2)]) []] ⟨(g_r01_over_ok N rread rgcd rover hr6),trivial⟩ ?_
  refine sA 1 [.code (C_87 126),.code (C_87 127)] ?_
  obtain ⟨rover2,hr7,h⟩:=bindSome h
  refine sR hE ⟨[(2,(.op 0 0 0)),(3,(.op 16 0 0)),(4,(.op 32 0 0)),(8,(encL cI 0 rover.1)),(10,(encL cI 0 rover2.1))],[(0,vO 2 (TInt.cells a)),(16,vO 2 (TInt.cells b)),(32,vO 4 [(aB false),.nil,(aB false),.nil])],544⟩ (C_87 126) [(2,⟨[],true,(.tup [(encL cI 0 rover2.1),(encL cI 0 rover2.2)]),[],0,false,none⟩)] [] (kp [2,3,4,8,10]) (kq [0,16,32]) 544 [Sd 121 [(encL cI 0 rread2),(encL cI 0 rgcd)] [] 0 (.tup [(encL cI 0 rover2.1),(encL cI 0 rover2.2)]) []] ⟨(g_r01_over_ok N rread2 rgcd rover2 hr7),trivial⟩ ?_
  refine sA 1 [.code (C_87 254),.code (C_87 255)] ?_
  obtain ⟨rmade2,hr8,h⟩:=bindSome h
  obtain ⟨rmade3,hr9,h⟩:=bindSome h
  refine sR hE ⟨[(4,(.op 32 0 0))],[(32,vO 4 [(aB rmade2.fG),(eU rmade2.fL),(aB rmade3.fG),(eU rmade3.fL)])],720⟩ (C_87 254) [(6,⟨[],true,(.agg (TInt.cells rmade2)),[],0,false,none⟩),(8,⟨[],true,(.agg (TInt.cells rmade3)),[],0,false,none⟩)] [] (kp [4]) (kq [32]) 720 [0 < 1,0 < 1,Sd 118 [(aB (!(a.fG == b.fG))),(encL cI 0 rover.1)] [] 0 (.agg (TInt.cells rmade2)) [],Sd 118 [(aB false),(encL cI 0 rover2.1)] [] 0 (.agg (TInt.cells rmade3)) [],0 < 1] ⟨o1,o1,(g_r01_made_ok N (!(a.fG == b.fG)) rover.1 rmade2 hr8),(g_r01_made_ok N false rover2.1 rmade3 hr9),o1,trivial⟩ ?_
  obtain rfl:=Option.some.inj h
  refine sW hE ⟨[(4,(.op 16 0 0))],[(16,vO 4 [(aB rmade2.fG),(eU rmade2.fL),(aB rmade3.fG),(eU rmade3.fL)])],720⟩ [] (kp [4]) [(16,.keep 32)] 720 [] trivial ?_
  exact sT Tryz.f105 [16] [0 < 1] ⟨o1,trivial⟩
noncomputable def C_86 (n:Nat):Code:=cat (bodyOf Tryz.f104) (pth n)
theorem g_r01_NormRat_ok (N:Nat) (x:TRat) (r:TRat) (h:g_r01_NormRat N x=some r):Sd 104 [(.agg (TRat.cells x))] [] 0 (.agg (TRat.cells r)) []:=by
 unfold g_r01_NormRat at h
 refine Sound.of_runs (fu:=Tryz.f104) (c:=C_86 1) (nt:=8) (by kernel_rfl) (by kernel_rfl) (by kernel_rfl) (by kernel_rfl) (fun hm=>rfl) ?_
 intro E hE
 refine sA 1 [.code (C_86 2),.code (C_86 3)] ?_
 refine sR hE ⟨[(1,(.op 0 0 0)),(2,(.op 16 0 0))],[(0,vO 4 (TRat.cells x)),(16,vO 4 [(aB false),.nil,(aB false),.nil])],32⟩ (C_86 2) [] [] (kp [1,2]) (kq [0,16]) 32 [] trivial ?_
 refine sA 1 [.code (C_86 6),.code (C_86 7)] ?_
 obtain ⟨rOver,hr,h⟩:=bindSome h
 refine sR hE ⟨[(2,(.op 16 0 0))],[(16,vO 4 (TRat.cells rOver))],128⟩ (C_86 6) [(4,⟨[],true,(.agg (TRat.cells rOver)),[],0,false,none⟩)] [] (kp [2]) (kq [16]) 128 [0 < 1,0 < 1,Sd 105 [(.agg (TInt.cells x.fN)),(.agg (TInt.cells x.fD))] [] 0 (.agg (TRat.cells rOver)) [],0 < 1] ⟨o1,o1,(g_r01_Over_ok N x.fN x.fD rOver hr),o1,trivial⟩ ?_
 obtain rfl:=Option.some.inj h
 refine sW hE ⟨[(2,(.op 16 0 0))],[(16,vO 4 (TRat.cells rOver))],128⟩ [] (kp [2]) (kq [16]) 128 [] trivial ?_
 exact sT Tryz.f104 [16] [0 < 1] ⟨o1,trivial⟩
noncomputable def C_96 (n:Nat):Code:=cat (bodyOf Tryz.f107) (pth n)
theorem g_r01_Mul_ok (N:Nat) (a:TInt) (b:TInt) (r:TInt) (h:g_r01_Mul N a b=some r):Sd 107 [(.agg (TInt.cells a)),(.agg (TInt.cells b))] [] 0 (.agg (TInt.cells r)) []:=by
 unfold g_r01_Mul at h
 refine Sound.of_runs (fu:=Tryz.f107) (c:=C_96 1) (nt:=18) (by kernel_rfl) (by kernel_rfl) (by kernel_rfl) (by kernel_rfl) (fun hm=>rfl) ?_
 intro E hE
 refine sA 1 [.code (C_96 2),.code (C_96 3)] ?_
 refine sR hE ⟨[(2,(.op 0 0 0)),(3,(.op 16 0 0)),(4,(.op 32 0 0))],[(0,vO 2 (TInt.cells a)),(16,vO 2 (TInt.cells b)),(32,vO 2 [(aB false),.nil])],48⟩ (C_96 2) [] [] (kp [2,3,4]) (kq [0,16,32]) 48 [] trivial ?_
 refine sA 1 [.code (C_96 6),.code (C_96 7)] ?_
 obtain ⟨rread,hr,h⟩:=bindSome h
 obtain ⟨rread2,hr2,h⟩:=bindSome h
 obtain ⟨rtimes,hr3,h⟩:=bindSome h
 obtain ⟨rmade,hr4,h⟩:=bindSome h
 refine sR hE ⟨[(4,(.op 32 0 0))],[(32,vO 2 (TInt.cells rmade))],272⟩ (C_96 6) [(7,⟨[],true,(encL cI 0 rread),[],0,false,none⟩),(10,⟨[],true,(encL cI 0 rread2),[],0,false,none⟩),(11,⟨[],true,(encL cI 0 rtimes),[],0,false,none⟩),(12,⟨[],true,(.agg (TInt.cells rmade)),[],0,false,none⟩)] [] (kp [4]) (kq [32]) 272 [0 < 1,0 < 1,0 < 1,Sd 119 [(eU a.fL)] [] 0 (encL cI 0 rread) [],0 < 1,Sd 119 [(eU b.fL)] [] 0 (encL cI 0 rread2) [],Sd 125 [(encL cI 0 rread),(encL cI 0 rread2)] [] 0 (encL cI 0 rtimes) [],Sd 118 [(aB (!(a.fG == b.fG))),(encL cI 0 rtimes)] [] 0 (.agg (TInt.cells rmade)) [],0 < 1] ⟨o1,o1,o1,(g_r01_read_ok N a.fL rread hr),o1,(g_r01_read_ok N b.fL rread2 hr2),(g_r01_times_ok N rread rread2 rtimes hr3),(g_r01_made_ok N (!(a.fG == b.fG)) rtimes rmade hr4),o1,trivial⟩ ?_
 obtain rfl:=Option.some.inj h
 refine sW hE ⟨[(4,(.op 16 0 0))],[(16,vO 2 (TInt.cells rmade))],272⟩ [] (kp [4]) [(16,.keep 32)] 272 [] trivial ?_
 exact sT Tryz.f107 [16] [0 < 1] ⟨o1,trivial⟩
noncomputable def C_98 (n:Nat):Code:=cat (bodyOf Tryz.f122) (pth n)
theorem g_r01_plus_L1_ok (N:Nat) (a:List Int) (b:List Int) (fuel:Nat):∀ (out:List Int) (carry:Int) (i:Int) (r:(List Int)),g_r01_plus_L1 N a b fuel out carry i=some r→∀ E,EnvOk E 0→Runs Tryz.prog E 122 43 (SPost E [] (encL cI 0 r)) [.code (C_98 244),.inLoop (C_98 244),.inBlock 0,.code (C_98 31)] ⟨[(0,(encL cI 0 a)),(1,(encL cI 0 b)),(5,(.os 0 0 out.length)),(6,(aI carry)),(7,(aI i))],[(0,aO 1 cI 0 out)],1⟩:=by
 induction fuel with
 | zero=>intro _ _ _ r h;rw [g_r01_plus_L1.eq_1] at h;cases h
 | succ fuel ih =>
  intro out carry i r h E hE
  rw [g_r01_plus_L1.eq_2] at h
  refine sA 2 [.code (C_98 976),.code (C_98 977),.code (C_98 489),.inLoop (C_98 244),.inBlock 0,.code (C_98 31)] ?_
  refine sR hE ⟨[(0,(encL cI 0 a)),(1,(encL cI 0 b)),(5,(.os 0 0 out.length)),(6,(aI carry)),(7,(aI i)),(22,(aB (cond (cond (decide (i < ((a.length:Nat):Int))) true (decide (i < ((b.length:Nat):Int)))) true (decide (carry > 0)))))],[(0,aO 1 cI 0 out)],225⟩ (C_98 976) [] [] (kp [0,1,5,6,7,22]) (kq [0]) 225 [(!(decide (i < ((a.length:Nat):Int))))=true→AllP [(!(decide (i < ((a.length:Nat):Int))))=true],(!(decide (i < ((a.length:Nat):Int))))=true→AllP [(!(decide (i < ((a.length:Nat):Int))))=true,(!(decide (i < ((a.length:Nat):Int))))=true],(!(decide (i < ((a.length:Nat):Int))))=true→AllP [(!(decide (i < ((a.length:Nat):Int))))=true],(!(cond (decide (i < ((a.length:Nat):Int))) true (decide (i < ((b.length:Nat):Int)))))=true→AllP [(!(cond (decide (i < ((a.length:Nat):Int))) true (decide (i < ((b.length:Nat):Int)))))=true],(!(cond (decide (i < ((a.length:Nat):Int))) true (decide (i < ((b.length:Nat):Int)))))=true→AllP [(!(cond (decide (i < ((a.length:Nat):Int))) true (decide (i < ((b.length:Nat):Int)))))=true]] ⟨(fun hg=>⟨hg,trivial⟩),(fun hg=>⟨hg,hg,trivial⟩),(fun hq=>⟨hq,trivial⟩),(fun hg=>⟨hg,trivial⟩),(fun hq=>⟨hq,trivial⟩),trivial⟩ ?_
  refine sC 22 (C_98 1954) (C_98 1955) (cond (cond (decide (i < ((a.length:Nat):Int))) true (decide (i < ((b.length:Nat):Int)))) true (decide (carry > 0))) (fun hq2=>?_) (fun hq2=>?_)
  ·have h:=condT h hq2
   refine sA 4 [.code (C_98 3912),.code (C_98 3913),.inBlock 1,.code (C_98 979),.inLoop (C_98 244),.inBlock 0,.code (C_98 31)] ?_
   obtain ⟨rdigit,hr,h⟩:=bindSome h
   obtain ⟨rdigit2,hr2,h⟩:=bindSome h
   refine sR hE ⟨[(0,(encL cI 0 a)),(1,(encL cI 0 b)),(5,(.os 0 0 out.length)),(7,(aI i)),(8,(aI (w64 ((w64 (rdigit+rdigit2))+carry))))],[(0,aO 1 cI 0 out)],385⟩ (C_98 3912) [(2,⟨[],true,(aI rdigit),[],0,false,none⟩),(5,⟨[],true,(aI rdigit2),[],0,false,none⟩)] [] (kp [0,1,5,7,8]) (kq [0]) 385 [Sd 132 [(encL cI 0 a),(aI i)] [] 0 (aI rdigit) [],Sd 132 [(encL cI 0 b),(aI i)] [] 0 (aI rdigit2) []] ⟨(g_r01_digit_ok N a i rdigit hr),(g_r01_digit_ok N b i rdigit2 hr2),trivial⟩ ?_
   refine sA 1 [.code (C_98 7826),.code (C_98 7827),.inBlock 1,.code (C_98 979),.inLoop (C_98 244),.inBlock 0,.code (C_98 31)] ?_
   obtain ⟨c,h⟩:=ifSome h
   refine sR hE ⟨[(0,(encL cI 0 a)),(1,(encL cI 0 b)),(5,(.os 449 0 ((out ++ ([((w64 ((w64 (rdigit+rdigit2))+carry)).tmod 65536)]:List Int)).length))),(7,(aI i)),(8,(aI (w64 ((w64 (rdigit+rdigit2))+carry))))],[(449,aO 1 cI 0 (out ++ ([((w64 ((w64 (rdigit+rdigit2))+carry)).tmod 65536)]:List Int)))],481⟩ (C_98 7826) [] [] (kp [0,1] ++ [(5,.osl ((out ++ ([((w64 ((w64 (rdigit+rdigit2))+carry)).tmod 65536)]:List Int)).length))] ++ kp [7,8]) [(449,.arr 449 ((out ++ ([((w64 ((w64 (rdigit+rdigit2))+carry)).tmod 65536)]:List Int)).length) (fun zi=>cI ((out ++ ([((w64 ((w64 (rdigit+rdigit2))+carry)).tmod 65536)]:List Int)).getD zi 0)))] 481 [(65536:Int)≠0,out.length=out.length,(out.length+1) * 8≤140737488355328,0+1≤1,∀ zi,zi < 1→AV.oneL ((fun zi=>([[(aI ((w64 ((w64 (rdigit+rdigit2))+carry)).tmod 65536))]]:List (List AV)).getD zi []) (addz 0 zi))=true,(out.length+1)=(out ++ ([((w64 ((w64 (rdigit+rdigit2))+carry)).tmod 65536)]:List Int)).length,out.length+1=(out ++ ([((w64 ((w64 (rdigit+rdigit2))+carry)).tmod 65536)]:List Int)).length,∀ zi,zi < (out ++ ([((w64 ((w64 (rdigit+rdigit2))+carry)).tmod 65536)]:List Int)).length→(fun zi=>cI ((out ++ ([((w64 ((w64 (rdigit+rdigit2))+carry)).tmod 65536)]:List Int)).getD zi 0)) zi=((fun zm=>if zm < out.length then (fun zi=>cI (out.getD zi 0)) zm else (fun zi=>([[(aI ((w64 ((w64 (rdigit+rdigit2))+carry)).tmod 65536))]]:List (List AV)).getD zi []) (zm - out.length))) zi] ⟨(by decide),rfl,c,z0,(oneN rfl),(len_app_raw rfl rfl),(len_app_raw rfl rfl),(get_app_raw cI 0 out ([((w64 ((w64 (rdigit+rdigit2))+carry)).tmod 65536)]:List Int) rfl (fun _ _=>rfl) (fun zq hzq=>get_chunk cI 0 ([((w64 ((w64 (rdigit+rdigit2))+carry)).tmod 65536)]:List Int) zq hzq)),trivial⟩ ?_
   refine sR hE ⟨[(0,(encL cI 0 a)),(1,(encL cI 0 b)),(5,(.os 449 0 ((out ++ ([((w64 ((w64 (rdigit+rdigit2))+carry)).tmod 65536)]:List Int)).length))),(6,(aI (w64 ((w64 ((w64 (rdigit+rdigit2))+carry)).tdiv 65536)))),(7,(aI i))],[(449,aO 1 cI 0 (out ++ ([((w64 ((w64 (rdigit+rdigit2))+carry)).tmod 65536)]:List Int)))],529⟩ (C_98 7827) [] [] (kp [0,1,5,6,7]) (kq [449]) 529 [(65536:Int)≠0] ⟨(by decide),trivial⟩ ?_
   refine sA 1 [.code (C_98 979),.inLoop (C_98 244),.inBlock 0,.code (C_98 31)] ?_
   refine sR hE ⟨[(0,(encL cI 0 a)),(1,(encL cI 0 b)),(5,(.os 449 0 ((out ++ ([((w64 ((w64 (rdigit+rdigit2))+carry)).tmod 65536)]:List Int)).length))),(6,(aI (w64 ((w64 ((w64 (rdigit+rdigit2))+carry)).tdiv 65536)))),(7,(aI (w64 (i+1))))],[(449,aO 1 cI 0 (out ++ ([((w64 ((w64 (rdigit+rdigit2))+carry)).tmod 65536)]:List Int)))],577⟩ (C_98 979) [] [] (kp [0,1,5,6,7]) (kq [449]) 577 [] trivial ?_
   refine sA 1 [.code (C_98 244),.inLoop (C_98 244),.inBlock 0,.code (C_98 31)] ?_
   exact sW hE _ [] (kp [0,1,5,6,7]) [(0,.keep 449)] 1 [] trivial (ih (out ++ ([((w64 ((w64 (rdigit+rdigit2))+carry)).tmod 65536)]:List Int)) (w64 ((w64 ((w64 (rdigit+rdigit2))+carry)).tdiv 65536)) (w64 (i+1)) _ h E hE)
  ·have h:=condF h hq2
   refine sA 2 [.code (C_98 62),.code (C_98 63)] ?_
   obtain ⟨rtrim,hr3,h⟩:=bindSome h
   refine sR hE ⟨[(4,(encL cI 0 rtrim))],[],273⟩ (C_98 62) [(1,⟨[],true,(encL cI 0 rtrim),[],0,true,none⟩)] [] (kp [4]) [] 273 [Sd 131 [(encL cI 0 out)] [] 0 (encL cI 0 rtrim) [],0+out.length≤out.length] ⟨(g_r01_trim_ok N out rtrim hr3),z0,trivial⟩ ?_
   obtain rfl:=Option.some.inj h
   refine sW hE ⟨[(4,(encL cI 0 rtrim))],[],273⟩ [] (kp [4]) [] 273 [] trivial ?_
   exact sT Tryz.f122 [] [] trivial
theorem g_r01_plus_ok (N:Nat) (a:List Int) (b:List Int) (r:(List Int)) (h:g_r01_plus N a b=some r):Sd 122 [(encL cI 0 a),(encL cI 0 b)] [] 0 (encL cI 0 r) []:=by
 unfold g_r01_plus at h
 refine Sound.of_runs (fu:=Tryz.f122) (c:=C_98 1) (nt:=43) (by kernel_rfl) (by kernel_rfl) (by kernel_rfl) (by kernel_rfl) (fun hm=>rfl) ?_
 intro E hE
 refine sA 1 [.code (C_98 2),.code (C_98 3)] ?_
 refine sR hE ⟨[(0,(encL cI 0 a)),(1,(encL cI 0 b))],[],16⟩ (C_98 2) [] [] (kp [0,1]) [] 16 [] trivial ?_
 refine sA 1 [.code (C_98 6),.code (C_98 7)] ?_
 refine sR hE ⟨[(0,(encL cI 0 a)),(1,(encL cI 0 b)),(5,.nil)],[],32⟩ (C_98 6) [] [] (kp [0,1,5]) [] 32 [] trivial ?_
 refine sA 1 [.code (C_98 14),.code (C_98 15)] ?_
 refine sR hE ⟨[(0,(encL cI 0 a)),(1,(encL cI 0 b)),(5,.nil),(6,(aI 0))],[],48⟩ (C_98 14) [] [] (kp [0,1,5,6]) [] 48 [] trivial ?_
 refine sA 2 [.code (C_98 60),.code (C_98 61),.code (C_98 31)] ?_
 refine sR hE ⟨[(0,(encL cI 0 a)),(1,(encL cI 0 b)),(5,.nil),(6,(aI 0)),(7,(aI 0))],[],64⟩ (C_98 60) [] [] (kp [0,1,5,6,7]) [] 64 [] trivial ?_
 refine sA 2 [.code (C_98 244),.inLoop (C_98 244),.inBlock 0,.code (C_98 31)] ?_
 exact sW hE _ [] (kp [0,1] ++ [(5,.nilos 0)] ++ kp [6,7]) [(0,.nil 1 (fun zi=>cI (([]:List Int).getD zi 0)))] 1 [] trivial (g_r01_plus_L1_ok N a b N ([]:List Int) 0 0 _ h E hE)
noncomputable def C_97 (n:Nat):Code:=cat (bodyOf Tryz.f106) (pth n)
theorem g_r01_Add_ok (N:Nat) (a:TInt) (b:TInt) (r:TInt) (h:g_r01_Add N a b=some r):Sd 106 [(.agg (TInt.cells a)),(.agg (TInt.cells b))] [] 0 (.agg (TInt.cells r)) []:=by
 unfold g_r01_Add at h
 refine Sound.of_runs (fu:=Tryz.f106) (c:=C_97 1) (nt:=40) (by kernel_rfl) (by kernel_rfl) (by kernel_rfl) (by kernel_rfl) (fun hm=>rfl) ?_
 intro E hE
 refine sA 1 [.code (C_97 2),.code (C_97 3)] ?_
 refine sR hE ⟨[(2,(.op 0 0 0)),(3,(.op 16 0 0)),(4,(.op 32 0 0))],[(0,vO 2 (TInt.cells a)),(16,vO 2 (TInt.cells b)),(32,vO 2 [(aB false),.nil])],48⟩ (C_97 2) [] [] (kp [2,3,4]) (kq [0,16,32]) 48 [] trivial ?_
 refine sA 1 [.code (C_97 6),.code (C_97 7)] ?_
 obtain ⟨rread,hr,h⟩:=bindSome h
 obtain ⟨rread2,hr2,h⟩:=bindSome h
 refine sR hE ⟨[(2,(.op 0 0 0)),(3,(.op 16 0 0)),(4,(.op 32 0 0)),(5,(encL cI 0 rread)),(6,(encL cI 0 rread2))],[(0,vO 2 (TInt.cells a)),(16,vO 2 (TInt.cells b)),(32,vO 2 [(aB false),.nil])],176⟩ (C_97 6) [(2,⟨[],true,(encL cI 0 rread),[],0,false,none⟩),(5,⟨[],true,(encL cI 0 rread2),[],0,false,none⟩)] [] (kp [2,3,4,5,6]) (kq [0,16,32]) 176 [0 < 1,Sd 119 [(eU a.fL)] [] 0 (encL cI 0 rread) [],0 < 1,Sd 119 [(eU b.fL)] [] 0 (encL cI 0 rread2) []] ⟨o1,(g_r01_read_ok N a.fL rread hr),o1,(g_r01_read_ok N b.fL rread2 hr2),trivial⟩ ?_
 refine sA 2 [.code (C_97 28),.code (C_97 29),.code (C_97 15)] ?_
 refine sR hE ⟨[(2,(.op 0 0 0)),(3,(.op 16 0 0)),(4,(.op 32 0 0)),(5,(encL cI 0 rread)),(6,(encL cI 0 rread2)),(17,(aB (a.fG == b.fG)))],[(0,vO 2 (TInt.cells a)),(16,vO 2 (TInt.cells b)),(32,vO 2 [(aB false),.nil])],256⟩ (C_97 28) [] [] (kp [2,3,4,5,6,17]) (kq [0,16,32]) 256 [0 < 1,0 < 1] ⟨o1,o1,trivial⟩ ?_
 refine sC 17 (C_97 58) (C_97 59) (a.fG == b.fG) (fun hq2=>?_) (fun hq2=>?_)
 ·have h:=condT h hq2
  refine sA 1 [.code (C_97 116),.code (C_97 117),.code (C_97 15)] ?_
  obtain ⟨rplus,hr3,h⟩:=bindSome h
  obtain ⟨rmade,hr4,h⟩:=bindSome h
  refine sR hE ⟨[(4,(.op 32 0 0))],[(32,vO 2 (TInt.cells rmade))],368⟩ (C_97 116) [(4,⟨[],true,(encL cI 0 rplus),[],0,false,none⟩),(5,⟨[],true,(.agg (TInt.cells rmade)),[],0,false,none⟩)] [] (kp [4]) (kq [32]) 368 [0 < 1,Sd 122 [(encL cI 0 rread),(encL cI 0 rread2)] [] 0 (encL cI 0 rplus) [],Sd 118 [(aB a.fG),(encL cI 0 rplus)] [] 0 (.agg (TInt.cells rmade)) [],0 < 1] ⟨o1,(g_r01_plus_ok N rread rread2 rplus hr3),(g_r01_made_ok N a.fG rplus rmade hr4),o1,trivial⟩ ?_
  obtain rfl:=Option.some.inj h
  refine sW hE ⟨[(4,(.op 16 0 0))],[(16,vO 2 (TInt.cells rmade))],368⟩ [] (kp [4]) [(16,.keep 32)] 368 [] trivial ?_
  exact sT Tryz.f106 [16] [0 < 1] ⟨o1,trivial⟩
 ·have h:=condF h hq2
  refine sA 3 [.code (C_97 60),.code (C_97 61),.code (C_97 31)] ?_
  obtain ⟨rcompare,hr5,h⟩:=bindSome h
  refine sR hE ⟨[(2,(.op 0 0 0)),(3,(.op 16 0 0)),(4,(.op 32 0 0)),(5,(encL cI 0 rread)),(6,(encL cI 0 rread2)),(27,(aB (decide (rcompare≥0))))],[(0,vO 2 (TInt.cells a)),(16,vO 2 (TInt.cells b)),(32,vO 2 [(aB false),.nil])],320⟩ (C_97 60) [(2,⟨[],true,(aI rcompare),[],0,false,none⟩)] [] (kp [2,3,4,5,6,27]) (kq [0,16,32]) 320 [Sd 123 [(encL cI 0 rread),(encL cI 0 rread2)] [] 0 (aI rcompare) []] ⟨(g_r01_compare_ok N rread rread2 rcompare hr5),trivial⟩ ?_
  refine sC 27 (C_97 122) (C_97 123) (decide (rcompare≥0)) (fun hq3=>?_) (fun hq3=>?_)
  ·have h:=condT h hq3
   refine sA 1 [.code (C_97 244),.code (C_97 245),.code (C_97 31)] ?_
   obtain ⟨rminus,hr6,h⟩:=bindSome h
   obtain ⟨rmade2,hr7,h⟩:=bindSome h
   refine sR hE ⟨[(4,(.op 32 0 0))],[(32,vO 2 (TInt.cells rmade2))],432⟩ (C_97 244) [(4,⟨[],true,(encL cI 0 rminus),[],0,false,none⟩),(5,⟨[],true,(.agg (TInt.cells rmade2)),[],0,false,none⟩)] [] (kp [4]) (kq [32]) 432 [0 < 1,Sd 124 [(encL cI 0 rread),(encL cI 0 rread2)] [] 0 (encL cI 0 rminus) [],Sd 118 [(aB a.fG),(encL cI 0 rminus)] [] 0 (.agg (TInt.cells rmade2)) [],0 < 1] ⟨o1,(g_r01_minus_ok N rread rread2 rminus hr6),(g_r01_made_ok N a.fG rminus rmade2 hr7),o1,trivial⟩ ?_
   obtain rfl:=Option.some.inj h
   refine sW hE ⟨[(4,(.op 16 0 0))],[(16,vO 2 (TInt.cells rmade2))],432⟩ [] (kp [4]) [(16,.keep 32)] 432 [] trivial ?_
   exact sT Tryz.f106 [16] [0 < 1] ⟨o1,trivial⟩
  ·have h:=condF h hq3
   refine sA 2 [.code (C_97 62),.code (C_97 63)] ?_
   obtain ⟨rminus2,hr8,h⟩:=bindSome h
   obtain ⟨rmade3,hr9,h⟩:=bindSome h
   refine sR hE ⟨[(4,(.op 32 0 0))],[(32,vO 2 (TInt.cells rmade3))],432⟩ (C_97 62) [(4,⟨[],true,(encL cI 0 rminus2),[],0,false,none⟩),(5,⟨[],true,(.agg (TInt.cells rmade3)),[],0,false,none⟩)] [] (kp [4]) (kq [32]) 432 [0 < 1,Sd 124 [(encL cI 0 rread2),(encL cI 0 rread)] [] 0 (encL cI 0 rminus2) [],Sd 118 [(aB b.fG),(encL cI 0 rminus2)] [] 0 (.agg (TInt.cells rmade3)) [],0 < 1] ⟨o1,(g_r01_minus_ok N rread2 rread rminus2 hr8),(g_r01_made_ok N b.fG rminus2 rmade3 hr9),o1,trivial⟩ ?_
   obtain rfl:=Option.some.inj h
   refine sW hE ⟨[(4,(.op 16 0 0))],[(16,vO 2 (TInt.cells rmade3))],432⟩ [] (kp [4]) [(16,.keep 32)] 432 [] trivial ?_
   exact sT Tryz.f106 [16] [0 < 1] ⟨o1,trivial⟩
noncomputable def C_85 (n:Nat):Code:=cat (bodyOf Tryz.f80) (pth n)
theorem g_r01_AddRat_ok (N:Nat) (x:TRat) (y:TRat) (r:TRat) (h:g_r01_AddRat N x y=some r):Sd 80 [(.agg (TRat.cells x)),(.agg (TRat.cells y))] [] 0 (.agg (TRat.cells r)) []:=by
 unfold g_r01_AddRat at h
 refine Sound.of_runs (fu:=Tryz.f80) (c:=C_85 1) (nt:=28) (by kernel_rfl) (by kernel_rfl) (by kernel_rfl) (by kernel_rfl) (fun hm=>rfl) ?_
 intro E hE
 refine sA 1 [.code (C_85 2),.code (C_85 3)] ?_
 refine sR hE ⟨[(2,(.op 0 0 0)),(3,(.op 16 0 0)),(4,(.op 32 0 0))],[(0,vO 4 (TRat.cells x)),(16,vO 4 (TRat.cells y)),(32,vO 4 [(aB false),.nil,(aB false),.nil])],48⟩ (C_85 2) [] [] (kp [2,3,4]) (kq [0,16,32]) 48 [] trivial ?_
 refine sA 1 [.code (C_85 6),.code (C_85 7)] ?_
 obtain ⟨rNormRat,hr,h⟩:=bindSome h
 obtain ⟨rNormRat2,hr2,h⟩:=bindSome h
 refine sR hE ⟨[(4,(.op 32 0 0)),(5,(.op 112 0 0)),(6,(.op 128 0 0))],[(32,vO 4 [(aB false),.nil,(aB false),.nil]),(112,vO 4 (TRat.cells rNormRat)),(128,vO 4 (TRat.cells rNormRat2))],176⟩ (C_85 6) [(1,⟨[],true,(.agg (TRat.cells rNormRat)),[],0,false,none⟩),(3,⟨[],true,(.agg (TRat.cells rNormRat2)),[],0,false,none⟩)] [] (kp [4,5,6]) (kq [32,112,128]) 176 [0 < 1,Sd 104 [(.agg (TRat.cells x))] [] 0 (.agg (TRat.cells rNormRat)) [],0 < 1,Sd 104 [(.agg (TRat.cells y))] [] 0 (.agg (TRat.cells rNormRat2)) [],0 < 1,0 < 1] ⟨o1,(g_r01_NormRat_ok N x rNormRat hr),o1,(g_r01_NormRat_ok N y rNormRat2 hr2),o1,o1,trivial⟩ ?_
 refine sA 1 [.code (C_85 14),.code (C_85 15)] ?_
 obtain ⟨rMul,hr3,h⟩:=bindSome h
 obtain ⟨rMul2,hr4,h⟩:=bindSome h
 obtain ⟨rAdd,hr5,h⟩:=bindSome h
 obtain ⟨rMul3,hr6,h⟩:=bindSome h
 obtain ⟨rOver,hr7,h⟩:=bindSome h
 refine sR hE ⟨[(4,(.op 32 0 0))],[(32,vO 4 (TRat.cells rOver))],464⟩ (C_85 14) [(4,⟨[],true,(.agg (TInt.cells rMul)),[],0,false,none⟩),(9,⟨[],true,(.agg (TInt.cells rMul2)),[],0,false,none⟩),(10,⟨[],true,(.agg (TInt.cells rAdd)),[],0,false,none⟩),(15,⟨[],true,(.agg (TInt.cells rMul3)),[],0,false,none⟩),(16,⟨[],true,(.agg (TRat.cells rOver)),[],0,false,none⟩)] [] (kp [4]) (kq [32]) 464 [0 < 1,0 < 1,Sd 107 [(.agg (TInt.cells rNormRat.fN)),(.agg (TInt.cells rNormRat2.fD))] [] 0 (.agg (TInt.cells rMul)) [],0 < 1,0 < 1,Sd 107 [(.agg (TInt.cells rNormRat2.fN)),(.agg (TInt.cells rNormRat.fD))] [] 0 (.agg (TInt.cells rMul2)) [],Sd 106 [(.agg (TInt.cells rMul)),(.agg (TInt.cells rMul2))] [] 0 (.agg (TInt.cells rAdd)) [],0 < 1,0 < 1,Sd 107 [(.agg (TInt.cells rNormRat.fD)),(.agg (TInt.cells rNormRat2.fD))] [] 0 (.agg (TInt.cells rMul3)) [],Sd 105 [(.agg (TInt.cells rAdd)),(.agg (TInt.cells rMul3))] [] 0 (.agg (TRat.cells rOver)) [],0 < 1] ⟨o1,o1,(g_r01_Mul_ok N rNormRat.fN rNormRat2.fD rMul hr3),o1,o1,(g_r01_Mul_ok N rNormRat2.fN rNormRat.fD rMul2 hr4),(g_r01_Add_ok N rMul rMul2 rAdd hr5),o1,o1,(g_r01_Mul_ok N rNormRat.fD rNormRat2.fD rMul3 hr6),(g_r01_Over_ok N rAdd rMul3 rOver hr7),o1,trivial⟩ ?_
 obtain rfl:=Option.some.inj h
 refine sW hE ⟨[(4,(.op 16 0 0))],[(16,vO 4 (TRat.cells rOver))],464⟩ [] (kp [4]) [(16,.keep 32)] 464 [] trivial ?_
 exact sT Tryz.f80 [16] [0 < 1] ⟨o1,trivial⟩
noncomputable def C_100 (n:Nat):Code:=cat (bodyOf Tryz.f83) (pth n)
theorem g_r01_MulRat_ok (N:Nat) (x:TRat) (y:TRat) (r:TRat) (h:g_r01_MulRat N x y=some r):Sd 83 [(.agg (TRat.cells x)),(.agg (TRat.cells y))] [] 0 (.agg (TRat.cells r)) []:=by
 unfold g_r01_MulRat at h
 refine Sound.of_runs (fu:=Tryz.f83) (c:=C_100 1) (nt:=22) (by kernel_rfl) (by kernel_rfl) (by kernel_rfl) (by kernel_rfl) (fun hm=>rfl) ?_
 intro E hE
 refine sA 1 [.code (C_100 2),.code (C_100 3)] ?_
 refine sR hE ⟨[(2,(.op 0 0 0)),(3,(.op 16 0 0)),(4,(.op 32 0 0))],[(0,vO 4 (TRat.cells x)),(16,vO 4 (TRat.cells y)),(32,vO 4 [(aB false),.nil,(aB false),.nil])],48⟩ (C_100 2) [] [] (kp [2,3,4]) (kq [0,16,32]) 48 [] trivial ?_
 refine sA 1 [.code (C_100 6),.code (C_100 7)] ?_
 obtain ⟨rNormRat,hr,h⟩:=bindSome h
 obtain ⟨rNormRat2,hr2,h⟩:=bindSome h
 refine sR hE ⟨[(4,(.op 32 0 0)),(5,(.op 112 0 0)),(6,(.op 128 0 0))],[(32,vO 4 [(aB false),.nil,(aB false),.nil]),(112,vO 4 (TRat.cells rNormRat)),(128,vO 4 (TRat.cells rNormRat2))],176⟩ (C_100 6) [(1,⟨[],true,(.agg (TRat.cells rNormRat)),[],0,false,none⟩),(3,⟨[],true,(.agg (TRat.cells rNormRat2)),[],0,false,none⟩)] [] (kp [4,5,6]) (kq [32,112,128]) 176 [0 < 1,Sd 104 [(.agg (TRat.cells x))] [] 0 (.agg (TRat.cells rNormRat)) [],0 < 1,Sd 104 [(.agg (TRat.cells y))] [] 0 (.agg (TRat.cells rNormRat2)) [],0 < 1,0 < 1] ⟨o1,(g_r01_NormRat_ok N x rNormRat hr),o1,(g_r01_NormRat_ok N y rNormRat2 hr2),o1,o1,trivial⟩ ?_
 refine sA 1 [.code (C_100 14),.code (C_100 15)] ?_
 obtain ⟨rMul,hr3,h⟩:=bindSome h
 obtain ⟨rMul2,hr4,h⟩:=bindSome h
 obtain ⟨rOver,hr5,h⟩:=bindSome h
 refine sR hE ⟨[(4,(.op 32 0 0))],[(32,vO 4 (TRat.cells rOver))],368⟩ (C_100 14) [(4,⟨[],true,(.agg (TInt.cells rMul)),[],0,false,none⟩),(9,⟨[],true,(.agg (TInt.cells rMul2)),[],0,false,none⟩),(10,⟨[],true,(.agg (TRat.cells rOver)),[],0,false,none⟩)] [] (kp [4]) (kq [32]) 368 [0 < 1,0 < 1,Sd 107 [(.agg (TInt.cells rNormRat.fN)),(.agg (TInt.cells rNormRat2.fN))] [] 0 (.agg (TInt.cells rMul)) [],0 < 1,0 < 1,Sd 107 [(.agg (TInt.cells rNormRat.fD)),(.agg (TInt.cells rNormRat2.fD))] [] 0 (.agg (TInt.cells rMul2)) [],Sd 105 [(.agg (TInt.cells rMul)),(.agg (TInt.cells rMul2))] [] 0 (.agg (TRat.cells rOver)) [],0 < 1] ⟨o1,o1,(g_r01_Mul_ok N rNormRat.fN rNormRat2.fN rMul hr3),o1,o1,(g_r01_Mul_ok N rNormRat.fD rNormRat2.fD rMul2 hr4),(g_r01_Over_ok N rMul rMul2 rOver hr5),o1,trivial⟩ ?_
 obtain rfl:=Option.some.inj h
 refine sW hE ⟨[(4,(.op 16 0 0))],[(16,vO 4 (TRat.cells rOver))],368⟩ [] (kp [4]) [(16,.keep 32)] 368 [] trivial ?_
 exact sT Tryz.f83 [16] [0 < 1] ⟨o1,trivial⟩
noncomputable def C_99 (n:Nat):Code:=cat (bodyOf Tryz.f81) (pth n)
theorem g_r05_product_L1_ok (N:Nat) (l:List Int) (fuel:Nat):∀ (out:TRat) (i:Int) (r:TRat),g_r05_product_L1 N l fuel out i=some r→∀ E,EnvOk E 0→Runs Tryz.prog E 81 20 (SPost E [] (.agg (TRat.cells r))) [.code (C_99 116),.inLoop (C_99 116),.inBlock 0,.code (C_99 15)] ⟨[(0,(encL cI 0 l)),(2,(.op 0 0 0)),(3,(.op 1 0 0)),(4,(aI i))],[(0,vO 4 [(aB false),.nil,(aB false),.nil]),(1,vO 4 (TRat.cells out))],2⟩:=by
 induction fuel with
 | zero=>intro _ _ r h;rw [g_r05_product_L1.eq_1] at h;cases h
 | succ fuel ih =>
  intro out i r h E hE
  rw [g_r05_product_L1.eq_2] at h
  refine sA 2 [.code (C_99 464),.code (C_99 465),.code (C_99 233),.inLoop (C_99 116),.inBlock 0,.code (C_99 15)] ?_
  refine sR hE ⟨[(0,(encL cI 0 l)),(2,(.op 0 0 0)),(3,(.op 1 0 0)),(4,(aI i)),(9,(aB (decide (i < ((l.length:Nat):Int)))))],[(0,vO 4 [(aB false),.nil,(aB false),.nil]),(1,vO 4 (TRat.cells out))],66⟩ (C_99 464) [] [] (kp [0,2,3,4,9]) (kq [0,1]) 66 [] trivial ?_
  refine sC 9 (C_99 930) (C_99 931) (decide (i < ((l.length:Nat):Int))) (fun hq2=>?_) (fun hq2=>?_)
  ·have h:=condT h hq2
   refine sA 3 [.code (C_99 932),.inBlock 1,.code (C_99 467),.inLoop (C_99 116),.inBlock 0,.code (C_99 15)] ?_
   obtain ⟨c,h⟩:=ifSome h
   obtain ⟨rQ2,hr2,h⟩:=bindSome h
   obtain ⟨rMulRat,hr3,h⟩:=bindSome h
   refine sR hE ⟨[(0,(encL cI 0 l)),(2,(.op 0 0 0)),(3,(.op 1 0 0)),(4,(aI i))],[(0,vO 4 [(aB false),.nil,(aB false),.nil]),(1,vO 4 (TRat.cells rMulRat))],194⟩ (C_99 932) [(5,⟨[],true,(.agg (TRat.cells rQ2)),[],0,false,none⟩),(6,⟨[],true,(.agg (TRat.cells rMulRat)),[],0,false,none⟩)] [] (kp [0,2,3,4]) (kq [0,1]) 194 [0 < 1,0≤i∧i < ((l.length:Nat):Int),Sd 78 [(aI (l.getD ((i).toNat) 0))] [] 0 (.agg (TRat.cells rQ2)) [],Sd 83 [(.agg (TRat.cells out)),(.agg (TRat.cells rQ2))] [] 0 (.agg (TRat.cells rMulRat)) [],0 < 1] ⟨o1,c,(g_r01_Q_ok N (l.getD ((i).toNat) 0) rQ2 hr2),(g_r01_MulRat_ok N out rQ2 rMulRat hr3),o1,trivial⟩ ?_
   refine sA 1 [.code (C_99 467),.inLoop (C_99 116),.inBlock 0,.code (C_99 15)] ?_
   refine sR hE ⟨[(0,(encL cI 0 l)),(2,(.op 0 0 0)),(3,(.op 1 0 0)),(4,(aI (w64 (i+1))))],[(0,vO 4 [(aB false),.nil,(aB false),.nil]),(1,vO 4 (TRat.cells rMulRat))],242⟩ (C_99 467) [] [] (kp [0,2,3,4]) (kq [0,1]) 242 [] trivial ?_
   refine sA 1 [.code (C_99 116),.inLoop (C_99 116),.inBlock 0,.code (C_99 15)] ?_
   exact sW hE _ [] (kp [0,2,3,4]) (kq [0,1]) 2 [] trivial (ih rMulRat (w64 (i+1)) _ h E hE)
  ·have h:=condF h hq2
   refine sA 2 [.code (C_99 30),.code (C_99 31)] ?_
   refine sR hE ⟨[(2,(.op 0 0 0))],[(0,vO 4 (TRat.cells out))],98⟩ (C_99 30) [] [] (kp [2]) (kq [0]) 98 [0 < 1,0 < 1] ⟨o1,o1,trivial⟩ ?_
   obtain rfl:=Option.some.inj h
   refine sW hE ⟨[(2,(.op 16 0 0))],[(16,vO 4 (TRat.cells out))],98⟩ [] (kp [2]) [(16,.keep 0)] 98 [] trivial ?_
   exact sT Tryz.f81 [16] [0 < 1] ⟨o1,trivial⟩
theorem g_r05_product_ok (N:Nat) (l:List Int) (r:TRat) (h:g_r05_product N l=some r):Sd 81 [(encL cI 0 l)] [] 0 (.agg (TRat.cells r)) []:=by
 unfold g_r05_product at h
 refine Sound.of_runs (fu:=Tryz.f81) (c:=C_99 1) (nt:=20) (by kernel_rfl) (by kernel_rfl) (by kernel_rfl) (by kernel_rfl) (fun hm=>rfl) ?_
 intro E hE
 refine sA 1 [.code (C_99 2),.code (C_99 3)] ?_
 refine sR hE ⟨[(0,(encL cI 0 l)),(2,(.op 0 0 0))],[(0,vO 4 [(aB false),.nil,(aB false),.nil])],16⟩ (C_99 2) [] [] (kp [0,2]) (kq [0]) 16 [] trivial ?_
 refine sA 1 [.code (C_99 6),.code (C_99 7)] ?_
 obtain ⟨rQ,hr,h⟩:=bindSome h
 refine sR hE ⟨[(0,(encL cI 0 l)),(2,(.op 0 0 0)),(3,(.op 32 0 0))],[(0,vO 4 [(aB false),.nil,(aB false),.nil]),(32,vO 4 (TRat.cells rQ))],64⟩ (C_99 6) [(0,⟨[],true,(.agg (TRat.cells rQ)),[],0,false,none⟩)] [] (kp [0,2,3]) (kq [0,32]) 64 [Sd 78 [(aI 1)] [] 0 (.agg (TRat.cells rQ)) [],0 < 1] ⟨(g_r01_Q_ok N 1 rQ hr),o1,trivial⟩ ?_
 refine sA 2 [.code (C_99 28),.code (C_99 29),.code (C_99 15)] ?_
 refine sR hE ⟨[(0,(encL cI 0 l)),(2,(.op 0 0 0)),(3,(.op 32 0 0)),(4,(aI 0))],[(0,vO 4 [(aB false),.nil,(aB false),.nil]),(32,vO 4 (TRat.cells rQ))],80⟩ (C_99 28) [] [] (kp [0,2,3,4]) (kq [0,32]) 80 [] trivial ?_
 refine sA 2 [.code (C_99 116),.inLoop (C_99 116),.inBlock 0,.code (C_99 15)] ?_
 exact sW hE _ [] (kp [0,2,3,4]) (kq [0] ++ [(1,.keep 32)]) 2 [] trivial (g_r05_product_L1_ok N l N rQ 0 _ h E hE)
noncomputable def C_101 (n:Nat):Code:=cat (bodyOf Tryz.f82) (pth n)
theorem g_r05_size_ok (N:Nat) (n:Int) (r:Int) (h:g_r05_size N n=some r):Sd 82 [(aI n)] [] 0 (aI r) []:=by
 unfold g_r05_size at h
 refine Sound.of_runs (fu:=Tryz.f82) (c:=C_101 1) (nt:=8) (by kernel_rfl) (by kernel_rfl) (by kernel_rfl) (by kernel_rfl) (fun hm=>rfl) ?_
 intro E hE
 refine sA 1 [.code (C_101 2),.code (C_101 3)] ?_
 refine sR hE ⟨[(0,(aI n))],[],16⟩ (C_101 2) [] [] (kp [0]) [] 16 [] trivial ?_
 refine sA 2 [.code (C_101 12),.code (C_101 13),.code (C_101 7)] ?_
 refine sR hE ⟨[(0,(aI n)),(4,(aB (decide (n < 0))))],[],48⟩ (C_101 12) [] [] (kp [0,4]) [] 48 [] trivial ?_
 refine sC 4 (C_101 26) (C_101 27) (decide (n < 0)) (fun hq2=>?_) (fun hq2=>?_)
 ·have h:=condT h hq2
  refine sA 1 [.code (C_101 52),.code (C_101 53),.code (C_101 7)] ?_
  refine sR hE ⟨[(2,(aI (w64 (0 - n))))],[],96⟩ (C_101 52) [] [] (kp [2]) [] 96 [] trivial ?_
  obtain rfl:=Option.some.inj h
  refine sW hE ⟨[(2,(aI (w64 (0 - n))))],[],96⟩ [] (kp [2]) [] 96 [] trivial ?_
  exact sT Tryz.f82 [] [] trivial
 ·have h:=condF h hq2
  refine sA 2 [.code (C_101 14),.code (C_101 15)] ?_
  refine sR hE ⟨[(2,(aI n))],[],80⟩ (C_101 14) [] [] (kp [2]) [] 80 [] trivial ?_
  obtain rfl:=Option.some.inj h
  refine sW hE ⟨[(2,(aI n))],[],80⟩ [] (kp [2]) [] 80 [] trivial ?_
  exact sT Tryz.f82 [] [] trivial
noncomputable def C_102 (n:Nat):Code:=cat (bodyOf Tryz.f84) (pth n)
theorem g_r01_QuoRat_ok (N:Nat) (x:TRat) (y:TRat) (r:TRat) (h:g_r01_QuoRat N x y=some r):Sd 84 [(.agg (TRat.cells x)),(.agg (TRat.cells y))] [] 0 (.agg (TRat.cells r)) []:=by
 unfold g_r01_QuoRat at h
 refine Sound.of_runs (fu:=Tryz.f84) (c:=C_102 1) (nt:=22) (by kernel_rfl) (by kernel_rfl) (by kernel_rfl) (by kernel_rfl) (fun hm=>rfl) ?_
 intro E hE
 refine sA 1 [.code (C_102 2),.code (C_102 3)] ?_
 refine sR hE ⟨[(2,(.op 0 0 0)),(3,(.op 16 0 0)),(4,(.op 32 0 0))],[(0,vO 4 (TRat.cells x)),(16,vO 4 (TRat.cells y)),(32,vO 4 [(aB false),.nil,(aB false),.nil])],48⟩ (C_102 2) [] [] (kp [2,3,4]) (kq [0,16,32]) 48 [] trivial ?_
 refine sA 1 [.code (C_102 6),.code (C_102 7)] ?_
 obtain ⟨rNormRat,hr,h⟩:=bindSome h
 obtain ⟨rNormRat2,hr2,h⟩:=bindSome h
 refine sR hE ⟨[(4,(.op 32 0 0)),(5,(.op 112 0 0)),(6,(.op 128 0 0))],[(32,vO 4 [(aB false),.nil,(aB false),.nil]),(112,vO 4 (TRat.cells rNormRat)),(128,vO 4 (TRat.cells rNormRat2))],176⟩ (C_102 6) [(1,⟨[],true,(.agg (TRat.cells rNormRat)),[],0,false,none⟩),(3,⟨[],true,(.agg (TRat.cells rNormRat2)),[],0,false,none⟩)] [] (kp [4,5,6]) (kq [32,112,128]) 176 [0 < 1,Sd 104 [(.agg (TRat.cells x))] [] 0 (.agg (TRat.cells rNormRat)) [],0 < 1,Sd 104 [(.agg (TRat.cells y))] [] 0 (.agg (TRat.cells rNormRat2)) [],0 < 1,0 < 1] ⟨o1,(g_r01_NormRat_ok N x rNormRat hr),o1,(g_r01_NormRat_ok N y rNormRat2 hr2),o1,o1,trivial⟩ ?_
 refine sA 1 [.code (C_102 14),.code (C_102 15)] ?_
 obtain ⟨rMul,hr3,h⟩:=bindSome h
 obtain ⟨rMul2,hr4,h⟩:=bindSome h
 obtain ⟨rOver,hr5,h⟩:=bindSome h
 refine sR hE ⟨[(4,(.op 32 0 0))],[(32,vO 4 (TRat.cells rOver))],368⟩ (C_102 14) [(4,⟨[],true,(.agg (TInt.cells rMul)),[],0,false,none⟩),(9,⟨[],true,(.agg (TInt.cells rMul2)),[],0,false,none⟩),(10,⟨[],true,(.agg (TRat.cells rOver)),[],0,false,none⟩)] [] (kp [4]) (kq [32]) 368 [0 < 1,0 < 1,Sd 107 [(.agg (TInt.cells rNormRat.fN)),(.agg (TInt.cells rNormRat2.fD))] [] 0 (.agg (TInt.cells rMul)) [],0 < 1,0 < 1,Sd 107 [(.agg (TInt.cells rNormRat.fD)),(.agg (TInt.cells rNormRat2.fN))] [] 0 (.agg (TInt.cells rMul2)) [],Sd 105 [(.agg (TInt.cells rMul)),(.agg (TInt.cells rMul2))] [] 0 (.agg (TRat.cells rOver)) [],0 < 1] ⟨o1,o1,(g_r01_Mul_ok N rNormRat.fN rNormRat2.fD rMul hr3),o1,o1,(g_r01_Mul_ok N rNormRat.fD rNormRat2.fN rMul2 hr4),(g_r01_Over_ok N rMul rMul2 rOver hr5),o1,trivial⟩ ?_
 obtain rfl:=Option.some.inj h
 refine sW hE ⟨[(4,(.op 16 0 0))],[(16,vO 4 (TRat.cells rOver))],368⟩ [] (kp [4]) [(16,.keep 32)] 368 [] trivial ?_
 exact sT Tryz.f84 [16] [0 < 1] ⟨o1,trivial⟩
noncomputable def C_105 (n:Nat):Code:=cat (bodyOf Tryz.f109) (pth n)
theorem g_r01_Neg_ok (N:Nat) (a:TInt) (r:TInt) (h:g_r01_Neg N a=some r):Sd 109 [(.agg (TInt.cells a))] [] 0 (.agg (TInt.cells r)) []:=by
 unfold g_r01_Neg at h
 refine Sound.of_runs (fu:=Tryz.f109) (c:=C_105 1) (nt:=10) (by kernel_rfl) (by kernel_rfl) (by kernel_rfl) (by kernel_rfl) (fun hm=>rfl) ?_
 intro E hE
 refine sA 1 [.code (C_105 2),.code (C_105 3)] ?_
 refine sR hE ⟨[(1,(.op 0 0 0)),(2,(.op 16 0 0))],[(0,vO 2 (TInt.cells a)),(16,vO 2 [(aB false),.nil])],32⟩ (C_105 2) [] [] (kp [1,2]) (kq [0,16]) 32 [] trivial ?_
 refine sA 1 [.code (C_105 6),.code (C_105 7)] ?_
 obtain ⟨rread,hr,h⟩:=bindSome h
 obtain ⟨rmade,hr2,h⟩:=bindSome h
 refine sR hE ⟨[(2,(.op 16 0 0))],[(16,vO 2 (TInt.cells rmade))],160⟩ (C_105 6) [(5,⟨[],true,(encL cI 0 rread),[],0,false,none⟩),(6,⟨[],true,(.agg (TInt.cells rmade)),[],0,false,none⟩)] [] (kp [2]) (kq [16]) 160 [0 < 1,0 < 1,Sd 119 [(eU a.fL)] [] 0 (encL cI 0 rread) [],Sd 118 [(aB (!a.fG)),(encL cI 0 rread)] [] 0 (.agg (TInt.cells rmade)) [],0 < 1] ⟨o1,o1,(g_r01_read_ok N a.fL rread hr),(g_r01_made_ok N (!a.fG) rread rmade hr2),o1,trivial⟩ ?_
 obtain rfl:=Option.some.inj h
 refine sW hE ⟨[(2,(.op 16 0 0))],[(16,vO 2 (TInt.cells rmade))],160⟩ [] (kp [2]) (kq [16]) 160 [] trivial ?_
 exact sT Tryz.f109 [16] [0 < 1] ⟨o1,trivial⟩
noncomputable def C_104 (n:Nat):Code:=cat (bodyOf Tryz.f87) (pth n)
theorem g_r01_NegRat_ok (N:Nat) (x:TRat) (r:TRat) (h:g_r01_NegRat N x=some r):Sd 87 [(.agg (TRat.cells x))] [] 0 (.agg (TRat.cells r)) []:=by
 unfold g_r01_NegRat at h
 refine Sound.of_runs (fu:=Tryz.f87) (c:=C_104 1) (nt:=12) (by kernel_rfl) (by kernel_rfl) (by kernel_rfl) (by kernel_rfl) (fun hm=>rfl) ?_
 intro E hE
 refine sA 1 [.code (C_104 2),.code (C_104 3)] ?_
 refine sR hE ⟨[(1,(.op 0 0 0)),(2,(.op 16 0 0))],[(0,vO 4 (TRat.cells x)),(16,vO 4 [(aB false),.nil,(aB false),.nil])],32⟩ (C_104 2) [] [] (kp [1,2]) (kq [0,16]) 32 [] trivial ?_
 refine sA 1 [.code (C_104 6),.code (C_104 7)] ?_
 obtain ⟨rNormRat,hr,h⟩:=bindSome h
 refine sR hE ⟨[(2,(.op 16 0 0)),(3,(.op 64 0 0))],[(16,vO 4 [(aB false),.nil,(aB false),.nil]),(64,vO 4 (TRat.cells rNormRat))],96⟩ (C_104 6) [(1,⟨[],true,(.agg (TRat.cells rNormRat)),[],0,false,none⟩)] [] (kp [2,3]) (kq [16,64]) 96 [0 < 1,Sd 104 [(.agg (TRat.cells x))] [] 0 (.agg (TRat.cells rNormRat)) [],0 < 1] ⟨o1,(g_r01_NormRat_ok N x rNormRat hr),o1,trivial⟩ ?_
 refine sA 1 [.code (C_104 14),.code (C_104 15)] ?_
 obtain ⟨rNeg,hr2,h⟩:=bindSome h
 refine sR hE ⟨[(2,(.op 16 0 0))],[(16,vO 4 [(aB rNeg.fG),(eU rNeg.fL),(aB rNormRat.fD.fG),(eU rNormRat.fD.fL)])],208⟩ (C_104 14) [(2,⟨[],true,(.agg (TInt.cells rNeg)),[],0,false,none⟩)] [] (kp [2]) (kq [16]) 208 [0 < 1,Sd 109 [(.agg (TInt.cells rNormRat.fN))] [] 0 (.agg (TInt.cells rNeg)) [],0 < 1,0 < 1] ⟨o1,(g_r01_Neg_ok N rNormRat.fN rNeg hr2),o1,o1,trivial⟩ ?_
 obtain rfl:=Option.some.inj h
 refine sW hE ⟨[(2,(.op 16 0 0))],[(16,vO 4 [(aB rNeg.fG),(eU rNeg.fL),(aB rNormRat.fD.fG),(eU rNormRat.fD.fL)])],208⟩ [] (kp [2]) (kq [16]) 208 [] trivial ?_
 exact sT Tryz.f87 [16] [0 < 1] ⟨o1,trivial⟩
noncomputable def C_103 (n:Nat):Code:=cat (bodyOf Tryz.f85) (pth n)
theorem g_r01_SubRat_ok (N:Nat) (x:TRat) (y:TRat) (r:TRat) (h:g_r01_SubRat N x y=some r):Sd 85 [(.agg (TRat.cells x)),(.agg (TRat.cells y))] [] 0 (.agg (TRat.cells r)) []:=by
 unfold g_r01_SubRat at h
 refine Sound.of_runs (fu:=Tryz.f85) (c:=C_103 1) (nt:=9) (by kernel_rfl) (by kernel_rfl) (by kernel_rfl) (by kernel_rfl) (fun hm=>rfl) ?_
 intro E hE
 refine sA 1 [.code (C_103 2),.code (C_103 3)] ?_
 refine sR hE ⟨[(2,(.op 0 0 0)),(3,(.op 16 0 0)),(4,(.op 32 0 0))],[(0,vO 4 (TRat.cells x)),(16,vO 4 (TRat.cells y)),(32,vO 4 [(aB false),.nil,(aB false),.nil])],48⟩ (C_103 2) [] [] (kp [2,3,4]) (kq [0,16,32]) 48 [] trivial ?_
 refine sA 1 [.code (C_103 6),.code (C_103 7)] ?_
 obtain ⟨rNegRat,hr,h⟩:=bindSome h
 obtain ⟨rAddRat,hr2,h⟩:=bindSome h
 refine sR hE ⟨[(4,(.op 32 0 0))],[(32,vO 4 (TRat.cells rAddRat))],128⟩ (C_103 6) [(2,⟨[],true,(.agg (TRat.cells rNegRat)),[],0,false,none⟩),(3,⟨[],true,(.agg (TRat.cells rAddRat)),[],0,false,none⟩)] [] (kp [4]) (kq [32]) 128 [0 < 1,0 < 1,Sd 87 [(.agg (TRat.cells y))] [] 0 (.agg (TRat.cells rNegRat)) [],Sd 80 [(.agg (TRat.cells x)),(.agg (TRat.cells rNegRat))] [] 0 (.agg (TRat.cells rAddRat)) [],0 < 1] ⟨o1,o1,(g_r01_NegRat_ok N y rNegRat hr),(g_r01_AddRat_ok N x rNegRat rAddRat hr2),o1,trivial⟩ ?_
 obtain rfl:=Option.some.inj h
 refine sW hE ⟨[(4,(.op 16 0 0))],[(16,vO 4 (TRat.cells rAddRat))],128⟩ [] (kp [4]) [(16,.keep 32)] 128 [] trivial ?_
 exact sT Tryz.f85 [16] [0 < 1] ⟨o1,trivial⟩
noncomputable def C_80 (n:Nat):Code:=cat (bodyOf Tryz.f59) (pth n)
theorem g_r05_Float_L1_ok (N:Nat) (p:TPn) (rloads:(List TPm)) (fuel:Nat):∀ (mass:TRat) (trim:TRat) (heel:TRat) (ends:TRat) (i:Int) (r:TPose),g_r05_Float_L1 N p rloads fuel mass trim heel ends i=some r→∀ E,EnvOk E 0→Runs Tryz.prog E 59 132 (SPost E [] (.agg (TPose.cells r))) [.code (C_80 244),.inLoop (C_80 244),.inBlock 0,.code (C_80 31)] ⟨[(2,(.op 0 0 0)),(4,(.op 1 0 0)),(5,(.op 2 0 0)),(6,(.op 3 0 0)),(7,(.op 4 0 0)),(8,(.op 5 0 0)),(9,(encL TPm.cells TPm.d rloads)),(10,(aI i))],[(0,vO 5 (TPn.cells p)),(1,vO 16 [(aB false),.nil,(aB false),.nil,(aB false),.nil,(aB false),.nil,(aB false),.nil,(aB false),.nil,(aB false),.nil,(aB false),.nil]),(2,vO 4 (TRat.cells mass)),(3,vO 4 (TRat.cells trim)),(4,vO 4 (TRat.cells heel)),(5,vO 4 (TRat.cells ends))],6⟩:=by
 induction fuel with
 | zero=>intro _ _ _ _ _ r h;rw [g_r05_Float_L1.eq_1] at h;cases h
 | succ fuel ih =>
  intro mass trim heel ends i r h E hE
  rw [g_r05_Float_L1.eq_2] at h
  refine sA 2 [.code (C_80 976),.code (C_80 977),.code (C_80 489),.inLoop (C_80 244),.inBlock 0,.code (C_80 31)] ?_
  refine sR hE ⟨[(2,(.op 0 0 0)),(4,(.op 1 0 0)),(5,(.op 2 0 0)),(6,(.op 3 0 0)),(7,(.op 4 0 0)),(8,(.op 5 0 0)),(9,(encL TPm.cells TPm.d rloads)),(10,(aI i)),(26,(aB (decide (i < ((rloads.length:Nat):Int)))))],[(0,vO 5 (TPn.cells p)),(1,vO 16 [(aB false),.nil,(aB false),.nil,(aB false),.nil,(aB false),.nil,(aB false),.nil,(aB false),.nil,(aB false),.nil,(aB false),.nil]),(2,vO 4 (TRat.cells mass)),(3,vO 4 (TRat.cells trim)),(4,vO 4 (TRat.cells heel)),(5,vO 4 (TRat.cells ends))],70⟩ (C_80 976) [] [] (kp [2,4,5,6,7,8,9,10,26]) (kq [0,1,2,3,4,5]) 70 [] trivial ?_
  refine sC 26 (C_80 1954) (C_80 1955) (decide (i < ((rloads.length:Nat):Int))) (fun hq2=>?_) (fun hq2=>?_)
  ·have h:=condT h hq2
   refine sA 4 [.code (C_80 3912),.code (C_80 3913),.inBlock 1,.code (C_80 979),.inLoop (C_80 244),.inBlock 0,.code (C_80 31)] ?_
   obtain ⟨c,h⟩:=ifSome h
   obtain ⟨rQ5,hr6,h⟩:=bindSome h
   obtain ⟨rAddRat,hr7,h⟩:=bindSome h
   refine sR hE ⟨[(2,(.op 0 0 0)),(4,(.op 1 0 0)),(5,(.op 2 0 0)),(6,(.op 3 0 0)),(7,(.op 4 0 0)),(8,(.op 5 0 0)),(9,(encL TPm.cells TPm.d rloads)),(10,(aI i))],[(0,vO 5 (TPn.cells p)),(1,vO 16 [(aB false),.nil,(aB false),.nil,(aB false),.nil,(aB false),.nil,(aB false),.nil,(aB false),.nil,(aB false),.nil,(aB false),.nil]),(2,vO 4 (TRat.cells rAddRat)),(3,vO 4 (TRat.cells trim)),(4,vO 4 (TRat.cells heel)),(5,vO 4 (TRat.cells ends))],214⟩ (C_80 3912) [(6,⟨[],true,(.agg (TRat.cells rQ5)),[],0,false,none⟩),(7,⟨[],true,(.agg (TRat.cells rAddRat)),[],0,false,none⟩)] [] (kp [2,4,5,6,7,8,9,10]) (kq [0,1,2,3,4,5]) 214 [0 < 1,0≤i∧i < ((rloads.length:Nat):Int),Sd 78 [(aI ((rloads.getD ((i).toNat) TPm.d).fMa))] [] 0 (.agg (TRat.cells rQ5)) [],Sd 80 [(.agg (TRat.cells mass)),(.agg (TRat.cells rQ5))] [] 0 (.agg (TRat.cells rAddRat)) [],0 < 1] ⟨o1,c,(g_r01_Q_ok N ((rloads.getD ((i).toNat) TPm.d).fMa) rQ5 hr6),(g_r01_AddRat_ok N mass rQ5 rAddRat hr7),o1,trivial⟩ ?_
   refine sA 1 [.code (C_80 7826),.code (C_80 7827),.inBlock 1,.code (C_80 979),.inLoop (C_80 244),.inBlock 0,.code (C_80 31)] ?_
   obtain ⟨rproduct,hr8,h⟩:=bindSome h
   obtain ⟨rAddRat2,hr9,h⟩:=bindSome h
   refine sR hE ⟨[(2,(.op 0 0 0)),(4,(.op 1 0 0)),(5,(.op 2 0 0)),(6,(.op 3 0 0)),(7,(.op 4 0 0)),(8,(.op 5 0 0)),(9,(encL TPm.cells TPm.d rloads)),(10,(aI i))],[(0,vO 5 (TPn.cells p)),(1,vO 16 [(aB false),.nil,(aB false),.nil,(aB false),.nil,(aB false),.nil,(aB false),.nil,(aB false),.nil,(aB false),.nil,(aB false),.nil]),(2,vO 4 (TRat.cells rAddRat)),(3,vO 4 (TRat.cells rAddRat2)),(4,vO 4 (TRat.cells heel)),(5,vO 4 (TRat.cells ends))],454⟩ (C_80 7826) [(12,⟨[],true,(.agg (TRat.cells rproduct)),[],0,true,none⟩),(13,⟨[],true,(.agg (TRat.cells rAddRat2)),[],0,false,none⟩)] [] (kp [2,4,5,6,7,8,9,10]) (kq [0,1,2,3,4,5]) 454 [0 < 1,0≤i∧i < ((rloads.length:Nat):Int),0≤i∧i < ((rloads.length:Nat):Int),Sd 81 [(.sl 2 (fun zi=>(fun zi=>([[(aI ((rloads.getD ((i).toNat) TPm.d).fMa))],[(aI ((rloads.getD ((i).toNat) TPm.d).f_X))]]:List (List AV)).getD zi []) (addz 0 zi)))] [] 0 (.agg (TRat.cells rproduct)) [],0+2≤2,Sd 80 [(.agg (TRat.cells trim)),(.agg (TRat.cells rproduct))] [] 0 (.agg (TRat.cells rAddRat2)) [],0 < 1] ⟨o1,c,c,(Sound.conv (g_r05_product_ok N ([(rloads.getD ((i).toNat) TPm.d).fMa,(rloads.getD ((i).toNat) TPm.d).f_X]:List Int) rproduct hr8) (.cons (Alike.sl rfl (fun zq hzq=>get_chunk cI 0 ([(rloads.getD ((i).toNat) TPm.d).fMa,(rloads.getD ((i).toNat) TPm.d).f_X]:List Int) zq hzq)) .nil)),z0,(g_r01_AddRat_ok N trim rproduct rAddRat2 hr9),o1,trivial⟩ ?_
   refine sA 1 [.code (C_80 15654),.code (C_80 15655),.inBlock 1,.code (C_80 979),.inLoop (C_80 244),.inBlock 0,.code (C_80 31)] ?_
   obtain ⟨rproduct2,hr10,h⟩:=bindSome h
   obtain ⟨rAddRat3,hr11,h⟩:=bindSome h
   refine sR hE ⟨[(2,(.op 0 0 0)),(4,(.op 1 0 0)),(5,(.op 2 0 0)),(6,(.op 3 0 0)),(7,(.op 4 0 0)),(8,(.op 5 0 0)),(9,(encL TPm.cells TPm.d rloads)),(10,(aI i))],[(0,vO 5 (TPn.cells p)),(1,vO 16 [(aB false),.nil,(aB false),.nil,(aB false),.nil,(aB false),.nil,(aB false),.nil,(aB false),.nil,(aB false),.nil,(aB false),.nil]),(2,vO 4 (TRat.cells rAddRat)),(3,vO 4 (TRat.cells rAddRat2)),(4,vO 4 (TRat.cells rAddRat3)),(5,vO 4 (TRat.cells ends))],694⟩ (C_80 15654) [(12,⟨[],true,(.agg (TRat.cells rproduct2)),[],0,true,none⟩),(13,⟨[],true,(.agg (TRat.cells rAddRat3)),[],0,false,none⟩)] [] (kp [2,4,5,6,7,8,9,10]) (kq [0,1,2,3,4,5]) 694 [0 < 1,0≤i∧i < ((rloads.length:Nat):Int),0≤i∧i < ((rloads.length:Nat):Int),Sd 81 [(.sl 2 (fun zi=>(fun zi=>([[(aI ((rloads.getD ((i).toNat) TPm.d).fMa))],[(aI ((rloads.getD ((i).toNat) TPm.d).f_Y))]]:List (List AV)).getD zi []) (addz 0 zi)))] [] 0 (.agg (TRat.cells rproduct2)) [],0+2≤2,Sd 80 [(.agg (TRat.cells heel)),(.agg (TRat.cells rproduct2))] [] 0 (.agg (TRat.cells rAddRat3)) [],0 < 1] ⟨o1,c,c,(Sound.conv (g_r05_product_ok N ([(rloads.getD ((i).toNat) TPm.d).fMa,(rloads.getD ((i).toNat) TPm.d).f_Y]:List Int) rproduct2 hr10) (.cons (Alike.sl rfl (fun zq hzq=>get_chunk cI 0 ([(rloads.getD ((i).toNat) TPm.d).fMa,(rloads.getD ((i).toNat) TPm.d).f_Y]:List Int) zq hzq)) .nil)),z0,(g_r01_AddRat_ok N heel rproduct2 rAddRat3 hr11),o1,trivial⟩ ?_
   obtain ⟨rsize,hr12,h⟩:=bindSome h
   obtain ⟨rproduct3,hr13,h⟩:=bindSome h
   obtain ⟨rAddRat4,hr14,h⟩:=bindSome h
   refine sR hE ⟨[(2,(.op 0 0 0)),(4,(.op 1 0 0)),(5,(.op 2 0 0)),(6,(.op 3 0 0)),(7,(.op 4 0 0)),(8,(.op 5 0 0)),(9,(encL TPm.cells TPm.d rloads)),(10,(aI i))],[(0,vO 5 (TPn.cells p)),(1,vO 16 [(aB false),.nil,(aB false),.nil,(aB false),.nil,(aB false),.nil,(aB false),.nil,(aB false),.nil,(aB false),.nil,(aB false),.nil]),(2,vO 4 (TRat.cells rAddRat)),(3,vO 4 (TRat.cells rAddRat2)),(4,vO 4 (TRat.cells rAddRat3)),(5,vO 4 (TRat.cells rAddRat4))],950⟩ (C_80 15655) [(11,⟨[],true,(aI rsize),[],0,false,none⟩),(13,⟨[],true,(.agg (TRat.cells rproduct3)),[],0,true,none⟩),(14,⟨[],true,(.agg (TRat.cells rAddRat4)),[],0,false,none⟩)] [] (kp [2,4,5,6,7,8,9,10]) (kq [0,1,2,3,4,5]) 950 [0 < 1,0≤i∧i < ((rloads.length:Nat):Int),0≤i∧i < ((rloads.length:Nat):Int),Sd 82 [(aI ((rloads.getD ((i).toNat) TPm.d).f_X))] [] 0 (aI rsize) [],Sd 81 [(.sl 2 (fun zi=>(fun zi=>([[(aI ((rloads.getD ((i).toNat) TPm.d).fMa))],[(aI rsize)]]:List (List AV)).getD zi []) (addz 0 zi)))] [] 0 (.agg (TRat.cells rproduct3)) [],0+2≤2,Sd 80 [(.agg (TRat.cells ends)),(.agg (TRat.cells rproduct3))] [] 0 (.agg (TRat.cells rAddRat4)) [],0 < 1] ⟨o1,c,c,(g_r05_size_ok N ((rloads.getD ((i).toNat) TPm.d).f_X) rsize hr12),(Sound.conv (g_r05_product_ok N ([(rloads.getD ((i).toNat) TPm.d).fMa,rsize]:List Int) rproduct3 hr13) (.cons (Alike.sl rfl (fun zq hzq=>get_chunk cI 0 ([(rloads.getD ((i).toNat) TPm.d).fMa,rsize]:List Int) zq hzq)) .nil)),z0,(g_r01_AddRat_ok N ends rproduct3 rAddRat4 hr14),o1,trivial⟩ ?_
   refine sA 1 [.code (C_80 979),.inLoop (C_80 244),.inBlock 0,.code (C_80 31)] ?_
   refine sR hE ⟨[(2,(.op 0 0 0)),(4,(.op 1 0 0)),(5,(.op 2 0 0)),(6,(.op 3 0 0)),(7,(.op 4 0 0)),(8,(.op 5 0 0)),(9,(encL TPm.cells TPm.d rloads)),(10,(aI (w64 (i+1))))],[(0,vO 5 (TPn.cells p)),(1,vO 16 [(aB false),.nil,(aB false),.nil,(aB false),.nil,(aB false),.nil,(aB false),.nil,(aB false),.nil,(aB false),.nil,(aB false),.nil]),(2,vO 4 (TRat.cells rAddRat)),(3,vO 4 (TRat.cells rAddRat2)),(4,vO 4 (TRat.cells rAddRat3)),(5,vO 4 (TRat.cells rAddRat4))],998⟩ (C_80 979) [] [] (kp [2,4,5,6,7,8,9,10]) (kq [0,1,2,3,4,5]) 998 [] trivial ?_
   refine sA 1 [.code (C_80 244),.inLoop (C_80 244),.inBlock 0,.code (C_80 31)] ?_
   exact sW hE _ [] (kp [2,4,5,6,7,8,9,10]) (kq [0,1,2,3,4,5]) 6 [] trivial (ih rAddRat rAddRat2 rAddRat3 rAddRat4 (w64 (i+1)) _ h E hE)
  ·have h:=condF h hq2
   refine sA 2 [.code (C_80 62),.code (C_80 63)] ?_
   refine sR hE ⟨[(4,(.op 1 0 0)),(5,(.op 2 0 0)),(6,(.op 3 0 0)),(7,(.op 4 0 0)),(8,(.op 5 0 0)),(11,(aI p.fLn)),(12,(aI p.fBr)),(13,(aI p.fDsity))],[(1,vO 16 [(aB false),.nil,(aB false),.nil,(aB false),.nil,(aB false),.nil,(aB false),.nil,(aB false),.nil,(aB false),.nil,(aB false),.nil]),(2,vO 4 (TRat.cells mass)),(3,vO 4 (TRat.cells trim)),(4,vO 4 (TRat.cells heel)),(5,vO 4 (TRat.cells ends))],214⟩ (C_80 62) [] [] (kp [4,5,6,7,8,11,12,13]) (kq [1,2,3,4,5]) 214 [0 < 1,0 < 1,0 < 1] ⟨o1,o1,o1,trivial⟩ ?_
   refine sA 1 [.code (C_80 126),.code (C_80 127)] ?_
   obtain ⟨rQ6,hr15,h⟩:=bindSome h
   refine sR hE ⟨[(4,(.op 1 0 0)),(5,(.op 2 0 0)),(6,(.op 3 0 0)),(7,(.op 4 0 0)),(8,(.op 5 0 0)),(11,(aI p.fLn)),(12,(aI p.fBr)),(13,(aI p.fDsity)),(14,(.op 230 0 0))],[(1,vO 16 [(aB false),.nil,(aB false),.nil,(aB false),.nil,(aB false),.nil,(aB false),.nil,(aB false),.nil,(aB false),.nil,(aB false),.nil]),(2,vO 4 (TRat.cells mass)),(3,vO 4 (TRat.cells trim)),(4,vO 4 (TRat.cells heel)),(5,vO 4 (TRat.cells ends)),(230,vO 4 (TRat.cells rQ6))],262⟩ (C_80 126) [(0,⟨[],true,(.agg (TRat.cells rQ6)),[],0,false,none⟩)] [] (kp [4,5,6,7,8,11,12,13,14]) (kq [1,2,3,4,5,230]) 262 [Sd 78 [(aI 1000000000)] [] 0 (.agg (TRat.cells rQ6)) [],0 < 1] ⟨(g_r01_Q_ok N 1000000000 rQ6 hr15),o1,trivial⟩ ?_
   refine sA 1 [.code (C_80 254),.code (C_80 255)] ?_
   obtain ⟨rQ7,hr16,h⟩:=bindSome h
   obtain ⟨rMulRat,hr17,h⟩:=bindSome h
   refine sR hE ⟨[(4,(.op 1 0 0)),(5,(.op 2 0 0)),(6,(.op 3 0 0)),(7,(.op 4 0 0)),(8,(.op 5 0 0)),(11,(aI p.fLn)),(12,(aI p.fBr)),(13,(aI p.fDsity)),(14,(.op 230 0 0)),(15,(.op 310 0 0))],[(1,vO 16 [(aB false),.nil,(aB false),.nil,(aB false),.nil,(aB false),.nil,(aB false),.nil,(aB false),.nil,(aB false),.nil,(aB false),.nil]),(2,vO 4 (TRat.cells mass)),(3,vO 4 (TRat.cells trim)),(4,vO 4 (TRat.cells heel)),(5,vO 4 (TRat.cells ends)),(230,vO 4 (TRat.cells rQ6)),(310,vO 4 (TRat.cells rMulRat))],342⟩ (C_80 254) [(0,⟨[],true,(.agg (TRat.cells rQ7)),[],0,false,none⟩),(2,⟨[],true,(.agg (TRat.cells rMulRat)),[],0,false,none⟩)] [] (kp [4,5,6,7,8,11,12,13,14,15]) (kq [1,2,3,4,5,230,310]) 342 [Sd 78 [(aI 12)] [] 0 (.agg (TRat.cells rQ7)) [],0 < 1,Sd 83 [(.agg (TRat.cells rQ7)),(.agg (TRat.cells rQ6))] [] 0 (.agg (TRat.cells rMulRat)) [],0 < 1] ⟨(g_r01_Q_ok N 12 rQ7 hr16),o1,(g_r01_MulRat_ok N rQ7 rQ6 rMulRat hr17),o1,trivial⟩ ?_
   refine sA 1 [.code (C_80 510),.code (C_80 511)] ?_
   obtain ⟨rMulRat2,hr18,h⟩:=bindSome h
   obtain ⟨rproduct4,hr19,h⟩:=bindSome h
   obtain ⟨rQuoRat,hr20,h⟩:=bindSome h
   obtain ⟨rMulRat3,hr21,h⟩:=bindSome h
   obtain ⟨rproduct5,hr22,h⟩:=bindSome h
   obtain ⟨rQuoRat2,hr23,h⟩:=bindSome h
   obtain ⟨rMulRat4,hr24,h⟩:=bindSome h
   obtain ⟨rproduct6,hr25,h⟩:=bindSome h
   obtain ⟨rQuoRat3,hr26,h⟩:=bindSome h
   obtain ⟨rQ8,hr27,h⟩:=bindSome h
   obtain ⟨rQuoRat4,hr28,h⟩:=bindSome h
   obtain ⟨rQ9,hr29,h⟩:=bindSome h
   obtain ⟨rMulRat5,hr30,h⟩:=bindSome h
   obtain ⟨rQ10,hr31,h⟩:=bindSome h
   obtain ⟨rQuoRat5,hr32,h⟩:=bindSome h
   obtain ⟨rSubRat,hr33,h⟩:=bindSome h
   refine sR hE ⟨[(4,(.op 1 0 0))],[(1,vO 16 [(aB rQuoRat.fN.fG),(eU rQuoRat.fN.fL),(aB rQuoRat.fD.fG),(eU rQuoRat.fD.fL),(aB rQuoRat2.fN.fG),(eU rQuoRat2.fN.fL),(aB rQuoRat2.fD.fG),(eU rQuoRat2.fD.fL),(aB rQuoRat3.fN.fG),(eU rQuoRat3.fN.fL),(aB rQuoRat3.fD.fG),(eU rQuoRat3.fD.fL),(aB rSubRat.fN.fG),(eU rSubRat.fN.fL),(aB rSubRat.fD.fG),(eU rSubRat.fD.fL)])],1030⟩ (C_80 510) [(2,⟨[],true,(.agg (TRat.cells rMulRat2)),[],0,false,none⟩),(7,⟨[],true,(.agg (TRat.cells rproduct4)),[],0,true,none⟩),(8,⟨[],true,(.agg (TRat.cells rQuoRat)),[],0,false,none⟩),(11,⟨[],true,(.agg (TRat.cells rMulRat3)),[],0,false,none⟩),(18,⟨[],true,(.agg (TRat.cells rproduct5)),[],0,true,none⟩),(19,⟨[],true,(.agg (TRat.cells rQuoRat2)),[],0,false,none⟩),(22,⟨[],true,(.agg (TRat.cells rMulRat4)),[],0,false,none⟩),(29,⟨[],true,(.agg (TRat.cells rproduct6)),[],0,true,none⟩),(30,⟨[],true,(.agg (TRat.cells rQuoRat3)),[],0,false,none⟩),(32,⟨[],true,(.agg (TRat.cells rQ8)),[],0,false,none⟩),(33,⟨[],true,(.agg (TRat.cells rQuoRat4)),[],0,false,none⟩),(36,⟨[],true,(.agg (TRat.cells rQ9)),[],0,false,none⟩),(37,⟨[],true,(.agg (TRat.cells rMulRat5)),[],0,false,none⟩),(38,⟨[],true,(.agg (TRat.cells rQ10)),[],0,false,none⟩),(39,⟨[],true,(.agg (TRat.cells rQuoRat5)),[],0,false,none⟩),(40,⟨[],true,(.agg (TRat.cells rSubRat)),[],0,false,none⟩)] [] (kp [4]) (kq [1]) 1030 [0 < 1,0 < 1,Sd 83 [(.agg (TRat.cells rQ6)),(.agg (TRat.cells mass))] [] 0 (.agg (TRat.cells rMulRat2)) [],Sd 81 [(.sl 3 (fun zi=>(fun zi=>([[(aI p.fDsity)],[(aI p.fLn)],[(aI p.fBr)]]:List (List AV)).getD zi []) (addz 0 zi)))] [] 0 (.agg (TRat.cells rproduct4)) [],0+3≤3,Sd 84 [(.agg (TRat.cells rMulRat2)),(.agg (TRat.cells rproduct4))] [] 0 (.agg (TRat.cells rQuoRat)) [],0 < 1,0 < 1,Sd 83 [(.agg (TRat.cells rMulRat)),(.agg (TRat.cells trim))] [] 0 (.agg (TRat.cells rMulRat3)) [],Sd 81 [(.sl 5 (fun zi=>(fun zi=>([[(aI p.fDsity)],[(aI p.fBr)],[(aI p.fLn)],[(aI p.fLn)],[(aI p.fLn)]]:List (List AV)).getD zi []) (addz 0 zi)))] [] 0 (.agg (TRat.cells rproduct5)) [],0+5≤5,Sd 84 [(.agg (TRat.cells rMulRat3)),(.agg (TRat.cells rproduct5))] [] 0 (.agg (TRat.cells rQuoRat2)) [],0 < 1,0 < 1,Sd 83 [(.agg (TRat.cells rMulRat)),(.agg (TRat.cells heel))] [] 0 (.agg (TRat.cells rMulRat4)) [],Sd 81 [(.sl 5 (fun zi=>(fun zi=>([[(aI p.fDsity)],[(aI p.fLn)],[(aI p.fBr)],[(aI p.fBr)],[(aI p.fBr)]]:List (List AV)).getD zi []) (addz 0 zi)))] [] 0 (.agg (TRat.cells rproduct6)) [],0+5≤5,Sd 84 [(.agg (TRat.cells rMulRat4)),(.agg (TRat.cells rproduct6))] [] 0 (.agg (TRat.cells rQuoRat3)) [],0 < 1,Sd 78 [(aI 2)] [] 0 (.agg (TRat.cells rQ8)) [],Sd 84 [(.agg (TRat.cells ends)),(.agg (TRat.cells rQ8))] [] 0 (.agg (TRat.cells rQuoRat4)) [],0 < 1,Sd 78 [(aI p.fLn)] [] 0 (.agg (TRat.cells rQ9)) [],Sd 83 [(.agg (TRat.cells mass)),(.agg (TRat.cells rQ9))] [] 0 (.agg (TRat.cells rMulRat5)) [],Sd 78 [(aI 8)] [] 0 (.agg (TRat.cells rQ10)) [],Sd 84 [(.agg (TRat.cells rMulRat5)),(.agg (TRat.cells rQ10))] [] 0 (.agg (TRat.cells rQuoRat5)) [],Sd 85 [(.agg (TRat.cells rQuoRat4)),(.agg (TRat.cells rQuoRat5))] [] 0 (.agg (TRat.cells rSubRat)) [],0 < 1] ⟨o1,o1,(g_r01_MulRat_ok N rQ6 mass rMulRat2 hr18),(Sound.conv (g_r05_product_ok N ([p.fDsity,p.fLn,p.fBr]:List Int) rproduct4 hr19) (.cons (Alike.sl rfl (fun zq hzq=>get_chunk cI 0 ([p.fDsity,p.fLn,p.fBr]:List Int) zq hzq)) .nil)),z0,(g_r01_QuoRat_ok N rMulRat2 rproduct4 rQuoRat hr20),o1,o1,(g_r01_MulRat_ok N rMulRat trim rMulRat3 hr21),(Sound.conv (g_r05_product_ok N ([p.fDsity,p.fBr,p.fLn,p.fLn,p.fLn]:List Int) rproduct5 hr22) (.cons (Alike.sl rfl (fun zq hzq=>get_chunk cI 0 ([p.fDsity,p.fBr,p.fLn,p.fLn,p.fLn]:List Int) zq hzq)) .nil)),z0,(g_r01_QuoRat_ok N rMulRat3 rproduct5 rQuoRat2 hr23),o1,o1,(g_r01_MulRat_ok N rMulRat heel rMulRat4 hr24),(Sound.conv (g_r05_product_ok N ([p.fDsity,p.fLn,p.fBr,p.fBr,p.fBr]:List Int) rproduct6 hr25) (.cons (Alike.sl rfl (fun zq hzq=>get_chunk cI 0 ([p.fDsity,p.fLn,p.fBr,p.fBr,p.fBr]:List Int) zq hzq)) .nil)),z0,(g_r01_QuoRat_ok N rMulRat4 rproduct6 rQuoRat3 hr26),o1,(g_r01_Q_ok N 2 rQ8 hr27),(g_r01_QuoRat_ok N ends rQ8 rQuoRat4 hr28),o1,(g_r01_Q_ok N p.fLn rQ9 hr29),(g_r01_MulRat_ok N mass rQ9 rMulRat5 hr30),(g_r01_Q_ok N 8 rQ10 hr31),(g_r01_QuoRat_ok N rMulRat5 rQ10 rQuoRat5 hr32),(g_r01_SubRat_ok N rQuoRat4 rQuoRat5 rSubRat hr33),o1,trivial⟩ ?_
   obtain rfl:=Option.some.inj h
   refine sW hE ⟨[(4,(.op 16 0 0))],[(16,vO 16 [(aB rQuoRat.fN.fG),(eU rQuoRat.fN.fL),(aB rQuoRat.fD.fG),(eU rQuoRat.fD.fL),(aB rQuoRat2.fN.fG),(eU rQuoRat2.fN.fL),(aB rQuoRat2.fD.fG),(eU rQuoRat2.fD.fL),(aB rQuoRat3.fN.fG),(eU rQuoRat3.fN.fL),(aB rQuoRat3.fD.fG),(eU rQuoRat3.fD.fL),(aB rSubRat.fN.fG),(eU rSubRat.fN.fL),(aB rSubRat.fD.fG),(eU rSubRat.fD.fL)])],1030⟩ [] (kp [4]) [(16,.keep 1)] 1030 [] trivial ?_
   exact sT Tryz.f59 [16] [0 < 1] ⟨o1,trivial⟩
theorem g_r05_Float_ok (N:Nat) (p:TPn) (steps:List Int) (r:TPose) (h:g_r05_Float N p steps=some r):Sd 59 [(.agg (TPn.cells p)),(encL cI 0 steps)] [] 0 (.agg (TPose.cells r)) []:=by
 unfold g_r05_Float at h
 refine Sound.of_runs (fu:=Tryz.f59) (c:=C_80 1) (nt:=132) (by kernel_rfl) (by kernel_rfl) (by kernel_rfl) (by kernel_rfl) (fun hm=>rfl) ?_
 intro E hE
 refine sA 1 [.code (C_80 2),.code (C_80 3)] ?_
 refine sR hE ⟨[(1,(encL cI 0 steps)),(2,(.op 0 0 0)),(4,(.op 16 0 0))],[(0,vO 5 (TPn.cells p)),(16,vO 16 [(aB false),.nil,(aB false),.nil,(aB false),.nil,(aB false),.nil,(aB false),.nil,(aB false),.nil,(aB false),.nil,(aB false),.nil])],32⟩ (C_80 2) [] [] (kp [1,2,4]) (kq [0,16]) 32 [] trivial ?_
 refine sA 1 [.code (C_80 6),.code (C_80 7)] ?_
 obtain ⟨rQ,hr,h⟩:=bindSome h
 obtain ⟨rQ2,hr2,h⟩:=bindSome h
 obtain ⟨rQ3,hr3,h⟩:=bindSome h
 obtain ⟨rQ4,hr4,h⟩:=bindSome h
 refine sR hE ⟨[(1,(encL cI 0 steps)),(2,(.op 0 0 0)),(4,(.op 16 0 0)),(5,(.op 96 0 0)),(6,(.op 112 0 0)),(7,(.op 128 0 0)),(8,(.op 144 0 0))],[(0,vO 5 (TPn.cells p)),(16,vO 16 [(aB false),.nil,(aB false),.nil,(aB false),.nil,(aB false),.nil,(aB false),.nil,(aB false),.nil,(aB false),.nil,(aB false),.nil]),(96,vO 4 (TRat.cells rQ)),(112,vO 4 (TRat.cells rQ2)),(128,vO 4 (TRat.cells rQ3)),(144,vO 4 (TRat.cells rQ4))],224⟩ (C_80 6) [(0,⟨[],true,(.agg (TRat.cells rQ)),[],0,false,none⟩),(1,⟨[],true,(.agg (TRat.cells rQ2)),[],0,false,none⟩),(2,⟨[],true,(.agg (TRat.cells rQ3)),[],0,false,none⟩),(3,⟨[],true,(.agg (TRat.cells rQ4)),[],0,false,none⟩)] [] (kp [1,2,4,5,6,7,8]) (kq [0,16,96,112,128,144]) 224 [Sd 78 [(aI 0)] [] 0 (.agg (TRat.cells rQ)) [],Sd 78 [(aI 0)] [] 0 (.agg (TRat.cells rQ2)) [],Sd 78 [(aI 0)] [] 0 (.agg (TRat.cells rQ3)) [],Sd 78 [(aI 0)] [] 0 (.agg (TRat.cells rQ4)) [],0 < 1,0 < 1,0 < 1,0 < 1] ⟨(g_r01_Q_ok N 0 rQ hr),(g_r01_Q_ok N 0 rQ2 hr2),(g_r01_Q_ok N 0 rQ3 hr3),(g_r01_Q_ok N 0 rQ4 hr4),o1,o1,o1,o1,trivial⟩ ?_
 refine sA 1 [.code (C_80 14),.code (C_80 15)] ?_
 obtain ⟨rloads,hr5,h⟩:=bindSome h
 refine sR hE ⟨[(2,(.op 0 0 0)),(4,(.op 16 0 0)),(5,(.op 96 0 0)),(6,(.op 112 0 0)),(7,(.op 128 0 0)),(8,(.op 144 0 0)),(9,(encL TPm.cells TPm.d rloads))],[(0,vO 5 (TPn.cells p)),(16,vO 16 [(aB false),.nil,(aB false),.nil,(aB false),.nil,(aB false),.nil,(aB false),.nil,(aB false),.nil,(aB false),.nil,(aB false),.nil]),(96,vO 4 (TRat.cells rQ)),(112,vO 4 (TRat.cells rQ2)),(128,vO 4 (TRat.cells rQ3)),(144,vO 4 (TRat.cells rQ4))],288⟩ (C_80 14) [(2,⟨[],true,(encL TPm.cells TPm.d rloads),[],0,false,none⟩)] [] (kp [2,4,5,6,7,8,9]) (kq [0,16,96,112,128,144]) 288 [0 < 1,Sd 79 [(.agg (TPn.cells p)),(encL cI 0 steps)] [] 0 (encL TPm.cells TPm.d rloads) []] ⟨o1,(g_r05_loads_ok N p steps rloads hr5),trivial⟩ ?_
 refine sA 2 [.code (C_80 60),.code (C_80 61),.code (C_80 31)] ?_
 refine sR hE ⟨[(2,(.op 0 0 0)),(4,(.op 16 0 0)),(5,(.op 96 0 0)),(6,(.op 112 0 0)),(7,(.op 128 0 0)),(8,(.op 144 0 0)),(9,(encL TPm.cells TPm.d rloads)),(10,(aI 0))],[(0,vO 5 (TPn.cells p)),(16,vO 16 [(aB false),.nil,(aB false),.nil,(aB false),.nil,(aB false),.nil,(aB false),.nil,(aB false),.nil,(aB false),.nil,(aB false),.nil]),(96,vO 4 (TRat.cells rQ)),(112,vO 4 (TRat.cells rQ2)),(128,vO 4 (TRat.cells rQ3)),(144,vO 4 (TRat.cells rQ4))],304⟩ (C_80 60) [] [] (kp [2,4,5,6,7,8,9,10]) (kq [0,16,96,112,128,144]) 304 [] trivial ?_
 refine sA 2 [.code (C_80 244),.inLoop (C_80 244),.inBlock 0,.code (C_80 31)] ?_
 exact sW hE _ [] (kp [2,4,5,6,7,8,9,10]) (kq [0] ++ [(1,.keep 16),(2,.keep 96),(3,.keep 112),(4,.keep 128),(5,.keep 144)]) 6 [] trivial (g_r05_Float_L1_ok N p rloads N rQ rQ2 rQ3 rQ4 0 _ h E hE)
noncomputable def C_109 (n:Nat):Code:=cat (bodyOf Tryz.f126) (pth n)
theorem g_r01_Sign_ok (N:Nat) (a:TInt) (r:Int) (h:g_r01_Sign N a=some r):Sd 126 [(.agg (TInt.cells a))] [] 0 (aI r) []:=by
 unfold g_r01_Sign at h
 refine Sound.of_runs (fu:=Tryz.f126) (c:=C_109 1) (nt:=10) (by kernel_rfl) (by kernel_rfl) (by kernel_rfl) (by kernel_rfl) (fun hm=>rfl) ?_
 intro E hE
 refine sA 1 [.code (C_109 2),.code (C_109 3)] ?_
 refine sR hE ⟨[(1,(.op 0 0 0))],[(0,vO 2 (TInt.cells a))],32⟩ (C_109 2) [] [] (kp [1]) (kq [0]) 32 [] trivial ?_
 refine sA 2 [.code (C_109 12),.code (C_109 13),.code (C_109 7)] ?_
 obtain ⟨rread,hr,h⟩:=bindSome h
 refine sR hE ⟨[(1,(.op 0 0 0)),(7,(aB (((rread.length:Nat):Int) == 0)))],[(0,vO 2 (TInt.cells a))],112⟩ (C_109 12) [(2,⟨[],true,(encL cI 0 rread),[],0,false,none⟩)] [] (kp [1,7]) (kq [0]) 112 [0 < 1,Sd 119 [(eU a.fL)] [] 0 (encL cI 0 rread) []] ⟨o1,(g_r01_read_ok N a.fL rread hr),trivial⟩ ?_
 refine sC 7 (C_109 26) (C_109 27) (((rread.length:Nat):Int) == 0) (fun hq2=>?_) (fun hq2=>?_)
 ·have h:=condT h hq2
  refine sA 1 [.code (C_109 52),.code (C_109 53),.code (C_109 7)] ?_
  refine sR hE ⟨[(2,(aI 0))],[],128⟩ (C_109 52) [] [] (kp [2]) [] 128 [] trivial ?_
  obtain rfl:=Option.some.inj h
  refine sW hE ⟨[(2,(aI 0))],[],128⟩ [] (kp [2]) [] 128 [] trivial ?_
  exact sT Tryz.f126 [] [] trivial
 ·have h:=condF h hq2
  refine sA 3 [.code (C_109 28),.code (C_109 29),.code (C_109 15)] ?_
  refine sR hE ⟨[(9,(aB a.fG))],[],144⟩ (C_109 28) [] [] (kp [9]) [] 144 [0 < 1] ⟨o1,trivial⟩ ?_
  refine sC 9 (C_109 58) (C_109 59) a.fG (fun hq3=>?_) (fun hq3=>?_)
  ·have h:=condT h hq3
   refine sA 1 [.code (C_109 116),.code (C_109 117),.code (C_109 15)] ?_
   refine sR hE ⟨[(2,(aI (-1)))],[],160⟩ (C_109 116) [] [] (kp [2]) [] 160 [] trivial ?_
   obtain rfl:=Option.some.inj h
   refine sW hE ⟨[(2,(aI (-1)))],[],160⟩ [] (kp [2]) [] 160 [] trivial ?_
   exact sT Tryz.f126 [] [] trivial
  ·have h:=condF h hq3
   refine sA 2 [.code (C_109 30),.code (C_109 31)] ?_
   refine sR hE ⟨[(2,(aI 1))],[],160⟩ (C_109 30) [] [] (kp [2]) [] 160 [] trivial ?_
   obtain rfl:=Option.some.inj h
   refine sW hE ⟨[(2,(aI 1))],[],160⟩ [] (kp [2]) [] 160 [] trivial ?_
   exact sT Tryz.f126 [] [] trivial
noncomputable def C_108 (n:Nat):Code:=cat (bodyOf Tryz.f108) (pth n)
theorem g_r01_SignRat_ok (N:Nat) (x:TRat) (r:Int) (h:g_r01_SignRat N x=some r):Sd 108 [(.agg (TRat.cells x))] [] 0 (aI r) []:=by
 unfold g_r01_SignRat at h
 refine Sound.of_runs (fu:=Tryz.f108) (c:=C_108 1) (nt:=7) (by kernel_rfl) (by kernel_rfl) (by kernel_rfl) (by kernel_rfl) (fun hm=>rfl) ?_
 intro E hE
 refine sA 1 [.code (C_108 2),.code (C_108 3)] ?_
 refine sR hE ⟨[(1,(.op 0 0 0))],[(0,vO 4 (TRat.cells x))],32⟩ (C_108 2) [] [] (kp [1]) (kq [0]) 32 [] trivial ?_
 refine sA 1 [.code (C_108 6),.code (C_108 7)] ?_
 obtain ⟨rNormRat,hr,h⟩:=bindSome h
 obtain ⟨rSign,hr2,h⟩:=bindSome h
 refine sR hE ⟨[(2,(aI rSign))],[],112⟩ (C_108 6) [(1,⟨[],true,(.agg (TRat.cells rNormRat)),[],0,false,none⟩),(3,⟨[],true,(aI rSign),[],0,false,none⟩)] [] (kp [2]) [] 112 [0 < 1,Sd 104 [(.agg (TRat.cells x))] [] 0 (.agg (TRat.cells rNormRat)) [],Sd 126 [(.agg (TInt.cells rNormRat.fN))] [] 0 (aI rSign) []] ⟨o1,(g_r01_NormRat_ok N x rNormRat hr),(g_r01_Sign_ok N rNormRat.fN rSign hr2),trivial⟩ ?_
 obtain rfl:=Option.some.inj h
 refine sW hE ⟨[(2,(aI rSign))],[],112⟩ [] (kp [2]) [] 112 [] trivial ?_
 exact sT Tryz.f108 [] [] trivial
noncomputable def C_107 (n:Nat):Code:=cat (bodyOf Tryz.f86) (pth n)
theorem g_r01_CmpRat_ok (N:Nat) (x:TRat) (y:TRat) (r:Int) (h:g_r01_CmpRat N x y=some r):Sd 86 [(.agg (TRat.cells x)),(.agg (TRat.cells y))] [] 0 (aI r) []:=by
 unfold g_r01_CmpRat at h
 refine Sound.of_runs (fu:=Tryz.f86) (c:=C_107 1) (nt:=9) (by kernel_rfl) (by kernel_rfl) (by kernel_rfl) (by kernel_rfl) (fun hm=>rfl) ?_
 intro E hE
 refine sA 1 [.code (C_107 2),.code (C_107 3)] ?_
 refine sR hE ⟨[(2,(.op 0 0 0)),(3,(.op 16 0 0))],[(0,vO 4 (TRat.cells x)),(16,vO 4 (TRat.cells y))],48⟩ (C_107 2) [] [] (kp [2,3]) (kq [0,16]) 48 [] trivial ?_
 refine sA 1 [.code (C_107 6),.code (C_107 7)] ?_
 obtain ⟨rSubRat,hr,h⟩:=bindSome h
 obtain ⟨rSignRat,hr2,h⟩:=bindSome h
 refine sR hE ⟨[(4,(aI rSignRat))],[],128⟩ (C_107 6) [(2,⟨[],true,(.agg (TRat.cells rSubRat)),[],0,false,none⟩),(3,⟨[],true,(aI rSignRat),[],0,false,none⟩)] [] (kp [4]) [] 128 [0 < 1,0 < 1,Sd 85 [(.agg (TRat.cells x)),(.agg (TRat.cells y))] [] 0 (.agg (TRat.cells rSubRat)) [],Sd 108 [(.agg (TRat.cells rSubRat))] [] 0 (aI rSignRat) []] ⟨o1,o1,(g_r01_SubRat_ok N x y rSubRat hr),(g_r01_SignRat_ok N rSubRat rSignRat hr2),trivial⟩ ?_
 obtain rfl:=Option.some.inj h
 refine sW hE ⟨[(4,(aI rSignRat))],[],128⟩ [] (kp [4]) [] 128 [] trivial ?_
 exact sT Tryz.f86 [] [] trivial
noncomputable def C_106 (n:Nat):Code:=cat (bodyOf Tryz.f60) (pth n)
theorem g_r05_between_ok (N:Nat) (x:TRat) (low:Int) (high:Int) (r:Bool) (h:g_r05_between N x low high=some r):Sd 60 [(.agg (TRat.cells x)),(aI low),(aI high)] [] 0 (aB r) []:=by
 unfold g_r05_between at h
 refine Sound.of_runs (fu:=Tryz.f60) (c:=C_106 1) (nt:=19) (by kernel_rfl) (by kernel_rfl) (by kernel_rfl) (by kernel_rfl) (fun hm=>rfl) ?_
 intro E hE
 refine sA 1 [.code (C_106 2),.code (C_106 3)] ?_
 refine sR hE ⟨[(1,(aI low)),(2,(aI high)),(3,(.op 0 0 0))],[(0,vO 4 (TRat.cells x))],32⟩ (C_106 2) [] [] (kp [1,2,3]) (kq [0]) 32 [] trivial ?_
 refine sA 1 [.code (C_106 6),.code (C_106 7)] ?_
 obtain ⟨rQ,hr,h⟩:=bindSome h
 obtain ⟨rCmpRat,hr2,h⟩:=bindSome h
 obtain ⟨rQ2,hr3,h⟩:=bindSome h
 obtain ⟨rCmpRat2,hr4,h⟩:=bindSome h
 refine sR hE ⟨[(6,(aB (cond (decide (rCmpRat≥0)) (decide (rCmpRat2≤0)) false)))],[],240⟩ (C_106 6) [(2,⟨[],true,(.agg (TRat.cells rQ)),[],0,false,none⟩),(3,⟨[],true,(aI rCmpRat),[],0,false,none⟩),(8,⟨[],true,(.agg (TRat.cells rQ2)),[],0,false,none⟩),(9,⟨[],true,(aI rCmpRat2),[],0,false,none⟩)] [] (kp [6]) [] 240 [0 < 1,Sd 78 [(aI low)] [] 0 (.agg (TRat.cells rQ)) [],Sd 86 [(.agg (TRat.cells x)),(.agg (TRat.cells rQ))] [] 0 (aI rCmpRat) [],(decide (rCmpRat≥0))=true→AllP [0 < 1],(decide (rCmpRat≥0))=true→AllP [Sd 78 [(aI high)] [] 0 (.agg (TRat.cells rQ2)) [],(decide (rCmpRat≥0))=true],(decide (rCmpRat≥0))=true→AllP [Sd 86 [(.agg (TRat.cells x)),(.agg (TRat.cells rQ2))] [] 0 (aI rCmpRat2) [],(decide (rCmpRat≥0))=true,(decide (rCmpRat≥0))=true],(decide (rCmpRat≥0))=true→AllP [(decide (rCmpRat≥0))=true],(decide (rCmpRat≥0))=true→AllP [(decide (rCmpRat≥0))=true]] ⟨o1,(g_r01_Q_ok N low rQ hr),(g_r01_CmpRat_ok N x rQ rCmpRat hr2),(fun hg=>⟨o1,trivial⟩),(fun hg=>⟨(g_r01_Q_ok N high rQ2 (condT hr3 hg)),hg,trivial⟩),(fun hg=>⟨(g_r01_CmpRat_ok N x rQ2 rCmpRat2 (condT hr4 hg)),hg,hg,trivial⟩),(fun hg=>⟨hg,trivial⟩),(fun hq=>⟨hq,trivial⟩),trivial⟩ ?_
 obtain rfl:=Option.some.inj h
 refine sW hE ⟨[(6,(aB (cond (decide (rCmpRat≥0)) (decide (rCmpRat2≤0)) false)))],[],240⟩ [] (kp [6]) [] 240 [] trivial ?_
 exact sT Tryz.f60 [] [] trivial
noncomputable def C_110 (n:Nat):Code:=cat (bodyOf Tryz.f61) (pth n)
theorem g_r05_atMost_ok (N:Nat) (x:TRat) (vby:Int) (most:Int) (r:Bool) (h:g_r05_atMost N x vby most=some r):Sd 61 [(.agg (TRat.cells x)),(aI vby),(aI most)] [] 0 (aB r) []:=by
 unfold g_r05_atMost at h
 refine Sound.of_runs (fu:=Tryz.f61) (c:=C_110 1) (nt:=25) (by kernel_rfl) (by kernel_rfl) (by kernel_rfl) (by kernel_rfl) (fun hm=>rfl) ?_
 intro E hE
 refine sA 1 [.code (C_110 2),.code (C_110 3)] ?_
 refine sR hE ⟨[(1,(aI vby)),(2,(aI most)),(3,(.op 0 0 0))],[(0,vO 4 (TRat.cells x))],32⟩ (C_110 2) [] [] (kp [1,2,3]) (kq [0]) 32 [] trivial ?_
 refine sA 1 [.code (C_110 6),.code (C_110 7)] ?_
 obtain ⟨rQ,hr,h⟩:=bindSome h
 obtain ⟨rMulRat,hr2,h⟩:=bindSome h
 refine sR hE ⟨[(2,(aI most)),(7,(.op 96 0 0))],[(96,vO 4 (TRat.cells rMulRat))],128⟩ (C_110 6) [(2,⟨[],true,(.agg (TRat.cells rQ)),[],0,false,none⟩),(3,⟨[],true,(.agg (TRat.cells rMulRat)),[],0,false,none⟩)] [] (kp [2,7]) (kq [96]) 128 [0 < 1,Sd 78 [(aI vby)] [] 0 (.agg (TRat.cells rQ)) [],Sd 83 [(.agg (TRat.cells x)),(.agg (TRat.cells rQ))] [] 0 (.agg (TRat.cells rMulRat)) [],0 < 1] ⟨o1,(g_r01_Q_ok N vby rQ hr),(g_r01_MulRat_ok N x rQ rMulRat hr2),o1,trivial⟩ ?_
 refine sA 1 [.code (C_110 14),.code (C_110 15)] ?_
 obtain ⟨rQ2,hr3,h⟩:=bindSome h
 obtain ⟨rCmpRat,hr4,h⟩:=bindSome h
 obtain ⟨rNegRat,hr5,h⟩:=bindSome h
 obtain ⟨rQ3,hr6,h⟩:=bindSome h
 obtain ⟨rCmpRat2,hr7,h⟩:=bindSome h
 refine sR hE ⟨[(6,(aB (cond (decide (rCmpRat≤0)) (decide (rCmpRat2≤0)) false)))],[],352⟩ (C_110 14) [(2,⟨[],true,(.agg (TRat.cells rQ2)),[],0,false,none⟩),(3,⟨[],true,(aI rCmpRat),[],0,false,none⟩),(7,⟨[],true,(.agg (TRat.cells rNegRat)),[],0,false,none⟩),(9,⟨[],true,(.agg (TRat.cells rQ3)),[],0,false,none⟩),(10,⟨[],true,(aI rCmpRat2),[],0,false,none⟩)] [] (kp [6]) [] 352 [0 < 1,Sd 78 [(aI most)] [] 0 (.agg (TRat.cells rQ2)) [],Sd 86 [(.agg (TRat.cells rMulRat)),(.agg (TRat.cells rQ2))] [] 0 (aI rCmpRat) [],(decide (rCmpRat≤0))=true→AllP [0 < 1],(decide (rCmpRat≤0))=true→AllP [Sd 87 [(.agg (TRat.cells rMulRat))] [] 0 (.agg (TRat.cells rNegRat)) [],(decide (rCmpRat≤0))=true],(decide (rCmpRat≤0))=true→AllP [Sd 78 [(aI most)] [] 0 (.agg (TRat.cells rQ3)) [],(decide (rCmpRat≤0))=true],(decide (rCmpRat≤0))=true→AllP [Sd 86 [(.agg (TRat.cells rNegRat)),(.agg (TRat.cells rQ3))] [] 0 (aI rCmpRat2) [],(decide (rCmpRat≤0))=true,(decide (rCmpRat≤0))=true],(decide (rCmpRat≤0))=true→AllP [(decide (rCmpRat≤0))=true],(decide (rCmpRat≤0))=true→AllP [(decide (rCmpRat≤0))=true]] ⟨o1,(g_r01_Q_ok N most rQ2 hr3),(g_r01_CmpRat_ok N rMulRat rQ2 rCmpRat hr4),(fun hg=>⟨o1,trivial⟩),(fun hg=>⟨(g_r01_NegRat_ok N rMulRat rNegRat (condT hr5 hg)),hg,trivial⟩),(fun hg=>⟨(g_r01_Q_ok N most rQ3 (condT hr6 hg)),hg,trivial⟩),(fun hg=>⟨(g_r01_CmpRat_ok N rNegRat rQ3 rCmpRat2 (condT hr7 hg)),hg,hg,trivial⟩),(fun hg=>⟨hg,trivial⟩),(fun hq=>⟨hq,trivial⟩),trivial⟩ ?_
 obtain rfl:=Option.some.inj h
 refine sW hE ⟨[(6,(aB (cond (decide (rCmpRat≤0)) (decide (rCmpRat2≤0)) false)))],[],352⟩ [] (kp [6]) [] 352 [] trivial ?_
 exact sT Tryz.f61 [] [] trivial
noncomputable def C_79 (n:Nat):Code:=cat (bodyOf Tryz.f31) (pth n)
theorem g_r05_Broken_J4_ok (N:Nat) (out4:List ByteArray) (r:(List ByteArray)) (h:g_r05_Broken_J4 N out4=some r):∀ E,EnvOk E 0→Runs Tryz.prog E 31 51 (SPost E [] (encL cS ByteArray.empty r)) [.code (C_79 510),.code (C_79 511)] ⟨[(8,(.os 0 0 out4.length))],[(0,aO 1 cS ByteArray.empty out4)],1⟩:=by
 intro E hE
 unfold g_r05_Broken_J4 at h
 refine sR hE ⟨[(6,(.os 0 0 out4.length))],[(0,aO 1 cS ByteArray.empty out4)],33⟩ (C_79 510) [] [] (kp [6]) (kq [0]) 33 [] trivial ?_
 obtain rfl:=Option.some.inj h
 refine sW hE ⟨[(6,(encL cS ByteArray.empty out4))],[],48⟩ [0] [(6,.sl (out4.length) (fun zi=>cS (out4.getD zi ByteArray.empty)))] [] 48 [out4.length=out4.length,0+out4.length≤out4.length,∀ zi,zi < out4.length→(fun zi=>cS (out4.getD zi ByteArray.empty)) zi=(fun zi=>cS (out4.getD zi ByteArray.empty)) (addz 0 zi)] ⟨rfl,z0,(fun _ _=>rfl),trivial⟩ ?_
 exact sT Tryz.f31 [] [] trivial
theorem g_r05_Broken_J3_ok (N:Nat) (l:TLimits) (rFloat:TPose) (out3:List ByteArray) (r:(List ByteArray)) (h:g_r05_Broken_J3 N l rFloat out3=some r):∀ E,EnvOk E 0→Runs Tryz.prog E 31 51 (SPost E [] (encL cS ByteArray.empty r)) [.code (C_79 508),.code (C_79 509),.code (C_79 255)] ⟨[(4,(.op 0 0 0)),(7,(.op 1 0 0)),(8,(.os 2 0 out3.length))],[(0,vO 5 (TLimits.cells l)),(1,vO 16 (TPose.cells rFloat)),(2,aO 1 cS ByteArray.empty out3)],3⟩:=by
 intro E hE
 unfold g_r05_Broken_J3 at h
 obtain ⟨ratMost3,hr5,h⟩:=bindSome h
 refine sR hE ⟨[(8,(.os 2 0 out3.length)),(46,(aB (!ratMost3)))],[(2,aO 1 cS ByteArray.empty out3)],99⟩ (C_79 508) [(4,⟨[],true,(aB ratMost3),[],0,false,none⟩)] [] (kp [8,46]) (kq [2]) 99 [0 < 1,0 < 1,Sd 61 [(.agg (TRat.cells rFloat.f_Hog)),(aI 1),(aI l.f_HogMost)] [] 0 (aB ratMost3) []] ⟨o1,o1,(g_r05_atMost_ok N rFloat.f_Hog 1 l.f_HogMost ratMost3 hr5),trivial⟩ ?_
 refine sC 46 (C_79 1018) (C_79 1019) (!ratMost3) (fun hq5=>?_) (fun hq5=>?_)
 ·have h:=condT h hq5
  obtain ⟨c3,h⟩:=ifSome h
  refine sR hE ⟨[(8,(.os 131 0 ((out3 ++ ([(⟨#[104,111,103]⟩:ByteArray)]:List ByteArray)).length)))],[(131,aO 1 cS ByteArray.empty (out3 ++ ([(⟨#[104,111,103]⟩:ByteArray)]:List ByteArray)))],163⟩ (C_79 1018) [] [] [(8,.osl ((out3 ++ ([(⟨#[104,111,103]⟩:ByteArray)]:List ByteArray)).length))] [(131,.arr 131 ((out3 ++ ([(⟨#[104,111,103]⟩:ByteArray)]:List ByteArray)).length) (fun zi=>cS ((out3 ++ ([(⟨#[104,111,103]⟩:ByteArray)]:List ByteArray)).getD zi ByteArray.empty)))] 163 [out3.length=out3.length,(out3.length+1) * 16≤140737488355328,0+1≤1,∀ zi,zi < 1→AV.oneL ((fun zi=>([[(aS (⟨#[104,111,103]⟩:ByteArray))]]:List (List AV)).getD zi []) (addz 0 zi))=true,(out3.length+1)=(out3 ++ ([(⟨#[104,111,103]⟩:ByteArray)]:List ByteArray)).length,out3.length+1=(out3 ++ ([(⟨#[104,111,103]⟩:ByteArray)]:List ByteArray)).length,∀ zi,zi < (out3 ++ ([(⟨#[104,111,103]⟩:ByteArray)]:List ByteArray)).length→(fun zi=>cS ((out3 ++ ([(⟨#[104,111,103]⟩:ByteArray)]:List ByteArray)).getD zi ByteArray.empty)) zi=((fun zm=>if zm < out3.length then (fun zi=>cS (out3.getD zi ByteArray.empty)) zm else (fun zi=>([[(aS (⟨#[104,111,103]⟩:ByteArray))]]:List (List AV)).getD zi []) (zm - out3.length))) zi] ⟨rfl,c3,z0,(oneN rfl),(len_app_raw rfl rfl),(len_app_raw rfl rfl),(get_app_raw cS ByteArray.empty out3 ([(⟨#[104,111,103]⟩:ByteArray)]:List ByteArray) rfl (fun _ _=>rfl) (fun zq hzq=>get_chunk cS ByteArray.empty ([(⟨#[104,111,103]⟩:ByteArray)]:List ByteArray) zq hzq)),trivial⟩ ?_
  refine sA 1 [.code (C_79 510),.code (C_79 511)] ?_
  exact sW hE _ [] (kp [8]) [(0,.keep 131)] 1 [] trivial (g_r05_Broken_J4_ok N (out3 ++ ([(⟨#[104,111,103]⟩:ByteArray)]:List ByteArray)) _ h E hE)
 ·have h:=condF h hq5
  refine sA 2 [.code (C_79 510),.code (C_79 511)] ?_
  exact sW hE _ [] (kp [8]) [(0,.keep 2)] 1 [] trivial (g_r05_Broken_J4_ok N out3 _ h E hE)
theorem g_r05_Broken_J2_ok (N:Nat) (l:TLimits) (rFloat:TPose) (out2:List ByteArray) (r:(List ByteArray)) (h:g_r05_Broken_J2 N l rFloat out2=some r):∀ E,EnvOk E 0→Runs Tryz.prog E 31 51 (SPost E [] (encL cS ByteArray.empty r)) [.code (C_79 252),.code (C_79 253),.code (C_79 127)] ⟨[(4,(.op 0 0 0)),(7,(.op 1 0 0)),(8,(.os 2 0 out2.length))],[(0,vO 5 (TLimits.cells l)),(1,vO 16 (TPose.cells rFloat)),(2,aO 1 cS ByteArray.empty out2)],3⟩:=by
 intro E hE
 unfold g_r05_Broken_J2 at h
 obtain ⟨ratMost2,hr4,h⟩:=bindSome h
 refine sR hE ⟨[(4,(.op 0 0 0)),(7,(.op 1 0 0)),(8,(.os 2 0 out2.length)),(37,(aB (!ratMost2)))],[(0,vO 5 (TLimits.cells l)),(1,vO 16 (TPose.cells rFloat)),(2,aO 1 cS ByteArray.empty out2)],99⟩ (C_79 252) [(4,⟨[],true,(aB ratMost2),[],0,false,none⟩)] [] (kp [4,7,8,37]) (kq [0,1,2]) 99 [0 < 1,0 < 1,Sd 61 [(.agg (TRat.cells rFloat.f_Heel)),(aI 1000),(aI l.f_HeelMost)] [] 0 (aB ratMost2) []] ⟨o1,o1,(g_r05_atMost_ok N rFloat.f_Heel 1000 l.f_HeelMost ratMost2 hr4),trivial⟩ ?_
 refine sC 37 (C_79 506) (C_79 507) (!ratMost2) (fun hq4=>?_) (fun hq4=>?_)
 ·have h:=condT h hq4
  obtain ⟨c2,h⟩:=ifSome h
  refine sR hE ⟨[(4,(.op 0 0 0)),(7,(.op 1 0 0)),(8,(.os 131 0 ((out2 ++ ([(⟨#[104,101,101,108]⟩:ByteArray)]:List ByteArray)).length)))],[(0,vO 5 (TLimits.cells l)),(1,vO 16 (TPose.cells rFloat)),(131,aO 1 cS ByteArray.empty (out2 ++ ([(⟨#[104,101,101,108]⟩:ByteArray)]:List ByteArray)))],163⟩ (C_79 506) [] [] (kp [4,7] ++ [(8,.osl ((out2 ++ ([(⟨#[104,101,101,108]⟩:ByteArray)]:List ByteArray)).length))]) (kq [0,1] ++ [(131,.arr 131 ((out2 ++ ([(⟨#[104,101,101,108]⟩:ByteArray)]:List ByteArray)).length) (fun zi=>cS ((out2 ++ ([(⟨#[104,101,101,108]⟩:ByteArray)]:List ByteArray)).getD zi ByteArray.empty)))]) 163 [out2.length=out2.length,(out2.length+1) * 16≤140737488355328,0+1≤1,∀ zi,zi < 1→AV.oneL ((fun zi=>([[(aS (⟨#[104,101,101,108]⟩:ByteArray))]]:List (List AV)).getD zi []) (addz 0 zi))=true,(out2.length+1)=(out2 ++ ([(⟨#[104,101,101,108]⟩:ByteArray)]:List ByteArray)).length,out2.length+1=(out2 ++ ([(⟨#[104,101,101,108]⟩:ByteArray)]:List ByteArray)).length,∀ zi,zi < (out2 ++ ([(⟨#[104,101,101,108]⟩:ByteArray)]:List ByteArray)).length→(fun zi=>cS ((out2 ++ ([(⟨#[104,101,101,108]⟩:ByteArray)]:List ByteArray)).getD zi ByteArray.empty)) zi=((fun zm=>if zm < out2.length then (fun zi=>cS (out2.getD zi ByteArray.empty)) zm else (fun zi=>([[(aS (⟨#[104,101,101,108]⟩:ByteArray))]]:List (List AV)).getD zi []) (zm - out2.length))) zi] ⟨rfl,c2,z0,(oneN rfl),(len_app_raw rfl rfl),(len_app_raw rfl rfl),(get_app_raw cS ByteArray.empty out2 ([(⟨#[104,101,101,108]⟩:ByteArray)]:List ByteArray) rfl (fun _ _=>rfl) (fun zq hzq=>get_chunk cS ByteArray.empty ([(⟨#[104,101,101,108]⟩:ByteArray)]:List ByteArray) zq hzq)),trivial⟩ ?_
  refine sA 2 [.code (C_79 508),.code (C_79 509),.code (C_79 255)] ?_
  exact sW hE _ [] (kp [4,7,8]) (kq [0,1] ++ [(2,.keep 131)]) 3 [] trivial (g_r05_Broken_J3_ok N l rFloat (out2 ++ ([(⟨#[104,101,101,108]⟩:ByteArray)]:List ByteArray)) _ h E hE)
 ·have h:=condF h hq4
  refine sA 3 [.code (C_79 508),.code (C_79 509),.code (C_79 255)] ?_
  exact sW hE _ [] (kp [4,7,8]) (kq [0,1,2]) 3 [] trivial (g_r05_Broken_J3_ok N l rFloat out2 _ h E hE)
theorem g_r05_Broken_J1_ok (N:Nat) (l:TLimits) (rFloat:TPose) (out:List ByteArray) (r:(List ByteArray)) (h:g_r05_Broken_J1 N l rFloat out=some r):∀ E,EnvOk E 0→Runs Tryz.prog E 31 51 (SPost E [] (encL cS ByteArray.empty r)) [.code (C_79 124),.code (C_79 125),.code (C_79 63)] ⟨[(4,(.op 0 0 0)),(7,(.op 1 0 0)),(8,(.os 2 0 out.length))],[(0,vO 5 (TLimits.cells l)),(1,vO 16 (TPose.cells rFloat)),(2,aO 1 cS ByteArray.empty out)],3⟩:=by
 intro E hE
 unfold g_r05_Broken_J1 at h
 obtain ⟨ratMost,hr3,h⟩:=bindSome h
 refine sR hE ⟨[(4,(.op 0 0 0)),(7,(.op 1 0 0)),(8,(.os 2 0 out.length)),(28,(aB (!ratMost)))],[(0,vO 5 (TLimits.cells l)),(1,vO 16 (TPose.cells rFloat)),(2,aO 1 cS ByteArray.empty out)],99⟩ (C_79 124) [(4,⟨[],true,(aB ratMost),[],0,false,none⟩)] [] (kp [4,7,8,28]) (kq [0,1,2]) 99 [0 < 1,0 < 1,Sd 61 [(.agg (TRat.cells rFloat.f_Trim)),(aI 1000),(aI l.f_TrimMost)] [] 0 (aB ratMost) []] ⟨o1,o1,(g_r05_atMost_ok N rFloat.f_Trim 1000 l.f_TrimMost ratMost hr3),trivial⟩ ?_
 refine sC 28 (C_79 250) (C_79 251) (!ratMost) (fun hq3=>?_) (fun hq3=>?_)
 ·have h:=condT h hq3
  obtain ⟨c,h⟩:=ifSome h
  refine sR hE ⟨[(4,(.op 0 0 0)),(7,(.op 1 0 0)),(8,(.os 131 0 ((out ++ ([(⟨#[116,114,105,109]⟩:ByteArray)]:List ByteArray)).length)))],[(0,vO 5 (TLimits.cells l)),(1,vO 16 (TPose.cells rFloat)),(131,aO 1 cS ByteArray.empty (out ++ ([(⟨#[116,114,105,109]⟩:ByteArray)]:List ByteArray)))],163⟩ (C_79 250) [] [] (kp [4,7] ++ [(8,.osl ((out ++ ([(⟨#[116,114,105,109]⟩:ByteArray)]:List ByteArray)).length))]) (kq [0,1] ++ [(131,.arr 131 ((out ++ ([(⟨#[116,114,105,109]⟩:ByteArray)]:List ByteArray)).length) (fun zi=>cS ((out ++ ([(⟨#[116,114,105,109]⟩:ByteArray)]:List ByteArray)).getD zi ByteArray.empty)))]) 163 [out.length=out.length,(out.length+1) * 16≤140737488355328,0+1≤1,∀ zi,zi < 1→AV.oneL ((fun zi=>([[(aS (⟨#[116,114,105,109]⟩:ByteArray))]]:List (List AV)).getD zi []) (addz 0 zi))=true,(out.length+1)=(out ++ ([(⟨#[116,114,105,109]⟩:ByteArray)]:List ByteArray)).length,out.length+1=(out ++ ([(⟨#[116,114,105,109]⟩:ByteArray)]:List ByteArray)).length,∀ zi,zi < (out ++ ([(⟨#[116,114,105,109]⟩:ByteArray)]:List ByteArray)).length→(fun zi=>cS ((out ++ ([(⟨#[116,114,105,109]⟩:ByteArray)]:List ByteArray)).getD zi ByteArray.empty)) zi=((fun zm=>if zm < out.length then (fun zi=>cS (out.getD zi ByteArray.empty)) zm else (fun zi=>([[(aS (⟨#[116,114,105,109]⟩:ByteArray))]]:List (List AV)).getD zi []) (zm - out.length))) zi] ⟨rfl,c,z0,(oneN rfl),(len_app_raw rfl rfl),(len_app_raw rfl rfl),(get_app_raw cS ByteArray.empty out ([(⟨#[116,114,105,109]⟩:ByteArray)]:List ByteArray) rfl (fun _ _=>rfl) (fun zq hzq=>get_chunk cS ByteArray.empty ([(⟨#[116,114,105,109]⟩:ByteArray)]:List ByteArray) zq hzq)),trivial⟩ ?_
  refine sA 2 [.code (C_79 252),.code (C_79 253),.code (C_79 127)] ?_
  exact sW hE _ [] (kp [4,7,8]) (kq [0,1] ++ [(2,.keep 131)]) 3 [] trivial (g_r05_Broken_J2_ok N l rFloat (out ++ ([(⟨#[116,114,105,109]⟩:ByteArray)]:List ByteArray)) _ h E hE)
 ·have h:=condF h hq3
  refine sA 3 [.code (C_79 252),.code (C_79 253),.code (C_79 127)] ?_
  exact sW hE _ [] (kp [4,7,8]) (kq [0,1,2]) 3 [] trivial (g_r05_Broken_J2_ok N l rFloat out _ h E hE)
theorem g_r05_Broken_ok (N:Nat) (p:TPn) (l:TLimits) (steps:List Int) (r:(List ByteArray)) (h:g_r05_Broken N p l steps=some r):Sd 31 [(.agg (TPn.cells p)),(.agg (TLimits.cells l)),(encL cI 0 steps)] [] 0 (encL cS ByteArray.empty r) []:=by
 unfold g_r05_Broken at h
 refine Sound.of_runs (fu:=Tryz.f31) (c:=C_79 1) (nt:=51) (by kernel_rfl) (by kernel_rfl) (by kernel_rfl) (by kernel_rfl) (fun hm=>rfl) ?_
 intro E hE
 refine sA 1 [.code (C_79 2),.code (C_79 3)] ?_
 refine sR hE ⟨[(2,(encL cI 0 steps)),(3,(.op 0 0 0)),(4,(.op 16 0 0))],[(0,vO 5 (TPn.cells p)),(16,vO 5 (TLimits.cells l))],48⟩ (C_79 2) [] [] (kp [2,3,4]) (kq [0,16]) 48 [] trivial ?_
 refine sA 1 [.code (C_79 6),.code (C_79 7)] ?_
 obtain ⟨rFloat,hr,h⟩:=bindSome h
 refine sR hE ⟨[(4,(.op 16 0 0)),(7,(.op 96 0 0))],[(16,vO 5 (TLimits.cells l)),(96,vO 16 (TPose.cells rFloat))],128⟩ (C_79 6) [(2,⟨[],true,(.agg (TPose.cells rFloat)),[],0,false,none⟩)] [] (kp [4,7]) (kq [16,96]) 128 [0 < 1,Sd 59 [(.agg (TPn.cells p)),(encL cI 0 steps)] [] 0 (.agg (TPose.cells rFloat)) [],0 < 1] ⟨o1,(g_r05_Float_ok N p steps rFloat hr),o1,trivial⟩ ?_
 refine sA 1 [.code (C_79 14),.code (C_79 15)] ?_
 refine sR hE ⟨[(4,(.op 16 0 0)),(7,(.op 96 0 0)),(8,.nil)],[(16,vO 5 (TLimits.cells l)),(96,vO 16 (TPose.cells rFloat))],144⟩ (C_79 14) [] [] (kp [4,7,8]) (kq [16,96]) 144 [] trivial ?_
 refine sA 2 [.code (C_79 60),.code (C_79 61),.code (C_79 31)] ?_
 obtain ⟨rBt,hr2,h⟩:=bindSome h
 refine sR hE ⟨[(4,(.op 16 0 0)),(7,(.op 96 0 0)),(8,.nil),(19,(aB (!rBt)))],[(16,vO 5 (TLimits.cells l)),(96,vO 16 (TPose.cells rFloat))],272⟩ (C_79 60) [(6,⟨[],true,(aB rBt),[],0,false,none⟩)] [] (kp [4,7,8,19]) (kq [16,96]) 272 [0 < 1,0 < 1,0 < 1,Sd 60 [(.agg (TRat.cells rFloat.f_Draught)),(aI l.f_DraughtLeast),(aI l.f_DraughtMost)] [] 0 (aB rBt) []] ⟨o1,o1,o1,(g_r05_between_ok N rFloat.f_Draught l.f_DraughtLeast l.f_DraughtMost rBt hr2),trivial⟩ ?_
 refine sC 19 (C_79 122) (C_79 123) (!rBt) (fun hq2=>?_) (fun hq2=>?_)
 ·have h:=condT h hq2
  refine sR hE ⟨[(4,(.op 16 0 0)),(7,(.op 96 0 0)),(8,(.os 304 0 (([(⟨#[100,114,97,117,103,104,116]⟩:ByteArray)]:List ByteArray).length)))],[(16,vO 5 (TLimits.cells l)),(96,vO 16 (TPose.cells rFloat)),(304,aO 1 cS ByteArray.empty ([(⟨#[100,114,97,117,103,104,116]⟩:ByteArray)]:List ByteArray))],336⟩ (C_79 122) [] [] (kp [4,7] ++ [(8,.osl (([(⟨#[100,114,97,117,103,104,116]⟩:ByteArray)]:List ByteArray).length))]) (kq [16,96] ++ [(304,.arr 304 (([(⟨#[100,114,97,117,103,104,116]⟩:ByteArray)]:List ByteArray).length) (fun zi=>cS (([(⟨#[100,114,97,117,103,104,116]⟩:ByteArray)]:List ByteArray).getD zi ByteArray.empty)))]) 336 [1 * 16≤140737488355328,0+1≤1,∀ zi,zi < 1→AV.oneL ((fun zi=>([[(aS (⟨#[100,114,97,117,103,104,116]⟩:ByteArray))]]:List (List AV)).getD zi []) (addz 0 zi))=true,1=([(⟨#[100,114,97,117,103,104,116]⟩:ByteArray)]:List ByteArray).length,1=([(⟨#[100,114,97,117,103,104,116]⟩:ByteArray)]:List ByteArray).length,∀ zi,zi < ([(⟨#[100,114,97,117,103,104,116]⟩:ByteArray)]:List ByteArray).length→(fun zi=>cS (([(⟨#[100,114,97,117,103,104,116]⟩:ByteArray)]:List ByteArray).getD zi ByteArray.empty)) zi=(fun zi=>([[(aS (⟨#[100,114,97,117,103,104,116]⟩:ByteArray))]]:List (List AV)).getD zi []) zi] ⟨(by decide),z0,(oneN rfl),rfl,rfl,(fun zq hzq=>get_chunk cS ByteArray.empty ([(⟨#[100,114,97,117,103,104,116]⟩:ByteArray)]:List ByteArray) zq hzq),trivial⟩ ?_
  refine sA 2 [.code (C_79 124),.code (C_79 125),.code (C_79 63)] ?_
  exact sW hE _ [] (kp [4,7,8]) [(0,.keep 16),(1,.keep 96),(2,.keep 304)] 3 [] trivial (g_r05_Broken_J1_ok N l rFloat ([(⟨#[100,114,97,117,103,104,116]⟩:ByteArray)]:List ByteArray) _ h E hE)
 ·have h:=condF h hq2
  refine sA 3 [.code (C_79 124),.code (C_79 125),.code (C_79 63)] ?_
  exact sW hE _ [] (kp [4,7] ++ [(8,.nilos 2)]) [(0,.keep 16),(1,.keep 96),(2,.nil 1 (fun zi=>cS (([]:List ByteArray).getD zi ByteArray.empty)))] 3 [] trivial (g_r05_Broken_J1_ok N l rFloat ([]:List ByteArray) _ h E hE)
noncomputable def C_111 (n:Nat):Code:=cat (bodyOf Tryz.f33) (pth n)
theorem g_r05_Among_L1_ok (N:Nat) (l:List ByteArray) (s:ByteArray) (fuel:Nat):∀ (i:Int) (r:Bool),g_r05_Among_L1 N l s fuel i=some r→∀ E,EnvOk E 0→Runs Tryz.prog E 33 18 (SPost E [] (aB r)) [.code (C_111 52),.inLoop (C_111 52),.inBlock 0,.code (C_111 7)] ⟨[(0,(encL cS ByteArray.empty l)),(1,(aS s)),(5,(aI i))],[],0⟩:=by
 induction fuel with
 | zero=>intro _ r h;rw [g_r05_Among_L1.eq_1] at h;cases h
 | succ fuel ih =>
  intro i r h E hE
  rw [g_r05_Among_L1.eq_2] at h
  refine sA 2 [.code (C_111 208),.code (C_111 209),.code (C_111 105),.inLoop (C_111 52),.inBlock 0,.code (C_111 7)] ?_
  refine sR hE ⟨[(0,(encL cS ByteArray.empty l)),(1,(aS s)),(5,(aI i)),(9,(aB (decide (i < ((l.length:Nat):Int)))))],[],64⟩ (C_111 208) [] [] (kp [0,1,5,9]) [] 64 [] trivial ?_
  refine sC 9 (C_111 418) (C_111 419) (decide (i < ((l.length:Nat):Int))) (fun hq2=>?_) (fun hq2=>?_)
  ·have h:=condT h hq2
   refine sA 4 [.code (C_111 840),.code (C_111 841),.inBlock 1,.code (C_111 211),.inLoop (C_111 52),.inBlock 0,.code (C_111 7)] ?_
   obtain ⟨c,h⟩:=ifSome h
   refine sR hE ⟨[(0,(encL cS ByteArray.empty l)),(1,(aS s)),(5,(aI i)),(17,(aB (streq (l.getD ((i).toNat) ByteArray.empty) s)))],[],160⟩ (C_111 840) [] [] (kp [0,1,5,17]) [] 160 [0≤i∧i < ((l.length:Nat):Int)] ⟨c,trivial⟩ ?_
   refine sC 17 (C_111 1682) (C_111 1683) (streq (l.getD ((i).toNat) ByteArray.empty) s) (fun hq3=>?_) (fun hq3=>?_)
   ·have h:=condT h hq3
    refine sA 1 [.code (C_111 3364),.code (C_111 3365),.inBlock 1,.code (C_111 211),.inLoop (C_111 52),.inBlock 0,.code (C_111 7)] ?_
    refine sR hE ⟨[(4,(aB true))],[],176⟩ (C_111 3364) [] [] (kp [4]) [] 176 [] trivial ?_
    obtain rfl:=Option.some.inj h
    refine sW hE ⟨[(4,(aB true))],[],176⟩ [] (kp [4]) [] 176 [] trivial ?_
    exact sT Tryz.f33 [] [] trivial
   ·have h:=condF h hq3
    refine sA 2 [.code (C_111 211),.inLoop (C_111 52),.inBlock 0,.code (C_111 7)] ?_
    refine sR hE ⟨[(0,(encL cS ByteArray.empty l)),(1,(aS s)),(5,(aI (w64 (i+1))))],[],208⟩ (C_111 211) [] [] (kp [0,1,5]) [] 208 [] trivial ?_
    refine sA 1 [.code (C_111 52),.inLoop (C_111 52),.inBlock 0,.code (C_111 7)] ?_
    exact sW hE _ [] (kp [0,1,5]) [] 0 [] trivial (ih (w64 (i+1)) _ h E hE)
  ·have h:=condF h hq2
   refine sA 2 [.code (C_111 14),.code (C_111 15)] ?_
   refine sR hE ⟨[(4,(aB false))],[],80⟩ (C_111 14) [] [] (kp [4]) [] 80 [] trivial ?_
   obtain rfl:=Option.some.inj h
   refine sW hE ⟨[(4,(aB false))],[],80⟩ [] (kp [4]) [] 80 [] trivial ?_
   exact sT Tryz.f33 [] [] trivial
theorem g_r05_Among_ok (N:Nat) (l:List ByteArray) (s:ByteArray) (r:Bool) (h:g_r05_Among N l s=some r):Sd 33 [(encL cS ByteArray.empty l),(aS s)] [] 0 (aB r) []:=by
 unfold g_r05_Among at h
 refine Sound.of_runs (fu:=Tryz.f33) (c:=C_111 1) (nt:=18) (by kernel_rfl) (by kernel_rfl) (by kernel_rfl) (by kernel_rfl) (fun hm=>rfl) ?_
 intro E hE
 refine sA 1 [.code (C_111 2),.code (C_111 3)] ?_
 refine sR hE ⟨[(0,(encL cS ByteArray.empty l)),(1,(aS s))],[],16⟩ (C_111 2) [] [] (kp [0,1]) [] 16 [] trivial ?_
 refine sA 2 [.code (C_111 12),.code (C_111 13),.code (C_111 7)] ?_
 refine sR hE ⟨[(0,(encL cS ByteArray.empty l)),(1,(aS s)),(5,(aI 0))],[],32⟩ (C_111 12) [] [] (kp [0,1,5]) [] 32 [] trivial ?_
 refine sA 2 [.code (C_111 52),.inLoop (C_111 52),.inBlock 0,.code (C_111 7)] ?_
 exact sW hE _ [] (kp [0,1,5]) [] 0 [] trivial (g_r05_Among_L1_ok N l s N 0 _ h E hE)
noncomputable def C_77 (n:Nat):Code:=cat (bodyOf Tryz.f13) (pth n)
theorem g_r05_Kept_L2_ok (N:Nat) (p:TPn) (l:TLimits) (names:List ByteArray) (k:Int) (rBroken:(List ByteArray)) (K_g_r05_Kept_L1:Int→Option (Bool))
  (hK_g_r05_Kept_L1:∀ (k:Int) (r:Bool),K_g_r05_Kept_L1 k=some r→∀ E,EnvOk E 0→Runs Tryz.prog E 13 40 (SPost E [] (aB r)) [.code (C_77 52),.inLoop (C_77 52),.inBlock 0,.code (C_77 7)] ⟨[(2,(encL cS ByteArray.empty names)),(3,(.op 0 0 0)),(4,(.op 1 0 0)),(7,(aI k))],[(0,vO 5 (TPn.cells p)),(1,vO 5 (TLimits.cells l))],2⟩) (fuel:Nat):∀ (bad:Bool) (i:Int) (r:Bool),g_r05_Kept_L2 N p l names k rBroken K_g_r05_Kept_L1 fuel bad i=some r→∀ E,EnvOk E 0→Runs Tryz.prog E 13 40 (SPost E [] (aB r)) [.code (C_77 26932),.inLoop (C_77 26932),.inBlock 2,.code (C_77 3367),.inBlock 1,.code (C_77 211),.inLoop (C_77 52),.inBlock 0,.code (C_77 7)] ⟨[(2,(encL cS ByteArray.empty names)),(3,(.op 0 0 0)),(4,(.op 1 0 0)),(7,(aI k)),(8,(encL cS ByteArray.empty rBroken)),(9,(aB bad)),(10,(aI i))],[(0,vO 5 (TPn.cells p)),(1,vO 5 (TLimits.cells l))],2⟩:=by
 induction fuel with
 | zero=>intro _ _ r h;rw [g_r05_Kept_L2.eq_1] at h;cases h
 | succ fuel ih =>
  intro bad i r h E hE
  rw [g_r05_Kept_L2.eq_2] at h
  refine sA 2 [.code (C_77 107728),.code (C_77 107729),.code (C_77 53865),.inLoop (C_77 26932),.inBlock 2,.code (C_77 3367),.inBlock 1,.code (C_77 211),.inLoop (C_77 52),.inBlock 0,.code (C_77 7)] ?_
  refine sR hE ⟨[(2,(encL cS ByteArray.empty names)),(3,(.op 0 0 0)),(4,(.op 1 0 0)),(7,(aI k)),(8,(encL cS ByteArray.empty rBroken)),(9,(aB bad)),(10,(aI i)),(26,(aB (decide (i < ((rBroken.length:Nat):Int)))))],[(0,vO 5 (TPn.cells p)),(1,vO 5 (TLimits.cells l))],66⟩ (C_77 107728) [] [] (kp [2,3,4,7,8,9,10,26]) (kq [0,1]) 66 [] trivial ?_
  refine sC 26 (C_77 215458) (C_77 215459) (decide (i < ((rBroken.length:Nat):Int))) (fun hq3=>?_) (fun hq3=>?_)
  ·have h:=condT h hq3
   refine sA 3 [.code (C_77 215460),.inBlock 3,.code (C_77 107731),.inLoop (C_77 26932),.inBlock 2,.code (C_77 3367),.inBlock 1,.code (C_77 211),.inLoop (C_77 52),.inBlock 0,.code (C_77 7)] ?_
   obtain ⟨c,h⟩:=ifSome h
   obtain ⟨rAmong,hr4,h⟩:=bindSome h
   refine sR hE ⟨[(2,(encL cS ByteArray.empty names)),(3,(.op 0 0 0)),(4,(.op 1 0 0)),(7,(aI k)),(8,(encL cS ByteArray.empty rBroken)),(9,(aB (cond bad true rAmong))),(10,(aI i))],[(0,vO 5 (TPn.cells p)),(1,vO 5 (TLimits.cells l))],226⟩ (C_77 215460) [(7,⟨[],true,(aB rAmong),[],0,false,none⟩)] [] (kp [2,3,4,7,8,9,10]) (kq [0,1]) 226 [(!bad)=true→AllP [(!bad)=true,(!bad)=true,0≤i∧i < ((rBroken.length:Nat):Int)],(!bad)=true→AllP [(!bad)=true],(!bad)=true→AllP [Sd 33 [(encL cS ByteArray.empty names),(aS (rBroken.getD ((i).toNat) ByteArray.empty))] [] 0 (aB rAmong) [],(!bad)=true,(!bad)=true],(!bad)=true→AllP [(!bad)=true]] ⟨(fun hg=>⟨hg,hg,(c hg),trivial⟩),(fun hg=>⟨hg,trivial⟩),(fun hg=>⟨(g_r05_Among_ok N names (rBroken.getD ((i).toNat) ByteArray.empty) rAmong (condT hr4 hg)),hg,hg,trivial⟩),(fun hq=>⟨hq,trivial⟩),trivial⟩ ?_
   refine sA 1 [.code (C_77 107731),.inLoop (C_77 26932),.inBlock 2,.code (C_77 3367),.inBlock 1,.code (C_77 211),.inLoop (C_77 52),.inBlock 0,.code (C_77 7)] ?_
   refine sR hE ⟨[(2,(encL cS ByteArray.empty names)),(3,(.op 0 0 0)),(4,(.op 1 0 0)),(7,(aI k)),(8,(encL cS ByteArray.empty rBroken)),(9,(aB (cond bad true rAmong))),(10,(aI (w64 (i+1))))],[(0,vO 5 (TPn.cells p)),(1,vO 5 (TLimits.cells l))],274⟩ (C_77 107731) [] [] (kp [2,3,4,7,8,9,10]) (kq [0,1]) 274 [] trivial ?_
   refine sA 1 [.code (C_77 26932),.inLoop (C_77 26932),.inBlock 2,.code (C_77 3367),.inBlock 1,.code (C_77 211),.inLoop (C_77 52),.inBlock 0,.code (C_77 7)] ?_
   exact sW hE _ [] (kp [2,3,4,7,8,9,10]) (kq [0,1]) 2 [] trivial (ih (cond bad true rAmong) (w64 (i+1)) _ h E hE)
  ·have h:=condF h hq3
   refine sA 2 [.code (C_77 6734),.code (C_77 6735),.inBlock 1,.code (C_77 211),.inLoop (C_77 52),.inBlock 0,.code (C_77 7)] ?_
   refine sR hE ⟨[(2,(encL cS ByteArray.empty names)),(3,(.op 0 0 0)),(4,(.op 1 0 0)),(7,(aI k)),(39,(aB (!bad)))],[(0,vO 5 (TPn.cells p)),(1,vO 5 (TLimits.cells l))],98⟩ (C_77 6734) [] [] (kp [2,3,4,7,39]) (kq [0,1]) 98 [] trivial ?_
   refine sC 39 (C_77 13470) (C_77 13471) (!bad) (fun hq4=>?_) (fun hq4=>?_)
   ·have h:=condT h hq4
    refine sA 1 [.code (C_77 26940),.code (C_77 26941),.inBlock 1,.code (C_77 211),.inLoop (C_77 52),.inBlock 0,.code (C_77 7)] ?_
    refine sR hE ⟨[(6,(aB true))],[],114⟩ (C_77 26940) [] [] (kp [6]) [] 114 [] trivial ?_
    obtain rfl:=Option.some.inj h
    refine sW hE ⟨[(6,(aB true))],[],114⟩ [] (kp [6]) [] 114 [] trivial ?_
    exact sT Tryz.f13 [] [] trivial
   ·have h:=condF h hq4
    refine sA 2 [.code (C_77 211),.inLoop (C_77 52),.inBlock 0,.code (C_77 7)] ?_
    refine sR hE ⟨[(2,(encL cS ByteArray.empty names)),(3,(.op 0 0 0)),(4,(.op 1 0 0)),(7,(aI (w64 (k+1))))],[(0,vO 5 (TPn.cells p)),(1,vO 5 (TLimits.cells l))],146⟩ (C_77 211) [] [] (kp [2,3,4,7]) (kq [0,1]) 146 [] trivial ?_
    refine sA 1 [.code (C_77 52),.inLoop (C_77 52),.inBlock 0,.code (C_77 7)] ?_
    exact sW hE _ [] (kp [2,3,4,7]) (kq [0,1]) 2 [] trivial (hK_g_r05_Kept_L1 (w64 (k+1)) _ h E hE)
theorem g_r05_Kept_L1_ok (N:Nat) (p:TPn) (l:TLimits) (names:List ByteArray) (fuel:Nat):∀ (k:Int) (r:Bool),g_r05_Kept_L1 N p l names fuel k=some r→∀ E,EnvOk E 0→Runs Tryz.prog E 13 40 (SPost E [] (aB r)) [.code (C_77 52),.inLoop (C_77 52),.inBlock 0,.code (C_77 7)] ⟨[(2,(encL cS ByteArray.empty names)),(3,(.op 0 0 0)),(4,(.op 1 0 0)),(7,(aI k))],[(0,vO 5 (TPn.cells p)),(1,vO 5 (TLimits.cells l))],2⟩:=by
 induction fuel with
 | zero=>intro _ r h;rw [g_r05_Kept_L1.eq_1] at h;cases h
 | succ fuel ih =>
  intro k r h E hE
  rw [g_r05_Kept_L1.eq_2] at h
  refine sA 2 [.code (C_77 208),.code (C_77 209),.code (C_77 105),.inLoop (C_77 52),.inBlock 0,.code (C_77 7)] ?_
  obtain ⟨rStates,hr,h⟩:=bindSome h
  refine sR hE ⟨[(2,(encL cS ByteArray.empty names)),(3,(.op 0 0 0)),(4,(.op 1 0 0)),(7,(aI k)),(14,(aB (decide (k < rStates))))],[(0,vO 5 (TPn.cells p)),(1,vO 5 (TLimits.cells l))],66⟩ (C_77 208) [(2,⟨[],true,(aI rStates),[],0,false,none⟩)] [] (kp [2,3,4,7,14]) (kq [0,1]) 66 [0 < 1,Sd 10 [(.agg (TPn.cells p)),(aI 20000)] [] 0 (aI rStates) []] ⟨o1,(g_r05_States_ok N p 20000 rStates hr),trivial⟩ ?_
  refine sC 14 (C_77 418) (C_77 419) (decide (k < rStates)) (fun hq2=>?_) (fun hq2=>?_)
  ·have h:=condT h hq2
   refine sA 4 [.code (C_77 840),.code (C_77 841),.inBlock 1,.code (C_77 211),.inLoop (C_77 52),.inBlock 0,.code (C_77 7)] ?_
   obtain ⟨rState,hr2,h⟩:=bindSome h
   obtain ⟨rBroken,hr3,h⟩:=bindSome h
   refine sR hE ⟨[(2,(encL cS ByteArray.empty names)),(3,(.op 0 0 0)),(4,(.op 1 0 0)),(7,(aI k)),(8,(encL cS ByteArray.empty rBroken))],[(0,vO 5 (TPn.cells p)),(1,vO 5 (TLimits.cells l))],178⟩ (C_77 840) [(4,⟨[],true,(encL cI 0 rState),[],0,false,none⟩),(5,⟨[],true,(encL cS ByteArray.empty rBroken),[],0,false,none⟩)] [] (kp [2,3,4,7,8]) (kq [0,1]) 178 [0 < 1,0 < 1,0 < 1,Sd 32 [(.agg (TPn.cells p)),(aI k)] [] 0 (encL cI 0 rState) [],Sd 31 [(.agg (TPn.cells p)),(.agg (TLimits.cells l)),(encL cI 0 rState)] [] 0 (encL cS ByteArray.empty rBroken) []] ⟨o1,o1,o1,(g_r05_State_ok N p k rState hr2),(g_r05_Broken_ok N p l rState rBroken hr3),trivial⟩ ?_
   refine sA 1 [.code (C_77 1682),.code (C_77 1683),.inBlock 1,.code (C_77 211),.inLoop (C_77 52),.inBlock 0,.code (C_77 7)] ?_
   refine sR hE ⟨[(2,(encL cS ByteArray.empty names)),(3,(.op 0 0 0)),(4,(.op 1 0 0)),(7,(aI k)),(8,(encL cS ByteArray.empty rBroken)),(9,(aB false))],[(0,vO 5 (TPn.cells p)),(1,vO 5 (TLimits.cells l))],194⟩ (C_77 1682) [] [] (kp [2,3,4,7,8,9]) (kq [0,1]) 194 [] trivial ?_
   refine sA 2 [.code (C_77 6732),.code (C_77 6733),.code (C_77 3367),.inBlock 1,.code (C_77 211),.inLoop (C_77 52),.inBlock 0,.code (C_77 7)] ?_
   refine sR hE ⟨[(2,(encL cS ByteArray.empty names)),(3,(.op 0 0 0)),(4,(.op 1 0 0)),(7,(aI k)),(8,(encL cS ByteArray.empty rBroken)),(9,(aB false)),(10,(aI 0))],[(0,vO 5 (TPn.cells p)),(1,vO 5 (TLimits.cells l))],210⟩ (C_77 6732) [] [] (kp [2,3,4,7,8,9,10]) (kq [0,1]) 210 [] trivial ?_
   refine sA 2 [.code (C_77 26932),.inLoop (C_77 26932),.inBlock 2,.code (C_77 3367),.inBlock 1,.code (C_77 211),.inLoop (C_77 52),.inBlock 0,.code (C_77 7)] ?_
   exact sW hE _ [] (kp [2,3,4,7,8,9,10]) (kq [0,1]) 2 [] trivial (g_r05_Kept_L2_ok N p l names k rBroken (g_r05_Kept_L1 N p l names fuel) ih N false 0 _ h E hE)
  ·have h:=condF h hq2
   refine sA 2 [.code (C_77 14),.code (C_77 15)] ?_
   refine sR hE ⟨[(6,(aB false))],[],82⟩ (C_77 14) [] [] (kp [6]) [] 82 [] trivial ?_
   obtain rfl:=Option.some.inj h
   refine sW hE ⟨[(6,(aB false))],[],82⟩ [] (kp [6]) [] 82 [] trivial ?_
   exact sT Tryz.f13 [] [] trivial
theorem g_r05_Kept_ok (N:Nat) (p:TPn) (l:TLimits) (names:List ByteArray) (r:Bool) (h:g_r05_Kept N p l names=some r):Sd 13 [(.agg (TPn.cells p)),(.agg (TLimits.cells l)),(encL cS ByteArray.empty names)] [] 0 (aB r) []:=by
 unfold g_r05_Kept at h
 refine Sound.of_runs (fu:=Tryz.f13) (c:=C_77 1) (nt:=40) (by kernel_rfl) (by kernel_rfl) (by kernel_rfl) (by kernel_rfl) (fun hm=>rfl) ?_
 intro E hE
 refine sA 1 [.code (C_77 2),.code (C_77 3)] ?_
 refine sR hE ⟨[(2,(encL cS ByteArray.empty names)),(3,(.op 0 0 0)),(4,(.op 16 0 0))],[(0,vO 5 (TPn.cells p)),(16,vO 5 (TLimits.cells l))],48⟩ (C_77 2) [] [] (kp [2,3,4]) (kq [0,16]) 48 [] trivial ?_
 refine sA 2 [.code (C_77 12),.code (C_77 13),.code (C_77 7)] ?_
 refine sR hE ⟨[(2,(encL cS ByteArray.empty names)),(3,(.op 0 0 0)),(4,(.op 16 0 0)),(7,(aI 0))],[(0,vO 5 (TPn.cells p)),(16,vO 5 (TLimits.cells l))],64⟩ (C_77 12) [] [] (kp [2,3,4,7]) (kq [0,16]) 64 [] trivial ?_
 refine sA 2 [.code (C_77 52),.inLoop (C_77 52),.inBlock 0,.code (C_77 7)] ?_
 exact sW hE _ [] (kp [2,3,4,7]) (kq [0] ++ [(1,.keep 16)]) 2 [] trivial (g_r05_Kept_L1_ok N p l names N 0 _ h E hE)
noncomputable def C_76 (n:Nat):Code:=cat (bodyOf Tryz.f12) (pth n)
theorem g_r05_Conflict_J2_ok (N:Nat) (p:TPn) (l:TLimits) (i:Int) (K_g_r05_Conflict_L1:(List ByteArray)→Int→Option ((List ByteArray)))
  (hK_g_r05_Conflict_L1:∀ (names:List ByteArray) (i:Int) (r:(List ByteArray)),K_g_r05_Conflict_L1 names i=some r→∀ E,EnvOk E 0→Runs Tryz.prog E 12 34 (SPost E [] (encL cS ByteArray.empty r)) [.code (C_76 244),.inLoop (C_76 244),.inBlock 0,.code (C_76 31)] ⟨[(2,(.op 0 0 0)),(3,(.op 1 0 0)),(5,(.os 2 0 names.length)),(6,(aI i))],[(0,vO 5 (TPn.cells p)),(1,vO 5 (TLimits.cells l)),(2,aO 1 cS ByteArray.empty names)],3⟩) (names2:List ByteArray) (r:(List ByteArray)) (h:g_r05_Conflict_J2 N p l i K_g_r05_Conflict_L1 names2=some r):∀ E,EnvOk E 0→Runs Tryz.prog E 12 34 (SPost E [] (encL cS ByteArray.empty r)) [.code (C_76 979),.inLoop (C_76 244),.inBlock 0,.code (C_76 31)] ⟨[(2,(.op 0 0 0)),(3,(.op 1 0 0)),(5,(.os 2 0 names2.length)),(6,(aI i))],[(0,vO 5 (TPn.cells p)),(1,vO 5 (TLimits.cells l)),(2,aO 1 cS ByteArray.empty names2)],3⟩:=by
 intro E hE
 unfold g_r05_Conflict_J2 at h
 refine sR hE ⟨[(2,(.op 0 0 0)),(3,(.op 1 0 0)),(5,(.os 2 0 names2.length)),(6,(aI (w64 (i - 1))))],[(0,vO 5 (TPn.cells p)),(1,vO 5 (TLimits.cells l)),(2,aO 1 cS ByteArray.empty names2)],51⟩ (C_76 979) [] [] (kp [2,3,5,6]) (kq [0,1,2]) 51 [] trivial ?_
 refine sA 1 [.code (C_76 244),.inLoop (C_76 244),.inBlock 0,.code (C_76 31)] ?_
 exact sW hE _ [] (kp [2,3,5,6]) (kq [0,1,2]) 3 [] trivial (hK_g_r05_Conflict_L1 names2 (w64 (i - 1)) _ h E hE)
theorem g_r05_Conflict_L1_ok (N:Nat) (p:TPn) (l:TLimits) (fuel:Nat):∀ (names:List ByteArray) (i:Int) (r:(List ByteArray)),g_r05_Conflict_L1 N p l fuel names i=some r→∀ E,EnvOk E 0→Runs Tryz.prog E 12 34 (SPost E [] (encL cS ByteArray.empty r)) [.code (C_76 244),.inLoop (C_76 244),.inBlock 0,.code (C_76 31)] ⟨[(2,(.op 0 0 0)),(3,(.op 1 0 0)),(5,(.os 2 0 names.length)),(6,(aI i))],[(0,vO 5 (TPn.cells p)),(1,vO 5 (TLimits.cells l)),(2,aO 1 cS ByteArray.empty names)],3⟩:=by
 induction fuel with
 | zero=>intro _ _ r h;rw [g_r05_Conflict_L1.eq_1] at h;cases h
 | succ fuel ih =>
  intro names i r h E hE
  rw [g_r05_Conflict_L1.eq_2] at h
  refine sA 2 [.code (C_76 976),.code (C_76 977),.code (C_76 489),.inLoop (C_76 244),.inBlock 0,.code (C_76 31)] ?_
  refine sR hE ⟨[(2,(.op 0 0 0)),(3,(.op 1 0 0)),(5,(.os 2 0 names.length)),(6,(aI i)),(14,(aB (decide (i≥0))))],[(0,vO 5 (TPn.cells p)),(1,vO 5 (TLimits.cells l)),(2,aO 1 cS ByteArray.empty names)],35⟩ (C_76 976) [] [] (kp [2,3,5,6,14]) (kq [0,1,2]) 35 [] trivial ?_
  refine sC 14 (C_76 1954) (C_76 1955) (decide (i≥0)) (fun hq3=>?_) (fun hq3=>?_)
  ·have h:=condT h hq3
   refine sA 4 [.code (C_76 3912),.code (C_76 3913),.inBlock 1,.code (C_76 979),.inLoop (C_76 244),.inBlock 0,.code (C_76 31)] ?_
   obtain ⟨c,h⟩:=ifSome h
   obtain ⟨c2,h⟩:=ifSome h
   obtain ⟨c3,h⟩:=ifSome h
   obtain ⟨c4,h⟩:=ifSome h
   obtain ⟨c5,h⟩:=ifSome h
   obtain ⟨c6,h⟩:=ifSome h
   refine sR hE ⟨[(2,(.op 0 0 0)),(3,(.op 1 0 0)),(5,(.os 2 0 names.length)),(6,(aI i)),(7,(.os 179 0 (((([]:List ByteArray) ++ ((names.take ((i).toNat)).drop 0)) ++ ((names.take names.length).drop ((w64 (i+1)).toNat))).length)))],[(0,vO 5 (TPn.cells p)),(1,vO 5 (TLimits.cells l)),(2,aO 1 cS ByteArray.empty names),(179,aO 1 cS ByteArray.empty ((([]:List ByteArray) ++ ((names.take ((i).toNat)).drop 0)) ++ ((names.take names.length).drop ((w64 (i+1)).toNat))))],211⟩ (C_76 3912) [] [] (kp [2,3,5,6] ++ [(7,.osl (((([]:List ByteArray) ++ ((names.take ((i).toNat)).drop 0)) ++ ((names.take names.length).drop ((w64 (i+1)).toNat))).length))]) (kq [0,1,2] ++ [(179,.arr 179 (((([]:List ByteArray) ++ ((names.take ((i).toNat)).drop 0)) ++ ((names.take names.length).drop ((w64 (i+1)).toNat))).length) (fun zi=>cS (((([]:List ByteArray) ++ ((names.take ((i).toNat)).drop 0)) ++ ((names.take names.length).drop ((w64 (i+1)).toNat))).getD zi ByteArray.empty)))]) 211 [0≤(i).toNat∧(i).toNat≤names.length,0≤i,0=0,(0+((i).toNat - 0)) * 16≤140737488355328,0+((i).toNat - 0)≤names.length,∀ zi,zi < ((i).toNat - 0)→AV.oneL ((fun zi=>cS (names.getD zi ByteArray.empty)) (addz 0 zi))=true,(w64 (i+1)).toNat≤names.length∧names.length≤names.length,0≤(w64 (i+1)),(0+((i).toNat - 0))=0+((i).toNat - 0),((0+((i).toNat - 0))+(names.length - (w64 (i+1)).toNat)) * 16≤140737488355328,(w64 (i+1)).toNat+(names.length - (w64 (i+1)).toNat)≤names.length,∀ zi,zi < (names.length - (w64 (i+1)).toNat)→AV.oneL ((fun zi=>cS (names.getD zi ByteArray.empty)) (addz ((w64 (i+1)).toNat) zi))=true,((0+((i).toNat - 0))+(names.length - (w64 (i+1)).toNat))=((([]:List ByteArray) ++ ((names.take ((i).toNat)).drop 0)) ++ ((names.take names.length).drop ((w64 (i+1)).toNat))).length,(0+((i).toNat - 0))+(names.length - (w64 (i+1)).toNat)=((([]:List ByteArray) ++ ((names.take ((i).toNat)).drop 0)) ++ ((names.take names.length).drop ((w64 (i+1)).toNat))).length,∀ zi,zi < ((([]:List ByteArray) ++ ((names.take ((i).toNat)).drop 0)) ++ ((names.take names.length).drop ((w64 (i+1)).toNat))).length→(fun zi=>cS (((([]:List ByteArray) ++ ((names.take ((i).toNat)).drop 0)) ++ ((names.take names.length).drop ((w64 (i+1)).toNat))).getD zi ByteArray.empty)) zi=((fun zm=>if zm < (0+((i).toNat - 0)) then ((fun zm=>if zm < 0 then (fun _=>[]) zm else (fun zi=>(fun zi=>cS (names.getD zi ByteArray.empty)) (addz 0 zi)) (zm - 0))) zm else (fun zi=>(fun zi=>cS (names.getD zi ByteArray.empty)) (addz ((w64 (i+1)).toNat) zi)) (zm - (0+((i).toNat - 0))))) zi] ⟨c,c2,rfl,c3,(by have h1:=c;omega),(fun _ _=>rfl),c4,c5,rfl,c6,(by have h1:=c4;omega),(fun _ _=>rfl),(len_app_raw (len_app_raw rfl (len_ext' names 0 ((i).toNat) c)) (len_ext' names ((w64 (i+1)).toNat) names.length c4)),(len_app_raw (len_app_raw rfl (len_ext' names 0 ((i).toNat) c)) (len_ext' names ((w64 (i+1)).toNat) names.length c4)),(get_app_raw cS ByteArray.empty (([]:List ByteArray) ++ ((names.take ((i).toNat)).drop 0)) ((names.take names.length).drop ((w64 (i+1)).toNat)) (len_app_raw rfl (len_ext' names 0 ((i).toNat) c)) (get_app_raw cS ByteArray.empty ([]:List ByteArray) ((names.take ((i).toNat)).drop 0) rfl (fun zq hzq=>absurd hzq (Nat.not_lt_zero _)) (fun zq hzq=>get_ext cS ByteArray.empty names 0 ((i).toNat) zq hzq)) (fun zq hzq=>get_ext cS ByteArray.empty names ((w64 (i+1)).toNat) names.length zq hzq)),trivial⟩ ?_
   refine sA 1 [.code (C_76 7826),.code (C_76 7827),.inBlock 1,.code (C_76 979),.inLoop (C_76 244),.inBlock 0,.code (C_76 31)] ?_
   obtain ⟨rKept2,hr2,h⟩:=bindSome h
   refine sR hE ⟨[(2,(.op 0 0 0)),(3,(.op 1 0 0)),(5,(.os 2 0 names.length)),(6,(aI i)),(7,(.os 179 0 (((([]:List ByteArray) ++ ((names.take ((i).toNat)).drop 0)) ++ ((names.take names.length).drop ((w64 (i+1)).toNat))).length))),(31,(aB (!rKept2)))],[(0,vO 5 (TPn.cells p)),(1,vO 5 (TLimits.cells l)),(2,aO 1 cS ByteArray.empty names),(179,aO 1 cS ByteArray.empty ((([]:List ByteArray) ++ ((names.take ((i).toNat)).drop 0)) ++ ((names.take names.length).drop ((w64 (i+1)).toNat))))],291⟩ (C_76 7826) [(3,⟨[],true,(aB rKept2),[],0,false,none⟩)] [] (kp [2,3,5,6,7,31]) (kq [0,1,2,179]) 291 [0 < 1,0 < 1,Sd 13 [(.agg (TPn.cells p)),(.agg (TLimits.cells l)),(encL cS ByteArray.empty ((([]:List ByteArray) ++ ((names.take ((i).toNat)).drop 0)) ++ ((names.take names.length).drop ((w64 (i+1)).toNat))))] [] 0 (aB rKept2) [],0+((([]:List ByteArray) ++ ((names.take ((i).toNat)).drop 0)) ++ ((names.take names.length).drop ((w64 (i+1)).toNat))).length≤((([]:List ByteArray) ++ ((names.take ((i).toNat)).drop 0)) ++ ((names.take names.length).drop ((w64 (i+1)).toNat))).length] ⟨o1,o1,(g_r05_Kept_ok N p l ((([]:List ByteArray) ++ ((names.take ((i).toNat)).drop 0)) ++ ((names.take names.length).drop ((w64 (i+1)).toNat))) rKept2 hr2),z0,trivial⟩ ?_
   refine sC 31 (C_76 15654) (C_76 15655) (!rKept2) (fun hq4=>?_) (fun hq4=>?_)
   ·have h:=condT h hq4
    refine sR hE ⟨[(2,(.op 0 0 0)),(3,(.op 1 0 0)),(5,(.os 179 0 (((([]:List ByteArray) ++ ((names.take ((i).toNat)).drop 0)) ++ ((names.take names.length).drop ((w64 (i+1)).toNat))).length))),(6,(aI i))],[(0,vO 5 (TPn.cells p)),(1,vO 5 (TLimits.cells l)),(179,aO 1 cS ByteArray.empty ((([]:List ByteArray) ++ ((names.take ((i).toNat)).drop 0)) ++ ((names.take names.length).drop ((w64 (i+1)).toNat))))],323⟩ (C_76 15654) [] [] (kp [2,3,5,6]) (kq [0,1,179]) 323 [] trivial ?_
    refine sA 1 [.code (C_76 979),.inLoop (C_76 244),.inBlock 0,.code (C_76 31)] ?_
    exact sW hE _ [] (kp [2,3,5,6]) (kq [0,1] ++ [(2,.keep 179)]) 3 [] trivial (g_r05_Conflict_J2_ok N p l i (g_r05_Conflict_L1 N p l fuel) ih ((([]:List ByteArray) ++ ((names.take ((i).toNat)).drop 0)) ++ ((names.take names.length).drop ((w64 (i+1)).toNat))) _ h E hE)
   ·have h:=condF h hq4
    refine sA 2 [.code (C_76 979),.inLoop (C_76 244),.inBlock 0,.code (C_76 31)] ?_
    exact sW hE _ [] (kp [2,3,5,6]) (kq [0,1,2]) 3 [] trivial (g_r05_Conflict_J2_ok N p l i (g_r05_Conflict_L1 N p l fuel) ih names _ h E hE)
  ·have h:=condF h hq3
   refine sA 2 [.code (C_76 62),.code (C_76 63)] ?_
   refine sR hE ⟨[(4,(.os 2 0 names.length))],[(2,aO 1 cS ByteArray.empty names)],67⟩ (C_76 62) [] [] (kp [4]) (kq [2]) 67 [] trivial ?_
   obtain rfl:=Option.some.inj h
   refine sW hE ⟨[(4,(encL cS ByteArray.empty names))],[],67⟩ [2] [(4,.sl (names.length) (fun zi=>cS (names.getD zi ByteArray.empty)))] [] 67 [names.length=names.length,0+names.length≤names.length,∀ zi,zi < names.length→(fun zi=>cS (names.getD zi ByteArray.empty)) zi=(fun zi=>cS (names.getD zi ByteArray.empty)) (addz 0 zi)] ⟨rfl,z0,(fun _ _=>rfl),trivial⟩ ?_
   exact sT Tryz.f12 [] [] trivial
theorem g_r05_Conflict_ok (N:Nat) (p:TPn) (l:TLimits) (r:(List ByteArray)) (h:g_r05_Conflict N p l=some r):Sd 12 [(.agg (TPn.cells p)),(.agg (TLimits.cells l))] [] 0 (encL cS ByteArray.empty r) []:=by
 unfold g_r05_Conflict at h
 refine Sound.of_runs (fu:=Tryz.f12) (c:=C_76 1) (nt:=34) (by kernel_rfl) (by kernel_rfl) (by kernel_rfl) (by kernel_rfl) (fun hm=>rfl) ?_
 intro E hE
 refine sA 1 [.code (C_76 2),.code (C_76 3)] ?_
 refine sR hE ⟨[(2,(.op 0 0 0)),(3,(.op 16 0 0))],[(0,vO 5 (TPn.cells p)),(16,vO 5 (TLimits.cells l))],48⟩ (C_76 2) [] [] (kp [2,3]) (kq [0,16]) 48 [] trivial ?_
 refine sA 1 [.code (C_76 6),.code (C_76 7)] ?_
 refine sR hE ⟨[(2,(.op 0 0 0)),(3,(.op 16 0 0)),(5,(.os 48 0 (([(⟨#[100,114,97,117,103,104,116]⟩:ByteArray),(⟨#[116,114,105,109]⟩:ByteArray),(⟨#[104,101,101,108]⟩:ByteArray),(⟨#[104,111,103]⟩:ByteArray)]:List ByteArray).length)))],[(0,vO 5 (TPn.cells p)),(16,vO 5 (TLimits.cells l)),(48,aO 1 cS ByteArray.empty ([(⟨#[100,114,97,117,103,104,116]⟩:ByteArray),(⟨#[116,114,105,109]⟩:ByteArray),(⟨#[104,101,101,108]⟩:ByteArray),(⟨#[104,111,103]⟩:ByteArray)]:List ByteArray))],80⟩ (C_76 6) [] [] (kp [2,3] ++ [(5,.osl (([(⟨#[100,114,97,117,103,104,116]⟩:ByteArray),(⟨#[116,114,105,109]⟩:ByteArray),(⟨#[104,101,101,108]⟩:ByteArray),(⟨#[104,111,103]⟩:ByteArray)]:List ByteArray).length))]) (kq [0,16] ++ [(48,.arr 48 (([(⟨#[100,114,97,117,103,104,116]⟩:ByteArray),(⟨#[116,114,105,109]⟩:ByteArray),(⟨#[104,101,101,108]⟩:ByteArray),(⟨#[104,111,103]⟩:ByteArray)]:List ByteArray).length) (fun zi=>cS (([(⟨#[100,114,97,117,103,104,116]⟩:ByteArray),(⟨#[116,114,105,109]⟩:ByteArray),(⟨#[104,101,101,108]⟩:ByteArray),(⟨#[104,111,103]⟩:ByteArray)]:List ByteArray).getD zi ByteArray.empty)))]) 80 [4=([(⟨#[100,114,97,117,103,104,116]⟩:ByteArray),(⟨#[116,114,105,109]⟩:ByteArray),(⟨#[104,101,101,108]⟩:ByteArray),(⟨#[104,111,103]⟩:ByteArray)]:List ByteArray).length,4=([(⟨#[100,114,97,117,103,104,116]⟩:ByteArray),(⟨#[116,114,105,109]⟩:ByteArray),(⟨#[104,101,101,108]⟩:ByteArray),(⟨#[104,111,103]⟩:ByteArray)]:List ByteArray).length,∀ zi,zi < ([(⟨#[100,114,97,117,103,104,116]⟩:ByteArray),(⟨#[116,114,105,109]⟩:ByteArray),(⟨#[104,101,101,108]⟩:ByteArray),(⟨#[104,111,103]⟩:ByteArray)]:List ByteArray).length→(fun zi=>cS (([(⟨#[100,114,97,117,103,104,116]⟩:ByteArray),(⟨#[116,114,105,109]⟩:ByteArray),(⟨#[104,101,101,108]⟩:ByteArray),(⟨#[104,111,103]⟩:ByteArray)]:List ByteArray).getD zi ByteArray.empty)) zi=(fun zi=>([[(aS (⟨#[100,114,97,117,103,104,116]⟩:ByteArray))],[(aS (⟨#[116,114,105,109]⟩:ByteArray))],[(aS (⟨#[104,101,101,108]⟩:ByteArray))],[(aS (⟨#[104,111,103]⟩:ByteArray))]]:List (List AV)).getD zi []) zi] ⟨rfl,rfl,(fun zq hzq=>get_chunk cS ByteArray.empty ([(⟨#[100,114,97,117,103,104,116]⟩:ByteArray),(⟨#[116,114,105,109]⟩:ByteArray),(⟨#[104,101,101,108]⟩:ByteArray),(⟨#[104,111,103]⟩:ByteArray)]:List ByteArray) zq hzq),trivial⟩ ?_
 refine sA 2 [.code (C_76 28),.code (C_76 29),.code (C_76 15)] ?_
 obtain ⟨rKept,hr,h⟩:=bindSome h
 refine sR hE ⟨[(2,(.op 0 0 0)),(3,(.op 16 0 0)),(5,(.os 48 0 (([(⟨#[100,114,97,117,103,104,116]⟩:ByteArray),(⟨#[116,114,105,109]⟩:ByteArray),(⟨#[104,101,101,108]⟩:ByteArray),(⟨#[104,111,103]⟩:ByteArray)]:List ByteArray).length))),(12,(aB rKept))],[(0,vO 5 (TPn.cells p)),(16,vO 5 (TLimits.cells l)),(48,aO 1 cS ByteArray.empty ([(⟨#[100,114,97,117,103,104,116]⟩:ByteArray),(⟨#[116,114,105,109]⟩:ByteArray),(⟨#[104,101,101,108]⟩:ByteArray),(⟨#[104,111,103]⟩:ByteArray)]:List ByteArray))],144⟩ (C_76 28) [(3,⟨[],true,(aB rKept),[],0,false,none⟩)] [] (kp [2,3,5,12]) (kq [0,16,48]) 144 [0 < 1,0 < 1,Sd 13 [(.agg (TPn.cells p)),(.agg (TLimits.cells l)),(encL cS ByteArray.empty ([(⟨#[100,114,97,117,103,104,116]⟩:ByteArray),(⟨#[116,114,105,109]⟩:ByteArray),(⟨#[104,101,101,108]⟩:ByteArray),(⟨#[104,111,103]⟩:ByteArray)]:List ByteArray))] [] 0 (aB rKept) [],0+([(⟨#[100,114,97,117,103,104,116]⟩:ByteArray),(⟨#[116,114,105,109]⟩:ByteArray),(⟨#[104,101,101,108]⟩:ByteArray),(⟨#[104,111,103]⟩:ByteArray)]:List ByteArray).length≤([(⟨#[100,114,97,117,103,104,116]⟩:ByteArray),(⟨#[116,114,105,109]⟩:ByteArray),(⟨#[104,101,101,108]⟩:ByteArray),(⟨#[104,111,103]⟩:ByteArray)]:List ByteArray).length] ⟨o1,o1,(g_r05_Kept_ok N p l ([(⟨#[100,114,97,117,103,104,116]⟩:ByteArray),(⟨#[116,114,105,109]⟩:ByteArray),(⟨#[104,101,101,108]⟩:ByteArray),(⟨#[104,111,103]⟩:ByteArray)]:List ByteArray) rKept hr),z0,trivial⟩ ?_
 refine sC 12 (C_76 58) (C_76 59) rKept (fun hq2=>?_) (fun hq2=>?_)
 ·have h:=condT h hq2
  refine sA 1 [.code (C_76 116),.code (C_76 117),.code (C_76 15)] ?_
  refine sR hE ⟨[(4,.nil)],[],160⟩ (C_76 116) [] [] (kp [4]) [] 160 [] trivial ?_
  obtain rfl:=Option.some.inj h
  refine sW hE ⟨[(4,(encL cS ByteArray.empty ([]:List ByteArray)))],[],160⟩ [] [(4,.sl (([]:List ByteArray).length) (fun zi=>cS (([]:List ByteArray).getD zi ByteArray.empty)))] [] 160 [([]:List ByteArray).length=0] ⟨rfl,trivial⟩ ?_
  exact sT Tryz.f12 [] [] trivial
 ·have h:=condF h hq2
  refine sA 3 [.code (C_76 60),.code (C_76 61),.code (C_76 31)] ?_
  refine sR hE ⟨[(2,(.op 0 0 0)),(3,(.op 16 0 0)),(5,(.os 48 0 (([(⟨#[100,114,97,117,103,104,116]⟩:ByteArray),(⟨#[116,114,105,109]⟩:ByteArray),(⟨#[104,101,101,108]⟩:ByteArray),(⟨#[104,111,103]⟩:ByteArray)]:List ByteArray).length))),(6,(aI 3))],[(0,vO 5 (TPn.cells p)),(16,vO 5 (TLimits.cells l)),(48,aO 1 cS ByteArray.empty ([(⟨#[100,114,97,117,103,104,116]⟩:ByteArray),(⟨#[116,114,105,109]⟩:ByteArray),(⟨#[104,101,101,108]⟩:ByteArray),(⟨#[104,111,103]⟩:ByteArray)]:List ByteArray))],160⟩ (C_76 60) [] [] (kp [2,3,5,6]) (kq [0,16,48]) 160 [] trivial ?_
  refine sA 2 [.code (C_76 244),.inLoop (C_76 244),.inBlock 0,.code (C_76 31)] ?_
  exact sW hE _ [] (kp [2,3,5,6]) (kq [0] ++ [(1,.keep 16),(2,.keep 48)]) 3 [] trivial (g_r05_Conflict_L1_ok N p l N ([(⟨#[100,114,97,117,103,104,116]⟩:ByteArray),(⟨#[116,114,105,109]⟩:ByteArray),(⟨#[104,101,101,108]⟩:ByteArray),(⟨#[104,111,103]⟩:ByteArray)]:List ByteArray) 3 _ h E hE)
end Go.Den
