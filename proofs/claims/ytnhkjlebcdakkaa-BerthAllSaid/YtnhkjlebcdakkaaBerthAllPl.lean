/- The plain law: the Lean function of the law returns true for every input, and what it needs. No conditions. -/
import Derived.Test.YtnhkjlebcdakkaaBerthAllDen
set_option linter.unusedVariables false
set_option linter.unusedSimpArgs false
namespace Go.Den
open Go.Ab
theorem w64_def (n:Int):w64 n=if n % 18446744073709551616≥9223372036854775808 then n % 18446744073709551616 - 18446744073709551616 else n % 18446744073709551616:=by
 have e:w64 n=(if (true && decide (n % 18446744073709551616≥9223372036854775808))=true then n % 18446744073709551616 - 18446744073709551616 else n % 18446744073709551616):=rfl
 rw [e];simp
theorem w64_eq {n:Int} (h1:-9223372036854775808≤n) (h2:n≤9223372036854775807):w64 n=n:=by
 rw [w64_def];split<;>omega
theorem w64_succ {m:Nat} (h:m < 9223372036854775807):w64 ((m:Int)+1)=((m+1:Nat):Int):=by rw [w64_eq (by omega) (by omega)];simp
theorem toList_inj {a b:ByteArray} (h:a.toList=b.toList):a=b:=by
 have e:∀ x:ByteArray,x.toList=x.data.toList:=fun x=>ByteArray.toList_eq x
 rw [e,e] at h
 cases a;cases b;simp_all [Array.toList_inj]
theorem streq_iff {a b:ByteArray}:streq a b=true↔a=b:=by
 unfold streq;simp only [beq_iff_eq]
 exact ⟨toList_inj,fun h=>h ▸ rfl⟩
def scan {R:Type} (f:Nat→Option R) (z:R):Nat→Nat→R
 | 0,_=>z
 | k+1,m=>match f m with
  | some r=>r
  | none=>scan f z k (m+1)
theorem loop_scan {R:Type} {L:Nat→Int→Option R} (f:Nat→Option R) (z:R) {n:Nat}
  (hstep:∀ fuel m,m < n→L (fuel+1) (m:Int)=(match f m with | some r=>some r | none=>L fuel ((m+1:Nat):Int)))
  (hend:∀ fuel,L (fuel+1) (n:Int)=some z):∀ k m fuel,m+k=n→k < fuel→L fuel (m:Int)=some (scan f z k m)
 | 0,m,fuel,h,hf=>by
  obtain ⟨g,rfl⟩:∃ g,fuel=g+1:=⟨fuel - 1,by omega⟩
  have:m=n:=by omega
  subst this;exact hend g
 | k+1,m,fuel,h,hf=>by
  obtain ⟨g,rfl⟩:∃ g,fuel=g+1:=⟨fuel - 1,by omega⟩
  rw [hstep g m (by omega)]
  unfold scan
  cases hfm:f m with
  | some r=>rfl
  | none=>exact loop_scan f z hstep hend k (m+1) g (by omega) (by omega)
theorem loop_scan0 {R:Type} {L:Nat→Int→Option R} (f:Nat→Option R) (z:R) {n fuel:Nat} (hf:n < fuel)
  (hstep:∀ fuel m,m < n→L (fuel+1) (m:Int)=(match f m with | some r=>some r | none=>L fuel ((m+1:Nat):Int)))
  (hend:∀ fuel,L (fuel+1) (n:Int)=some z):L fuel 0=some (scan f z n 0) :=
 loop_scan f z hstep hend n 0 fuel (by omega) hf
theorem scan_all {R:Type} {f:Nat→Option R} {z:R}:∀ (k m:Nat),(∀ i,m≤i→i < m+k→f i=none)→scan f z k m=z
 | 0,_,_=>rfl
 | k+1,m,h=>by
  unfold scan
  rw [h m (by omega) (by omega)]
  exact scan_all k (m+1) fun i hi hi2=>h i (by omega) (by omega)
theorem scan_inv {R:Type} {f:Nat→Option R} {z:R}:∀ (k m:Nat),(∃ i r,m≤i∧i < m+k∧f i=some r∧(∀ j,m≤j→j < i→f j=none)∧scan f z k m=r)∨((∀ i,m≤i→i < m+k→f i=none)∧scan f z k m=z)
 | 0,m=>.inr ⟨fun i h1 h2=>by omega,rfl⟩
 | k+1,m=>by
  cases hm:f m with
  | some r=>exact .inl ⟨m,r,Nat.le_refl _,by omega,hm,fun j h1 h2=>by omega,by unfold scan;rw [hm]⟩
  | none =>
   have e:scan f z (k+1) m=scan f z k (m+1):=by rw [scan,hm]
   rcases scan_inv (f:=f) (z:=z) k (m+1) with ⟨i,r,h1,h2,h3,h4,h5⟩ | ⟨h1,h2⟩
   ·refine .inl ⟨i,r,by omega,by omega,h3,fun j hj1 hj2=>?_,e.trans h5⟩
    by_cases hj:j=m
    ·subst hj;exact hm
    ·exact h4 j (by omega) hj2
   ·refine .inr ⟨fun i hi1 hi2=>?_,e.trans h2⟩
    by_cases hj:i=m
    ·subst hj;exact hm
    ·exact h1 i (by omega) (by omega)
theorem loop_scanR {R:Type} {L:Nat→Int→R} (f:Nat→Option R) (z:R) {n:Nat}
  (hstep:∀ fuel m,m < n→L (fuel+1) (m:Int)=(match f m with | some r=>r | none=>L fuel ((m+1:Nat):Int)))
  (hend:∀ fuel,L (fuel+1) (n:Int)=z):∀ k m fuel,m+k=n→k < fuel→L fuel (m:Int)=scan f z k m
 | 0,m,fuel,h,hf=>by
  obtain ⟨g,rfl⟩:∃ g,fuel=g+1:=⟨fuel - 1,by omega⟩
  have:m=n:=by omega
  subst this;exact hend g
 | k+1,m,fuel,h,hf=>by
  obtain ⟨g,rfl⟩:∃ g,fuel=g+1:=⟨fuel - 1,by omega⟩
  rw [hstep g m (by omega)]
  unfold scan
  cases hfm:f m with
  | some r=>rfl
  | none=>exact loop_scanR f z hstep hend k (m+1) g (by omega) (by omega)
theorem loop_scanR0 {R:Type} {L:Nat→Int→R} (f:Nat→Option R) (z:R) {n fuel:Nat} (hf:n < fuel)
  (hstep:∀ fuel m,m < n→L (fuel+1) (m:Int)=(match f m with | some r=>r | none=>L fuel ((m+1:Nat):Int)))
  (hend:∀ fuel,L (fuel+1) (n:Int)=z):L fuel 0=scan f z n 0 :=
 loop_scanR f z hstep hend n 0 fuel (by omega) hf
theorem scan_index {p:Nat→Bool}:∀ (n m:Nat),decide (scan (fun k=>cond (p k) (some (k:Int)) none) (-1) n m≥0)=scan (fun k=>cond (p k) (some true) none) false n m
 | 0,m=>rfl
 | n+1,m=>by
  unfold scan
  cases p m with
  | true=>simp
  | false=>exact scan_index n (m+1)
theorem scan_bool {R:Type} {p:Nat→Bool} {a z:R}:∀ (n m:Nat),scan (fun k=>cond (p k) (some a) none) z n m=cond (scan (fun k=>cond (p k) (some true) none) false n m) a z
 | 0,m=>rfl
 | n+1,m=>by
  unfold scan
  cases p m with
  | true=>rfl
  | false=>exact scan_bool n (m+1)
theorem getD_take {α:Type} (l:List α) (m k:Nat) (d:α) (h:k < m):((l.take m).drop 0).getD k d=l.getD k d:=by
 simp [List.getD,h]
theorem toNat_nat (m:Nat):((m:Int)).toNat=m:=rfl
theorem inb {m n:Nat} (h:m < n):0≤(m:Int)∧(m:Int) < ((n:Nat):Int):=⟨by omega,by omega⟩
theorem dec_lt {m n:Nat} (h:m < n):decide ((m:Int) < ((n:Nat):Int))=true:=by simp;omega
theorem dec_nlt {n:Nat}:decide ((n:Int) < ((n:Nat):Int))=false:=by simp
end Go.Den
namespace Go.Den
open Go.Ab
def nameBad (s:ByteArray) (m:Nat):Bool :=
 cond (!(cond (cond (decide (byteAt s m≥97)) (decide (byteAt s m≤122)) false) true (cond (decide (byteAt s m≥65)) (decide (byteAt s m≤90)) false))) (cond ((m:Int) == 0) true (!(cond (cond (decide (byteAt s m≥48)) (decide (byteAt s m≤57)) false) true (byteAt s m == 45)))) false
def nameOk (s:ByteArray):Bool :=
 cond (cond (streq s ByteArray.empty) true (decide (((s.size:Nat):Int) > 12))) false (scan (fun m=>cond (nameBad s m) (some false) none) true s.size 0)
end Go.Den
namespace Go.Den
open Go.Ab
def ins (n lo hi:Int):Bool:=cond (decide (n≥lo)) (decide (n≤hi)) false
theorem outside_eq (N:Nat) (n lo hi:Int):g_berth_outside N n lo hi=some (!ins n lo hi):=by
 unfold g_berth_outside ins
 congr 1
 rw [Bool.eq_iff_iff];simp [Bool.cond_eq_ite]
theorem named_eq {N:Nat} (hN:12 < N) (s:ByteArray):g_berth_named N s=some (nameOk s):=by
 unfold g_berth_named nameOk
 cases h:cond (streq s ByteArray.empty) true (decide (((s.size:Nat):Int) > 12))
 ·have hs:s.size≤12:=by
   cases h2:streq s ByteArray.empty<;>rw [h2] at h<;>simp at h;omega
  refine loop_scan0 (L:=fun fuel=>g_berth_named_L1 N s fuel) _ _ (by omega) (fun fuel m hm=>?_) (fun fuel=>?_)
  ·simp only [g_berth_named_L1,dec_lt hm,cond_true,if_pos (inb hm),w64_succ (show m < 9223372036854775807 by omega),toNat_nat]
   show cond (nameBad s m) _ _=_
   cases nameBad s m<;>rfl
  ·simp only [g_berth_named_L1,dec_nlt,cond_false]
 ·rfl
end Go.Den
namespace Go.Den
open Go.Ab
def dockCode (x:TDock):Int:=cond (ins x.f_Length 1 1000000 && ins x.f_Width 1 1000000 && ins x.f_Sill (-1000000) 1000000 && ins x.f_Floor (-1000000) 1000000 && ins x.f_Gap 0 1000000) 0 2
theorem dockCheck_eq (N:Nat) (x:TDock):g_berth_CheckDocks_2 N x=some (dockCode x):=by
 unfold g_berth_CheckDocks_2 dockCode
 simp only [outside_eq,g_berth_ranged]
 generalize ins x.f_Length 1 1000000=b0,ins x.f_Width 1 1000000=b1,ins x.f_Sill (-1000000) 1000000=b2,ins x.f_Floor (-1000000) 1000000=b3,ins x.f_Gap 0 1000000=b4
 cases b0<;>cases b1<;>cases b2<;>cases b3<;>cases b4<;>rfl
def dupDock (l:List TDock) (m:Nat):Bool:=scan (fun k=>cond (streq (l.getD k TDock.d).f_Name (l.getD m TDock.d).f_Name) (some true) none) false m 0
def stepDock (l:List TDock) (m:Nat):Option Int :=
 cond (!nameOk (l.getD m TDock.d).f_Name) (some 4) (cond (dupDock l m) (some 5) (cond (dockCode (l.getD m TDock.d) != 0) (some (dockCode (l.getD m TDock.d))) none))
def docksCode (l:List TDock):Int:=cond (decide (((l.length:Nat):Int) > 4)) 8 (scan (stepDock l) 0 l.length 0)
theorem contains_dock {N:Nat} (l:List TDock) (m:Nat) (hm:m < l.length) (hN:l.length < N) (hl:l.length≤4):g_slices_ContainsFunc_api_Dock_api_Dock N ((l.take m).drop 0) (l.getD m TDock.d)=some (dupDock l m):=by
 have hlen:((l.take m).drop 0).length=m:=by simp;omega
 have e:g_slices_IndexFunc_api_Dock_api_Dock N ((l.take m).drop 0) (l.getD m TDock.d)=some (scan (fun k=>cond (streq (l.getD k TDock.d).f_Name (l.getD m TDock.d).f_Name) (some (k:Int)) none) (-1) m 0):=by
  unfold g_slices_IndexFunc_api_Dock_api_Dock
  refine loop_scan0 (L:=fun fuel=>g_slices_IndexFunc_api_Dock_api_Dock_L1 N ((l.take m).drop 0) (l.getD m TDock.d) fuel) _ _ (by omega) (fun fuel k hk=>?_) (fun fuel=>?_)
  ·simp only [g_slices_IndexFunc_api_Dock_api_Dock_L1,hlen,dec_lt hk,cond_true,if_pos (inb hk),w64_succ (show k < 9223372036854775807 by omega),toNat_nat,getD_take l m k _ hk,g_berth_check_Dock_1,g_berth_CheckDocks_1,Option.bind_some]
   cases streq (l.getD k TDock.d).f_Name (l.getD m TDock.d).f_Name<;>rfl
  ·simp only [g_slices_IndexFunc_api_Dock_api_Dock_L1,hlen,dec_nlt,cond_false]
 unfold g_slices_ContainsFunc_api_Dock_api_Dock
 rw [e,Option.bind_some,scan_index]
 rfl
theorem checkDocks_eq {N:Nat} (hN:13 < N) (l:List TDock):g_berth_CheckDocks N l=some (docksCode l):=by
 unfold g_berth_CheckDocks g_berth_check_Dock docksCode
 cases h:decide (((l.length:Nat):Int) > 4)
 ·have hl:l.length≤4:=by simp at h;omega
  have e:g_berth_check_Dock_L1 N l N 0=some (scan (stepDock l) 0 l.length 0):=by
   refine loop_scan0 (L:=fun fuel=>g_berth_check_Dock_L1 N l fuel) _ _ (by omega) (fun fuel m hm=>?_) (fun fuel=>?_)
   ·simp only [g_berth_check_Dock_L1,dec_lt hm,cond_true,if_pos (inb hm),w64_succ (show m < 9223372036854775807 by omega),toNat_nat,g_berth_CheckDocks_1,Option.bind_some,named_eq (show 12 < N by omega),contains_dock l m hm (show l.length < N by omega) hl,dockCheck_eq,
     if_pos (show 0≤m∧m≤l.length from ⟨Nat.zero_le _,by omega⟩),if_pos (show 0≤(m:Int) from Int.natCast_nonneg _)]
    unfold stepDock
    cases nameOk (l.getD m TDock.d).f_Name<;>cases dupDock l m<;>cases (dockCode (l.getD m TDock.d) != 0)<;>rfl
   ·simp only [g_berth_check_Dock_L1,dec_nlt,cond_false]
  rw [cond_false,cond_false,e];rfl
 ·rfl
def callCode (x:TCall):Int:=cond (ins x.f_Length 1 1000000 && ins x.f_Beam 1 1000000 && ins x.f_Draught 0 1000000 && ins x.f_Under 0 1000000 && ins x.f_Arrive 0 400 && ins x.f_Due 0 400 && ins x.f_Work 1 1000 && ins x.f_Late 0 1000000000) 0 2
theorem callCheck_eq (N:Nat) (x:TCall):g_berth_CheckCalls_2 N x=some (callCode x):=by
 unfold g_berth_CheckCalls_2 callCode
 simp only [outside_eq,g_berth_ranged]
 generalize ins x.f_Length 1 1000000=b0,ins x.f_Beam 1 1000000=b1,ins x.f_Draught 0 1000000=b2,ins x.f_Under 0 1000000=b3,ins x.f_Arrive 0 400=b4,ins x.f_Due 0 400=b5,ins x.f_Work 1 1000=b6,ins x.f_Late 0 1000000000=b7
 cases b0<;>cases b1<;>cases b2<;>cases b3<;>cases b4<;>cases b5<;>cases b6<;>cases b7<;>rfl
def dupCall (l:List TCall) (m:Nat):Bool:=scan (fun k=>cond (streq (l.getD k TCall.d).f_Name (l.getD m TCall.d).f_Name) (some true) none) false m 0
def stepCall (l:List TCall) (m:Nat):Option Int :=
 cond (!nameOk (l.getD m TCall.d).f_Name) (some 4) (cond (dupCall l m) (some 5) (cond (callCode (l.getD m TCall.d) != 0) (some (callCode (l.getD m TCall.d))) none))
def callsCode (l:List TCall):Int:=cond (decide (((l.length:Nat):Int) > 8)) 8 (scan (stepCall l) 0 l.length 0)
theorem contains_call {N:Nat} (l:List TCall) (m:Nat) (hm:m < l.length) (hN:l.length < N) (hl:l.length≤8):g_slices_ContainsFunc_api_Call_api_Call N ((l.take m).drop 0) (l.getD m TCall.d)=some (dupCall l m):=by
 have hlen:((l.take m).drop 0).length=m:=by simp;omega
 have e:g_slices_IndexFunc_api_Call_api_Call N ((l.take m).drop 0) (l.getD m TCall.d)=some (scan (fun k=>cond (streq (l.getD k TCall.d).f_Name (l.getD m TCall.d).f_Name) (some (k:Int)) none) (-1) m 0):=by
  unfold g_slices_IndexFunc_api_Call_api_Call
  refine loop_scan0 (L:=fun fuel=>g_slices_IndexFunc_api_Call_api_Call_L1 N ((l.take m).drop 0) (l.getD m TCall.d) fuel) _ _ (by omega) (fun fuel k hk=>?_) (fun fuel=>?_)
  ·simp only [g_slices_IndexFunc_api_Call_api_Call_L1,hlen,dec_lt hk,cond_true,if_pos (inb hk),w64_succ (show k < 9223372036854775807 by omega),toNat_nat,getD_take l m k _ hk,g_berth_check_Call_1,g_berth_CheckCalls_1,Option.bind_some]
   cases streq (l.getD k TCall.d).f_Name (l.getD m TCall.d).f_Name<;>rfl
  ·simp only [g_slices_IndexFunc_api_Call_api_Call_L1,hlen,dec_nlt,cond_false]
 unfold g_slices_ContainsFunc_api_Call_api_Call
 rw [e,Option.bind_some,scan_index]
 rfl
theorem checkCalls_eq {N:Nat} (hN:13 < N) (l:List TCall):g_berth_CheckCalls N l=some (callsCode l):=by
 unfold g_berth_CheckCalls g_berth_check_Call callsCode
 cases h:decide (((l.length:Nat):Int) > 8)
 ·have hl:l.length≤8:=by simp at h;omega
  have e:g_berth_check_Call_L1 N l N 0=some (scan (stepCall l) 0 l.length 0):=by
   refine loop_scan0 (L:=fun fuel=>g_berth_check_Call_L1 N l fuel) _ _ (by omega) (fun fuel m hm=>?_) (fun fuel=>?_)
   ·simp only [g_berth_check_Call_L1,dec_lt hm,cond_true,if_pos (inb hm),w64_succ (show m < 9223372036854775807 by omega),toNat_nat,g_berth_CheckCalls_1,Option.bind_some,named_eq (show 12 < N by omega),contains_call l m hm (show l.length < N by omega) hl,callCheck_eq,
     if_pos (show 0≤m∧m≤l.length from ⟨Nat.zero_le _,by omega⟩),if_pos (show 0≤(m:Int) from Int.natCast_nonneg _)]
    unfold stepCall
    cases nameOk (l.getD m TCall.d).f_Name<;>cases dupCall l m<;>cases (callCode (l.getD m TCall.d) != 0)<;>rfl
   ·simp only [g_berth_check_Call_L1,dec_nlt,cond_false]
  rw [cond_false,cond_false,e];rfl
 ·rfl
end Go.Den
namespace Go.Den
open Go.Ab
def cl (c:List TCall) (k:Nat):TCall:=c.getD k TCall.d
def sp (s:List TSpot) (k:Nat):TSpot:=s.getD k TSpot.d
def callIx (c:List TCall) (s:ByteArray):Int:=scan (fun k=>cond (streq (cl c k).f_Name s) (some (k:Int)) none) (-1) c.length 0
def bothCode (d:TDock) (c:List TCall):Int:=cond (docksCode [d] != 0) (docksCode [d]) (callsCode c)
theorem both_eq {N:Nat} (hN:13 < N) (d:TDock) (c:List TCall):g_berth_both N d c=some (bothCode d c):=by
 unfold g_berth_both bothCode
 rw [checkDocks_eq hN,Option.bind_some,checkCalls_eq hN]
 cases docksCode [d] != 0<;>rfl
theorem called_eq {N:Nat} (c:List TCall) (s:ByteArray) (hN:c.length < N) (hl:c.length < 1000):g_berth_called N c s=some (callIx c s):=by
 unfold g_berth_called g_slices_IndexFunc_api_Call_api_Call_v2
 rw [loop_scan0 (L:=fun fuel=>g_slices_IndexFunc_api_Call_api_Call_v2_L1 N c s fuel) (fun k=>cond (streq (cl c k).f_Name s) (some (k:Int)) none) (-1) hN (fun fuel k hk=>?_) (fun fuel=>?_)]
 ·rfl
 ·simp only [g_slices_IndexFunc_api_Call_api_Call_v2_L1,g_berth_called_1,dec_lt hk,cond_true,if_pos (inb hk),w64_succ (show k < 9223372036854775807 by omega),toNat_nat,Option.bind_some]
  change cond (streq (cl c k).f_Name s) _ _=_
  cases streq (cl c k).f_Name s<;>rfl
 ·simp only [g_slices_IndexFunc_api_Call_api_Call_v2_L1,dec_nlt,cond_false]
theorem callIx_inv (c:List TCall) (s:ByteArray):(callIx c s = -1∧∀ i,i < c.length→(cl c i).f_Name≠s)∨∃ i:Nat,i < c.length∧callIx c s=(i:Int)∧(cl c i).f_Name=s:=by
 unfold callIx
 rcases scan_inv (f:=fun k=>cond (streq (cl c k).f_Name s) (some (k:Int)) none) (z:=-1) c.length 0 with ⟨i,r,_,h2,h3,_,h5⟩ | ⟨h1,h2⟩
 ·right
  cases hs:streq (cl c i).f_Name s with
  | false=>simp only [hs,cond_false] at h3;cases h3
  | true =>
   simp only [hs,cond_true,Option.some.injEq] at h3
   exact ⟨i,by omega,by rw [h5,← h3],streq_iff.1 hs⟩
 ·left
  refine ⟨h2,fun i hi he=>?_⟩
  have:=h1 i (Nat.zero_le _) (by omega)
  simp only [streq_iff.2 he,cond_true] at this
  cases this
def withinE (d:TDock) (b:Tberth_box):Bool:=cond (cond (cond (decide (b.f_x≥d.f_Gap)) (decide (b.f_y≥d.f_Gap)) false) (decide ((w64 ((w64 (b.f_x+b.f_w))+d.f_Gap))≤d.f_Length)) false) (decide ((w64 ((w64 (b.f_y+b.f_h))+d.f_Gap))≤d.f_Width)) false
def apartE (g:Int) (a b:Tberth_box):Bool:=cond (cond (cond (decide ((w64 ((w64 (a.f_x+a.f_w))+g))≤b.f_x)) true (decide ((w64 ((w64 (b.f_x+b.f_w))+g))≤a.f_x))) true (decide ((w64 ((w64 (a.f_y+a.f_h))+g))≤b.f_y))) true (decide ((w64 ((w64 (b.f_y+b.f_h))+g))≤a.f_y))
theorem apartE_comm (g:Int) (a b:Tberth_box):apartE g a b=apartE g b a:=by
 unfold apartE
 generalize decide ((w64 ((w64 (a.f_x+a.f_w))+g))≤b.f_x)=p,decide ((w64 ((w64 (b.f_x+b.f_w))+g))≤a.f_x)=q,decide ((w64 ((w64 (a.f_y+a.f_h))+g))≤b.f_y)=r,decide ((w64 ((w64 (b.f_y+b.f_h))+g))≤a.f_y)=t
 cases p<;>cases q<;>cases r<;>cases t<;>rfl
def boxS (c:List TCall) (s:List TSpot) (i:Nat):Tberth_box:=⟨(sp s i).f_X,(sp s i).f_Y,(cl c (callIx c (sp s i).f_Call).toNat).f_Length,(cl c (callIx c (sp s i).f_Call).toNat).f_Beam⟩
theorem inside6_eq (N:Nat) (d:TDock) (b:Tberth_box):g_berth_inside N d b=some (withinE d b):=rfl
theorem apart6_eq (N:Nat) (a b:Tberth_box) (g:Int):g_berth_apart N a b g=some (apartE g a b):=rfl
def dupS (s:List TSpot) (i:Nat):Bool:=scan (fun j=>cond (streq (sp s j).f_Call (sp s i).f_Call) (some true) none) false i 0
def spotStep (d:TDock) (c:List TCall) (s:List TSpot) (i:Nat):Option Int :=
 cond (decide (callIx c (sp s i).f_Call < 0)) (some 6) (cond (dupS s i) (some 5) (cond (!(ins (sp s i).f_X 0 1000000 && ins (sp s i).f_Y 0 1000000)) (some 2) (cond (!withinE d (boxS c s i)) (some 16) none)))
theorem spot_ok {d:TDock} {c:List TCall} {s:List TSpot} {i:Nat} (h:spotStep d c s i=none):(0≤callIx c (sp s i).f_Call∧callIx c (sp s i).f_Call < ((c.length:Nat):Int))∧dupS s i=false∧(ins (sp s i).f_X 0 1000000=true∧ins (sp s i).f_Y 0 1000000=true)∧withinE d (boxS c s i)=true:=by
 unfold spotStep at h
 cases h1:decide (callIx c (sp s i).f_Call < 0) with
 | true=>rw [h1] at h;cases h
 | false =>
  rw [h1,cond_false] at h
  cases h2:dupS s i with
  | true=>rw [h2] at h;cases h
  | false =>
   rw [h2,cond_false] at h
   cases h3:(ins (sp s i).f_X 0 1000000 && ins (sp s i).f_Y 0 1000000) with
   | false=>rw [h3] at h;cases h
   | true =>
    rw [h3,Bool.not_true,cond_false] at h
    cases h4:withinE d (boxS c s i) with
    | false=>rw [h4] at h;cases h
    | true =>
     refine ⟨?_,rfl,by simpa using h3,rfl⟩
     have h1:=of_decide_eq_false h1
     rcases callIx_inv c (sp s i).f_Call with ⟨h,_⟩ | ⟨j,h,hj,_⟩<;>omega
def pairStep (d:TDock) (c:List TCall) (s:List TSpot) (i:Nat):Option Int :=
 cond (scan (fun j=>cond (!apartE d.f_Gap (boxS c s i) (boxS c s j)) (some true) none) false i 0) (some 17) none
def planCode (d:TDock) (c:List TCall) (s:List TSpot):Int :=
 cond (bothCode d c != 0) (bothCode d c) (cond (((s.length:Nat):Int) != ((c.length:Nat):Int)) 11 (scan (spotStep d c s) (scan (pairStep d c s) 0 s.length 0) s.length 0))
theorem both_len {d:TDock} {c:List TCall} (h:bothCode d c=0):c.length≤8:=by
 unfold bothCode at h
 cases h1:(docksCode [d] != 0) with
 | true=>rw [h1,cond_true] at h;rw [h] at h1;cases h1
 | false =>
  rw [h1,cond_false] at h
  unfold callsCode at h
  cases h2:decide (((c.length:Nat):Int) > 8) with
  | true=>rw [h2] at h;cases h
  | false=>simp at h2;omega
end Go.Den
namespace Go.Den
open Go.Ab
def bx (o:List Tberth_box) (r:Nat):Tberth_box:=o.getD r Tberth_box.d
def ixn (c:List TCall) (s:List TSpot) (i:Nat):Nat:=(callIx c (sp s i).f_Call).toNat
theorem scan_ex {p:Nat→Bool} (n:Nat):scan (fun j=>cond (p j) (some true) none) false n 0=true↔∃ j,j < n∧p j=true:=by
 rcases scan_inv (f:=fun j=>cond (p j) (some true) none) (z:=false) n 0 with ⟨i,r,h1,h2,h3,h4,h5⟩ | ⟨h1,h2⟩
 ·cases hp:p i with
  | false=>simp only [hp,cond_false] at h3;cases h3
  | true =>
   simp only [hp,cond_true,Option.some.injEq] at h3
   rw [h5,← h3]
   exact ⟨fun _=>⟨i,by omega,hp⟩,fun _=>rfl⟩
 ·rw [h2]
  refine ⟨fun h=>(by cases h),fun ⟨j,h3,h4⟩=>?_⟩
  have:=h1 j (Nat.zero_le _) (by omega)
  simp only [h4,cond_true] at this;cases this
theorem dup_iff {s:List TSpot} {i:Nat}:dupS s i=true↔∃ j,j < i∧(sp s j).f_Call=(sp s i).f_Call:=by
 unfold dupS
 rw [scan_ex (p:=fun j=>streq (sp s j).f_Call (sp s i).f_Call)]
 constructor
 ·rintro ⟨j,h1,h2⟩;exact ⟨j,h1,streq_iff.1 h2⟩
 ·rintro ⟨j,h1,h2⟩;exact ⟨j,h1,streq_iff.2 h2⟩
theorem callIx_name {c:List TCall} {s:ByteArray} (h:0≤callIx c s):(callIx c s).toNat < c.length∧callIx c s=(((callIx c s).toNat:Nat):Int)∧(cl c (callIx c s).toNat).f_Name=s:=by
 rcases callIx_inv c s with ⟨h1,_⟩ | ⟨i,h1,h2,h3⟩
 ·omega
 ·rw [h2,toNat_nat];exact ⟨h1,rfl,h3⟩
def allApart (g:Int) (f:Nat→Tberth_box) (n:Nat):Prop:=∀ i,i < n→∀ j,j < i→apartE g (f i) (f j)=true
theorem allApart_sym {g:Int} {f:Nat→Tberth_box} {n:Nat}:allApart g f n↔∀ i j,i < n→j < n→i≠j→apartE g (f i) (f j)=true:=by
 constructor
 ·intro h i j hi hj hne
  by_cases h1:j < i
  ·exact h i hi j h1
  ·rw [apartE_comm];exact h j hj i (by omega)
 ·intro h i hi j hj;exact h i j hi (by omega) (by omega)
theorem pair_scan {R:Type} {g:Int} {f:Nat→Tberth_box} {n:Nat} (a z:R):(allApart g f n∧scan (fun i=>cond (scan (fun j=>cond (!apartE g (f i) (f j)) (some true) none) false i 0) (some a) none) z n 0=z)∨(¬ allApart g f n∧scan (fun i=>cond (scan (fun j=>cond (!apartE g (f i) (f j)) (some true) none) false i 0) (some a) none) z n 0=a):=by
 rw [scan_bool]
 have h:=scan_ex (p:=fun i=>scan (fun j=>cond (!apartE g (f i) (f j)) (some true) none) false i 0) n
 cases hs:scan (fun i=>cond (scan (fun j=>cond (!apartE g (f i) (f j)) (some true) none) false i 0) (some true) none) false n 0 with
 | true =>
  right
  obtain ⟨i,hi,h2⟩:=h.1 hs
  obtain ⟨j,hj,h3⟩:=(scan_ex (p:=fun j=>!apartE g (f i) (f j)) i).1 h2
  refine ⟨fun hall=>?_,rfl⟩
  rw [hall i hi j hj] at h3;cases h3
 | false =>
  left
  refine ⟨fun i hi j hj=>?_,rfl⟩
  cases ha:apartE g (f i) (f j) with
  | true=>rfl
  | false =>
   have:=h.2 ⟨i,hi,(scan_ex (p:=fun j=>!apartE g (f i) (f j)) i).2 ⟨j,hj,by rw [ha];rfl⟩⟩
   rw [hs] at this;cases this
structure BI (d:TDock) (c:List TCall) (s:List TSpot) (x:Nat) (out:List Tberth_box) (seen:List Bool):Prop where
 ol:out.length=c.length
 sl:seen.length=c.length
 ok:∀ i,i < x→spotStep d c s i=none
 at_:∀ i,i < x→bx out (ixn c s i)=boxS c s i
 sn:∀ r,r < c.length→(seen.getD r false=true↔∃ i,i < x∧ixn c s i=r)
 cnt:seen.count true=x
theorem ix_ok {d:TDock} {c:List TCall} {s:List TSpot} {i:Nat} (h:spotStep d c s i=none):ixn c s i < c.length∧callIx c (sp s i).f_Call=((ixn c s i:Nat):Int)∧(cl c (ixn c s i)).f_Name=(sp s i).f_Call :=
 callIx_name (spot_ok h).1.1
theorem ix_inj {d:TDock} {c:List TCall} {s:List TSpot} {i j:Nat} (hi:spotStep d c s i=none) (hj:spotStep d c s j=none) (h:ixn c s i=ixn c s j):i=j:=by
 have h1:=(ix_ok hi).2.2
 have h2:=(ix_ok hj).2.2
 rw [h] at h1
 have e:(sp s i).f_Call=(sp s j).f_Call:=h1.symm.trans h2
 have d1:=(spot_ok hi).2.1
 have d2:=(spot_ok hj).2.1
 rcases Nat.lt_trichotomy i j with h3 | h3 | h3
 ·have:=dup_iff.2 ⟨i,h3,e⟩;rw [d2] at this;cases this
 ·exact h3
 ·have:=dup_iff.2 ⟨j,h3,e.symm⟩;rw [d1] at this;cases this
structure Boxed (d:TDock) (c:List TCall) (s:List TSpot) (out:List Tberth_box):Prop where
 len:s.length=c.length
 le:c.length≤8
 ol:out.length=c.length
 ok:∀ i,i < s.length→spotStep d c s i=none
 at_:∀ i,i < s.length→bx out (ixn c s i)=boxS c s i
 on:∀ r,r < c.length→∃ i,i < s.length∧ixn c s i=r
section
variable {d:TDock} {c:List TCall} {s:List TSpot}
theorem Boxed.apart {out:List Tberth_box} (h:Boxed d c s out):allApart d.f_Gap (bx out) c.length↔allApart d.f_Gap (boxS c s) s.length:=by
 rw [allApart_sym,allApart_sym]
 constructor
 ·intro ha i j hi hj hne
  rw [← h.at_ i hi,← h.at_ j hj]
  exact ha _ _ (ix_ok (h.ok i hi)).1 (ix_ok (h.ok j hj)).1 (fun e=>hne (ix_inj (h.ok i hi) (h.ok j hj) e))
 ·intro ha r t hr ht hne
  obtain ⟨i,hi,rfl⟩:=h.on r hr
  obtain ⟨j,hj,rfl⟩:=h.on t ht
  rw [h.at_ i hi,h.at_ j hj]
  exact ha i j hi hj (fun e=>hne (by rw [e]))
theorem BI.full {out:List Tberth_box} {seen:List Bool} (h:BI d c s s.length out seen) (hl:s.length=c.length) (hc:c.length≤8):Boxed d c s out :=
 ⟨hl,hc,h.ol,h.ok,h.at_,fun r hr=>by
  refine (h.sn r hr).1 ?_
  have h1:seen.count true=seen.length:=by rw [h.cnt,h.sl,hl]
  have h2:=List.count_eq_length.1 h1
  have hr':r < seen.length:=by rw [h.sl];exact hr
  have e:seen.getD r false=seen[r]:=by simp [List.getD,hr']
  rw [e]
  exact (h2 _ (List.getElem_mem hr')).symm⟩
theorem boxes_L3 {N:Nat} {out:List Tberth_box} (hN:100 < N) (ho:out.length≤8) {i:Nat} (hi:i < out.length) (K:Int→Option (List Tberth_box×Int)) :
  g_berth_boxes_L3 N d out (i:Int) K N 0=match cond (scan (fun j=>cond (!apartE d.f_Gap (bx out i) (bx out j)) (some true) none) false i 0) (some (([]:List Tberth_box),(17:Int))) none with | some r=>some r | none=>K ((i+1:Nat):Int):=by
 rw [loop_scanR0 (L:=fun fuel=>g_berth_boxes_L3 N d out (i:Int) K fuel) (fun j=>cond (!apartE d.f_Gap (bx out i) (bx out j)) (some (some (([]:List Tberth_box),(17:Int)))) none) (K ((i+1:Nat):Int)) (show i < N by omega) (fun fuel j hj=>?_) (fun fuel=>?_)]
 ·rw [scan_bool (p:=fun j=>!apartE d.f_Gap (bx out i) (bx out j))]
  cases scan (fun j=>cond (!apartE d.f_Gap (bx out i) (bx out j)) (some true) none) false i 0<;>rfl
 ·simp only [g_berth_boxes_L3,toNat_nat,Nat.sub_zero,dec_lt hj,cond_true,if_pos (inb hj),if_pos (show 0≤i∧i≤out.length from ⟨Nat.zero_le _,by omega⟩),apart6_eq,Option.bind_some,w64_succ (show j < 9223372036854775807 by omega)]
  change cond (!apartE d.f_Gap (bx out i) (bx out j)) _ _=_
  cases apartE d.f_Gap (bx out i) (bx out j)<;>rfl
 ·simp only [g_berth_boxes_L3,toNat_nat,Nat.sub_zero,dec_nlt,cond_false,w64_succ (show i < 9223372036854775807 by omega)]
theorem boxes_L2 {N:Nat} {out:List Tberth_box} (hN:100 < N) (ho:out.length≤8):(allApart d.f_Gap (bx out) out.length∧g_berth_boxes_L2 N d out N 0=some (out,0))∨(¬ allApart d.f_Gap (bx out) out.length∧g_berth_boxes_L2 N d out N 0=some ([],17)):=by
 have e:g_berth_boxes_L2 N d out N 0=some (scan (fun i=>cond (scan (fun j=>cond (!apartE d.f_Gap (bx out i) (bx out j)) (some true) none) false i 0) (some (([]:List Tberth_box),(17:Int))) none) (out,0) out.length 0):=by
  refine loop_scan0 (L:=fun fuel=>g_berth_boxes_L2 N d out fuel) _ _ (show out.length < N by omega) (fun fuel i hi=>?_) (fun fuel=>?_)
  ·simp only [g_berth_boxes_L2,toNat_nat,dec_lt hi,cond_true,if_pos (inb hi),if_pos (show 0≤i∧i≤out.length from ⟨Nat.zero_le _,by omega⟩),if_pos (show (0:Int)≤(i:Int) by omega)]
   refine (boxes_L3 hN ho hi _).trans ?_
   cases cond (scan (fun j=>cond (!apartE d.f_Gap (bx out i) (bx out j)) (some true) none) false i 0) (some (([]:List Tberth_box),(17:Int))) none<;>rfl
  ·simp only [g_berth_boxes_L2,dec_nlt,cond_false]
 rw [e]
 rcases pair_scan (g:=d.f_Gap) (f:=bx out) (n:=out.length) (([]:List Tberth_box),(17:Int)) (out,0) with ⟨h1,h2⟩ | ⟨h1,h2⟩
 ·exact .inl ⟨h1,by rw [h2]⟩
 ·exact .inr ⟨h1,by rw [h2]⟩
def Answer (d:TDock) (c:List TCall) (s:List TSpot) (code:Int) (r:List Tberth_box×Int):Prop:=r.2=code∧((code=0∧Boxed d c s r.1)∨(code≠0∧r.1=[]))
theorem boxes_L1 {N:Nat} (hN:100 < N) (hl:s.length=c.length) (hc:c.length≤8):∀ (k x fuel:Nat) (out:List Tberth_box) (seen:List Bool),x+k=s.length→k < fuel→BI d c s x out seen→∃ r,g_berth_boxes_L1 N d c s fuel out seen (x:Int)=some r∧Answer d c s (scan (spotStep d c s) (scan (pairStep d c s) 0 s.length 0) k x) r
 | 0,x,fuel,out,seen,hx,hf,h=>by
  obtain ⟨g,rfl⟩:∃ g,fuel=g+1:=⟨fuel - 1,by omega⟩
  have hx:x=s.length:=by omega
  subst hx
  have hb:=h.full hl hc
  rw [g_berth_boxes_L1,dec_nlt,cond_false,scan]
  have hap:=hb.apart
  have ho:=h.ol
  rcases pair_scan (g:=d.f_Gap) (f:=boxS c s) (n:=s.length) (17:Int) 0 with ⟨h1,h2⟩ | ⟨h1,h2⟩
  ·have e:scan (pairStep d c s) 0 s.length 0=0:=h2
   rcases boxes_L2 (N:=N) (d:=d) (out:=out) hN (by omega) with ⟨h3,h4⟩ | ⟨h3,h4⟩
   ·exact ⟨_,h4,by rw [e],.inl ⟨e,hb⟩⟩
   ·rw [ho] at h3;exact absurd (hap.2 h1) h3
  ·have e:scan (pairStep d c s) 0 s.length 0=17:=h2
   rcases boxes_L2 (N:=N) (d:=d) (out:=out) hN (by omega) with ⟨h3,h4⟩ | ⟨h3,h4⟩
   ·rw [ho] at h3;exact absurd (hap.1 h3) h1
   ·exact ⟨_,h4,by rw [e],.inr ⟨by rw [e];decide,rfl⟩⟩
 | k+1,x,fuel,out,seen,hx,hf,h=>by
  obtain ⟨g,rfl⟩:∃ g,fuel=g+1:=⟨fuel - 1,by omega⟩
  have hxs:x < s.length:=by omega
  rw [g_berth_boxes_L1,dec_lt hxs,cond_true,if_pos (inb hxs),toNat_nat,show s.getD x TSpot.d=sp s x from rfl,called_eq c _ (show c.length < N by omega) (by omega),Option.bind_some]
  have bad:∀ code:Int,code≠0→spotStep d c s x=some code→∃ r,(some (([]:List Tberth_box),code))=some r∧Answer d c s (scan (spotStep d c s) (scan (pairStep d c s) 0 s.length 0) (k+1) x) r:=fun code h0 e=>⟨_,rfl,by rw [scan,e],.inr ⟨by rw [scan,e];exact h0,rfl⟩⟩
  by_cases h0:callIx c (sp s x).f_Call < 0
  ·rw [decide_eq_true h0,cond_true]
   exact bad 6 (by decide) (by unfold spotStep;rw [decide_eq_true h0];rfl)
  ·obtain ⟨hr,hI,hname⟩:=callIx_name (c:=c) (s:=(sp s x).f_Call) (by omega)
   have e0:spotStep d c s x=cond (dupS s x) (some 5) (cond (!(ins (sp s x).f_X 0 1000000 && ins (sp s x).f_Y 0 1000000)) (some 2) (cond (!withinE d (boxS c s x)) (some 16) none)):=by
    unfold spotStep;rw [decide_eq_false h0];rfl
   have hixn:(callIx c (sp s x).f_Call).toNat=ixn c s x:=rfl
   rw [hixn] at hr hI hname
   have hdup:seen.getD (ixn c s x) false=dupS s x:=by
    rw [Bool.eq_iff_iff,h.sn _ hr,dup_iff]
    constructor
    ·rintro ⟨j,hj,e⟩
     refine ⟨j,hj,?_⟩
     have:=(ix_ok (h.ok j hj)).2.2
     rw [e] at this;rw [← this,hname]
    ·rintro ⟨j,hj,e⟩
     exact ⟨j,hj,by unfold ixn;rw [e]⟩
   rw [decide_eq_false h0,cond_false,hI,toNat_nat,if_pos (inb (by rw [h.sl];exact hr)),hdup]
   cases hd:dupS s x with
   | true=>exact bad 5 (by decide) (by rw [e0,hd];rfl)
   | false =>
    rw [cond_false,outside_eq,Option.bind_some,outside_eq]
    rw [hd,cond_false] at e0
    cases h1:ins (sp s x).f_X 0 1000000 with
    | false=>exact bad 2 (by decide) (by rw [e0,h1];rfl)
    | true =>
     cases h2:ins (sp s x).f_Y 0 1000000 with
     | false=>exact bad 2 (by decide) (by rw [e0,h1,h2];rfl)
     | true =>
      have hro:ixn c s x < out.length:=by rw [h.ol];exact hr
      have hbox:(⟨(sp s x).f_X,(sp s x).f_Y,(c.getD (ixn c s x) TCall.d).f_Length,(c.getD (ixn c s x) TCall.d).f_Beam⟩:Tberth_box)=boxS c s x:=rfl
      have hset:(out.set (ixn c s x) (boxS c s x)).getD (ixn c s x) Tberth_box.d=boxS c s x:=by simp [List.getD,hro]
      rw [hbox,hset,inside6_eq]
      show ∃ r,((some false).bind fun routside2:Bool=>cond routside2 (some (([]:List Tberth_box),(2:Int))) (if 0≤((ixn c s x:Nat):Int)∧((ixn c s x:Nat):Int) < ((c.length:Nat):Int) then (if 0≤((ixn c s x:Nat):Int)∧((ixn c s x:Nat):Int) < ((out.length:Nat):Int) then (if 0≤((ixn c s x:Nat):Int)∧((ixn c s x:Nat):Int) < (((out.set (ixn c s x) (boxS c s x)).length:Nat):Int) then ((some (withinE d (boxS c s x))).bind fun rinside=>cond (!rinside) (some (([]:List Tberth_box),(16:Int))) (g_berth_boxes_L1 N d c s g (out.set (ixn c s x) (boxS c s x)) (seen.set (ixn c s x) true) (w64 ((x:Int)+1)))) else none) else none) else none))=some r∧_
      rw [Option.bind_some,cond_false,if_pos (inb hr),if_pos (inb hro),if_pos (inb (by rw [List.length_set];exact hro)),Option.bind_some]
      cases h3:withinE d (boxS c s x) with
      | false=>exact bad 16 (by decide) (by rw [e0,h1,h2,h3];rfl)
      | true =>
       have e1:spotStep d c s x=none:=by rw [e0,h1,h2,h3];rfl
       rw [scan,e1,Bool.not_true,cond_false,w64_succ (by omega)]
       have hseen:seen.getD (ixn c s x) false=false:=by rw [hdup,hd]
       have hrs:ixn c s x < seen.length:=by rw [h.sl];exact hr
       refine boxes_L1 hN hl hc k (x+1) g _ _ (by omega) (by omega) ⟨by rw [List.length_set,h.ol],by rw [List.length_set,h.sl],fun i hi=>?_,fun i hi=>?_,fun r hr2=>?_,?_⟩
       ·by_cases hix:i=x
        ·rw [hix];exact e1
        ·exact h.ok i (by omega)
       ·by_cases hix:i=x
        ·rw [hix];exact hset
        ·have hne:ixn c s i≠ixn c s x:=fun e=>hix (ix_inj (h.ok i (by omega)) e1 e)
         unfold bx
         rw [List.getD_eq_getElem?_getD,List.getElem?_set_ne (fun e=>hne e.symm),← List.getD_eq_getElem?_getD]
         exact h.at_ i (by omega)
       ·by_cases hrx:r=ixn c s x
        ·subst hrx
         have:(seen.set (ixn c s x) true).getD (ixn c s x) false=true:=by simp [List.getD,hrs]
         rw [this]
         exact ⟨fun _=>⟨x,by omega,rfl⟩,fun _=>rfl⟩
        ·rw [List.getD_eq_getElem?_getD,List.getElem?_set_ne (fun e=>hrx e.symm),← List.getD_eq_getElem?_getD,h.sn r hr2]
         constructor
         ·rintro ⟨i,hi,e⟩;exact ⟨i,by omega,e⟩
         ·rintro ⟨i,hi,e⟩
          by_cases hix:i=x
          ·rw [hix] at e;exact absurd e.symm hrx
          ·exact ⟨i,by omega,e⟩
       ·have e2:seen[ixn c s x]=false:=by
         have:seen.getD (ixn c s x) false=seen[ixn c s x]:=by simp [List.getD,hrs]
         rw [← this];exact hseen
        rw [List.count_set hrs,h.cnt,e2];rfl
theorem boxes_eq {N:Nat} (hN:100 < N) (d:TDock) (c:List TCall) (s:List TSpot):∃ r,g_berth_boxes N d c s=some r∧Answer d c s (planCode d c s) r:=by
 unfold g_berth_boxes planCode
 rw [both_eq (by omega),Option.bind_some]
 cases hb:bothCode d c != 0 with
 | true=>exact ⟨_,rfl,rfl,.inr ⟨by simpa using hb,rfl⟩⟩
 | false =>
  have hc:=both_len (d:=d) (c:=c) (by simpa using hb)
  rw [cond_false,cond_false]
  cases hl:((s.length:Nat):Int) != ((c.length:Nat):Int) with
  | true=>exact ⟨_,rfl,rfl,.inr ⟨(by decide:(11:Int)≠0),rfl⟩⟩
  | false =>
   have hs:s.length=c.length:=by simp at hl;omega
   rw [cond_false,cond_false,if_pos ⟨by omega,by omega,by omega⟩,if_pos ⟨by omega,by omega,by omega⟩]
   refine boxes_L1 hN hs hc s.length 0 N _ _ (by omega) (by omega) ⟨by simp,by simp,fun i hi=>by omega,fun i hi=>by omega,fun r hr=>?_,?_⟩
   ·constructor
    ·intro h;simp [List.getD,hr] at h
    ·rintro ⟨i,hi,_⟩;omega
   ·simp [List.count_replicate]
end
end Go.Den
namespace Go.Den
open Go.Ab
def blE (d:TDock) (a b:Tberth_box):Bool:=cond (cond (decide (a.f_x < b.f_x)) (decide (a.f_y < (w64 ((w64 (b.f_y+b.f_h))+d.f_Gap)))) false) (decide ((w64 (a.f_y+a.f_h)) > (w64 (b.f_y - d.f_Gap)))) false
section
variable {d:TDock} {c:List TCall} {s:List TSpot} {out:List Tberth_box}
end
end Go.Den
namespace Go.Den
open Go.Ab
end Go.Den
namespace Go.Den
open Go.Ab
theorem nd_inj {α:Type} {f:α→ByteArray} {l:List α} (h:(l.map f).Nodup) {a b:α} (ha:a∈l) (hb:b∈l) (e:f a=f b):a=b:=by
 obtain ⟨i,hi,rfl⟩:=List.getElem_of_mem ha
 obtain ⟨j,hj,rfl⟩:=List.getElem_of_mem hb
 have hp:=List.pairwise_iff_getElem.1 h
 rcases Nat.lt_trichotomy i j with h1 | h1 | h1
 ·have:=hp i j (by simpa using hi) (by simpa using hj) h1
  simp only [List.getElem_map] at this;exact absurd e this
 ·subst h1;rfl
 ·have:=hp j i (by simpa using hj) (by simpa using hi) h1
  simp only [List.getElem_map] at this;exact absurd e.symm this
theorem filt_len {α:Type} (f:α→ByteArray) (nm:ByteArray):∀ l:List α,(l.map f).Nodup→nm∈l.map f→(l.filter (fun x=>!streq (f x) nm)).length+1=l.length
 | [],_,h=>by cases h
 | a :: l,hn,hm=>by
  rw [List.map_cons,List.nodup_cons] at hn
  by_cases h:f a=nm
  ·have e:l.filter (fun x=>!streq (f x) nm)=l:=List.filter_eq_self.2 fun x hx=>by
    have:f x≠nm:=fun e=>hn.1 (by rw [h,← e];exact List.mem_map_of_mem hx)
    cases hs:streq (f x) nm with
    | false=>rfl
    | true=>exact absurd (streq_iff.1 hs) this
   rw [List.filter_cons_of_neg (by rw [streq_iff.2 h];decide),e];rfl
  ·have hm':nm∈l.map f:=by
    rw [List.map_cons] at hm
    rcases List.mem_cons.1 hm with h2 | h2
    ·exact absurd h2.symm h
    ·exact h2
   have hs:streq (f a) nm=false:=by
    cases hs:streq (f a) nm with
    | false=>rfl
    | true=>exact absurd (streq_iff.1 hs) h
   have:=filt_len f nm l hn.2 hm'
   rw [List.filter_cons_of_pos (by rw [hs];rfl)]
   simp only [List.length_cons];omega
theorem scan_z {f:Nat→Option Int} {z:Int} {n:Nat} (hf:∀ i,f i≠some 0) (h:scan f z n 0=0):(∀ i,i < n→f i=none)∧z=0:=by
 rcases scan_inv (f:=f) (z:=z) n 0 with ⟨i,r,_,_,h3,_,h5⟩ | ⟨h1,h2⟩
 ·rw [h5] at h;subst h;exact absurd h3 (hf i)
 ·exact ⟨fun i hi=>h1 i (Nat.zero_le _) (by omega),by rw [← h2,h]⟩
theorem getD_in {α:Type} {l:List α} {d:α} {i:Nat} (h:i < l.length):l.getD i d=l[i]:=by simp [List.getD,h]
def CallsOk (c:List TCall):Prop:=c.length≤8∧(∀ y∈c,nameOk y.f_Name=true∧callCode y=0)∧(c.map TCall.f_Name).Nodup
theorem dupC_iff {c:List TCall} {i:Nat}:dupCall c i=true↔∃ j,j < i∧(cl c j).f_Name=(cl c i).f_Name:=by
 unfold dupCall
 rw [scan_ex (p:=fun k=>streq (c.getD k TCall.d).f_Name (c.getD i TCall.d).f_Name)]
 constructor
 ·rintro ⟨j,h1,h2⟩;exact ⟨j,h1,streq_iff.1 h2⟩
 ·rintro ⟨j,h1,h2⟩;exact ⟨j,h1,streq_iff.2 h2⟩
theorem callsOk_iff {c:List TCall}:callsCode c=0↔CallsOk c:=by
 constructor
 ·intro h
  unfold callsCode at h
  cases h8:decide (((c.length:Nat):Int) > 8) with
  | true=>rw [h8] at h;cases h
  | false =>
   rw [h8,cond_false] at h
   have h8:=of_decide_eq_false h8
   have hz:=(scan_z (fun i hi=>by
    unfold stepCall at hi
    revert hi
    generalize callCode (c.getD i TCall.d)=z
    have hb:(z != 0)=!decide (z=0):=by by_cases hz:z=0<;>simp [hz]
    rw [hb]
    by_cases hz:z=0<;>cases nameOk (c.getD i TCall.d).f_Name<;>cases dupCall c i<;>simp [hz]) h).1
   have one:∀ i,i < c.length→nameOk (cl c i).f_Name=true∧dupCall c i=false∧callCode (cl c i)=0:=fun i hi=>by
    have:=hz i hi
    unfold stepCall at this
    unfold cl
    revert this
    generalize callCode (c.getD i TCall.d)=z
    have hb:(z != 0)=!decide (z=0):=by by_cases hz:z=0<;>simp [hz]
    rw [hb]
    by_cases hz:z=0<;>cases nameOk (c.getD i TCall.d).f_Name<;>cases dupCall c i<;>simp [hz]
   refine ⟨by omega,fun y hy=>?_,List.pairwise_iff_getElem.2 fun i j hi hj hij=>?_⟩
   ·obtain ⟨i,hi,rfl⟩:=List.getElem_of_mem hy
    have:=one i hi
    unfold cl at this
    rw [getD_in hi] at this
    exact ⟨this.1,this.2.2⟩
   ·simp only [List.length_map] at hi hj
    simp only [List.getElem_map]
    intro e
    have:=dupC_iff.2 ⟨i,hij,by unfold cl;rw [getD_in hi,getD_in hj];exact e⟩
    rw [(one j hj).2.1] at this;cases this
 ·rintro ⟨h1,h2,h3⟩
  unfold callsCode
  rw [decide_eq_false (by omega),cond_false]
  refine scan_all _ 0 fun i _ hi=>?_
  have hi:i < c.length:=by omega
  have hy:=h2 c[i] (List.getElem_mem hi)
  have hd:dupCall c i=false:=by
   cases hd:dupCall c i with
   | false=>rfl
   | true =>
    obtain ⟨j,hj,e⟩:=dupC_iff.1 hd
    have hjl:j < c.length:=by omega
    have:=List.pairwise_iff_getElem.1 h3 j i (by simpa using hjl) (by simpa using hi) hj
    simp only [List.getElem_map] at this
    unfold cl at e
    rw [getD_in hjl,getD_in hi] at e
    exact absurd e this
  unfold stepCall
  rw [hd,getD_in hi,hy.1,hy.2];rfl
def boxOf (x:TSpot) (y:TCall):Tberth_box:=⟨x.f_X,x.f_Y,y.f_Length,y.f_Beam⟩
structure Pl (d:TDock) (c:List TCall) (s:List TSpot):Prop where
 dk:docksCode [d]=0
 cc:CallsOk c
 len:s.length=c.length
 nd:(s.map TSpot.f_Call).Nodup
 spt:∀ x∈s,∃ y∈c,y.f_Name=x.f_Call∧ins x.f_X 0 1000000=true∧ins x.f_Y 0 1000000=true∧withinE d (boxOf x y)=true
 ap:∀ x∈s,∀ x'∈s,x.f_Call≠x'.f_Call→∀ y∈c,∀ y'∈c,y.f_Name=x.f_Call→y'.f_Name=x'.f_Call→apartE d.f_Gap (boxOf x y) (boxOf x' y')=true
section
variable {d:TDock} {c:List TCall} {s:List TSpot}
theorem spotStep_nz (i:Nat):spotStep d c s i≠some 0:=by
 unfold spotStep
 cases decide (callIx c (sp s i).f_Call < 0)<;>cases dupS s i<;>cases (ins (sp s i).f_X 0 1000000 && ins (sp s i).f_Y 0 1000000)<;>cases withinE d (boxS c s i)<;>decide
theorem pairStep_nz (i:Nat):pairStep d c s i≠some 0:=by
 unfold pairStep
 cases scan (fun j=>cond (!apartE d.f_Gap (boxS c s i) (boxS c s j)) (some true) none) false i 0<;>decide
theorem mem_sp {i:Nat} (hi:i < s.length):sp s i∈s:=by unfold sp;rw [getD_in hi];exact List.getElem_mem hi
theorem mem_cl {i:Nat} (hi:i < c.length):cl c i∈c:=by unfold cl;rw [getD_in hi];exact List.getElem_mem hi
theorem sp_of {x:TSpot} (h:x∈s):∃ i,i < s.length∧sp s i=x:=by
 obtain ⟨i,hi,rfl⟩:=List.getElem_of_mem h
 exact ⟨i,hi,by unfold sp;rw [getD_in hi]⟩
theorem cl_of {y:TCall} (h:y∈c):∃ i,i < c.length∧cl c i=y:=by
 obtain ⟨i,hi,rfl⟩:=List.getElem_of_mem h
 exact ⟨i,hi,by unfold cl;rw [getD_in hi]⟩
theorem callIx_of (hc:CallsOk c) {y:TCall} (hy:y∈c):0≤callIx c y.f_Name∧cl c (callIx c y.f_Name).toNat=y:=by
 rcases callIx_inv c y.f_Name with ⟨_,h2⟩ | ⟨i,h1,h2,h3⟩
 ·obtain ⟨i,hi,e⟩:=cl_of hy
  exact absurd (by rw [e]) (h2 i hi)
 ·rw [h2,toNat_nat]
  exact ⟨by omega,nd_inj hc.2.2 (mem_cl h1) hy h3⟩
theorem Pl.of (h:planCode d c s=0):Pl d c s:=by
 unfold planCode at h
 cases hb:bothCode d c != 0 with
 | true=>rw [hb,cond_true] at h;rw [h] at hb;cases hb
 | false =>
  rw [hb,cond_false] at h
  have hb:bothCode d c=0:=by simpa using hb
  cases hl:((s.length:Nat):Int) != ((c.length:Nat):Int) with
  | true=>rw [hl] at h;cases h
  | false =>
   rw [hl,cond_false] at h
   have hs:s.length=c.length:=by simp at hl;omega
   obtain ⟨hst,hz⟩:=scan_z spotStep_nz h
   have hpa:=(scan_z pairStep_nz hz).1
   have hdc:docksCode [d]=0∧callsCode c=0:=by
    unfold bothCode at hb
    cases h1:(docksCode [d] != 0) with
    | true=>rw [h1,cond_true] at hb;rw [hb] at h1;cases h1
    | false=>rw [h1,cond_false] at hb;exact ⟨by simpa using h1,hb⟩
   have hc:=callsOk_iff.1 hdc.2
   have ixx:∀ i,i < s.length→∀ y∈c,y.f_Name=(sp s i).f_Call→boxS c s i=boxOf (sp s i) y:=fun i hi y hy e=>by
    have:=(callIx_of hc hy).2
    rw [e] at this
    unfold boxS boxOf;rw [this]
   refine ⟨hdc.1,hc,hs,List.pairwise_iff_getElem.2 fun i j hi hj hij=>?_,fun x hx=>?_,fun x hx x' hx' hne y hy y' hy' e e'=>?_⟩
   ·simp only [List.length_map] at hi hj
    simp only [List.getElem_map]
    intro e
    have:=dup_iff.2 ⟨i,hij,by unfold sp;rw [getD_in hi,getD_in hj];exact e⟩
    rw [(spot_ok (hst j hj)).2.1] at this;cases this
   ·obtain ⟨i,hi,rfl⟩:=sp_of hx
    have hok:=spot_ok (hst i hi)
    have hix:=ix_ok (hst i hi)
    refine ⟨cl c (ixn c s i),mem_cl hix.1,hix.2.2,hok.2.2.1.1,hok.2.2.1.2,?_⟩
    rw [← ixx i hi _ (mem_cl hix.1) hix.2.2]
    exact hok.2.2.2
   ·obtain ⟨i,hi,rfl⟩:=sp_of hx
    obtain ⟨j,hj,rfl⟩:=sp_of hx'
    rw [← ixx i hi y hy e,← ixx j hj y' hy' e']
    have hall:allApart d.f_Gap (boxS c s) s.length:=fun i hi j hj=>by
     have:=hpa i hi
     unfold pairStep at this
     cases ha:apartE d.f_Gap (boxS c s i) (boxS c s j) with
     | true=>rfl
     | false =>
      rw [(scan_ex (p:=fun j=>!apartE d.f_Gap (boxS c s i) (boxS c s j)) i).2 ⟨j,hj,by rw [ha];rfl⟩] at this
      cases this
    exact allApart_sym.1 hall i j hi hj (fun e=>hne (by rw [e]))
theorem Pl.code (h:Pl d c s):planCode d c s=0:=by
 have hc:=h.cc
 unfold planCode bothCode
 rw [h.dk,callsOk_iff.2 hc]
 have e1:(((s.length:Nat):Int) != ((c.length:Nat):Int))=false:=by rw [h.len];simp
 have ixx:∀ i,i < s.length→∃ y∈c,y.f_Name=(sp s i).f_Call∧boxS c s i=boxOf (sp s i) y∧0≤callIx c (sp s i).f_Call∧ins (sp s i).f_X 0 1000000=true∧ins (sp s i).f_Y 0 1000000=true∧withinE d (boxOf (sp s i) y)=true:=fun i hi=>by
  obtain ⟨y,hy,e,h1,h2,h3⟩:=h.spt _ (mem_sp hi)
  obtain ⟨k1,k2⟩:=callIx_of hc hy
  rw [e] at k1 k2
  exact ⟨y,hy,e,by unfold boxS boxOf;rw [k2],k1,h1,h2,h3⟩
 have hnd:∀ i j,i < j→j < s.length→(sp s i).f_Call≠(sp s j).f_Call:=fun i j hij hj=>by
  have hi:i < s.length:=by omega
  have:=List.pairwise_iff_getElem.1 h.nd i j (by simpa using hi) (by simpa using hj) hij
  simp only [List.getElem_map] at this
  unfold sp;rw [getD_in hi,getD_in hj];exact this
 have h1:scan (pairStep d c s) 0 s.length 0=0:=scan_all _ 0 fun i _ hi=>by
  have hi:i < s.length:=by omega
  unfold pairStep
  cases hs:scan (fun j=>cond (!apartE d.f_Gap (boxS c s i) (boxS c s j)) (some true) none) false i 0 with
  | false=>rfl
  | true =>
   obtain ⟨j,hj,ha⟩:=(scan_ex (p:=fun j=>!apartE d.f_Gap (boxS c s i) (boxS c s j)) i).1 hs
   obtain ⟨y,hy,e,hb,_⟩:=ixx i hi
   obtain ⟨y',hy',e',hb',_⟩:=ixx j (by omega)
   rw [hb,hb',h.ap _ (mem_sp hi) _ (mem_sp (by omega)) (fun e=>hnd j i hj hi e.symm) y hy y' hy' e e'] at ha
   cases ha
 have h2:scan (spotStep d c s) (scan (pairStep d c s) 0 s.length 0) s.length 0=0:=by
  rw [h1]
  refine scan_all _ 0 fun i _ hi=>?_
  have hi:i < s.length:=by omega
  obtain ⟨y,hy,e,hb,k1,k2,k3,k4⟩:=ixx i hi
  have hd:dupS s i=false:=by
   cases hd:dupS s i with
   | false=>rfl
   | true =>
    obtain ⟨j,hj,e⟩:=dup_iff.1 hd
    exact absurd e (hnd j i hj hi)
  unfold spotStep
  rw [hb,decide_eq_false (by omega),hd,k2,k3,k4];rfl
 rw [e1,h2];rfl
theorem Pl.boxed {N:Nat} (hN:100 < N) (h:Pl d c s):∃ r,g_berth_boxes N d c s=some r∧r.2=0∧Boxed d c s r.1:=by
 obtain ⟨r,h1,h2,h3⟩:=boxes_eq hN d c s
 rw [h.code] at h2 h3
 rcases h3 with ⟨_,h3⟩ | ⟨h3,_⟩
 ·exact ⟨r,h1,h2,h3⟩
 ·exact absurd rfl h3
theorem Pl.box {out:List Tberth_box} (h:Pl d c s) (hb:Boxed d c s out) {r:Nat} (hr:r < c.length) {x:TSpot} {y:TCall} (hx:x∈s) (hy:y∈c) (e1:x.f_Call=y.f_Name) (e2:y.f_Name=(cl c r).f_Name):bx out r=boxOf x y:=by
 obtain ⟨i,hi,rfl⟩:=hb.on r hr
 have hn:=(ix_ok (hb.ok i hi)).2.2
 have hx':x=sp s i:=nd_inj h.nd hx (mem_sp hi) (by rw [e1,e2,hn])
 have hy':y=cl c (ixn c s i):=nd_inj h.cc.2.2 hy (mem_cl hr) e2
 rw [hb.at_ i hi,hx',hy'];rfl
theorem Pl.drop (h:Pl d c s) {nm:ByteArray} (hm:nm∈c.map TCall.f_Name):Pl d (c.filter fun y=>!streq y.f_Name nm) (s.filter fun x=>!streq x.f_Call nm):=by
 have hms:nm∈s.map TSpot.f_Call:=by
  obtain ⟨r,_,_,hb⟩:=h.boxed (N:=200) (by decide)
  obtain ⟨y,hy,e⟩:=List.mem_map.1 hm
  obtain ⟨k,hk,e2⟩:=cl_of hy
  obtain ⟨i,hi,e3⟩:=hb.on k hk
  have hn:=(ix_ok (hb.ok i hi)).2.2
  rw [e3,e2,e] at hn
  rw [hn];exact List.mem_map_of_mem (mem_sp hi)
 have l1:=filt_len TCall.f_Name nm c h.cc.2.2 hm
 have l2:=filt_len TSpot.f_Call nm s h.nd hms
 have hlen:=h.len
 refine ⟨h.dk,⟨by have:=h.cc.1;omega,fun y hy=>h.cc.2.1 y (List.mem_filter.1 hy).1,h.cc.2.2.sublist ((List.filter_sublist).map _)⟩,by omega,h.nd.sublist ((List.filter_sublist).map _),fun x hx=>?_,fun x hx x' hx' hne y hy y' hy'=>h.ap x (List.mem_filter.1 hx).1 x' (List.mem_filter.1 hx').1 hne y (List.mem_filter.1 hy).1 y' (List.mem_filter.1 hy').1⟩
 obtain ⟨hx1,hx2⟩:=List.mem_filter.1 hx
 obtain ⟨y,hy,e,h3⟩:=h.spt x hx1
 exact ⟨y,List.mem_filter.2 ⟨hy,by rw [e];exact hx2⟩,e,h3⟩
structure Turn (d:TDock) (c:List TCall) (out:List Tberth_box) (G:List ByteArray) (nm:ByteArray):Prop where
 ex:∃ r,r < c.length∧(cl c r).f_Name=nm∧nm ∉ G∧∀ t,t < c.length→(cl c t).f_Name ∉ G→blE d (bx out t) (bx out r)=false
end
section
variable {p:Tw06_Plan} {N:Nat} {O:List ByteArray} {m:Int} {i:Nat}
end
end Go.Den
set_option linter.unusedSimpArgs false
namespace Go.Den
open Go.Ab
def addS (out:List Int) (a:Int):List Int:=out ++ out.map (fun x=>x+a)
def Small (out:List Int) (b:Int) (n:Nat):Prop:=out.length≤n∧∀ x,x∈out→0≤x∧x≤b
theorem Small.add {out:List Int} {b a:Int} {n:Nat} (h:Small out b n) (ha:0≤a∧a≤2000000):Small (addS out a) (b+2000000) (2 * n):=by
 refine ⟨by simp [addS];have:=h.1;omega,fun x hx=>?_⟩
 simp only [addS,List.mem_append,List.mem_map] at hx
 rcases hx with hx | ⟨y,hy,rfl⟩
 ·have:=h.2 x hx;omega
 ·have:=h.2 y hy;omega
end Go.Den
set_option linter.unusedSimpArgs false
namespace Go.Den
open Go.Ab
end Go.Den
set_option linter.unusedSimpArgs false
namespace Go.Den
open Go.Ab
end Go.Den
set_option linter.unusedSimpArgs false
namespace Go.Den
open Go.Ab
end Go.Den
set_option linter.unusedSimpArgs false
namespace Go.Den
open Go.Ab
def bxs (c:List TCall) (k:Nat) (x y:Int):Tberth_box:=⟨x,y,(cl c k).f_Length,(cl c k).f_Beam⟩
def okP (d:TDock) (pre:List Tberth_box) (b:Tberth_box):Prop:=withinE d b=true∧∀ m,m < pre.length→apartE d.f_Gap (bx pre m) b=true
instance (d:TDock) (pre:List Tberth_box) (b:Tberth_box):Decidable (okP d pre b):=by unfold okP;infer_instance
structure SK (d:TDock) (c:List TCall):Prop where
 len:c.length≤3
 gap:0≤d.f_Gap∧d.f_Gap≤1000000
 lens:∀ i,i < c.length→1≤(cl c i).f_Length∧(cl c i).f_Length≤1000000
 beams:∀ i,i < c.length→1≤(cl c i).f_Beam∧(cl c i).f_Beam≤1000000
end Go.Den
set_option linter.unusedSimpArgs false
namespace Go.Den
open Go.Ab
def wfp (c:List TCall) (l:List Tberth_box):Prop:=∀ m,m < l.length→bx l m=bxs c m (bx l m).f_x (bx l m).f_y
end Go.Den
set_option linter.unusedSimpArgs false
namespace Go.Den
open Go.Ab
structure DockOk (d:TDock):Prop where
 nm:nameOk d.f_Name=true
 len:1≤d.f_Length∧d.f_Length≤1000000
 wid:1≤d.f_Width∧d.f_Width≤1000000
 gap:0≤d.f_Gap∧d.f_Gap≤1000000
 sill:ins d.f_Sill (-1000000) 1000000=true∧ins d.f_Floor (-1000000) 1000000=true
structure GoodB (d:TDock) (c:List TCall) (l:List Tberth_box):Prop where
 wf:wfp c l
 bd:∀ m,m < l.length→(0≤(bx l m).f_x∧(bx l m).f_x≤10000000)∧(0≤(bx l m).f_y∧(bx l m).f_y≤10000000)
 inn:∀ m,m < l.length→withinE d (bx l m)=true
 ap:∀ m,m < l.length→∀ j,j < m→apartE d.f_Gap (bx l j) (bx l m)=true
end Go.Den
namespace Go.Den
open Go.Ab
end Go.Den
namespace Go.Den
open Go.Ab
def hx (d:TDock) (c:List TCall) (p:Nat→Int×Int) (i:Nat):Prop:=(p i).1=d.f_Gap∨∃ j,j < c.length∧j≠i∧(p j).1+(cl c j).f_Length+d.f_Gap=(p i).1
def hy (d:TDock) (c:List TCall) (p:Nat→Int×Int) (i:Nat):Prop:=(p i).2=d.f_Gap∨∃ j,j < c.length∧j≠i∧(p j).2+(cl c j).f_Beam+d.f_Gap=(p i).2
end Go.Den
