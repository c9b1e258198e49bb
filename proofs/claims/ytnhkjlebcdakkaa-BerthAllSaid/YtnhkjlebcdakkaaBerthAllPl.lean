/- The plain law: the Lean function of the law returns true for every input, and what it needs. No conditions. -/
import Derived.Test.YtnhkjlebcdakkaaBerthAllDen
set_option linter.unusedVariables false
set_option linter.unusedSimpArgs false
namespace Go.Den
open Go.Ab
theorem w64_def (n:Int):w64 n=if n % 18446744073709551616≥9223372036854775808 then n % 18446744073709551616 - 18446744073709551616 else n % 18446744073709551616:=by
 have e:w64 n=(if (true && decide (n % 18446744073709551616≥9223372036854775808))=true then n % 18446744073709551616 - 18446744073709551616 else n % 18446744073709551616):=rfl
 rw [e];simp
theorem w64_eq {n:Int} (h1:-9223372036854775808≤n) (h2:n≤9223372036854775807):w64 n=n:=by
 rw [w64_def];split<;>omega
theorem w64_succ {m:Nat} (h:m < 9223372036854775807):w64 ((m:Int)+1)=((m+1:Nat):Int):=by rw [w64_eq (by omega) (by omega)];simp
theorem toList_inj {a b:ByteArray} (h:a.toList=b.toList):a=b:=by
 have e:∀ x:ByteArray,x.toList=x.data.toList:=fun x=>ByteArray.toList_eq x
 rw [e,e] at h
 cases a;cases b;simp_all [Array.toList_inj]
theorem streq_iff {a b:ByteArray}:streq a b=true↔a=b:=by
 unfold streq;simp only [beq_iff_eq]
 exact ⟨toList_inj,fun h=>h ▸ rfl⟩
def scan {R:Type} (f:Nat→Option R) (z:R):Nat→Nat→R
 | 0,_=>z
 | k+1,m=>match f m with
  | some r=>r
  | none=>scan f z k (m+1)
theorem loop_scan {R:Type} {L:Nat→Int→Option R} (f:Nat→Option R) (z:R) {n:Nat}
  (hstep:∀ fuel m,m < n→L (fuel+1) (m:Int)=(match f m with | some r=>some r | none=>L fuel ((m+1:Nat):Int)))
  (hend:∀ fuel,L (fuel+1) (n:Int)=some z):∀ k m fuel,m+k=n→k < fuel→L fuel (m:Int)=some (scan f z k m)
 | 0,m,fuel,h,hf=>by
  obtain ⟨g,rfl⟩:∃ g,fuel=g+1:=⟨fuel - 1,by omega⟩
  have:m=n:=by omega
  subst this;exact hend g
 | k+1,m,fuel,h,hf=>by
  obtain ⟨g,rfl⟩:∃ g,fuel=g+1:=⟨fuel - 1,by omega⟩
  rw [hstep g m (by omega)]
  unfold scan
  cases hfm:f m with
  | some r=>rfl
  | none=>exact loop_scan f z hstep hend k (m+1) g (by omega) (by omega)
theorem loop_scan0 {R:Type} {L:Nat→Int→Option R} (f:Nat→Option R) (z:R) {n fuel:Nat} (hf:n < fuel)
  (hstep:∀ fuel m,m < n→L (fuel+1) (m:Int)=(match f m with | some r=>some r | none=>L fuel ((m+1:Nat):Int)))
  (hend:∀ fuel,L (fuel+1) (n:Int)=some z):L fuel 0=some (scan f z n 0) :=
 loop_scan f z hstep hend n 0 fuel (by omega) hf
theorem scan_all {R:Type} {f:Nat→Option R} {z:R}:∀ (k m:Nat),(∀ i,m≤i→i < m+k→f i=none)→scan f z k m=z
 | 0,_,_=>rfl
 | k+1,m,h=>by
  unfold scan
  rw [h m (by omega) (by omega)]
  exact scan_all k (m+1) fun i hi hi2=>h i (by omega) (by omega)
theorem scan_inv {R:Type} {f:Nat→Option R} {z:R}:∀ (k m:Nat),(∃ i r,m≤i∧i < m+k∧f i=some r∧(∀ j,m≤j→j < i→f j=none)∧scan f z k m=r)∨((∀ i,m≤i→i < m+k→f i=none)∧scan f z k m=z)
 | 0,m=>.inr ⟨fun i h1 h2=>by omega,rfl⟩
 | k+1,m=>by
  cases hm:f m with
  | some r=>exact .inl ⟨m,r,Nat.le_refl _,by omega,hm,fun j h1 h2=>by omega,by unfold scan;rw [hm]⟩
  | none =>
   have e:scan f z (k+1) m=scan f z k (m+1):=by rw [scan,hm]
   rcases scan_inv (f:=f) (z:=z) k (m+1) with ⟨i,r,h1,h2,h3,h4,h5⟩ | ⟨h1,h2⟩
   ·refine .inl ⟨i,r,by omega,by omega,h3,fun j hj1 hj2=>?_,e.trans h5⟩
    by_cases hj:j=m
    ·subst hj;exact hm
    ·exact h4 j (by omega) hj2
   ·refine .inr ⟨fun i hi1 hi2=>?_,e.trans h2⟩
    by_cases hj:i=m
    ·subst hj;exact hm
    ·exact h1 i (by omega) (by omega)
theorem loop_scanR {R:Type} {L:Nat→Int→R} (f:Nat→Option R) (z:R) {n:Nat}
  (hstep:∀ fuel m,m < n→L (fuel+1) (m:Int)=(match f m with | some r=>r | none=>L fuel ((m+1:Nat):Int)))
  (hend:∀ fuel,L (fuel+1) (n:Int)=z):∀ k m fuel,m+k=n→k < fuel→L fuel (m:Int)=scan f z k m
 | 0,m,fuel,h,hf=>by
  obtain ⟨g,rfl⟩:∃ g,fuel=g+1:=⟨fuel - 1,by omega⟩
  have:m=n:=by omega
  subst this;exact hend g
 | k+1,m,fuel,h,hf=>by
  obtain ⟨g,rfl⟩:∃ g,fuel=g+1:=⟨fuel - 1,by omega⟩
  rw [hstep g m (by omega)]
  unfold scan
  cases hfm:f m with
  | some r=>rfl
  | none=>exact loop_scanR f z hstep hend k (m+1) g (by omega) (by omega)
theorem loop_scanR0 {R:Type} {L:Nat→Int→R} (f:Nat→Option R) (z:R) {n fuel:Nat} (hf:n < fuel)
  (hstep:∀ fuel m,m < n→L (fuel+1) (m:Int)=(match f m with | some r=>r | none=>L fuel ((m+1:Nat):Int)))
  (hend:∀ fuel,L (fuel+1) (n:Int)=z):L fuel 0=scan f z n 0 :=
 loop_scanR f z hstep hend n 0 fuel (by omega) hf
theorem scan_index {p:Nat→Bool}:∀ (n m:Nat),decide (scan (fun k=>cond (p k) (some (k:Int)) none) (-1) n m≥0)=scan (fun k=>cond (p k) (some true) none) false n m
 | 0,m=>rfl
 | n+1,m=>by
  unfold scan
  cases p m with
  | true=>simp
  | false=>exact scan_index n (m+1)
theorem scan_bool {R:Type} {p:Nat→Bool} {a z:R}:∀ (n m:Nat),scan (fun k=>cond (p k) (some a) none) z n m=cond (scan (fun k=>cond (p k) (some true) none) false n m) a z
 | 0,m=>rfl
 | n+1,m=>by
  unfold scan
  cases p m with
  | true=>rfl
  | false=>exact scan_bool n (m+1)
theorem getD_take {α:Type} (l:List α) (m k:Nat) (d:α) (h:k < m):((l.take m).drop 0).getD k d=l.getD k d:=by
 simp [List.getD,h]
theorem toNat_nat (m:Nat):((m:Int)).toNat=m:=rfl
theorem inb {m n:Nat} (h:m < n):0≤(m:Int)∧(m:Int) < ((n:Nat):Int):=⟨by omega,by omega⟩
theorem dec_lt {m n:Nat} (h:m < n):decide ((m:Int) < ((n:Nat):Int))=true:=by simp;omega
theorem dec_nlt {n:Nat}:decide ((n:Int) < ((n:Nat):Int))=false:=by simp
end Go.Den
namespace Go.Den
open Go.Ab
def nameBad (s:ByteArray) (m:Nat):Bool :=
 cond (!(cond (cond (decide (byteAt s m≥97)) (decide (byteAt s m≤122)) false) true (cond (decide (byteAt s m≥65)) (decide (byteAt s m≤90)) false))) (cond ((m:Int) == 0) true (!(cond (cond (decide (byteAt s m≥48)) (decide (byteAt s m≤57)) false) true (byteAt s m == 45)))) false
def nameOk (s:ByteArray):Bool :=
 cond (cond (streq s ByteArray.empty) true (decide (((s.size:Nat):Int) > 12))) false (scan (fun m=>cond (nameBad s m) (some false) none) true s.size 0)
end Go.Den
namespace Go.Den
open Go.Ab
def ins (n lo hi:Int):Bool:=cond (decide (n≥lo)) (decide (n≤hi)) false
theorem ins_iff {n lo hi:Int}:ins n lo hi=true↔lo≤n∧n≤hi:=by unfold ins;simp [Bool.cond_eq_ite]
theorem outside_eq (N:Nat) (n lo hi:Int):g_berth_outside N n lo hi=some (!ins n lo hi):=by
 unfold g_berth_outside ins
 congr 1
 rw [Bool.eq_iff_iff];simp [Bool.cond_eq_ite]
theorem named_eq {N:Nat} (hN:12 < N) (s:ByteArray):g_berth_named N s=some (nameOk s):=by
 unfold g_berth_named nameOk
 cases h:cond (streq s ByteArray.empty) true (decide (((s.size:Nat):Int) > 12))
 ·have hs:s.size≤12:=by
   cases h2:streq s ByteArray.empty<;>rw [h2] at h<;>simp at h;omega
  refine loop_scan0 (L:=fun fuel=>g_berth_named_L1 N s fuel) _ _ (by omega) (fun fuel m hm=>?_) (fun fuel=>?_)
  ·simp only [g_berth_named_L1,dec_lt hm,cond_true,if_pos (inb hm),w64_succ (show m < 9223372036854775807 by omega),toNat_nat]
   show cond (nameBad s m) _ _=_
   cases nameBad s m<;>rfl
  ·simp only [g_berth_named_L1,dec_nlt,cond_false]
 ·rfl
end Go.Den
namespace Go.Den
open Go.Ab
def dockCode (x:TDock):Int:=cond (ins x.f_Length 1 1000000 && ins x.f_Width 1 1000000 && ins x.f_Sill (-1000000) 1000000 && ins x.f_Floor (-1000000) 1000000 && ins x.f_Gap 0 1000000) 0 2
theorem dockCheck_eq (N:Nat) (x:TDock):g_berth_CheckDocks_2 N x=some (dockCode x):=by
 unfold g_berth_CheckDocks_2 dockCode
 simp only [outside_eq,g_berth_ranged]
 generalize ins x.f_Length 1 1000000=b0,ins x.f_Width 1 1000000=b1,ins x.f_Sill (-1000000) 1000000=b2,ins x.f_Floor (-1000000) 1000000=b3,ins x.f_Gap 0 1000000=b4
 cases b0<;>cases b1<;>cases b2<;>cases b3<;>cases b4<;>rfl
def dupDock (l:List TDock) (m:Nat):Bool:=scan (fun k=>cond (streq (l.getD k TDock.d).f_Name (l.getD m TDock.d).f_Name) (some true) none) false m 0
def stepDock (l:List TDock) (m:Nat):Option Int :=
 cond (!nameOk (l.getD m TDock.d).f_Name) (some 4) (cond (dupDock l m) (some 5) (cond (dockCode (l.getD m TDock.d) != 0) (some (dockCode (l.getD m TDock.d))) none))
def docksCode (l:List TDock):Int:=cond (decide (((l.length:Nat):Int) > 4)) 8 (scan (stepDock l) 0 l.length 0)
theorem contains_dock {N:Nat} (l:List TDock) (m:Nat) (hm:m < l.length) (hN:l.length < N) (hl:l.length≤4):g_slices_ContainsFunc_api_Dock_api_Dock N ((l.take m).drop 0) (l.getD m TDock.d)=some (dupDock l m):=by
 have hlen:((l.take m).drop 0).length=m:=by simp;omega
 have e:g_slices_IndexFunc_api_Dock_api_Dock N ((l.take m).drop 0) (l.getD m TDock.d)=some (scan (fun k=>cond (streq (l.getD k TDock.d).f_Name (l.getD m TDock.d).f_Name) (some (k:Int)) none) (-1) m 0):=by
  unfold g_slices_IndexFunc_api_Dock_api_Dock
  refine loop_scan0 (L:=fun fuel=>g_slices_IndexFunc_api_Dock_api_Dock_L1 N ((l.take m).drop 0) (l.getD m TDock.d) fuel) _ _ (by omega) (fun fuel k hk=>?_) (fun fuel=>?_)
  ·simp only [g_slices_IndexFunc_api_Dock_api_Dock_L1,hlen,dec_lt hk,cond_true,if_pos (inb hk),w64_succ (show k < 9223372036854775807 by omega),toNat_nat,getD_take l m k _ hk,g_berth_check_Dock_1,g_berth_CheckDocks_1,Option.bind_some]
   cases streq (l.getD k TDock.d).f_Name (l.getD m TDock.d).f_Name<;>rfl
  ·simp only [g_slices_IndexFunc_api_Dock_api_Dock_L1,hlen,dec_nlt,cond_false]
 unfold g_slices_ContainsFunc_api_Dock_api_Dock
 rw [e,Option.bind_some,scan_index]
 rfl
theorem checkDocks_eq {N:Nat} (hN:13 < N) (l:List TDock):g_berth_CheckDocks N l=some (docksCode l):=by
 unfold g_berth_CheckDocks g_berth_check_Dock docksCode
 cases h:decide (((l.length:Nat):Int) > 4)
 ·have hl:l.length≤4:=by simp at h;omega
  have e:g_berth_check_Dock_L1 N l N 0=some (scan (stepDock l) 0 l.length 0):=by
   refine loop_scan0 (L:=fun fuel=>g_berth_check_Dock_L1 N l fuel) _ _ (by omega) (fun fuel m hm=>?_) (fun fuel=>?_)
   ·simp only [g_berth_check_Dock_L1,dec_lt hm,cond_true,if_pos (inb hm),w64_succ (show m < 9223372036854775807 by omega),toNat_nat,g_berth_CheckDocks_1,Option.bind_some,named_eq (show 12 < N by omega),contains_dock l m hm (show l.length < N by omega) hl,dockCheck_eq,
     if_pos (show 0≤m∧m≤l.length from ⟨Nat.zero_le _,by omega⟩),if_pos (show 0≤(m:Int) from Int.natCast_nonneg _)]
    unfold stepDock
    cases nameOk (l.getD m TDock.d).f_Name<;>cases dupDock l m<;>cases (dockCode (l.getD m TDock.d) != 0)<;>rfl
   ·simp only [g_berth_check_Dock_L1,dec_nlt,cond_false]
  rw [cond_false,cond_false,e];rfl
 ·rfl
def callCode (x:TCall):Int:=cond (ins x.f_Length 1 1000000 && ins x.f_Beam 1 1000000 && ins x.f_Draught 0 1000000 && ins x.f_Under 0 1000000 && ins x.f_Arrive 0 400 && ins x.f_Due 0 400 && ins x.f_Work 1 1000 && ins x.f_Late 0 1000000000) 0 2
theorem callCheck_eq (N:Nat) (x:TCall):g_berth_CheckCalls_2 N x=some (callCode x):=by
 unfold g_berth_CheckCalls_2 callCode
 simp only [outside_eq,g_berth_ranged]
 generalize ins x.f_Length 1 1000000=b0,ins x.f_Beam 1 1000000=b1,ins x.f_Draught 0 1000000=b2,ins x.f_Under 0 1000000=b3,ins x.f_Arrive 0 400=b4,ins x.f_Due 0 400=b5,ins x.f_Work 1 1000=b6,ins x.f_Late 0 1000000000=b7
 cases b0<;>cases b1<;>cases b2<;>cases b3<;>cases b4<;>cases b5<;>cases b6<;>cases b7<;>rfl
def dupCall (l:List TCall) (m:Nat):Bool:=scan (fun k=>cond (streq (l.getD k TCall.d).f_Name (l.getD m TCall.d).f_Name) (some true) none) false m 0
def stepCall (l:List TCall) (m:Nat):Option Int :=
 cond (!nameOk (l.getD m TCall.d).f_Name) (some 4) (cond (dupCall l m) (some 5) (cond (callCode (l.getD m TCall.d) != 0) (some (callCode (l.getD m TCall.d))) none))
def callsCode (l:List TCall):Int:=cond (decide (((l.length:Nat):Int) > 8)) 8 (scan (stepCall l) 0 l.length 0)
theorem contains_call {N:Nat} (l:List TCall) (m:Nat) (hm:m < l.length) (hN:l.length < N) (hl:l.length≤8):g_slices_ContainsFunc_api_Call_api_Call N ((l.take m).drop 0) (l.getD m TCall.d)=some (dupCall l m):=by
 have hlen:((l.take m).drop 0).length=m:=by simp;omega
 have e:g_slices_IndexFunc_api_Call_api_Call N ((l.take m).drop 0) (l.getD m TCall.d)=some (scan (fun k=>cond (streq (l.getD k TCall.d).f_Name (l.getD m TCall.d).f_Name) (some (k:Int)) none) (-1) m 0):=by
  unfold g_slices_IndexFunc_api_Call_api_Call
  refine loop_scan0 (L:=fun fuel=>g_slices_IndexFunc_api_Call_api_Call_L1 N ((l.take m).drop 0) (l.getD m TCall.d) fuel) _ _ (by omega) (fun fuel k hk=>?_) (fun fuel=>?_)
  ·simp only [g_slices_IndexFunc_api_Call_api_Call_L1,hlen,dec_lt hk,cond_true,if_pos (inb hk),w64_succ (show k < 9223372036854775807 by omega),toNat_nat,getD_take l m k _ hk,g_berth_check_Call_1,g_berth_CheckCalls_1,Option.bind_some]
   cases streq (l.getD k TCall.d).f_Name (l.getD m TCall.d).f_Name<;>rfl
  ·simp only [g_slices_IndexFunc_api_Call_api_Call_L1,hlen,dec_nlt,cond_false]
 unfold g_slices_ContainsFunc_api_Call_api_Call
 rw [e,Option.bind_some,scan_index]
 rfl
theorem checkCalls_eq {N:Nat} (hN:13 < N) (l:List TCall):g_berth_CheckCalls N l=some (callsCode l):=by
 unfold g_berth_CheckCalls g_berth_check_Call callsCode
 cases h:decide (((l.length:Nat):Int) > 8)
 ·have hl:l.length≤8:=by simp at h;omega
  have e:g_berth_check_Call_L1 N l N 0=some (scan (stepCall l) 0 l.length 0):=by
   refine loop_scan0 (L:=fun fuel=>g_berth_check_Call_L1 N l fuel) _ _ (by omega) (fun fuel m hm=>?_) (fun fuel=>?_)
   ·simp only [g_berth_check_Call_L1,dec_lt hm,cond_true,if_pos (inb hm),w64_succ (show m < 9223372036854775807 by omega),toNat_nat,g_berth_CheckCalls_1,Option.bind_some,named_eq (show 12 < N by omega),contains_call l m hm (show l.length < N by omega) hl,callCheck_eq,
     if_pos (show 0≤m∧m≤l.length from ⟨Nat.zero_le _,by omega⟩),if_pos (show 0≤(m:Int) from Int.natCast_nonneg _)]
    unfold stepCall
    cases nameOk (l.getD m TCall.d).f_Name<;>cases dupCall l m<;>cases (callCode (l.getD m TCall.d) != 0)<;>rfl
   ·simp only [g_berth_check_Call_L1,dec_nlt,cond_false]
  rw [cond_false,cond_false,e];rfl
 ·rfl
end Go.Den
namespace Go.Den
open Go.Ab
def cl (c:List TCall) (k:Nat):TCall:=c.getD k TCall.d
def sp (s:List TSpot) (k:Nat):TSpot:=s.getD k TSpot.d
def callIx (c:List TCall) (s:ByteArray):Int:=scan (fun k=>cond (streq (cl c k).f_Name s) (some (k:Int)) none) (-1) c.length 0
def bothCode (d:TDock) (c:List TCall):Int:=cond (docksCode [d] != 0) (docksCode [d]) (callsCode c)
theorem both_eq {N:Nat} (hN:13 < N) (d:TDock) (c:List TCall):g_berth_both N d c=some (bothCode d c):=by
 unfold g_berth_both bothCode
 rw [checkDocks_eq hN,Option.bind_some,checkCalls_eq hN]
 cases docksCode [d] != 0<;>rfl
theorem called_eq {N:Nat} (c:List TCall) (s:ByteArray) (hN:c.length < N) (hl:c.length < 1000):g_berth_called N c s=some (callIx c s):=by
 unfold g_berth_called g_slices_IndexFunc_api_Call_api_Call_v2
 rw [loop_scan0 (L:=fun fuel=>g_slices_IndexFunc_api_Call_api_Call_v2_L1 N c s fuel) (fun k=>cond (streq (cl c k).f_Name s) (some (k:Int)) none) (-1) hN (fun fuel k hk=>?_) (fun fuel=>?_)]
 ·rfl
 ·simp only [g_slices_IndexFunc_api_Call_api_Call_v2_L1,g_berth_called_1,dec_lt hk,cond_true,if_pos (inb hk),w64_succ (show k < 9223372036854775807 by omega),toNat_nat,Option.bind_some]
  change cond (streq (cl c k).f_Name s) _ _=_
  cases streq (cl c k).f_Name s<;>rfl
 ·simp only [g_slices_IndexFunc_api_Call_api_Call_v2_L1,dec_nlt,cond_false]
theorem callIx_inv (c:List TCall) (s:ByteArray):(callIx c s = -1∧∀ i,i < c.length→(cl c i).f_Name≠s)∨∃ i:Nat,i < c.length∧callIx c s=(i:Int)∧(cl c i).f_Name=s:=by
 unfold callIx
 rcases scan_inv (f:=fun k=>cond (streq (cl c k).f_Name s) (some (k:Int)) none) (z:=-1) c.length 0 with ⟨i,r,_,h2,h3,_,h5⟩ | ⟨h1,h2⟩
 ·right
  cases hs:streq (cl c i).f_Name s with
  | false=>simp only [hs,cond_false] at h3;cases h3
  | true =>
   simp only [hs,cond_true,Option.some.injEq] at h3
   exact ⟨i,by omega,by rw [h5,← h3],streq_iff.1 hs⟩
 ·left
  refine ⟨h2,fun i hi he=>?_⟩
  have:=h1 i (Nat.zero_le _) (by omega)
  simp only [streq_iff.2 he,cond_true] at this
  cases this
def withinE (d:TDock) (b:Tberth_box):Bool:=cond (cond (cond (decide (b.f_x≥d.f_Gap)) (decide (b.f_y≥d.f_Gap)) false) (decide ((w64 ((w64 (b.f_x+b.f_w))+d.f_Gap))≤d.f_Length)) false) (decide ((w64 ((w64 (b.f_y+b.f_h))+d.f_Gap))≤d.f_Width)) false
def apartE (g:Int) (a b:Tberth_box):Bool:=cond (cond (cond (decide ((w64 ((w64 (a.f_x+a.f_w))+g))≤b.f_x)) true (decide ((w64 ((w64 (b.f_x+b.f_w))+g))≤a.f_x))) true (decide ((w64 ((w64 (a.f_y+a.f_h))+g))≤b.f_y))) true (decide ((w64 ((w64 (b.f_y+b.f_h))+g))≤a.f_y))
theorem apartE_comm (g:Int) (a b:Tberth_box):apartE g a b=apartE g b a:=by
 unfold apartE
 generalize decide ((w64 ((w64 (a.f_x+a.f_w))+g))≤b.f_x)=p,decide ((w64 ((w64 (b.f_x+b.f_w))+g))≤a.f_x)=q,decide ((w64 ((w64 (a.f_y+a.f_h))+g))≤b.f_y)=r,decide ((w64 ((w64 (b.f_y+b.f_h))+g))≤a.f_y)=t
 cases p<;>cases q<;>cases r<;>cases t<;>rfl
def boxS (c:List TCall) (s:List TSpot) (i:Nat):Tberth_box:=⟨(sp s i).f_X,(sp s i).f_Y,(cl c (callIx c (sp s i).f_Call).toNat).f_Length,(cl c (callIx c (sp s i).f_Call).toNat).f_Beam⟩
theorem inside6_eq (N:Nat) (d:TDock) (b:Tberth_box):g_berth_inside N d b=some (withinE d b):=rfl
theorem apart6_eq (N:Nat) (a b:Tberth_box) (g:Int):g_berth_apart N a b g=some (apartE g a b):=rfl
def dupS (s:List TSpot) (i:Nat):Bool:=scan (fun j=>cond (streq (sp s j).f_Call (sp s i).f_Call) (some true) none) false i 0
def spotStep (d:TDock) (c:List TCall) (s:List TSpot) (i:Nat):Option Int :=
 cond (decide (callIx c (sp s i).f_Call < 0)) (some 6) (cond (dupS s i) (some 5) (cond (!(ins (sp s i).f_X 0 1000000 && ins (sp s i).f_Y 0 1000000)) (some 2) (cond (!withinE d (boxS c s i)) (some 16) none)))
theorem spot_ok {d:TDock} {c:List TCall} {s:List TSpot} {i:Nat} (h:spotStep d c s i=none):(0≤callIx c (sp s i).f_Call∧callIx c (sp s i).f_Call < ((c.length:Nat):Int))∧dupS s i=false∧(ins (sp s i).f_X 0 1000000=true∧ins (sp s i).f_Y 0 1000000=true)∧withinE d (boxS c s i)=true:=by
 unfold spotStep at h
 cases h1:decide (callIx c (sp s i).f_Call < 0) with
 | true=>rw [h1] at h;cases h
 | false =>
  rw [h1,cond_false] at h
  cases h2:dupS s i with
  | true=>rw [h2] at h;cases h
  | false =>
   rw [h2,cond_false] at h
   cases h3:(ins (sp s i).f_X 0 1000000 && ins (sp s i).f_Y 0 1000000) with
   | false=>rw [h3] at h;cases h
   | true =>
    rw [h3,Bool.not_true,cond_false] at h
    cases h4:withinE d (boxS c s i) with
    | false=>rw [h4] at h;cases h
    | true =>
     refine ⟨?_,rfl,by simpa using h3,rfl⟩
     have h1:=of_decide_eq_false h1
     rcases callIx_inv c (sp s i).f_Call with ⟨h,_⟩ | ⟨j,h,hj,_⟩<;>omega
def pairStep (d:TDock) (c:List TCall) (s:List TSpot) (i:Nat):Option Int :=
 cond (scan (fun j=>cond (!apartE d.f_Gap (boxS c s i) (boxS c s j)) (some true) none) false i 0) (some 17) none
def planCode (d:TDock) (c:List TCall) (s:List TSpot):Int :=
 cond (bothCode d c != 0) (bothCode d c) (cond (((s.length:Nat):Int) != ((c.length:Nat):Int)) 11 (scan (spotStep d c s) (scan (pairStep d c s) 0 s.length 0) s.length 0))
theorem both_len {d:TDock} {c:List TCall} (h:bothCode d c=0):c.length≤8:=by
 unfold bothCode at h
 cases h1:(docksCode [d] != 0) with
 | true=>rw [h1,cond_true] at h;rw [h] at h1;cases h1
 | false =>
  rw [h1,cond_false] at h
  unfold callsCode at h
  cases h2:decide (((c.length:Nat):Int) > 8) with
  | true=>rw [h2] at h;cases h
  | false=>simp at h2;omega
end Go.Den
namespace Go.Den
open Go.Ab
def bx (o:List Tberth_box) (r:Nat):Tberth_box:=o.getD r Tberth_box.d
def ixn (c:List TCall) (s:List TSpot) (i:Nat):Nat:=(callIx c (sp s i).f_Call).toNat
theorem scan_ex {p:Nat→Bool} (n:Nat):scan (fun j=>cond (p j) (some true) none) false n 0=true↔∃ j,j < n∧p j=true:=by
 rcases scan_inv (f:=fun j=>cond (p j) (some true) none) (z:=false) n 0 with ⟨i,r,h1,h2,h3,h4,h5⟩ | ⟨h1,h2⟩
 ·cases hp:p i with
  | false=>simp only [hp,cond_false] at h3;cases h3
  | true =>
   simp only [hp,cond_true,Option.some.injEq] at h3
   rw [h5,← h3]
   exact ⟨fun _=>⟨i,by omega,hp⟩,fun _=>rfl⟩
 ·rw [h2]
  refine ⟨fun h=>(by cases h),fun ⟨j,h3,h4⟩=>?_⟩
  have:=h1 j (Nat.zero_le _) (by omega)
  simp only [h4,cond_true] at this;cases this
theorem dup_iff {s:List TSpot} {i:Nat}:dupS s i=true↔∃ j,j < i∧(sp s j).f_Call=(sp s i).f_Call:=by
 unfold dupS
 rw [scan_ex (p:=fun j=>streq (sp s j).f_Call (sp s i).f_Call)]
 constructor
 ·rintro ⟨j,h1,h2⟩;exact ⟨j,h1,streq_iff.1 h2⟩
 ·rintro ⟨j,h1,h2⟩;exact ⟨j,h1,streq_iff.2 h2⟩
theorem callIx_name {c:List TCall} {s:ByteArray} (h:0≤callIx c s):(callIx c s).toNat < c.length∧callIx c s=(((callIx c s).toNat:Nat):Int)∧(cl c (callIx c s).toNat).f_Name=s:=by
 rcases callIx_inv c s with ⟨h1,_⟩ | ⟨i,h1,h2,h3⟩
 ·omega
 ·rw [h2,toNat_nat];exact ⟨h1,rfl,h3⟩
def allApart (g:Int) (f:Nat→Tberth_box) (n:Nat):Prop:=∀ i,i < n→∀ j,j < i→apartE g (f i) (f j)=true
theorem allApart_sym {g:Int} {f:Nat→Tberth_box} {n:Nat}:allApart g f n↔∀ i j,i < n→j < n→i≠j→apartE g (f i) (f j)=true:=by
 constructor
 ·intro h i j hi hj hne
  by_cases h1:j < i
  ·exact h i hi j h1
  ·rw [apartE_comm];exact h j hj i (by omega)
 ·intro h i hi j hj;exact h i j hi (by omega) (by omega)
theorem pair_scan {R:Type} {g:Int} {f:Nat→Tberth_box} {n:Nat} (a z:R):(allApart g f n∧scan (fun i=>cond (scan (fun j=>cond (!apartE g (f i) (f j)) (some true) none) false i 0) (some a) none) z n 0=z)∨(¬ allApart g f n∧scan (fun i=>cond (scan (fun j=>cond (!apartE g (f i) (f j)) (some true) none) false i 0) (some a) none) z n 0=a):=by
 rw [scan_bool]
 have h:=scan_ex (p:=fun i=>scan (fun j=>cond (!apartE g (f i) (f j)) (some true) none) false i 0) n
 cases hs:scan (fun i=>cond (scan (fun j=>cond (!apartE g (f i) (f j)) (some true) none) false i 0) (some true) none) false n 0 with
 | true =>
  right
  obtain ⟨i,hi,h2⟩:=h.1 hs
  obtain ⟨j,hj,h3⟩:=(scan_ex (p:=fun j=>!apartE g (f i) (f j)) i).1 h2
  refine ⟨fun hall=>?_,rfl⟩
  rw [hall i hi j hj] at h3;cases h3
 | false =>
  left
  refine ⟨fun i hi j hj=>?_,rfl⟩
  cases ha:apartE g (f i) (f j) with
  | true=>rfl
  | false =>
   have:=h.2 ⟨i,hi,(scan_ex (p:=fun j=>!apartE g (f i) (f j)) i).2 ⟨j,hj,by rw [ha];rfl⟩⟩
   rw [hs] at this;cases this
structure BI (d:TDock) (c:List TCall) (s:List TSpot) (x:Nat) (out:List Tberth_box) (seen:List Bool):Prop where
 ol:out.length=c.length
 sl:seen.length=c.length
 ok:∀ i,i < x→spotStep d c s i=none
 at_:∀ i,i < x→bx out (ixn c s i)=boxS c s i
 sn:∀ r,r < c.length→(seen.getD r false=true↔∃ i,i < x∧ixn c s i=r)
 cnt:seen.count true=x
theorem ix_ok {d:TDock} {c:List TCall} {s:List TSpot} {i:Nat} (h:spotStep d c s i=none):ixn c s i < c.length∧callIx c (sp s i).f_Call=((ixn c s i:Nat):Int)∧(cl c (ixn c s i)).f_Name=(sp s i).f_Call :=
 callIx_name (spot_ok h).1.1
theorem ix_inj {d:TDock} {c:List TCall} {s:List TSpot} {i j:Nat} (hi:spotStep d c s i=none) (hj:spotStep d c s j=none) (h:ixn c s i=ixn c s j):i=j:=by
 have h1:=(ix_ok hi).2.2
 have h2:=(ix_ok hj).2.2
 rw [h] at h1
 have e:(sp s i).f_Call=(sp s j).f_Call:=h1.symm.trans h2
 have d1:=(spot_ok hi).2.1
 have d2:=(spot_ok hj).2.1
 rcases Nat.lt_trichotomy i j with h3 | h3 | h3
 ·have:=dup_iff.2 ⟨i,h3,e⟩;rw [d2] at this;cases this
 ·exact h3
 ·have:=dup_iff.2 ⟨j,h3,e.symm⟩;rw [d1] at this;cases this
structure Boxed (d:TDock) (c:List TCall) (s:List TSpot) (out:List Tberth_box):Prop where
 len:s.length=c.length
 le:c.length≤8
 ol:out.length=c.length
 ok:∀ i,i < s.length→spotStep d c s i=none
 at_:∀ i,i < s.length→bx out (ixn c s i)=boxS c s i
 on:∀ r,r < c.length→∃ i,i < s.length∧ixn c s i=r
section
variable {d:TDock} {c:List TCall} {s:List TSpot}
theorem Boxed.apart {out:List Tberth_box} (h:Boxed d c s out):allApart d.f_Gap (bx out) c.length↔allApart d.f_Gap (boxS c s) s.length:=by
 rw [allApart_sym,allApart_sym]
 constructor
 ·intro ha i j hi hj hne
  rw [← h.at_ i hi,← h.at_ j hj]
  exact ha _ _ (ix_ok (h.ok i hi)).1 (ix_ok (h.ok j hj)).1 (fun e=>hne (ix_inj (h.ok i hi) (h.ok j hj) e))
 ·intro ha r t hr ht hne
  obtain ⟨i,hi,rfl⟩:=h.on r hr
  obtain ⟨j,hj,rfl⟩:=h.on t ht
  rw [h.at_ i hi,h.at_ j hj]
  exact ha i j hi hj (fun e=>hne (by rw [e]))
theorem BI.full {out:List Tberth_box} {seen:List Bool} (h:BI d c s s.length out seen) (hl:s.length=c.length) (hc:c.length≤8):Boxed d c s out :=
 ⟨hl,hc,h.ol,h.ok,h.at_,fun r hr=>by
  refine (h.sn r hr).1 ?_
  have h1:seen.count true=seen.length:=by rw [h.cnt,h.sl,hl]
  have h2:=List.count_eq_length.1 h1
  have hr':r < seen.length:=by rw [h.sl];exact hr
  have e:seen.getD r false=seen[r]:=by simp [List.getD,hr']
  rw [e]
  exact (h2 _ (List.getElem_mem hr')).symm⟩
theorem boxes_L3 {N:Nat} {out:List Tberth_box} (hN:100 < N) (ho:out.length≤8) {i:Nat} (hi:i < out.length) (K:Int→Option (List Tberth_box×Int)) :
  g_berth_boxes_L3 N d out (i:Int) K N 0=match cond (scan (fun j=>cond (!apartE d.f_Gap (bx out i) (bx out j)) (some true) none) false i 0) (some (([]:List Tberth_box),(17:Int))) none with | some r=>some r | none=>K ((i+1:Nat):Int):=by
 rw [loop_scanR0 (L:=fun fuel=>g_berth_boxes_L3 N d out (i:Int) K fuel) (fun j=>cond (!apartE d.f_Gap (bx out i) (bx out j)) (some (some (([]:List Tberth_box),(17:Int)))) none) (K ((i+1:Nat):Int)) (show i < N by omega) (fun fuel j hj=>?_) (fun fuel=>?_)]
 ·rw [scan_bool (p:=fun j=>!apartE d.f_Gap (bx out i) (bx out j))]
  cases scan (fun j=>cond (!apartE d.f_Gap (bx out i) (bx out j)) (some true) none) false i 0<;>rfl
 ·simp only [g_berth_boxes_L3,toNat_nat,Nat.sub_zero,dec_lt hj,cond_true,if_pos (inb hj),if_pos (show 0≤i∧i≤out.length from ⟨Nat.zero_le _,by omega⟩),apart6_eq,Option.bind_some,w64_succ (show j < 9223372036854775807 by omega)]
  change cond (!apartE d.f_Gap (bx out i) (bx out j)) _ _=_
  cases apartE d.f_Gap (bx out i) (bx out j)<;>rfl
 ·simp only [g_berth_boxes_L3,toNat_nat,Nat.sub_zero,dec_nlt,cond_false,w64_succ (show i < 9223372036854775807 by omega)]
theorem boxes_L2 {N:Nat} {out:List Tberth_box} (hN:100 < N) (ho:out.length≤8):(allApart d.f_Gap (bx out) out.length∧g_berth_boxes_L2 N d out N 0=some (out,0))∨(¬ allApart d.f_Gap (bx out) out.length∧g_berth_boxes_L2 N d out N 0=some ([],17)):=by
 have e:g_berth_boxes_L2 N d out N 0=some (scan (fun i=>cond (scan (fun j=>cond (!apartE d.f_Gap (bx out i) (bx out j)) (some true) none) false i 0) (some (([]:List Tberth_box),(17:Int))) none) (out,0) out.length 0):=by
  refine loop_scan0 (L:=fun fuel=>g_berth_boxes_L2 N d out fuel) _ _ (show out.length < N by omega) (fun fuel i hi=>?_) (fun fuel=>?_)
  ·simp only [g_berth_boxes_L2,toNat_nat,dec_lt hi,cond_true,if_pos (inb hi),if_pos (show 0≤i∧i≤out.length from ⟨Nat.zero_le _,by omega⟩),if_pos (show (0:Int)≤(i:Int) by omega)]
   refine (boxes_L3 hN ho hi _).trans ?_
   cases cond (scan (fun j=>cond (!apartE d.f_Gap (bx out i) (bx out j)) (some true) none) false i 0) (some (([]:List Tberth_box),(17:Int))) none<;>rfl
  ·simp only [g_berth_boxes_L2,dec_nlt,cond_false]
 rw [e]
 rcases pair_scan (g:=d.f_Gap) (f:=bx out) (n:=out.length) (([]:List Tberth_box),(17:Int)) (out,0) with ⟨h1,h2⟩ | ⟨h1,h2⟩
 ·exact .inl ⟨h1,by rw [h2]⟩
 ·exact .inr ⟨h1,by rw [h2]⟩
def Answer (d:TDock) (c:List TCall) (s:List TSpot) (code:Int) (r:List Tberth_box×Int):Prop:=r.2=code∧((code=0∧Boxed d c s r.1)∨(code≠0∧r.1=[]))
theorem boxes_L1 {N:Nat} (hN:100 < N) (hl:s.length=c.length) (hc:c.length≤8):∀ (k x fuel:Nat) (out:List Tberth_box) (seen:List Bool),x+k=s.length→k < fuel→BI d c s x out seen→∃ r,g_berth_boxes_L1 N d c s fuel out seen (x:Int)=some r∧Answer d c s (scan (spotStep d c s) (scan (pairStep d c s) 0 s.length 0) k x) r
 | 0,x,fuel,out,seen,hx,hf,h=>by
  obtain ⟨g,rfl⟩:∃ g,fuel=g+1:=⟨fuel - 1,by omega⟩
  have hx:x=s.length:=by omega
  subst hx
  have hb:=h.full hl hc
  rw [g_berth_boxes_L1,dec_nlt,cond_false,scan]
  have hap:=hb.apart
  have ho:=h.ol
  rcases pair_scan (g:=d.f_Gap) (f:=boxS c s) (n:=s.length) (17:Int) 0 with ⟨h1,h2⟩ | ⟨h1,h2⟩
  ·have e:scan (pairStep d c s) 0 s.length 0=0:=h2
   rcases boxes_L2 (N:=N) (d:=d) (out:=out) hN (by omega) with ⟨h3,h4⟩ | ⟨h3,h4⟩
   ·exact ⟨_,h4,by rw [e],.inl ⟨e,hb⟩⟩
   ·rw [ho] at h3;exact absurd (hap.2 h1) h3
  ·have e:scan (pairStep d c s) 0 s.length 0=17:=h2
   rcases boxes_L2 (N:=N) (d:=d) (out:=out) hN (by omega) with ⟨h3,h4⟩ | ⟨h3,h4⟩
   ·rw [ho] at h3;exact absurd (hap.1 h3) h1
   ·exact ⟨_,h4,by rw [e],.inr ⟨by rw [e];decide,rfl⟩⟩
 | k+1,x,fuel,out,seen,hx,hf,h=>by
  obtain ⟨g,rfl⟩:∃ g,fuel=g+1:=⟨fuel - 1,by omega⟩
  have hxs:x < s.length:=by omega
  rw [g_berth_boxes_L1,dec_lt hxs,cond_true,if_pos (inb hxs),toNat_nat,show s.getD x TSpot.d=sp s x from rfl,called_eq c _ (show c.length < N by omega) (by omega),Option.bind_some]
  have bad:∀ code:Int,code≠0→spotStep d c s x=some code→∃ r,(some (([]:List Tberth_box),code))=some r∧Answer d c s (scan (spotStep d c s) (scan (pairStep d c s) 0 s.length 0) (k+1) x) r:=fun code h0 e=>⟨_,rfl,by rw [scan,e],.inr ⟨by rw [scan,e];exact h0,rfl⟩⟩
  by_cases h0:callIx c (sp s x).f_Call < 0
  ·rw [decide_eq_true h0,cond_true]
   exact bad 6 (by decide) (by unfold spotStep;rw [decide_eq_true h0];rfl)
  ·obtain ⟨hr,hI,hname⟩:=callIx_name (c:=c) (s:=(sp s x).f_Call) (by omega)
   have e0:spotStep d c s x=cond (dupS s x) (some 5) (cond (!(ins (sp s x).f_X 0 1000000 && ins (sp s x).f_Y 0 1000000)) (some 2) (cond (!withinE d (boxS c s x)) (some 16) none)):=by
    unfold spotStep;rw [decide_eq_false h0];rfl
   have hixn:(callIx c (sp s x).f_Call).toNat=ixn c s x:=rfl
   rw [hixn] at hr hI hname
   have hdup:seen.getD (ixn c s x) false=dupS s x:=by
    rw [Bool.eq_iff_iff,h.sn _ hr,dup_iff]
    constructor
    ·rintro ⟨j,hj,e⟩
     refine ⟨j,hj,?_⟩
     have:=(ix_ok (h.ok j hj)).2.2
     rw [e] at this;rw [← this,hname]
    ·rintro ⟨j,hj,e⟩
     exact ⟨j,hj,by unfold ixn;rw [e]⟩
   rw [decide_eq_false h0,cond_false,hI,toNat_nat,if_pos (inb (by rw [h.sl];exact hr)),hdup]
   cases hd:dupS s x with
   | true=>exact bad 5 (by decide) (by rw [e0,hd];rfl)
   | false =>
    rw [cond_false,outside_eq,Option.bind_some,outside_eq]
    rw [hd,cond_false] at e0
    cases h1:ins (sp s x).f_X 0 1000000 with
    | false=>exact bad 2 (by decide) (by rw [e0,h1];rfl)
    | true =>
     cases h2:ins (sp s x).f_Y 0 1000000 with
     | false=>exact bad 2 (by decide) (by rw [e0,h1,h2];rfl)
     | true =>
      have hro:ixn c s x < out.length:=by rw [h.ol];exact hr
      have hbox:(⟨(sp s x).f_X,(sp s x).f_Y,(c.getD (ixn c s x) TCall.d).f_Length,(c.getD (ixn c s x) TCall.d).f_Beam⟩:Tberth_box)=boxS c s x:=rfl
      have hset:(out.set (ixn c s x) (boxS c s x)).getD (ixn c s x) Tberth_box.d=boxS c s x:=by simp [List.getD,hro]
      rw [hbox,hset,inside6_eq]
      show ∃ r,((some false).bind fun routside2:Bool=>cond routside2 (some (([]:List Tberth_box),(2:Int))) (if 0≤((ixn c s x:Nat):Int)∧((ixn c s x:Nat):Int) < ((c.length:Nat):Int) then (if 0≤((ixn c s x:Nat):Int)∧((ixn c s x:Nat):Int) < ((out.length:Nat):Int) then (if 0≤((ixn c s x:Nat):Int)∧((ixn c s x:Nat):Int) < (((out.set (ixn c s x) (boxS c s x)).length:Nat):Int) then ((some (withinE d (boxS c s x))).bind fun rinside=>cond (!rinside) (some (([]:List Tberth_box),(16:Int))) (g_berth_boxes_L1 N d c s g (out.set (ixn c s x) (boxS c s x)) (seen.set (ixn c s x) true) (w64 ((x:Int)+1)))) else none) else none) else none))=some r∧_
      rw [Option.bind_some,cond_false,if_pos (inb hr),if_pos (inb hro),if_pos (inb (by rw [List.length_set];exact hro)),Option.bind_some]
      cases h3:withinE d (boxS c s x) with
      | false=>exact bad 16 (by decide) (by rw [e0,h1,h2,h3];rfl)
      | true =>
       have e1:spotStep d c s x=none:=by rw [e0,h1,h2,h3];rfl
       rw [scan,e1,Bool.not_true,cond_false,w64_succ (by omega)]
       have hseen:seen.getD (ixn c s x) false=false:=by rw [hdup,hd]
       have hrs:ixn c s x < seen.length:=by rw [h.sl];exact hr
       refine boxes_L1 hN hl hc k (x+1) g _ _ (by omega) (by omega) ⟨by rw [List.length_set,h.ol],by rw [List.length_set,h.sl],fun i hi=>?_,fun i hi=>?_,fun r hr2=>?_,?_⟩
       ·by_cases hix:i=x
        ·rw [hix];exact e1
        ·exact h.ok i (by omega)
       ·by_cases hix:i=x
        ·rw [hix];exact hset
        ·have hne:ixn c s i≠ixn c s x:=fun e=>hix (ix_inj (h.ok i (by omega)) e1 e)
         unfold bx
         rw [List.getD_eq_getElem?_getD,List.getElem?_set_ne (fun e=>hne e.symm),← List.getD_eq_getElem?_getD]
         exact h.at_ i (by omega)
       ·by_cases hrx:r=ixn c s x
        ·subst hrx
         have:(seen.set (ixn c s x) true).getD (ixn c s x) false=true:=by simp [List.getD,hrs]
         rw [this]
         exact ⟨fun _=>⟨x,by omega,rfl⟩,fun _=>rfl⟩
        ·rw [List.getD_eq_getElem?_getD,List.getElem?_set_ne (fun e=>hrx e.symm),← List.getD_eq_getElem?_getD,h.sn r hr2]
         constructor
         ·rintro ⟨i,hi,e⟩;exact ⟨i,by omega,e⟩
         ·rintro ⟨i,hi,e⟩
          by_cases hix:i=x
          ·rw [hix] at e;exact absurd e.symm hrx
          ·exact ⟨i,by omega,e⟩
       ·have e2:seen[ixn c s x]=false:=by
         have:seen.getD (ixn c s x) false=seen[ixn c s x]:=by simp [List.getD,hrs]
         rw [← this];exact hseen
        rw [List.count_set hrs,h.cnt,e2];rfl
theorem boxes_eq {N:Nat} (hN:100 < N) (d:TDock) (c:List TCall) (s:List TSpot):∃ r,g_berth_boxes N d c s=some r∧Answer d c s (planCode d c s) r:=by
 unfold g_berth_boxes planCode
 rw [both_eq (by omega),Option.bind_some]
 cases hb:bothCode d c != 0 with
 | true=>exact ⟨_,rfl,rfl,.inr ⟨by simpa using hb,rfl⟩⟩
 | false =>
  have hc:=both_len (d:=d) (c:=c) (by simpa using hb)
  rw [cond_false,cond_false]
  cases hl:((s.length:Nat):Int) != ((c.length:Nat):Int) with
  | true=>exact ⟨_,rfl,rfl,.inr ⟨(by decide:(11:Int)≠0),rfl⟩⟩
  | false =>
   have hs:s.length=c.length:=by simp at hl;omega
   rw [cond_false,cond_false,if_pos ⟨by omega,by omega,by omega⟩,if_pos ⟨by omega,by omega,by omega⟩]
   refine boxes_L1 hN hs hc s.length 0 N _ _ (by omega) (by omega) ⟨by simp,by simp,fun i hi=>by omega,fun i hi=>by omega,fun r hr=>?_,?_⟩
   ·constructor
    ·intro h;simp [List.getD,hr] at h
    ·rintro ⟨i,hi,_⟩;omega
   ·simp [List.count_replicate]
end
end Go.Den
namespace Go.Den
open Go.Ab
def blE (d:TDock) (a b:Tberth_box):Bool:=cond (cond (decide (a.f_x < b.f_x)) (decide (a.f_y < (w64 ((w64 (b.f_y+b.f_h))+d.f_Gap)))) false) (decide ((w64 (a.f_y+a.f_h)) > (w64 (b.f_y - d.f_Gap)))) false
section
variable {d:TDock} {c:List TCall} {s:List TSpot} {out:List Tberth_box}
end
end Go.Den
namespace Go.Den
open Go.Ab
theorem plansAwake:g_w06_awake 2000=some true:=by decide +kernel
theorem namesAll {N:Nat} (hN:100 < N) (d:List TDock) (c:List TCall):∃ b,g_w06_Names N d c=some b:=by
 unfold g_w06_Names
 cases h:cond (decide (((d.length:Nat):Int) > 6)) true (decide (((c.length:Nat):Int) > 10))
 ·have hl:d.length≤6∧c.length≤10:=by
   cases h2:decide (((d.length:Nat):Int) > 6)<;>rw [h2] at h<;>simp at h h2;omega
  have e2:g_w06_Names_L2 N c N 0=some (scan (fun m=>cond (decide ((((c.getD m TCall.d).f_Name.size:Nat):Int) > 40)) (some false) none) true c.length 0):=by
   refine loop_scan0 (L:=fun fuel=>g_w06_Names_L2 N c fuel) _ _ (by omega) (fun fuel m hm=>?_) (fun fuel=>?_)
   ·simp only [g_w06_Names_L2,dec_lt hm,cond_true,if_pos (inb hm),w64_succ (show m < 9223372036854775807 by omega),toNat_nat]
    cases decide ((((c.getD m TCall.d).f_Name.size:Nat):Int) > 40)<;>rfl
   ·simp only [g_w06_Names_L2,dec_nlt,cond_false]
  refine ⟨scan (fun m=>cond (decide ((((d.getD m TDock.d).f_Name.size:Nat):Int) > 40)) (some false) none) (scan (fun m=>cond (decide ((((c.getD m TCall.d).f_Name.size:Nat):Int) > 40)) (some false) none) true c.length 0) d.length 0,?_⟩
  rw [cond_false]
  refine loop_scan0 (L:=fun fuel=>g_w06_Names_L1 N d c fuel) _ _ (by omega) (fun fuel m hm=>?_) (fun fuel=>?_)
  ·simp only [g_w06_Names_L1,dec_lt hm,cond_true,if_pos (inb hm),w64_succ (show m < 9223372036854775807 by omega),toNat_nat]
   cases decide ((((d.getD m TDock.d).f_Name.size:Nat):Int) > 40)<;>rfl
  ·simp only [g_w06_Names_L1,dec_nlt,cond_false,e2]
 ·exact ⟨false,rfl⟩
theorem planShort {N:Nat} (hN:100 < N) (p:Tw06_Plan):∃ b,g_w06_Plan_short N p=some b:=by
 unfold g_w06_Plan_short
 obtain ⟨b,hb⟩:=namesAll hN [p.f_Dock] p.f_Calls
 rw [hb,Option.bind_some]
 by_cases hl:p.f_Spots.length≤12
 ·have e:decide (((p.f_Spots.length:Nat):Int) > 12)=false:=decide_eq_false (by omega)
  rw [e]
  cases b with
  | false=>exact ⟨_,rfl⟩
  | true =>
   refine ⟨scan (fun m=>cond (decide ((((p.f_Spots.getD m TSpot.d).f_Call.size:Nat):Int) > 40)) (some false) none) true p.f_Spots.length 0,?_⟩
   refine loop_scan0 (L:=fun fuel=>g_w06_Plan_short_L1 N p fuel) _ _ (show p.f_Spots.length < N by omega) (fun fuel m hm=>?_) (fun fuel=>?_)
   ·simp only [g_w06_Plan_short_L1,dec_lt hm,cond_true,if_pos (inb hm),w64_succ (show m < 9223372036854775807 by omega),toNat_nat]
    cases decide ((((p.f_Spots.getD m TSpot.d).f_Call.size:Nat):Int) > 40)<;>rfl
   ·simp only [g_w06_Plan_short_L1,dec_nlt,cond_false]
 ·have e:decide (((p.f_Spots.length:Nat):Int) > 12)=true:=decide_eq_true (by omega)
  rw [e]
  cases b<;>exact ⟨_,rfl⟩
end Go.Den
namespace Go.Den
open Go.Ab
theorem nd_inj {α:Type} {f:α→ByteArray} {l:List α} (h:(l.map f).Nodup) {a b:α} (ha:a∈l) (hb:b∈l) (e:f a=f b):a=b:=by
 obtain ⟨i,hi,rfl⟩:=List.getElem_of_mem ha
 obtain ⟨j,hj,rfl⟩:=List.getElem_of_mem hb
 have hp:=List.pairwise_iff_getElem.1 h
 rcases Nat.lt_trichotomy i j with h1 | h1 | h1
 ·have:=hp i j (by simpa using hi) (by simpa using hj) h1
  simp only [List.getElem_map] at this;exact absurd e this
 ·subst h1;rfl
 ·have:=hp j i (by simpa using hj) (by simpa using hi) h1
  simp only [List.getElem_map] at this;exact absurd e.symm this
theorem filt_len {α:Type} (f:α→ByteArray) (nm:ByteArray):∀ l:List α,(l.map f).Nodup→nm∈l.map f→(l.filter (fun x=>!streq (f x) nm)).length+1=l.length
 | [],_,h=>by cases h
 | a :: l,hn,hm=>by
  rw [List.map_cons,List.nodup_cons] at hn
  by_cases h:f a=nm
  ·have e:l.filter (fun x=>!streq (f x) nm)=l:=List.filter_eq_self.2 fun x hx=>by
    have:f x≠nm:=fun e=>hn.1 (by rw [h,← e];exact List.mem_map_of_mem hx)
    cases hs:streq (f x) nm with
    | false=>rfl
    | true=>exact absurd (streq_iff.1 hs) this
   rw [List.filter_cons_of_neg (by rw [streq_iff.2 h];decide),e];rfl
  ·have hm':nm∈l.map f:=by
    rw [List.map_cons] at hm
    rcases List.mem_cons.1 hm with h2 | h2
    ·exact absurd h2.symm h
    ·exact h2
   have hs:streq (f a) nm=false:=by
    cases hs:streq (f a) nm with
    | false=>rfl
    | true=>exact absurd (streq_iff.1 hs) h
   have:=filt_len f nm l hn.2 hm'
   rw [List.filter_cons_of_pos (by rw [hs];rfl)]
   simp only [List.length_cons];omega
theorem scan_z {f:Nat→Option Int} {z:Int} {n:Nat} (hf:∀ i,f i≠some 0) (h:scan f z n 0=0):(∀ i,i < n→f i=none)∧z=0:=by
 rcases scan_inv (f:=f) (z:=z) n 0 with ⟨i,r,_,_,h3,_,h5⟩ | ⟨h1,h2⟩
 ·rw [h5] at h;subst h;exact absurd h3 (hf i)
 ·exact ⟨fun i hi=>h1 i (Nat.zero_le _) (by omega),by rw [← h2,h]⟩
theorem getD_in {α:Type} {l:List α} {d:α} {i:Nat} (h:i < l.length):l.getD i d=l[i]:=by simp [List.getD,h]
def CallsOk (c:List TCall):Prop:=c.length≤8∧(∀ y∈c,nameOk y.f_Name=true∧callCode y=0)∧(c.map TCall.f_Name).Nodup
theorem dupC_iff {c:List TCall} {i:Nat}:dupCall c i=true↔∃ j,j < i∧(cl c j).f_Name=(cl c i).f_Name:=by
 unfold dupCall
 rw [scan_ex (p:=fun k=>streq (c.getD k TCall.d).f_Name (c.getD i TCall.d).f_Name)]
 constructor
 ·rintro ⟨j,h1,h2⟩;exact ⟨j,h1,streq_iff.1 h2⟩
 ·rintro ⟨j,h1,h2⟩;exact ⟨j,h1,streq_iff.2 h2⟩
theorem callsOk_iff {c:List TCall}:callsCode c=0↔CallsOk c:=by
 constructor
 ·intro h
  unfold callsCode at h
  cases h8:decide (((c.length:Nat):Int) > 8) with
  | true=>rw [h8] at h;cases h
  | false =>
   rw [h8,cond_false] at h
   have h8:=of_decide_eq_false h8
   have hz:=(scan_z (fun i hi=>by
    unfold stepCall at hi
    revert hi
    generalize callCode (c.getD i TCall.d)=z
    have hb:(z != 0)=!decide (z=0):=by by_cases hz:z=0<;>simp [hz]
    rw [hb]
    by_cases hz:z=0<;>cases nameOk (c.getD i TCall.d).f_Name<;>cases dupCall c i<;>simp [hz]) h).1
   have one:∀ i,i < c.length→nameOk (cl c i).f_Name=true∧dupCall c i=false∧callCode (cl c i)=0:=fun i hi=>by
    have:=hz i hi
    unfold stepCall at this
    unfold cl
    revert this
    generalize callCode (c.getD i TCall.d)=z
    have hb:(z != 0)=!decide (z=0):=by by_cases hz:z=0<;>simp [hz]
    rw [hb]
    by_cases hz:z=0<;>cases nameOk (c.getD i TCall.d).f_Name<;>cases dupCall c i<;>simp [hz]
   refine ⟨by omega,fun y hy=>?_,List.pairwise_iff_getElem.2 fun i j hi hj hij=>?_⟩
   ·obtain ⟨i,hi,rfl⟩:=List.getElem_of_mem hy
    have:=one i hi
    unfold cl at this
    rw [getD_in hi] at this
    exact ⟨this.1,this.2.2⟩
   ·simp only [List.length_map] at hi hj
    simp only [List.getElem_map]
    intro e
    have:=dupC_iff.2 ⟨i,hij,by unfold cl;rw [getD_in hi,getD_in hj];exact e⟩
    rw [(one j hj).2.1] at this;cases this
 ·rintro ⟨h1,h2,h3⟩
  unfold callsCode
  rw [decide_eq_false (by omega),cond_false]
  refine scan_all _ 0 fun i _ hi=>?_
  have hi:i < c.length:=by omega
  have hy:=h2 c[i] (List.getElem_mem hi)
  have hd:dupCall c i=false:=by
   cases hd:dupCall c i with
   | false=>rfl
   | true =>
    obtain ⟨j,hj,e⟩:=dupC_iff.1 hd
    have hjl:j < c.length:=by omega
    have:=List.pairwise_iff_getElem.1 h3 j i (by simpa using hjl) (by simpa using hi) hj
    simp only [List.getElem_map] at this
    unfold cl at e
    rw [getD_in hjl,getD_in hi] at e
    exact absurd e this
  unfold stepCall
  rw [hd,getD_in hi,hy.1,hy.2];rfl
def boxOf (x:TSpot) (y:TCall):Tberth_box:=⟨x.f_X,x.f_Y,y.f_Length,y.f_Beam⟩
structure Pl (d:TDock) (c:List TCall) (s:List TSpot):Prop where
 dk:docksCode [d]=0
 cc:CallsOk c
 len:s.length=c.length
 nd:(s.map TSpot.f_Call).Nodup
 spt:∀ x∈s,∃ y∈c,y.f_Name=x.f_Call∧ins x.f_X 0 1000000=true∧ins x.f_Y 0 1000000=true∧withinE d (boxOf x y)=true
 ap:∀ x∈s,∀ x'∈s,x.f_Call≠x'.f_Call→∀ y∈c,∀ y'∈c,y.f_Name=x.f_Call→y'.f_Name=x'.f_Call→apartE d.f_Gap (boxOf x y) (boxOf x' y')=true
section
variable {d:TDock} {c:List TCall} {s:List TSpot}
theorem spotStep_nz (i:Nat):spotStep d c s i≠some 0:=by
 unfold spotStep
 cases decide (callIx c (sp s i).f_Call < 0)<;>cases dupS s i<;>cases (ins (sp s i).f_X 0 1000000 && ins (sp s i).f_Y 0 1000000)<;>cases withinE d (boxS c s i)<;>decide
theorem pairStep_nz (i:Nat):pairStep d c s i≠some 0:=by
 unfold pairStep
 cases scan (fun j=>cond (!apartE d.f_Gap (boxS c s i) (boxS c s j)) (some true) none) false i 0<;>decide
theorem mem_sp {i:Nat} (hi:i < s.length):sp s i∈s:=by unfold sp;rw [getD_in hi];exact List.getElem_mem hi
theorem mem_cl {i:Nat} (hi:i < c.length):cl c i∈c:=by unfold cl;rw [getD_in hi];exact List.getElem_mem hi
theorem sp_of {x:TSpot} (h:x∈s):∃ i,i < s.length∧sp s i=x:=by
 obtain ⟨i,hi,rfl⟩:=List.getElem_of_mem h
 exact ⟨i,hi,by unfold sp;rw [getD_in hi]⟩
theorem cl_of {y:TCall} (h:y∈c):∃ i,i < c.length∧cl c i=y:=by
 obtain ⟨i,hi,rfl⟩:=List.getElem_of_mem h
 exact ⟨i,hi,by unfold cl;rw [getD_in hi]⟩
theorem callIx_of (hc:CallsOk c) {y:TCall} (hy:y∈c):0≤callIx c y.f_Name∧cl c (callIx c y.f_Name).toNat=y:=by
 rcases callIx_inv c y.f_Name with ⟨_,h2⟩ | ⟨i,h1,h2,h3⟩
 ·obtain ⟨i,hi,e⟩:=cl_of hy
  exact absurd (by rw [e]) (h2 i hi)
 ·rw [h2,toNat_nat]
  exact ⟨by omega,nd_inj hc.2.2 (mem_cl h1) hy h3⟩
theorem Pl.of (h:planCode d c s=0):Pl d c s:=by
 unfold planCode at h
 cases hb:bothCode d c != 0 with
 | true=>rw [hb,cond_true] at h;rw [h] at hb;cases hb
 | false =>
  rw [hb,cond_false] at h
  have hb:bothCode d c=0:=by simpa using hb
  cases hl:((s.length:Nat):Int) != ((c.length:Nat):Int) with
  | true=>rw [hl] at h;cases h
  | false =>
   rw [hl,cond_false] at h
   have hs:s.length=c.length:=by simp at hl;omega
   obtain ⟨hst,hz⟩:=scan_z spotStep_nz h
   have hpa:=(scan_z pairStep_nz hz).1
   have hdc:docksCode [d]=0∧callsCode c=0:=by
    unfold bothCode at hb
    cases h1:(docksCode [d] != 0) with
    | true=>rw [h1,cond_true] at hb;rw [hb] at h1;cases h1
    | false=>rw [h1,cond_false] at hb;exact ⟨by simpa using h1,hb⟩
   have hc:=callsOk_iff.1 hdc.2
   have ixx:∀ i,i < s.length→∀ y∈c,y.f_Name=(sp s i).f_Call→boxS c s i=boxOf (sp s i) y:=fun i hi y hy e=>by
    have:=(callIx_of hc hy).2
    rw [e] at this
    unfold boxS boxOf;rw [this]
   refine ⟨hdc.1,hc,hs,List.pairwise_iff_getElem.2 fun i j hi hj hij=>?_,fun x hx=>?_,fun x hx x' hx' hne y hy y' hy' e e'=>?_⟩
   ·simp only [List.length_map] at hi hj
    simp only [List.getElem_map]
    intro e
    have:=dup_iff.2 ⟨i,hij,by unfold sp;rw [getD_in hi,getD_in hj];exact e⟩
    rw [(spot_ok (hst j hj)).2.1] at this;cases this
   ·obtain ⟨i,hi,rfl⟩:=sp_of hx
    have hok:=spot_ok (hst i hi)
    have hix:=ix_ok (hst i hi)
    refine ⟨cl c (ixn c s i),mem_cl hix.1,hix.2.2,hok.2.2.1.1,hok.2.2.1.2,?_⟩
    rw [← ixx i hi _ (mem_cl hix.1) hix.2.2]
    exact hok.2.2.2
   ·obtain ⟨i,hi,rfl⟩:=sp_of hx
    obtain ⟨j,hj,rfl⟩:=sp_of hx'
    rw [← ixx i hi y hy e,← ixx j hj y' hy' e']
    have hall:allApart d.f_Gap (boxS c s) s.length:=fun i hi j hj=>by
     have:=hpa i hi
     unfold pairStep at this
     cases ha:apartE d.f_Gap (boxS c s i) (boxS c s j) with
     | true=>rfl
     | false =>
      rw [(scan_ex (p:=fun j=>!apartE d.f_Gap (boxS c s i) (boxS c s j)) i).2 ⟨j,hj,by rw [ha];rfl⟩] at this
      cases this
    exact allApart_sym.1 hall i j hi hj (fun e=>hne (by rw [e]))
theorem Pl.code (h:Pl d c s):planCode d c s=0:=by
 have hc:=h.cc
 unfold planCode bothCode
 rw [h.dk,callsOk_iff.2 hc]
 have e1:(((s.length:Nat):Int) != ((c.length:Nat):Int))=false:=by rw [h.len];simp
 have ixx:∀ i,i < s.length→∃ y∈c,y.f_Name=(sp s i).f_Call∧boxS c s i=boxOf (sp s i) y∧0≤callIx c (sp s i).f_Call∧ins (sp s i).f_X 0 1000000=true∧ins (sp s i).f_Y 0 1000000=true∧withinE d (boxOf (sp s i) y)=true:=fun i hi=>by
  obtain ⟨y,hy,e,h1,h2,h3⟩:=h.spt _ (mem_sp hi)
  obtain ⟨k1,k2⟩:=callIx_of hc hy
  rw [e] at k1 k2
  exact ⟨y,hy,e,by unfold boxS boxOf;rw [k2],k1,h1,h2,h3⟩
 have hnd:∀ i j,i < j→j < s.length→(sp s i).f_Call≠(sp s j).f_Call:=fun i j hij hj=>by
  have hi:i < s.length:=by omega
  have:=List.pairwise_iff_getElem.1 h.nd i j (by simpa using hi) (by simpa using hj) hij
  simp only [List.getElem_map] at this
  unfold sp;rw [getD_in hi,getD_in hj];exact this
 have h1:scan (pairStep d c s) 0 s.length 0=0:=scan_all _ 0 fun i _ hi=>by
  have hi:i < s.length:=by omega
  unfold pairStep
  cases hs:scan (fun j=>cond (!apartE d.f_Gap (boxS c s i) (boxS c s j)) (some true) none) false i 0 with
  | false=>rfl
  | true =>
   obtain ⟨j,hj,ha⟩:=(scan_ex (p:=fun j=>!apartE d.f_Gap (boxS c s i) (boxS c s j)) i).1 hs
   obtain ⟨y,hy,e,hb,_⟩:=ixx i hi
   obtain ⟨y',hy',e',hb',_⟩:=ixx j (by omega)
   rw [hb,hb',h.ap _ (mem_sp hi) _ (mem_sp (by omega)) (fun e=>hnd j i hj hi e.symm) y hy y' hy' e e'] at ha
   cases ha
 have h2:scan (spotStep d c s) (scan (pairStep d c s) 0 s.length 0) s.length 0=0:=by
  rw [h1]
  refine scan_all _ 0 fun i _ hi=>?_
  have hi:i < s.length:=by omega
  obtain ⟨y,hy,e,hb,k1,k2,k3,k4⟩:=ixx i hi
  have hd:dupS s i=false:=by
   cases hd:dupS s i with
   | false=>rfl
   | true =>
    obtain ⟨j,hj,e⟩:=dup_iff.1 hd
    exact absurd e (hnd j i hj hi)
  unfold spotStep
  rw [hb,decide_eq_false (by omega),hd,k2,k3,k4];rfl
 rw [e1,h2];rfl
theorem Pl.boxed {N:Nat} (hN:100 < N) (h:Pl d c s):∃ r,g_berth_boxes N d c s=some r∧r.2=0∧Boxed d c s r.1:=by
 obtain ⟨r,h1,h2,h3⟩:=boxes_eq hN d c s
 rw [h.code] at h2 h3
 rcases h3 with ⟨_,h3⟩ | ⟨h3,_⟩
 ·exact ⟨r,h1,h2,h3⟩
 ·exact absurd rfl h3
theorem Pl.box {out:List Tberth_box} (h:Pl d c s) (hb:Boxed d c s out) {r:Nat} (hr:r < c.length) {x:TSpot} {y:TCall} (hx:x∈s) (hy:y∈c) (e1:x.f_Call=y.f_Name) (e2:y.f_Name=(cl c r).f_Name):bx out r=boxOf x y:=by
 obtain ⟨i,hi,rfl⟩:=hb.on r hr
 have hn:=(ix_ok (hb.ok i hi)).2.2
 have hx':x=sp s i:=nd_inj h.nd hx (mem_sp hi) (by rw [e1,e2,hn])
 have hy':y=cl c (ixn c s i):=nd_inj h.cc.2.2 hy (mem_cl hr) e2
 rw [hb.at_ i hi,hx',hy'];rfl
theorem Pl.drop (h:Pl d c s) {nm:ByteArray} (hm:nm∈c.map TCall.f_Name):Pl d (c.filter fun y=>!streq y.f_Name nm) (s.filter fun x=>!streq x.f_Call nm):=by
 have hms:nm∈s.map TSpot.f_Call:=by
  obtain ⟨r,_,_,hb⟩:=h.boxed (N:=200) (by decide)
  obtain ⟨y,hy,e⟩:=List.mem_map.1 hm
  obtain ⟨k,hk,e2⟩:=cl_of hy
  obtain ⟨i,hi,e3⟩:=hb.on k hk
  have hn:=(ix_ok (hb.ok i hi)).2.2
  rw [e3,e2,e] at hn
  rw [hn];exact List.mem_map_of_mem (mem_sp hi)
 have l1:=filt_len TCall.f_Name nm c h.cc.2.2 hm
 have l2:=filt_len TSpot.f_Call nm s h.nd hms
 have hlen:=h.len
 refine ⟨h.dk,⟨by have:=h.cc.1;omega,fun y hy=>h.cc.2.1 y (List.mem_filter.1 hy).1,h.cc.2.2.sublist ((List.filter_sublist).map _)⟩,by omega,h.nd.sublist ((List.filter_sublist).map _),fun x hx=>?_,fun x hx x' hx' hne y hy y' hy'=>h.ap x (List.mem_filter.1 hx).1 x' (List.mem_filter.1 hx').1 hne y (List.mem_filter.1 hy).1 y' (List.mem_filter.1 hy').1⟩
 obtain ⟨hx1,hx2⟩:=List.mem_filter.1 hx
 obtain ⟨y,hy,e,h3⟩:=h.spt x hx1
 exact ⟨y,List.mem_filter.2 ⟨hy,by rw [e];exact hx2⟩,e,h3⟩
structure Turn (d:TDock) (c:List TCall) (out:List Tberth_box) (G:List ByteArray) (nm:ByteArray):Prop where
 ex:∃ r,r < c.length∧(cl c r).f_Name=nm∧nm ∉ G∧∀ t,t < c.length→(cl c t).f_Name ∉ G→blE d (bx out t) (bx out r)=false
end
section
variable {p:Tw06_Plan} {N:Nat} {O:List ByteArray} {m:Int} {i:Nat}
end
end Go.Den
set_option linter.unusedSimpArgs false
namespace Go.Den
open Go.Ab
def addS (out:List Int) (a:Int):List Int:=out ++ out.map (fun x=>x+a)
theorem getD_l {α:Type} {l m:List α} {k:Nat} {d:α} (h:k < l.length):(l ++ m).getD k d=l.getD k d:=by simp [List.getD,List.getElem?_append_left h]
theorem addS_loop {R:Type} {L:Nat→List Int→Int→Option R} {K:List Int→Option R} {out:List Int} {a:Int}
  (hstep:∀ fuel (o2:List Int) (k:Nat),k < out.length→o2.getD k 0=out.getD k 0→o2.length=out.length+k→L (fuel+1) o2 (k:Int)=L fuel (o2 ++ [out.getD k 0+a]) ((k+1:Nat):Int))
  (hend:∀ fuel o2,L (fuel+1) o2 ((out.length:Nat):Int)=K o2):∀ (m k fuel:Nat),k+m=out.length→m < fuel→L fuel (out ++ (out.take k).map (fun x=>x+a)) (k:Int)=K (addS out a)
 | 0,k,fuel,hk,hf=>by
  obtain ⟨g,rfl⟩:∃ g,fuel=g+1:=⟨fuel - 1,by omega⟩
  have:k=out.length:=by omega
  subst this
  rw [hend,List.take_length];rfl
 | m+1,k,fuel,hk,hf=>by
  obtain ⟨g,rfl⟩:∃ g,fuel=g+1:=⟨fuel - 1,by omega⟩
  have hlt:k < out.length:=by omega
  rw [hstep g _ k hlt (getD_l hlt) (by simp;omega),List.append_assoc]
  have e:(out.take k).map (fun x=>x+a) ++ [out.getD k 0+a]=(out.take (k+1)).map (fun x=>x+a):=by
   rw [List.take_succ_eq_append_getElem hlt,List.map_append]
   simp [List.getD,hlt]
  rw [e]
  exact addS_loop hstep hend m (k+1) g (by omega) (by omega)
theorem addS_loop0 {R:Type} {L:Nat→List Int→Int→Option R} {K:List Int→Option R} {out:List Int} {a:Int} {fuel:Nat} (hf:out.length < fuel)
  (hstep:∀ fuel (o2:List Int) (k:Nat),k < out.length→o2.getD k 0=out.getD k 0→o2.length=out.length+k→L (fuel+1) o2 (k:Int)=L fuel (o2 ++ [out.getD k 0+a]) ((k+1:Nat):Int))
  (hend:∀ fuel o2,L (fuel+1) o2 ((out.length:Nat):Int)=K o2):L fuel out 0=K (addS out a):=by
 have:=addS_loop hstep hend out.length 0 fuel (by omega) hf
 simpa using this
def oth (f:Nat→Int) (k:Nat):Nat→List Int
 | 0=>[]
 | n+1=>oth f k n ++ (if n=k then [] else [f n])
def Small (out:List Int) (b:Int) (n:Nat):Prop:=out.length≤n∧∀ x,x∈out→0≤x∧x≤b
theorem Small.add {out:List Int} {b a:Int} {n:Nat} (h:Small out b n) (ha:0≤a∧a≤2000000):Small (addS out a) (b+2000000) (2 * n):=by
 refine ⟨by simp [addS];have:=h.1;omega,fun x hx=>?_⟩
 simp only [addS,List.mem_append,List.mem_map] at hx
 rcases hx with hx | ⟨y,hy,rfl⟩
 ·have:=h.2 x hx;omega
 ·have:=h.2 y hy;omega
theorem mem_getD {α:Type} {l:List α} {k:Nat} {d:α} (h:k < l.length):l.getD k d∈l:=by simp [List.getD,h]
def sumS (g:Int) (l:List Int):List Int:=l.foldl addS [g]
theorem sumS_snoc (g:Int) (l:List Int) (a:Int):sumS g (l ++ [a])=addS (sumS g l) a:=by simp [sumS]
theorem sumS_small {g:Int} (hg:0≤g∧g≤1000000):∀ (l:List Int),(∀ x,x∈l→0≤x∧x≤2000000)→Small (sumS g l) (1000000+2000000 * l.length) (2 ^ l.length):=by
 intro l
 induction hn:l.length generalizing l with
 | zero =>
  intro _
  have:l=[]:=List.length_eq_zero_iff.1 hn
  subst this
  exact ⟨by simp [sumS],fun x hx=>by simp [sumS] at hx;omega⟩
 | succ n ih =>
  intro h
  obtain ⟨m,a,rfl⟩:∃ m a,l=m ++ [a]:=⟨l.dropLast,l.getLast (by intro e;simp [e] at hn),(List.dropLast_concat_getLast _).symm⟩
  rw [sumS_snoc]
  have:=(ih m (by simpa using hn) fun x hx=>h x (by simp [hx])).add (h a (by simp))
  refine ⟨by have:=this.1;rw [Nat.pow_succ];omega,fun x hx=>by have:=this.2 x hx;omega⟩
theorem berthSums_L3 {N:Nat} {sizes:List Int} {but gap:Int} {out:List Int} {x:Nat} (hx:x < sizes.length) {K:List Int→Int→Option (List Int)} (hN:out.length < N) {b:Int} (hs:Small out b 256) (hb:b≤100000000)
  (hg:0≤gap∧gap≤1000000) (hz:0≤sizes.getD x 0∧sizes.getD x 0≤1000000) (o0:List Int) (ho:o0.length=out.length) :
  g_berth_sums_L3 N sizes but gap o0 (x:Int) K N out out.length 0=K (addS out (sizes.getD x 0+gap)) ((x+1:Nat):Int)∨sizes.length≥9223372036854775807:=by
 by_cases hbig:sizes.length≥9223372036854775807
 ·exact .inr hbig
 left
 have e:w64 ((x:Int)+1)=((x+1:Nat):Int):=w64_succ (by omega)
 refine addS_loop0 (L:=fun fuel o k=>g_berth_sums_L3 N sizes but gap o0 (x:Int) K fuel o out.length k) (K:=fun o=>K o ((x+1:Nat):Int)) hN (fun fuel o2 k hk h1 h2=>?_) (fun fuel o2=>?_)
 ·have hv:=hs.2 _ (mem_getD (d:=0) hk)
  have e1:w64 (w64 (out.getD k 0+sizes.getD x 0)+gap)=out.getD k 0+(sizes.getD x 0+gap):=by rw [w64_eq (n:=out.getD k 0+sizes.getD x 0) (by omega) (by omega),w64_eq (by omega) (by omega)];omega
  have hl:=hs.1
  simp only [g_berth_sums_L3,ho,dec_lt hk,cond_true,if_pos (inb hk),toNat_nat,h1,e1,w64_succ (show k < 9223372036854775807 by omega),if_pos (show 0+out.length≤o2.length by omega),if_pos (show (o2.length+1) * 8≤140737488355328 by omega)]
 ·simp only [g_berth_sums_L3,ho,dec_nlt,cond_false,g_berth_sums_J2,e]
theorem berthSums_L1 {N:Nat} {sizes:List Int} {but gap:Int} {k:Nat} (hbut:but=(k:Int)) (hl:sizes.length≤8) (hN:300 < N) (hg:0≤gap∧gap≤1000000) (hz:∀ z,z∈sizes→0≤z∧z≤1000000):∀ (m x fuel:Nat),x+m=sizes.length→m < fuel →
  g_berth_sums_L1 N sizes but gap fuel (sumS gap (oth (fun i=>sizes.getD i 0+gap) k x)) (x:Int)=g_berth_sums_L1 N sizes but gap (fuel - m) (sumS gap (oth (fun i=>sizes.getD i 0+gap) k sizes.length)) ((sizes.length:Nat):Int)
 | 0,x,fuel,hx,hf=>by
  have:x=sizes.length:=by omega
  subst this;rfl
 | m+1,x,fuel,hx,hf=>by
  obtain ⟨g,rfl⟩:∃ g,fuel=g+1:=⟨fuel - 1,by omega⟩
  have hlt:x < sizes.length:=by omega
  have ih:=berthSums_L1 hbut hl hN hg hz m (x+1) g (by omega) (by omega)
  have e:w64 ((x:Int)+1)=((x+1:Nat):Int):=w64_succ (by omega)
  rw [g_berth_sums_L1]
  simp only [dec_lt hlt,cond_true,if_pos (inb hlt)]
  rw [show g+1 - (m+1)=g - m by omega,← ih]
  have hoth:∀ (f:Nat→Int) (n:Nat),(oth f k n).length≤n:=by
   intro f n
   induction n with
   | zero=>simp [oth]
   | succ n ih=>simp only [oth,List.length_append];split<;>simp<;>omega
  have hmem:∀ n,n≤sizes.length→∀ y,y∈oth (fun i=>sizes.getD i 0+gap) k n→0≤y∧y≤2000000:=by
   intro n
   induction n with
   | zero=>intro _ y hy;simp [oth] at hy
   | succ n ih =>
    intro hn y hy
    simp only [oth,List.mem_append] at hy
    rcases hy with hy | hy
    ·exact ih (by omega) y hy
    ·split at hy
     ·simp at hy
     ·simp only [List.mem_singleton] at hy
      have:=hz _ (mem_getD (d:=0) (show n < sizes.length by omega));omega
  by_cases hxb:x=k
  ·have hc:((x:Int) == but)=true:=by rw [hbut,hxb];simp
   rw [hc,cond_true,g_berth_sums_J2,e]
   have:oth (fun i=>sizes.getD i 0+gap) k (x+1)=oth (fun i=>sizes.getD i 0+gap) k x:=by simp [oth,hxb]
   rw [this]
  ·have hc:((x:Int) == but)=false:=by rw [hbut];simp;omega
   rw [hc,cond_false]
   have ho:oth (fun i=>sizes.getD i 0+gap) k (x+1)=oth (fun i=>sizes.getD i 0+gap) k x ++ [sizes.getD x 0+gap]:=by simp [oth,hxb]
   rw [ho,sumS_snoc]
   have hl2:=hoth (fun i=>sizes.getD i 0+gap) x
   have hsm:=sumS_small hg _ (hmem x (by omega))
   have hp:2 ^ (oth (fun i=>sizes.getD i 0+gap) k x).length≤2 ^ 8:=Nat.pow_le_pow_right (by omega) (by omega)
   have hp:2 ^ (oth (fun i=>sizes.getD i 0+gap) k x).length≤256:=hp
   rcases berthSums_L3 (N:=N) (but:=but) (gap:=gap) (K:=g_berth_sums_L1 N sizes but gap g) hlt (by have:=hsm.1;omega) (out:=sumS gap (oth (fun i=>sizes.getD i 0+gap) k x)) (b:=100000000) ⟨by have:=hsm.1;omega,fun y hy=>by have:=hsm.2 y hy;omega⟩ (by omega) hg (hz _ (mem_getD hlt)) _ rfl with h | h
   ·exact h
   ·omega
end Go.Den
set_option linter.unusedSimpArgs false
namespace Go.Den
open Go.Ab
def sink:List Int→Int→List Int→List Int
 | [],x,p=>x :: p
 | y :: q,x,p=>if x < y then sink q x (y :: p) else (y :: q).reverse ++ x :: p
theorem sink_len:∀ (q:List Int) (x:Int) (p:List Int),(sink q x p).length=q.length+1+p.length
 | [],x,p=>by simp [sink];omega
 | y :: q,x,p=>by
  rw [sink];split
  ·rw [sink_len q];simp;omega
  ·simp;omega
def srt:List Int→List Int→List Int
 | pre,[]=>pre
 | pre,x :: post=>srt (sink pre.reverse x []) post
theorem getD_mid {a b:List Int} {x:Int}:(a ++ x :: b).getD a.length 0=x:=by simp [List.getD]
theorem set_mid {a b:List Int} {x y:Int}:(a ++ x :: b).set a.length y=a ++ y :: b:=by simp [List.set_append]
theorem less_eq (N:Nat) (x y:Int):g_cmp_Less_int N x y=some (decide (x < y)):=by
 simp [g_cmp_Less_int,g_cmp_isNaN_int]
theorem ins_L2 {N:Nat} {b i:Int} {K:List Int→Int→Option (List Int)}:∀ (q:List Int) (x:Int) (p post:List Int) (fuel:Nat),q.length < fuel→q.length < 1000000 →
  g_slices_insertionSortOrdered_int_L2 N 0 b i K fuel (q.reverse ++ x :: (p ++ post)) ((q.length:Nat):Int)=K (sink q x p ++ post) (w64 (i+1))
 | [],x,p,post,fuel,hf,_=>by
  obtain ⟨g,rfl⟩:∃ g,fuel=g+1:=⟨fuel - 1,by omega⟩
  simp [g_slices_insertionSortOrdered_int_L2,sink]
 | y :: r,x,p,post,fuel,hf,hb=>by
  obtain ⟨g,rfl⟩:∃ g,fuel=g+1:=⟨fuel - 1,by omega⟩
  have hb:r.length+1 < 1000000:=hb
  have e1:w64 ((((y :: r).length:Nat):Int) - 1)=((r.length:Nat):Int):=by rw [w64_eq (by simp only [List.length_cons];omega) (by simp only [List.length_cons];omega)];simp
  have hpos:decide ((((y :: r).length:Nat):Int) > 0)=true:=by simp
  have hlen:((y :: r).reverse ++ x :: (p ++ post)).length=r.length+1+1+(p ++ post).length:=by simp only [List.length_append,List.length_reverse,List.length_cons];omega
  have g1:((y :: r).reverse ++ x :: (p ++ post)).getD (y :: r).length 0=x:=by
   have:=getD_mid (a:=(y :: r).reverse) (b:=p ++ post) (x:=x)
   rwa [List.length_reverse] at this
  have ee:(y :: r).reverse ++ x :: (p ++ post)=r.reverse ++ y :: (x :: (p ++ post)):=by simp
  have g2:((y :: r).reverse ++ x :: (p ++ post)).getD r.length 0=y:=by
   have:=getD_mid (a:=r.reverse) (b:=x :: (p ++ post)) (x:=y)
   rw [ee];rwa [List.length_reverse] at this
  have s1:(((y :: r).reverse ++ x :: (p ++ post)).set (y :: r).length y).set r.length x=r.reverse ++ x :: ((y :: p) ++ post):=by
   have a1:=set_mid (a:=(y :: r).reverse) (b:=p ++ post) (x:=x) (y:=y)
   rw [List.length_reverse] at a1
   rw [a1,show (y :: r).reverse ++ y :: (p ++ post)=r.reverse ++ y :: (y :: (p ++ post)) by simp]
   have a2:=set_mid (a:=r.reverse) (b:=y :: (p ++ post)) (x:=y) (y:=x)
   rw [List.length_reverse] at a2
   rw [a2];rfl
  have i1:0≤(((y :: r).length:Nat):Int)∧(((y :: r).length:Nat):Int) < ((((y :: r).reverse ++ x :: (p ++ post)).length:Nat):Int):=by rw [hlen];simp;omega
  have i2:0≤((r.length:Nat):Int)∧((r.length:Nat):Int) < ((((y :: r).reverse ++ x :: (p ++ post)).length:Nat):Int):=by rw [hlen];omega
  rw [g_slices_insertionSortOrdered_int_L2]
  simp only [e1,hpos,cond_true,toNat_nat,g1,g2,less_eq,Option.bind_some,if_pos i1,if_pos i2,if_pos (fun _=>i1),if_pos (fun _=>i2),s1]
  rw [sink]
  by_cases hxy:x < y
  ·rw [decide_eq_true hxy,cond_true,if_pos hxy]
   exact ins_L2 r x (y :: p) post g (by simp at hf;omega) (by omega)
  ·rw [decide_eq_false hxy,cond_false,if_neg hxy,List.append_assoc];rfl
theorem ins_L1 {N:Nat} {b:Int}:∀ (post pre:List Int) (fuel:Nat),post.length < fuel→b=(((pre ++ post).length:Nat):Int)→pre.length+post.length < 1000000→pre.length+post.length < N →
  g_slices_insertionSortOrdered_int_L1 N 0 b fuel (pre ++ post) ((pre.length:Nat):Int)=some (srt pre post)
 | [],pre,fuel,hf,hb,_,_=>by
  obtain ⟨g,rfl⟩:∃ g,fuel=g+1:=⟨fuel - 1,by omega⟩
  rw [g_slices_insertionSortOrdered_int_L1,hb,List.append_nil,dec_nlt,cond_false];rfl
 | x :: post,pre,fuel,hf,hb,hs,hN=>by
  obtain ⟨g,rfl⟩:∃ g,fuel=g+1:=⟨fuel - 1,by omega⟩
  simp only [List.length_cons] at hs hN hf
  rw [g_slices_insertionSortOrdered_int_L1]
  have hlt:pre.length < (pre ++ x :: post).length:=by simp
  have e:=ins_L2 (N:=N) (b:=b) (i:=((pre.length:Nat):Int)) (K:=g_slices_insertionSortOrdered_int_L1 N 0 b g) pre.reverse x [] post N (by simp;omega) (by simp;omega)
  simp only [List.reverse_reverse,List.length_reverse,List.nil_append] at e
  rw [hb,dec_lt hlt,cond_true,← hb,e,w64_succ (by omega)]
  have hl:=sink_len pre.reverse x []
  simp only [List.length_reverse,List.length_nil,Nat.add_zero] at hl
  have h2:b=(((sink pre.reverse x [] ++ post).length:Nat):Int):=by
   rw [hb,List.length_append,List.length_append,hl,List.length_cons];omega
  have:=ins_L1 (N:=N) (b:=b) post (sink pre.reverse x []) g (by omega) h2 (by omega) (by omega)
  rw [hl] at this
  rw [this];rfl
theorem srt_len:∀ (post pre:List Int),(srt pre post).length=pre.length+post.length
 | [],pre=>by simp [srt]
 | x :: post,pre=>by rw [srt,srt_len post,sink_len];simp;omega
theorem sort_eq {N:Nat} {x:Int} {l:List Int} (hl:l.length≤11) (hN:20 < N) (hb:∃ r,g_math_bits_Len N (IntKind.u64.wrap (((x :: l).length:Nat):Int))=some r):g_slices_Sort_int_int N (x :: l)=some (srt [x] l):=by
 obtain ⟨r,hr⟩:=hb
 obtain ⟨M,rfl⟩:∃ M,N=M+1:=⟨N - 1,by omega⟩
 unfold g_slices_Sort_int_int
 rw [hr,Option.bind_some,g_slices_pdqsortOrdered_int,g_slices_pdqsortOrdered_int_L1]
 have hd:decide (w64 ((((x :: l).length:Nat):Int) - 0)≤12)=true:=by rw [w64_eq (by simp;omega) (by simp;omega)];simp;omega
 have hi:=ins_L1 (N:=M+1) (b:=(((x :: l).length:Nat):Int)) l [x] (M+1) (by omega) rfl (by simp;omega) (by simp;omega)
 have hlen:(srt [x] l).length=(x :: l).length:=by rw [srt_len];simp;omega
 rw [hd,cond_true]
 unfold g_slices_insertionSortOrdered_int
 have e1:w64 (0+1)=(([x].length:Nat):Int):=rfl
 have hi:g_slices_insertionSortOrdered_int_L1 (M+1) 0 (((x :: l).length:Nat):Int) (M+1) (x :: l) (([x].length:Nat):Int)=some (srt [x] l):=hi
 rw [e1,hi,Option.bind_some,if_pos hlen,Option.bind_some,if_pos hlen]
end Go.Den
set_option linter.unusedSimpArgs false
namespace Go.Den
open Go.Ab
def nrm (g:Int):List Int→List Int
 | []=>[g]
 | [a]=>[g,g+a]
 | a :: b :: _=>if a < b then [g,g+a,g+b,g+a+b] else if a=b then [g,g+a,g+a+b] else [g,g+b,g+a,g+a+b]
theorem compact_nd {N:Nat} {l:List Int} (hl:l.length < 1000) (hN:l.length < N) (h:∀ k,1≤k→k < l.length→l.getD k 0≠l.getD (k - 1) 0):g_slices_Compact_int_int N l=some (l,l):=by
 unfold g_slices_Compact_int_int
 by_cases h2:l.length < 2
 ·rw [decide_eq_true (by omega)];rfl
 ·rw [decide_eq_false (by omega),cond_false]
  have key:∀ m k fuel,1≤k→k+m=l.length→m < fuel→g_slices_Compact_int_int_L1 N l fuel (k:Int)=some (l,l):=by
   intro m
   induction m with
   | zero =>
    intro k fuel h1 hk hf
    obtain ⟨g,rfl⟩:∃ g,fuel=g+1:=⟨fuel - 1,by omega⟩
    have:k=l.length:=by omega
    rw [g_slices_Compact_int_int_L1,this,dec_nlt];rfl
   | succ m ih =>
    intro k fuel h1 hk hf
    obtain ⟨g,rfl⟩:∃ g,fuel=g+1:=⟨fuel - 1,by omega⟩
    have hlt:k < l.length:=by omega
    have e1:w64 ((k:Int) - 1)=((k - 1:Nat):Int):=by rw [w64_eq (by omega) (by omega)];omega
    have hc:(l.getD k 0 == l.getD (k - 1) 0)=false:=by simpa using h k h1 hlt
    rw [g_slices_Compact_int_int_L1,dec_lt hlt,cond_true,if_pos (inb hlt),e1,if_pos (inb (by omega)),toNat_nat,toNat_nat,hc,cond_false,w64_succ (by omega)]
    exact ih (k+1) g (by omega) (by omega) (by omega)
  exact key (l.length - 1) 1 N (by omega) (by omega) (by omega)
theorem compact_dup {N:Nat} {g u v:Int} (h1:g≠u) (h2:u≠v) (hN:10 < N):g_slices_Compact_int_int N [g,u,u,v]=some ([g,u,v],[g,u,v]):=by
 obtain ⟨M,rfl⟩:∃ M,N=M+1+1+1:=⟨N - 3,by omega⟩
 have a0:w64 (1 - 1)=0:=by decide
 have a1:w64 (2 - 1)=1:=by decide
 have a2:w64 (1+1)=2:=by decide
 have a3:w64 (2+1)=3:=by decide
 have nb1:(u == g)=false:=by simpa using fun e=>h1 e.symm
 have nb2:(v != u)=true:=by simpa using fun e=>h2 e.symm
 have e2:∀ K,g_slices_Compact_int_int_L2 (M+1+1+1) [g,u,u,v] 2 K (M+1+1+1) [g,u,u,v] 2 1=some ([g,u,v],[g,u,v]):=by
  intro K
  rw [g_slices_Compact_int_int_L2]
  simp only [List.length_cons,List.length_nil]
  simp only [show decide ((1:Int) < ((0+1+1+1+1 - (2:Int).toNat:Nat):Int))=true from rfl,cond_true,show (2:Int).toNat=2 from rfl,show (1:Int).toNat=1 from rfl,a0,show (0:Int).toNat=0 from rfl]
  rw [if_pos (by decide),if_pos (by decide),if_pos (by decide)]
  rw [show ([g,u,u,v].getD (addz 2 1) 0 != [g,u,u,v].getD (addz 2 0) 0)=true from nb2,cond_true,if_pos (by decide),g_slices_Compact_int_int_J3,a2,a3]
  rw [show [g,u,u,v].set 2 ([g,u,u,v].getD (addz 2 1) 0)=[g,u,v,v] from rfl,g_slices_Compact_int_int_L2]
  rfl
 unfold g_slices_Compact_int_int
 rw [show decide ((([g,u,u,v].length:Nat):Int) < 2)=false from rfl,cond_false,g_slices_Compact_int_int_L1]
 simp only [List.length_cons,List.length_nil,a0]
 rw [show decide ((1:Int) < ((0+1+1+1+1:Nat):Int))=true from rfl,cond_true,if_pos (by decide),if_pos (by decide)]
 rw [show ([g,u,u,v].getD (1:Int).toNat 0 == [g,u,u,v].getD (0:Int).toNat 0)=false from nb1,cond_false,a2,g_slices_Compact_int_int_L1]
 simp only [List.length_cons,List.length_nil,a1]
 rw [show decide ((2:Int) < ((0+1+1+1+1:Nat):Int))=true from rfl,cond_true,if_pos (by decide),if_pos (by decide)]
 rw [show ([g,u,u,v].getD (2:Int).toNat 0 == [g,u,u,v].getD (1:Int).toNat 0)=true from by show (u == u)=true;simp,cond_true,if_pos (by decide),if_pos (by decide)]
 exact e2 _
theorem bits1 (N:Nat):g_math_bits_Len N (IntKind.u64.wrap ((1:Nat):Int))=some 1:=by kernel_rfl
theorem bits2 (N:Nat):g_math_bits_Len N (IntKind.u64.wrap ((2:Nat):Int))=some 2:=by kernel_rfl
theorem bits4 (N:Nat):g_math_bits_Len N (IntKind.u64.wrap ((4:Nat):Int))=some 3:=by kernel_rfl
theorem sortedSums {N:Nat} (hN:30 < N) {g:Int} {l:List Int} (hl:l.length≤2) (ha:∀ x,x∈l→1≤x):∃ r,g_slices_Sort_int_int N (sumS g l)=some r∧r.length=(sumS g l).length∧g_slices_Compact_int_int N r=some (nrm g l,nrm g l):=by
 match l,hl with
 | [],_=>exact ⟨[g],sort_eq (by simp) (by omega) ⟨_,bits1 N⟩,rfl,by unfold g_slices_Compact_int_int;rfl⟩
 | [a],_ =>
  have h1:=ha a (by simp)
  refine ⟨[g,g+a],?_,rfl,compact_nd (N:=N) (l:=[g,g+a]) (by simp) (by simp;omega) (fun k h1 h2=>?_)⟩
  ·have es:=sort_eq (N:=N) (x:=g) (l:=[g+a]) (by simp) (by omega) ⟨_,bits2 N⟩
   rw [show sumS g [a]=g :: [g+a] from rfl,es]
   simp [srt,sink,show ¬ g+a < g by omega]
  ·have:k=1:=by simp at h2;omega
   subst this;show g+a≠g;omega
 | [a,b],_ =>
  have h1:=ha a (by simp)
  have h2:=ha b (by simp)
  have e:sumS g [a,b]=g :: [g+a,g+b,g+a+b]:=rfl
  have es:=sort_eq (N:=N) (x:=g) (l:=[g+a,g+b,g+a+b]) (by simp) (by omega) ⟨_,bits4 N⟩
  have c1:¬ g+a < g:=by omega
  have c2:¬ g+b < g:=by omega
  have c4:¬ g+a+b < g+a:=by omega
  have c5:¬ g+a+b < g+b:=by omega
  rw [e]
  rcases Int.lt_trichotomy a b with h | h | h
  ·have c6:¬ g+b < g+a:=by omega
   refine ⟨[g,g+a,g+b,g+a+b],by rw [es];simp [srt,sink,c1,c2,c4,c5,c6],rfl,?_⟩
   rw [show nrm g [a,b]=[g,g+a,g+b,g+a+b] by simp [nrm,h]]
   refine compact_nd (by simp) (by simp;omega) (fun k h3 h4=>?_)
   have:k=1∨k=2∨k=3:=by simp at h4;omega
   rcases this with rfl | rfl | rfl
   ·show g+a≠g;omega
   ·show g+b≠g+a;omega
   ·show g+a+b≠g+b;omega
  ·subst h
   refine ⟨[g,g+a,g+a,g+a+a],by rw [es];simp [srt,sink,c1,c2,c4,c5],rfl,?_⟩
   rw [show nrm g [a,a]=[g,g+a,g+a+a] by simp [nrm]]
   exact compact_dup (by omega) (by omega) (by omega)
  ·have c6:g+b < g+a:=by omega
   refine ⟨[g,g+b,g+a,g+a+b],by rw [es];simp [srt,sink,c1,c2,c4,c5,c6],rfl,?_⟩
   rw [show nrm g [a,b]=[g,g+b,g+a,g+a+b] by simp [nrm,show ¬ a < b by omega,show ¬ a=b by omega]]
   refine compact_nd (by simp) (by simp;omega) (fun k h3 h4=>?_)
   have:k=1∨k=2∨k=3:=by simp at h4;omega
   rcases this with rfl | rfl | rfl
   ·show g+b≠g;omega
   ·show g+a≠g+b;omega
   ·show g+a+b≠g+a;omega
theorem oth_len3 {f:Nat→Int} {k n:Nat} (hk:k < n) (hn:n≤3):(oth f k n).length≤2:=by
 have:n=1∨n=2∨n=3:=by omega
 rcases this with rfl | rfl | rfl
 ·have:k=0:=by omega
  subst this;simp [oth]
 ·have:k=0∨k=1:=by omega
  rcases this with rfl | rfl<;>simp [oth]
 ·have:k=0∨k=1∨k=2:=by omega
  rcases this with rfl | rfl | rfl<;>simp [oth]
theorem oth_mem {f:Nat→Int} {k:Nat}:∀ {n:Nat} {y:Int},y∈oth f k n↔∃ i,i < n∧i≠k∧y=f i
 | 0,y=>by simp [oth]
 | n+1,y=>by
  simp only [oth,List.mem_append,oth_mem (n:=n)]
  constructor
  ·rintro (⟨i,h1,h2,h3⟩ | h)
   ·exact ⟨i,by omega,h2,h3⟩
   ·split at h
    ·simp at h
    ·rename_i hne;simp at h;exact ⟨n,by omega,hne,h⟩
  ·rintro ⟨i,h1,h2,h3⟩
   by_cases hi:i=n
   ·right;subst hi;rw [if_neg h2];simp [h3]
   ·exact .inl ⟨i,by omega,h2,h3⟩
theorem berthSums_eq {N:Nat} (hN:400 < N) {sizes:List Int} {gap:Int} {k:Nat} (hk:k < sizes.length) (hl:sizes.length≤3) (hg:0≤gap∧gap≤1000000) (hz:∀ z,z∈sizes→1≤z∧z≤1000000) :
  g_berth_sums N sizes (k:Int) gap=some (nrm gap (oth (fun i=>sizes.getD i 0+gap) k sizes.length)):=by
 unfold g_berth_sums
 have h1:=berthSums_L1 (N:=N) (sizes:=sizes) (but:=(k:Int)) (gap:=gap) rfl (by omega) (by omega) hg (fun z hz'=>by have:=hz z hz';omega) sizes.length 0 N (by omega) (by omega)
 have h0:sumS gap (oth (fun i=>sizes.getD i 0+gap) k 0)=[gap]:=rfl
 rw [h0] at h1
 refine h1.trans ?_
 obtain ⟨f,hf⟩:∃ f,N - sizes.length=f+1:=⟨N - sizes.length - 1,by omega⟩
 rw [hf,g_berth_sums_L1,dec_nlt,cond_false]
 obtain ⟨r,r1,r2,r3⟩:=sortedSums (N:=N) (by omega) (g:=gap) (oth_len3 (f:=fun i=>sizes.getD i 0+gap) hk hl) (fun x hx=>by
  obtain ⟨i,q1,_,rfl⟩:=oth_mem.1 hx
  have:=hz _ (mem_getD (d:=0) q1);omega)
 rw [r1,Option.bind_some,if_pos r2,r3];rfl
end Go.Den
set_option linter.unusedSimpArgs false
namespace Go.Den
open Go.Ab
end Go.Den
set_option linter.unusedSimpArgs false
namespace Go.Den
open Go.Ab
def bxs (c:List TCall) (k:Nat) (x y:Int):Tberth_box:=⟨x,y,(cl c k).f_Length,(cl c k).f_Beam⟩
def xsOf (d:TDock) (c:List TCall) (k:Nat):List Int:=nrm d.f_Gap (oth (fun i=>(cl c i).f_Length+d.f_Gap) k c.length)
def ysOf (d:TDock) (c:List TCall) (k:Nat):List Int:=nrm d.f_Gap (oth (fun i=>(cl c i).f_Beam+d.f_Gap) k c.length)
def okP (d:TDock) (pre:List Tberth_box) (b:Tberth_box):Prop:=withinE d b=true∧∀ m,m < pre.length→apartE d.f_Gap (bx pre m) b=true
instance (d:TDock) (pre:List Tberth_box) (b:Tberth_box):Decidable (okP d pre b):=by unfold okP;infer_instance
def srch (d:TDock) (c:List TCall):Nat→List Tberth_box→Option (List Tberth_box)
 | 0,pre=>some pre
 | n+1,pre=>(xsOf d c pre.length).findSome? fun x=>(ysOf d c pre.length).findSome? fun y=>if okP d pre (bxs c pre.length x y) then srch d c n (pre ++ [bxs c pre.length x y]) else none
theorem srch_some {d:TDock} {c:List TCall}:∀ {n:Nat} {pre full:List Tberth_box},srch d c n pre=some full→full.length=pre.length+n∧full.take pre.length=pre
 | 0,pre,full,h=>by simp only [srch,Option.some.injEq] at h;subst h;simp
 | n+1,pre,full,h=>by
  simp only [srch] at h
  obtain ⟨x,_,h⟩:=List.exists_of_findSome?_eq_some h
  obtain ⟨y,_,h⟩:=List.exists_of_findSome?_eq_some h
  split at h
  ·obtain ⟨h1,h2⟩:=srch_some h
   refine ⟨by rw [h1];simp;omega,?_⟩
   have:=congrArg (List.take pre.length) h2
   rw [List.take_take,List.take_left] at this
   rwa [Nat.min_eq_left (by simp)] at this
  ·cases h
structure SK (d:TDock) (c:List TCall):Prop where
 len:c.length≤3
 gap:0≤d.f_Gap∧d.f_Gap≤1000000
 lens:∀ i,i < c.length→1≤(cl c i).f_Length∧(cl c i).f_Length≤1000000
 beams:∀ i,i < c.length→1≤(cl c i).f_Beam∧(cl c i).f_Beam≤1000000
theorem tryLoop {L:Nat→List Tberth_box→Int→Option (Bool×List Tberth_box)} {l:List Int} {F:Int→Option (List Tberth_box)} {inv:List Tberth_box→Prop}
  (hstep:∀ fuel arr (m:Nat),m < l.length→inv arr→(∃ full,F (l.getD m 0)=some full∧L (fuel+1) arr (m:Int)=some (true,full))∨(F (l.getD m 0)=none∧∃ arr',inv arr'∧L (fuel+1) arr (m:Int)=L fuel arr' ((m+1:Nat):Int))) :
  ∀ (k m fuel:Nat) (arr:List Tberth_box),m+k=l.length→k < fuel→inv arr→(∃ full,(l.drop m).findSome? F=some full∧L fuel arr (m:Int)=some (true,full))∨((l.drop m).findSome? F=none∧∃ arr' g,inv arr'∧L fuel arr (m:Int)=L (g+1) arr' ((l.length:Nat):Int))
 | 0,m,fuel,arr,hm,hf,hi=>by
  obtain ⟨g,rfl⟩:∃ g,fuel=g+1:=⟨fuel - 1,by omega⟩
  have:m=l.length:=by omega
  subst this
  exact .inr ⟨by simp,arr,g,hi,rfl⟩
 | k+1,m,fuel,arr,hm,hf,hi=>by
  obtain ⟨g,rfl⟩:∃ g,fuel=g+1:=⟨fuel - 1,by omega⟩
  have hlt:m < l.length:=by omega
  have hd:l.drop m=l.getD m 0 :: l.drop (m+1):=by rw [List.drop_eq_getElem_cons hlt];simp [List.getD,hlt]
  rw [hd,List.findSome?_cons]
  rcases hstep g arr m hlt hi with ⟨full,h1,h2⟩ | ⟨h1,arr',h2,h3⟩
  ·exact .inl ⟨full,by rw [h1],h2⟩
  ·rw [h1,h3]
   exact tryLoop hstep k (m+1) g arr' (by omega) (by omega) h2
theorem take_set_app {α:Type} {arr pre:List α} {b:α} (h:arr.take pre.length=pre) (hl:pre.length < arr.length):(arr.set pre.length b).take (pre.length+1)=pre ++ [b]:=by
 apply List.ext_getElem?
 intro j
 have hp:∀ j,j < pre.length→arr[j]?=pre[j]?:=fun j hj=>by have:=congrArg (fun l=>l[j]?) h;simp only [List.getElem?_take,if_pos hj] at this;exact this
 rw [List.getElem?_take]
 by_cases h1:j < pre.length+1
 ·rw [if_pos h1]
  by_cases h2:j=pre.length
  ·subst h2;simp [hl]
  ·rw [List.getElem?_set_ne (by omega),List.getElem?_append_left (by omega)]
   exact hp j (by omega)
 ·rw [if_neg h1,List.getElem?_eq_none (by simp;omega)]
theorem contains_box {N:Nat} {d:TDock} {pre:List Tberth_box} {b:Tberth_box} (hN:pre.length < N) (hl:pre.length < 1000):∃ q,g_slices_ContainsFunc_berth_box_berth_box N pre b d=some q∧(q=false↔∀ m,m < pre.length→apartE d.f_Gap (bx pre m) b=true):=by
 refine ⟨scan (fun m=>cond (!apartE d.f_Gap (bx pre m) b) (some true) none) false pre.length 0,?_,?_⟩
 ·have e:g_slices_IndexFunc_berth_box_berth_box N pre b d=some (scan (fun m=>cond (!apartE d.f_Gap (bx pre m) b) (some (m:Int)) none) (-1) pre.length 0):=by
   unfold g_slices_IndexFunc_berth_box_berth_box
   refine loop_scan0 (L:=fun fuel=>g_slices_IndexFunc_berth_box_berth_box_L1 N pre b d fuel) _ _ hN (fun fuel k hk=>?_) (fun fuel=>?_)
   ·simp only [g_slices_IndexFunc_berth_box_berth_box_L1,dec_lt hk,cond_true,if_pos (inb hk),w64_succ (show k < 9223372036854775807 by omega),toNat_nat,g_berth_Place_1_1,apart6_eq,Option.bind_some]
    change cond (!apartE d.f_Gap (bx pre k) b) _ _=_
    cases apartE d.f_Gap (bx pre k) b<;>rfl
   ·simp only [g_slices_IndexFunc_berth_box_berth_box_L1,dec_nlt,cond_false]
  unfold g_slices_ContainsFunc_berth_box_berth_box
  rw [e,Option.bind_some,scan_index (p:=fun m=>!apartE d.f_Gap (bx pre m) b)]
 ·have h:=scan_ex (p:=fun m=>!apartE d.f_Gap (bx pre m) b) pre.length
  constructor
  ·intro hq m hm
   cases ha:apartE d.f_Gap (bx pre m) b with
   | true=>rfl
   | false =>
    have:=h.2 ⟨m,hm,by rw [ha];rfl⟩
    rw [hq] at this;cases this
  ·intro hall
   cases hq:scan (fun m=>cond (!apartE d.f_Gap (bx pre m) b) (some true) none) false pre.length 0 with
   | false=>rfl
   | true =>
    obtain ⟨j,hj,h2⟩:=h.1 hq
    rw [hall j hj] at h2;cases h2
theorem map_cl (c:List TCall) (f:TCall→Int) {i:Nat} (hi:i < c.length):(c.map f).getD i 0=f (cl c i):=by simp [cl,List.getD,hi]
theorem oth_congr {f g:Nat→Int} {k:Nat}:∀ {n:Nat},(∀ i,i < n→f i=g i)→oth f k n=oth g k n
 | 0,_=>rfl
 | n+1,h=>by simp only [oth];rw [oth_congr fun i hi=>h i (by omega),h n (by omega)]
theorem xs_eq {N:Nat} {d:TDock} {c:List TCall} (hN:400 < N) (h:SK d c) {k:Nat} (hk:k < c.length):g_berth_sums N (c.map (·.f_Length)) (k:Int) d.f_Gap=some (xsOf d c k):=by
 rw [berthSums_eq hN (by simpa using hk) (by simpa using h.len) h.gap (fun z hz=>?_)]
 ·unfold xsOf
  rw [List.length_map]
  congr 2
  exact oth_congr fun i hi=>by rw [map_cl c _ hi]
 ·obtain ⟨i,hi,rfl⟩:=List.getElem_of_mem hz
  have hi':i < c.length:=by simpa using hi
  have:=h.lens i hi'
  simpa [cl,List.getD,hi'] using this
theorem ys_eq {N:Nat} {d:TDock} {c:List TCall} (hN:400 < N) (h:SK d c) {k:Nat} (hk:k < c.length):g_berth_sums N (c.map (·.f_Beam)) (k:Int) d.f_Gap=some (ysOf d c k):=by
 rw [berthSums_eq hN (by simpa using hk) (by simpa using h.len) h.gap (fun z hz=>?_)]
 ·unfold ysOf
  rw [List.length_map]
  congr 2
  exact oth_congr fun i hi=>by rw [map_cl c _ hi]
 ·obtain ⟨i,hi,rfl⟩:=List.getElem_of_mem hz
  have hi':i < c.length:=by simpa using hi
  have:=h.beams i hi'
  simpa [cl,List.getD,hi'] using this
theorem nrm_len (g:Int) (l:List Int):(nrm g l).length≤4:=by
 match l with
 | []=>simp [nrm]
 | [a]=>simp [nrm]
 | a :: b :: t =>
  simp only [nrm]
  split
  ·simp
  ·split<;>simp
theorem place_eq {N:Nat} {d:TDock} {c:List TCall} (hN:400 < N) (h:SK d c):∀ (n:Nat) (pre arr:List Tberth_box) (fuel:Nat),pre.length+n=c.length→arr.length=c.length→arr.take pre.length=pre→n < fuel →
  ∃ q,g_berth_Place_1 N fuel ((pre.length:Nat):Int) c (c.map (·.f_Length)) d (c.map (·.f_Beam)) arr=some q∧((∃ full,srch d c n pre=some full∧q=(true,full))∨(srch d c n pre=none∧q.1=false∧q.2.length=c.length∧q.2.take pre.length=pre))
 | 0,pre,arr,fuel,hn,ha,ht,hf=>by
  obtain ⟨g,rfl⟩:∃ g,fuel=g+1:=⟨fuel - 1,by omega⟩
  have hp:pre.length=c.length:=by omega
  have:arr=pre:=by rw [hp,← ha,List.take_length] at ht;exact ht
  subst this
  refine ⟨(true,arr),?_,.inl ⟨arr,rfl,rfl⟩⟩
  rw [g_berth_Place_1,hp];simp
 | n+1,pre,arr,fuel,hn,ha,ht,hf=>by
  obtain ⟨g,rfl⟩:∃ g,fuel=g+1:=⟨fuel - 1,by omega⟩
  have hk:pre.length < c.length:=by omega
  have hlen:=h.len
  rw [g_berth_Place_1,show (((pre.length:Nat):Int) == ((c.length:Nat):Int))=false by simp;omega,cond_false,xs_eq hN h hk,Option.bind_some]
  generalize hI:((pre.length:Nat):Int)=I
  have hcb:∀ {x y:Int},(⟨x,y,(c.getD pre.length TCall.d).f_Length,(c.getD pre.length TCall.d).f_Beam⟩:Tberth_box)=bxs c pre.length x y:=fun {x y}=>rfl
  have L2:∀ (K:List Tberth_box→Int→Option (Bool×List Tberth_box)) (x:Nat) (arr:List Tberth_box),x < (xsOf d c pre.length).length→arr.length=c.length→arr.take pre.length=pre →
    (∃ full,(ysOf d c pre.length).findSome? (fun y=>if okP d pre (bxs c pre.length ((xsOf d c pre.length).getD x 0) y) then srch d c n (pre ++ [bxs c pre.length ((xsOf d c pre.length).getD x 0) y]) else none)=some full∧g_berth_Place_1_L2 N I c (c.map (·.f_Length)) d (c.map (·.f_Beam)) (xsOf d c pre.length) (x:Int) (ysOf d c pre.length) (g_berth_Place_1 N g) K N arr 0=some (true,full)) ∨
    ((ysOf d c pre.length).findSome? (fun y=>if okP d pre (bxs c pre.length ((xsOf d c pre.length).getD x 0) y) then srch d c n (pre ++ [bxs c pre.length ((xsOf d c pre.length).getD x 0) y]) else none)=none∧∃ arr',(arr'.length=c.length∧arr'.take pre.length=pre)∧g_berth_Place_1_L2 N I c (c.map (·.f_Length)) d (c.map (·.f_Beam)) (xsOf d c pre.length) (x:Int) (ysOf d c pre.length) (g_berth_Place_1 N g) K N arr 0=K arr' ((x+1:Nat):Int)):=by
   intro K x arr hx ha ht
   have hyl:=nrm_len d.f_Gap (oth (fun i=>(cl c i).f_Beam+d.f_Gap) pre.length c.length)
   have hyl:(ysOf d c pre.length).length≤4:=hyl
   have hxl:(xsOf d c pre.length).length≤4:=nrm_len _ _
   have:=tryLoop (L:=fun fuel arr m=>g_berth_Place_1_L2 N I c (c.map (·.f_Length)) d (c.map (·.f_Beam)) (xsOf d c pre.length) (x:Int) (ysOf d c pre.length) (g_berth_Place_1 N g) K fuel arr m) (l:=ysOf d c pre.length)
    (F:=fun y=>if okP d pre (bxs c pre.length ((xsOf d c pre.length).getD x 0) y) then srch d c n (pre ++ [bxs c pre.length ((xsOf d c pre.length).getD x 0) y]) else none) (inv:=fun arr=>arr.length=c.length∧arr.take pre.length=pre) ?_ (ysOf d c pre.length).length 0 N arr (by omega) (by omega) ⟨ha,ht⟩
   ·rw [List.drop_zero] at this
    rcases this with h1 | ⟨h1,arr',g',h2,h3⟩
    ·exact .inl h1
    ·refine .inr ⟨h1,arr',h2,h3.trans ?_⟩
     show g_berth_Place_1_L2 N I c (c.map (·.f_Length)) d (c.map (·.f_Beam)) (xsOf d c pre.length) (x:Int) (ysOf d c pre.length) (g_berth_Place_1 N g) K (g'+1) arr' _=_
     rw [g_berth_Place_1_L2,dec_nlt,cond_false,w64_succ (by omega)]
   ·rintro fuel arr m hm ⟨ha,ht⟩
    generalize hv:(ysOf d c pre.length).getD m 0=y
    generalize hu:(xsOf d c pre.length).getD x 0=u
    obtain ⟨qc,hqc,hqi⟩:=contains_box (N:=N) (d:=d) (pre:=pre) (b:=bxs c pre.length u y) (by omega) (by omega)
    have htake:(arr.take (pre.length)).drop 0=pre:=by rw [List.drop_zero];exact ht
    have hstep:g_berth_Place_1_L2 N I c (c.map (·.f_Length)) d (c.map (·.f_Beam)) (xsOf d c pre.length) (x:Int) (ysOf d c pre.length) (g_berth_Place_1 N g) K (fuel+1) arr (m:Int) =
      cond (cond (!withinE d (bxs c pre.length u y)) true (cond (withinE d (bxs c pre.length u y)) qc false)) (g_berth_Place_1_L2 N I c (c.map (·.f_Length)) d (c.map (·.f_Beam)) (xsOf d c pre.length) (x:Int) (ysOf d c pre.length) (g_berth_Place_1 N g) K fuel arr ((m+1:Nat):Int))
       ((g_berth_Place_1 N g (w64 (I+1)) c (c.map (·.f_Length)) d (c.map (·.f_Beam)) (arr.set pre.length (bxs c pre.length u y))).bind fun r=>if r.2.length=(arr.set pre.length (bxs c pre.length u y)).length then cond r.1 (some (true,r.2)) (g_berth_Place_1_L2 N I c (c.map (·.f_Length)) d (c.map (·.f_Beam)) (xsOf d c pre.length) (x:Int) (ysOf d c pre.length) (g_berth_Place_1 N g) K fuel r.2 ((m+1:Nat):Int)) else none):=by
     rw [g_berth_Place_1_L2,dec_lt hm,cond_true,if_pos (inb hm),← hI,if_pos (inb hk)]
     simp only [toNat_nat,hv,hu,hcb,inside6_eq,Option.bind_some,g_berth_Place_1_J3,w64_succ (show m < 9223372036854775807 by omega),htake]
     rw [if_pos (fun _=>⟨Nat.zero_le _,by omega⟩),if_pos (fun _=>Int.natCast_nonneg _),if_pos ⟨Nat.zero_le _,by omega⟩]
     have hsel:(cond (!(!withinE d (bxs c pre.length u y))) (g_slices_ContainsFunc_berth_box_berth_box N pre (bxs c pre.length u y) d) (some false))=some (cond (withinE d (bxs c pre.length u y)) qc false):=by
      rw [hqc];cases withinE d (bxs c pre.length u y)<;>rfl
     rw [hsel,Option.bind_some,if_pos (inb (by omega))]
    rw [hstep]
    by_cases hok:okP d pre (bxs c pre.length u y)
    ·have hq:qc=false:=hqi.2 hok.2
     rw [if_pos hok,hok.1,hq,Bool.not_true,cond_false,cond_true,cond_false]
     have e1:w64 (I+1)=(((pre ++ [bxs c pre.length u y]).length:Nat):Int):=by rw [← hI,w64_succ (by omega)];simp
     have ht2:=take_set_app (b:=bxs c pre.length u y) ht (by omega)
     obtain ⟨q,hq1,hq2⟩:=place_eq hN h n (pre ++ [bxs c pre.length u y]) (arr.set pre.length (bxs c pre.length u y)) g (by simp;omega) (by simpa using ha) (by simpa using ht2) (by omega)
     rw [e1,hq1,Option.bind_some]
     rcases hq2 with ⟨full,h1,rfl⟩ | ⟨h1,h2,h3,h4⟩
     ·left
      refine ⟨full,h1,?_⟩
      have:=(srch_some h1).1
      rw [if_pos (by simp only [List.length_set,ha];simp at this;omega)];rfl
     ·right
      refine ⟨h1,q.2,⟨h3,?_⟩,?_⟩
      ·have:=congrArg (List.take pre.length) h4
       rw [List.take_take,List.take_left] at this
       rwa [Nat.min_eq_left (by simp)] at this
      ·rw [if_pos (by rw [h3,List.length_set,ha]),h2];rfl
    ·right
     rw [if_neg hok]
     refine ⟨rfl,arr,⟨ha,ht⟩,?_⟩
     cases hw:withinE d (bxs c pre.length u y) with
     | false=>rfl
     | true =>
      have hq:qc=true:=by
       cases qc with
       | true=>rfl
       | false=>exact absurd ⟨hw,hqi.1 rfl⟩ hok
      rw [hq];rfl
  have:=tryLoop (L:=fun fuel arr m=>g_berth_Place_1_L1 N I c (c.map (·.f_Length)) d (c.map (·.f_Beam)) (xsOf d c pre.length) (g_berth_Place_1 N g) fuel arr m) (l:=xsOf d c pre.length)
   (F:=fun x=>(ysOf d c pre.length).findSome? fun y=>if okP d pre (bxs c pre.length x y) then srch d c n (pre ++ [bxs c pre.length x y]) else none) (inv:=fun arr=>arr.length=c.length∧arr.take pre.length=pre) ?_ (xsOf d c pre.length).length 0 N arr (by omega) (by have:(xsOf d c pre.length).length≤4:=nrm_len _ _;omega) ⟨ha,ht⟩
  ·rw [List.drop_zero] at this
   rcases this with ⟨full,h1,h2⟩ | ⟨h1,arr',g',h2,h3⟩
   ·exact ⟨(true,full),h2,.inl ⟨full,by rw [srch];exact h1,rfl⟩⟩
   ·refine ⟨(false,arr'),h3.trans ?_,.inr ⟨by rw [srch];exact h1,rfl,h2.1,h2.2⟩⟩
    show g_berth_Place_1_L1 N I c (c.map (·.f_Length)) d (c.map (·.f_Beam)) (xsOf d c pre.length) (g_berth_Place_1 N g) (g'+1) arr' _=_
    rw [g_berth_Place_1_L1,dec_nlt,cond_false]
  ·rintro fuel arr m hm ⟨ha,ht⟩
   have hs:g_berth_Place_1_L1 N I c (c.map (·.f_Length)) d (c.map (·.f_Beam)) (xsOf d c pre.length) (g_berth_Place_1 N g) (fuel+1) arr (m:Int)=g_berth_Place_1_L2 N I c (c.map (·.f_Length)) d (c.map (·.f_Beam)) (xsOf d c pre.length) (m:Int) (ysOf d c pre.length) (g_berth_Place_1 N g) (g_berth_Place_1_L1 N I c (c.map (·.f_Length)) d (c.map (·.f_Beam)) (xsOf d c pre.length) (g_berth_Place_1 N g) fuel) N arr 0:=by
    rw [g_berth_Place_1_L1,dec_lt hm,cond_true,if_pos (inb hm),← hI,ys_eq hN h hk,Option.bind_some]
   rw [hs]
   exact L2 _ m arr hm ha ht
end Go.Den
set_option linter.unusedSimpArgs false
namespace Go.Den
open Go.Ab
def spotsOf (c:List TCall) (l:List Tberth_box):List TSpot:=(List.range l.length).map fun i=>⟨(cl c i).f_Name,(bx l i).f_x,(bx l i).f_y⟩
def wfp (c:List TCall) (l:List Tberth_box):Prop:=∀ m,m < l.length→bx l m=bxs c m (bx l m).f_x (bx l m).f_y
theorem spotsOf_len (c:List TCall) (l:List Tberth_box):(spotsOf c l).length=l.length:=by simp [spotsOf]
theorem bx_l {l m:List Tberth_box} {k:Nat} (h:k < l.length):bx (l ++ m) k=bx l k:=by unfold bx;exact getD_l h
theorem bx_last {l:List Tberth_box} {b:Tberth_box}:bx (l ++ [b]) l.length=b:=by simp [bx,List.getD]
theorem spotsOf_snoc (c:List TCall) (l:List Tberth_box) (b:Tberth_box):spotsOf c (l ++ [b])=spotsOf c l ++ [⟨(cl c l.length).f_Name,b.f_x,b.f_y⟩]:=by
 unfold spotsOf
 rw [List.length_append,List.length_singleton,List.range_succ,List.map_append,List.map_singleton,bx_last]
 congr 1
 apply List.map_congr_left
 intro i hi
 rw [bx_l (List.mem_range.1 hi)]
end Go.Den
set_option linter.unusedSimpArgs false
namespace Go.Den
open Go.Ab
structure DockOk (d:TDock):Prop where
 nm:nameOk d.f_Name=true
 len:1≤d.f_Length∧d.f_Length≤1000000
 wid:1≤d.f_Width∧d.f_Width≤1000000
 gap:0≤d.f_Gap∧d.f_Gap≤1000000
 sill:ins d.f_Sill (-1000000) 1000000=true∧ins d.f_Floor (-1000000) 1000000=true
theorem dockOk_of {d:TDock} (h:docksCode [d]=0):DockOk d:=by
 have e:docksCode [d]=scan (stepDock [d]) 0 1 0:=rfl
 rw [e,scan] at h
 have e0:stepDock [d] 0=cond (!nameOk d.f_Name) (some 4) (cond (dockCode d != 0) (some (dockCode d)) none):=rfl
 rw [e0] at h
 cases h1:nameOk d.f_Name with
 | false=>rw [h1] at h;cases h
 | true =>
  rw [h1,Bool.not_true,cond_false] at h
  cases h2:dockCode d != 0 with
  | true=>rw [h2] at h;simp only [cond_true] at h;rw [h] at h2;cases h2
  | false =>
   have h3:dockCode d=0:=by simpa using h2
   unfold dockCode at h3
   cases a1:ins d.f_Length 1 1000000<;>cases a2:ins d.f_Width 1 1000000<;>cases a3:ins d.f_Sill (-1000000) 1000000<;>cases a4:ins d.f_Floor (-1000000) 1000000<;>cases a5:ins d.f_Gap 0 1000000<;>simp [a1,a2,a3,a4,a5] at h3
   exact ⟨h1,ins_iff.1 a1,ins_iff.1 a2,ins_iff.1 a5,⟨a3,a4⟩⟩
theorem dockOk_code {d:TDock} (h:DockOk d):docksCode [d]=0:=by
 have e0:stepDock [d] 0=cond (!nameOk d.f_Name) (some 4) (cond (dockCode d != 0) (some (dockCode d)) none):=rfl
 have e1:dockCode d=0:=by
  unfold dockCode
  rw [ins_iff.2 h.len,ins_iff.2 h.wid,ins_iff.2 h.gap,h.sill.1,h.sill.2];rfl
 have e:docksCode [d]=scan (stepDock [d]) 0 1 0:=rfl
 rw [e,scan,e0,h.nm,e1];rfl
theorem call_bounds {y:TCall} (h:callCode y=0):(1≤y.f_Length∧y.f_Length≤1000000)∧(1≤y.f_Beam∧y.f_Beam≤1000000):=by
 unfold callCode at h
 cases a1:ins y.f_Length 1 1000000
 ·rw [a1] at h;simp at h
 ·cases a2:ins y.f_Beam 1 1000000
  ·rw [a1,a2] at h;simp at h
  ·exact ⟨ins_iff.1 a1,ins_iff.1 a2⟩
theorem both_parts {d:TDock} {c:List TCall}:bothCode d c=0↔docksCode [d]=0∧callsCode c=0:=by
 unfold bothCode
 cases h1:(docksCode [d] != 0) with
 | true =>
  have:docksCode [d]≠0:=by simpa using h1
  simp [this]
 | false =>
  have:docksCode [d]=0:=by simpa using h1
  simp [this]
theorem sk_of {d:TDock} {c:List TCall} (hd:DockOk d) (hc:CallsOk c) (hl:c.length≤3):SK d c :=
 ⟨hl,hd.gap,fun i hi=>(call_bounds (hc.2.1 _ (mem_cl hi)).2).1,fun i hi=>(call_bounds (hc.2.1 _ (mem_cl hi)).2).2⟩
theorem maps_L1 {N:Nat} {d:TDock} {c:List TCall} (hl:c.length≤3):∀ (m x fuel:Nat),x+m=c.length→m < fuel →
  g_berth_Place_L1 N d c fuel ((c.take x).map (·.f_Length)) ((c.take x).map (·.f_Beam)) (x:Int)=g_berth_Place_L1 N d c (fuel - m) (c.map (·.f_Length)) (c.map (·.f_Beam)) ((c.length:Nat):Int)
 | 0,x,fuel,hx,hf=>by
  have:x=c.length:=by omega
  subst this;rw [List.take_length];rfl
 | m+1,x,fuel,hx,hf=>by
  obtain ⟨g,rfl⟩:∃ g,fuel=g+1:=⟨fuel - 1,by omega⟩
  have hlt:x < c.length:=by omega
  have e:c.take (x+1)=c.take x ++ [cl c x]:=by rw [List.take_succ_eq_append_getElem hlt];simp [cl,List.getD,hlt]
  have ih:=maps_L1 (N:=N) (d:=d) hl m (x+1) g (by omega) (by omega)
  rw [e,List.map_append,List.map_append] at ih
  rw [g_berth_Place_L1,dec_lt hlt,cond_true,if_pos (inb hlt),if_pos (by simp;omega),if_pos (by simp;omega),w64_succ (by omega),show g+1 - (m+1)=g - m by omega]
  exact ih
theorem spots_L2 {N:Nat} {c:List TCall} {q:Bool×List Tberth_box} (hl:q.2.length≤8) (hc:q.2.length=c.length):∀ (m x fuel:Nat),x+m=q.2.length→m < fuel→g_berth_Place_L2 N c q fuel (spotsOf c (q.2.take x)) (x:Int)=some (spotsOf c q.2,0)
 | 0,x,fuel,hx,hf=>by
  obtain ⟨g,rfl⟩:∃ g,fuel=g+1:=⟨fuel - 1,by omega⟩
  have:x=q.2.length:=by omega
  subst this
  rw [g_berth_Place_L2,dec_nlt,cond_false,List.take_length]
 | m+1,x,fuel,hx,hf=>by
  obtain ⟨g,rfl⟩:∃ g,fuel=g+1:=⟨fuel - 1,by omega⟩
  have hlt:x < q.2.length:=by omega
  have e:q.2.take (x+1)=q.2.take x ++ [bx q.2 x]:=by rw [List.take_succ_eq_append_getElem hlt];simp [bx,List.getD,hlt]
  have hlen:(q.2.take x).length=x:=by simp;omega
  rw [g_berth_Place_L2,dec_lt hlt,cond_true,if_pos (inb hlt),if_pos (inb (by omega)),if_pos (by rw [spotsOf_len];omega),w64_succ (by omega)]
  have:=spots_L2 (N:=N) hl hc m (x+1) g (by omega) (by omega)
  rw [e,spotsOf_snoc,hlen] at this
  exact this
def placeR (d:TDock) (c:List TCall):List TSpot×Int :=
 match srch d c c.length [] with
 | some full=>(spotsOf c full,0)
 | none=>([],29)
theorem Place_eq {N:Nat} (hN:500 < N) {d:TDock} {c:List TCall} (hb:bothCode d c=0) (h:SK d c):g_berth_Place N d c=some (placeR d c):=by
 have hl:=h.len
 unfold g_berth_Place placeR
 rw [both_eq (by omega),Option.bind_some,hb,show ((0:Int) != 0)=false from rfl,cond_false,decide_eq_false (by omega),cond_false]
 have h1:=maps_L1 (N:=N) (d:=d) hl c.length 0 N (by omega) (by omega)
 rw [List.take_zero] at h1
 refine Eq.trans h1 ?_
 obtain ⟨f,hf⟩:∃ f,N - c.length=f+1:=⟨N - c.length - 1,by omega⟩
 rw [hf,g_berth_Place_L1,dec_nlt,cond_false,if_pos ⟨by omega,by omega,by omega⟩]
 obtain ⟨q,hq,hq2⟩:=place_eq (N:=N) (by omega) h c.length [] (List.replicate c.length Tberth_box.d) N (by simp) (by simp) (by simp) (by omega)
 change (g_berth_Place_1 N N 0 c _ d _ _).bind _=_
 have e0:((([]:List Tberth_box).length:Nat):Int)=0:=rfl
 rw [e0] at hq
 rw [hq,Option.bind_some]
 rcases hq2 with ⟨full,e1,rfl⟩ | ⟨e1,e2,e3,_⟩
 ·have hfl:=(srch_some e1).1
  simp at hfl
  rw [if_pos (by simp;omega),Bool.not_true,cond_false,e1]
  have:=spots_L2 (N:=N) (c:=c) (q:=(true,full)) (by show full.length≤8;omega) hfl full.length 0 N (by simp) (by omega)
  simpa [spotsOf] using this
 ·rw [if_pos (by simp;omega),e2,e1];rfl
structure GoodB (d:TDock) (c:List TCall) (l:List Tberth_box):Prop where
 wf:wfp c l
 bd:∀ m,m < l.length→(0≤(bx l m).f_x∧(bx l m).f_x≤10000000)∧(0≤(bx l m).f_y∧(bx l m).f_y≤10000000)
 inn:∀ m,m < l.length→withinE d (bx l m)=true
 ap:∀ m,m < l.length→∀ j,j < m→apartE d.f_Gap (bx l j) (bx l m)=true
theorem nrm_bd {g:Int} {l:List Int} (hg:0≤g∧g≤1000000) (hl:∀ x,x∈l→0≤x∧x≤2000000) {v:Int} (hv:v∈nrm g l):0≤v∧v≤10000000:=by
 match l with
 | []=>simp [nrm] at hv;omega
 | [a]=>have:=hl a (by simp);simp [nrm] at hv;omega
 | a :: b :: t =>
  have h1:=hl a (by simp)
  have h2:=hl b (by simp)
  simp only [nrm] at hv
  split at hv
  ·simp at hv;omega
  ·split at hv
   ·simp at hv;omega
   ·simp at hv;omega
theorem xs_bd {d:TDock} {c:List TCall} (h:SK d c) {k:Nat} {v:Int} (hv:v∈xsOf d c k):0≤v∧v≤10000000:=nrm_bd h.gap (fun x hx=>by
 obtain ⟨i,q1,_,rfl⟩:=oth_mem.1 hx
 have:=h.lens i q1;have:=h.gap;omega) hv
theorem ys_bd {d:TDock} {c:List TCall} (h:SK d c) {k:Nat} {v:Int} (hv:v∈ysOf d c k):0≤v∧v≤10000000:=nrm_bd h.gap (fun x hx=>by
 obtain ⟨i,q1,_,rfl⟩:=oth_mem.1 hx
 have:=h.beams i q1;have:=h.gap;omega) hv
theorem within_iff {d:TDock} {b:Tberth_box} (hx:0≤b.f_x∧b.f_x≤10000000) (hy:0≤b.f_y∧b.f_y≤10000000) (hw:1≤b.f_w∧b.f_w≤1000000) (hh:1≤b.f_h∧b.f_h≤1000000) (hg:0≤d.f_Gap∧d.f_Gap≤1000000) :
  withinE d b=true↔d.f_Gap≤b.f_x∧d.f_Gap≤b.f_y∧b.f_x+b.f_w+d.f_Gap≤d.f_Length∧b.f_y+b.f_h+d.f_Gap≤d.f_Width:=by
 unfold withinE
 rw [w64_eq (n:=b.f_x+b.f_w) (by omega) (by omega),w64_eq (n:=b.f_y+b.f_h) (by omega) (by omega),w64_eq (n:=b.f_x+b.f_w+d.f_Gap) (by omega) (by omega),w64_eq (n:=b.f_y+b.f_h+d.f_Gap) (by omega) (by omega)]
 simp [Bool.cond_eq_ite]
 omega
end Go.Den
namespace Go.Den
open Go.Ab
theorem checkPlan6 {N:Nat} (hN:100 < N) (d:TDock) (c:List TCall) (s:List TSpot):g_berth_CheckPlan N d c s=some (planCode d c s):=by
 obtain ⟨r,h1,h2,_⟩:=boxes_eq hN d c s
 unfold g_berth_CheckPlan
 rw [h1,Option.bind_some,h2]
end Go.Den
namespace Go.Den
open Go.Ab
def inX (d:TDock) (c:List TCall) (p:Nat→Int×Int) (i:Nat):Prop:=d.f_Gap≤(p i).1∧d.f_Gap≤(p i).2∧(p i).1+(cl c i).f_Length+d.f_Gap≤d.f_Length∧(p i).2+(cl c i).f_Beam+d.f_Gap≤d.f_Width
def apX (g:Int) (c:List TCall) (p:Nat→Int×Int) (i j:Nat):Prop :=
 (p i).1+(cl c i).f_Length+g≤(p j).1∨(p j).1+(cl c j).f_Length+g≤(p i).1∨(p i).2+(cl c i).f_Beam+g≤(p j).2∨(p j).2+(cl c j).f_Beam+g≤(p i).2
def Rt (d:TDock) (c:List TCall) (p:Nat→Int×Int):Prop:=(∀ i,i < c.length→inX d c p i)∧∀ i j,i < c.length→j < c.length→i≠j→apX d.f_Gap c p i j
def pot (p:Nat→Int×Int):Nat→Nat
 | 0=>0
 | n+1=>pot p n+((p n).1+(p n).2).toNat
theorem pot_congr {p q:Nat→Int×Int}:∀ {n:Nat},(∀ i,i < n→p i=q i)→pot p n=pot q n
 | 0,_=>rfl
 | n+1,h=>by rw [pot,pot,pot_congr fun i hi=>h i (by omega),h n (by omega)]
theorem pot_lt {p q:Nat→Int×Int} {k:Nat}:∀ {n:Nat},k < n→(∀ i,i < n→i≠k→p i=q i)→((p k).1+(p k).2).toNat < ((q k).1+(q k).2).toNat→pot p n < pot q n
 | 0,h,_,_=>by omega
 | n+1,h,he,hl=>by
  rw [pot,pot]
  by_cases hk:k=n
  ·subst hk
   rw [pot_congr (p:=p) (q:=q) fun i hi=>he i (by omega) (by omega)];omega
  ·rw [he n (by omega) (by omega)]
   have:=pot_lt (p:=p) (q:=q) (n:=n) (by omega) (fun i hi=>he i (by omega)) hl
   omega
def hx (d:TDock) (c:List TCall) (p:Nat→Int×Int) (i:Nat):Prop:=(p i).1=d.f_Gap∨∃ j,j < c.length∧j≠i∧(p j).1+(cl c j).f_Length+d.f_Gap=(p i).1
def hy (d:TDock) (c:List TCall) (p:Nat→Int×Int) (i:Nat):Prop:=(p i).2=d.f_Gap∨∃ j,j < c.length∧j≠i∧(p j).2+(cl c j).f_Beam+d.f_Gap=(p i).2
theorem settle6 {d:TDock} {c:List TCall} (h:SK d c):∀ (m:Nat) (p:Nat→Int×Int),pot p c.length≤m→Rt d c p→∃ q,Rt d c q∧∀ i,i < c.length→hx d c q i∧hy d c q i:=by
 intro m
 induction m with
 | zero =>
  intro p hp hr
  refine ⟨p,hr,fun i hi=>?_⟩
  have hall:∀ n,n≤c.length→pot p n=0→∀ i,i < n→((p i).1+(p i).2).toNat=0:=by
   intro n
   induction n with
   | zero=>intro _ _ i hi;omega
   | succ n ih =>
    intro hn h0 i hi
    rw [pot] at h0
    by_cases hin:i=n
    ·subst hin;omega
    ·exact ih (by omega) (by omega) i (by omega)
  have h0:=hall c.length (Nat.le_refl _) (by omega) i hi
  have h1:=hr.1 i hi
  have h2:=h.gap
  unfold inX at h1
  exact ⟨.inl (by omega),.inl (by omega)⟩
 | succ m ih =>
  intro p hp hr
  by_cases hall:∀ i,i < c.length→hx d c p i∧hy d c p i
  ·exact ⟨p,hr,hall⟩
  ·simp only [Classical.not_forall] at hall
   obtain ⟨i,hi,hn⟩:=hall
   have h1:=hr.1 i hi
   unfold inX at h1
   have hg:=h.gap
   by_cases hxi:hx d c p i
   ·have hyi:¬ hy d c p i:=fun e=>hn ⟨hxi,e⟩
    refine ih (fun k=>if k=i then ((p i).1,(p i).2 - 1) else p k) ?_ ⟨fun k hk=>?_,fun k l hk hl hne=>?_⟩
    ·have hne:(p i).2≠d.f_Gap:=fun e=>hyi (.inl e)
     have:=pot_lt (p:=fun k=>if k=i then ((p i).1,(p i).2 - 1) else p k) (q:=p) (k:=i) (n:=c.length) hi (fun j _ hj=>if_neg hj) (by simp only [if_true];omega)
     omega
    ·unfold inX
     by_cases hki:k=i
     ·subst hki
      have hne:(p k).2≠d.f_Gap:=fun e=>hyi (.inl e)
      simp only [if_true];omega
     ·simp only [if_neg hki];exact hr.1 k hk
    ·have ha:=hr.2 k l hk hl hne
     unfold apX at ha ⊢
     by_cases hki:k=i
     ·subst hki
      have hni:(p l).2+(cl c l).f_Beam+d.f_Gap≠(p k).2:=fun e=>hyi (.inr ⟨l,hl,fun e=>hne e.symm,e⟩)
      simp only [if_true,if_neg (fun e:l=k=>hne e.symm)];omega
     ·by_cases hli:l=i
      ·subst hli
       have hni:(p k).2+(cl c k).f_Beam+d.f_Gap≠(p l).2:=fun e=>hyi (.inr ⟨k,hk,hne,e⟩)
       simp only [if_true,if_neg hki];omega
      ·simp only [if_neg hki,if_neg hli];exact ha
   ·refine ih (fun k=>if k=i then ((p i).1 - 1,(p i).2) else p k) ?_ ⟨fun k hk=>?_,fun k l hk hl hne=>?_⟩
    ·have hne:(p i).1≠d.f_Gap:=fun e=>hxi (.inl e)
     have:=pot_lt (p:=fun k=>if k=i then ((p i).1 - 1,(p i).2) else p k) (q:=p) (k:=i) (n:=c.length) hi (fun j _ hj=>if_neg hj) (by simp only [if_true];omega)
     omega
    ·unfold inX
     by_cases hki:k=i
     ·subst hki
      have hne:(p k).1≠d.f_Gap:=fun e=>hxi (.inl e)
      simp only [if_true];omega
     ·simp only [if_neg hki];exact hr.1 k hk
    ·have ha:=hr.2 k l hk hl hne
     unfold apX at ha ⊢
     by_cases hki:k=i
     ·subst hki
      have hni:(p l).1+(cl c l).f_Length+d.f_Gap≠(p k).1:=fun e=>hxi (.inr ⟨l,hl,fun e=>hne e.symm,e⟩)
      simp only [if_true,if_neg (fun e:l=k=>hne e.symm)];omega
     ·by_cases hli:l=i
      ·subst hli
       have hni:(p k).1+(cl c k).f_Length+d.f_Gap≠(p l).1:=fun e=>hxi (.inr ⟨k,hk,hne,e⟩)
       simp only [if_true,if_neg hki];omega
      ·simp only [if_neg hki,if_neg hli];exact ha
theorem chain6 {n:Nat} (hn:n≤3) {g:Int} {f z:Nat→Int} (hf:∀ i,i < n→1≤f i) (hz:∀ i,i < n→z i=g∨∃ j,j < n∧j≠i∧z j+f j=z i) {i:Nat} (hi:i < n):z i∈nrm g (oth f i n):=by
 have two:∀ a b v:Int,(v=g∨v=g+a∨v=g+b∨v=g+a+b)→v∈nrm g [a,b]:=by
  intro a b v hv
  simp only [nrm]
  split
  ·simp;omega
  ·split
   ·simp;omega
   ·simp;omega
 have key:z i=g∨(∃ j,j < n∧j≠i∧z i=g+f j)∨(∃ j k,j < n∧k < n∧j≠i∧k≠i∧j≠k∧z i=g+f k+f j):=by
  rcases hz i hi with h | ⟨j,hj,hji,h⟩
  ·exact .inl h
  ·rcases hz j hj with h2 | ⟨k,hk,hkj,h2⟩
   ·exact .inr (.inl ⟨j,hj,hji,by omega⟩)
   ·have f1:=hf j hj
    have f2:=hf k hk
    have hki:k≠i:=fun e=>by subst e;omega
    rcases hz k hk with h3 | ⟨m,hm,hmk,h3⟩
    ·exact .inr (.inr ⟨j,k,hj,hk,hji,hki,fun e=>hkj e.symm,by omega⟩)
    ·have f3:=hf m hm
     have hmi:m≠i:=fun e=>by subst e;omega
     have hmj:m≠j:=fun e=>by subst e;omega
     omega
 have:n=1∨n=2∨n=3:=by omega
 rcases this with rfl | rfl | rfl
 ·have:i=0:=by omega
  subst this
  rcases key with h | ⟨j,hj,hne,_⟩ | ⟨j,_,hj,_,hne,_⟩
  ·simp [oth,nrm,h]
  ·omega
  ·omega
 ·have:i=0∨i=1:=by omega
  rcases this with rfl | rfl
  ·rcases key with h | ⟨j,hj,hne,h⟩ | ⟨j,k,hj,hk,h1,h2,h3,_⟩
   ·simp [oth,nrm,h]
   ·have:j=1:=by omega
    subst this;simp [oth,nrm,h]
   ·omega
  ·rcases key with h | ⟨j,hj,hne,h⟩ | ⟨j,k,hj,hk,h1,h2,h3,_⟩
   ·simp [oth,nrm,h]
   ·have:j=0:=by omega
    subst this;simp [oth,nrm,h]
   ·omega
 ·have:i=0∨i=1∨i=2:=by omega
  rcases this with rfl | rfl | rfl
  ·rw [show oth f 0 3=[f 1,f 2] by simp [oth]]
   refine two _ _ _ ?_
   rcases key with h | ⟨j,hj,hne,h⟩ | ⟨j,k,hj,hk,h1,h2,h3,h⟩
   ·exact .inl h
   ·have:j=1∨j=2:=by omega
    rcases this with rfl | rfl
    ·exact .inr (.inl h)
    ·exact .inr (.inr (.inl h))
   ·have:(j=1∧k=2)∨(j=2∧k=1):=by omega
    rcases this with ⟨rfl,rfl⟩ | ⟨rfl,rfl⟩<;>omega
  ·rw [show oth f 1 3=[f 0,f 2] by simp [oth]]
   refine two _ _ _ ?_
   rcases key with h | ⟨j,hj,hne,h⟩ | ⟨j,k,hj,hk,h1,h2,h3,h⟩
   ·exact .inl h
   ·have:j=0∨j=2:=by omega
    rcases this with rfl | rfl
    ·exact .inr (.inl h)
    ·exact .inr (.inr (.inl h))
   ·have:(j=0∧k=2)∨(j=2∧k=0):=by omega
    rcases this with ⟨rfl,rfl⟩ | ⟨rfl,rfl⟩<;>omega
  ·rw [show oth f 2 3=[f 0,f 1] by simp [oth]]
   refine two _ _ _ ?_
   rcases key with h | ⟨j,hj,hne,h⟩ | ⟨j,k,hj,hk,h1,h2,h3,h⟩
   ·exact .inl h
   ·have:j=0∨j=1:=by omega
    rcases this with rfl | rfl
    ·exact .inr (.inl h)
    ·exact .inr (.inr (.inl h))
   ·have:(j=0∧k=1)∨(j=1∧k=0):=by omega
    rcases this with ⟨rfl,rfl⟩ | ⟨rfl,rfl⟩<;>omega
theorem apart_iff {g:Int} {c:List TCall} {d:TDock} (h:SK d c) (hg:g=d.f_Gap) {p:Nat→Int×Int} {i j:Nat} (hi:i < c.length) (hj:j < c.length) (bi:(0≤(p i).1∧(p i).1≤10000000)∧(0≤(p i).2∧(p i).2≤10000000)) (bj:(0≤(p j).1∧(p j).1≤10000000)∧(0≤(p j).2∧(p j).2≤10000000)) :
  apartE g (bxs c i (p i).1 (p i).2) (bxs c j (p j).1 (p j).2)=true↔apX g c p i j:=by
 have h1:=h.lens i hi
 have h2:=h.beams i hi
 have h3:=h.lens j hj
 have h4:=h.beams j hj
 have h5:=h.gap
 subst hg
 unfold apartE apX bxs
 simp only
 rw [w64_eq (n:=(p i).1+(cl c i).f_Length) (by omega) (by omega),w64_eq (n:=(p j).1+(cl c j).f_Length) (by omega) (by omega),w64_eq (n:=(p i).2+(cl c i).f_Beam) (by omega) (by omega),w64_eq (n:=(p j).2+(cl c j).f_Beam) (by omega) (by omega),
  w64_eq (n:=(p i).1+(cl c i).f_Length+d.f_Gap) (by omega) (by omega),w64_eq (n:=(p j).1+(cl c j).f_Length+d.f_Gap) (by omega) (by omega),w64_eq (n:=(p i).2+(cl c i).f_Beam+d.f_Gap) (by omega) (by omega),w64_eq (n:=(p j).2+(cl c j).f_Beam+d.f_Gap) (by omega) (by omega)]
 simp [Bool.cond_eq_ite]
 omega
theorem complete6 {d:TDock} {c:List TCall} (h:SK d c) {q:Nat→Int×Int} (hr:Rt d c q) (hq:∀ i,i < c.length→hx d c q i∧hy d c q i):∀ (m:Nat) (pre:List Tberth_box),pre.length+m=c.length→(∀ j,j < pre.length→bx pre j=bxs c j (q j).1 (q j).2)→srch d c m pre≠none
 | 0,pre,_,_=>by simp [srch]
 | m+1,pre,hm,hp=>by
  intro hs
  have hk:pre.length < c.length:=by omega
  have hxm:(q pre.length).1∈xsOf d c pre.length:=chain6 h.len (f:=fun i=>(cl c i).f_Length+d.f_Gap) (z:=fun i=>(q i).1) (fun i hi=>by have:=h.lens i hi;have:=h.gap;omega) (fun i hi=>by
   rcases (hq i hi).1 with e | ⟨j,e1,e2,e3⟩
   ·exact .inl e
   ·exact .inr ⟨j,e1,e2,by show (q j).1+((cl c j).f_Length+d.f_Gap)=(q i).1;omega⟩) hk
  have hym:(q pre.length).2∈ysOf d c pre.length:=chain6 h.len (f:=fun i=>(cl c i).f_Beam+d.f_Gap) (z:=fun i=>(q i).2) (fun i hi=>by have:=h.beams i hi;have:=h.gap;omega) (fun i hi=>by
   rcases (hq i hi).2 with e | ⟨j,e1,e2,e3⟩
   ·exact .inl e
   ·exact .inr ⟨j,e1,e2,by show (q j).2+((cl c j).f_Beam+d.f_Gap)=(q i).2;omega⟩) hk
  have bq:∀ i,i < c.length→(0≤(q i).1∧(q i).1≤10000000)∧(0≤(q i).2∧(q i).2≤10000000):=fun i hi =>
   ⟨xs_bd h (chain6 h.len (f:=fun i=>(cl c i).f_Length+d.f_Gap) (z:=fun i=>(q i).1) (fun i hi=>by have:=h.lens i hi;have:=h.gap;omega) (fun i hi=>by
    rcases (hq i hi).1 with e | ⟨j,e1,e2,e3⟩
    ·exact .inl e
    ·exact .inr ⟨j,e1,e2,by show (q j).1+((cl c j).f_Length+d.f_Gap)=(q i).1;omega⟩) hi),
     ys_bd h (chain6 h.len (f:=fun i=>(cl c i).f_Beam+d.f_Gap) (z:=fun i=>(q i).2) (fun i hi=>by have:=h.beams i hi;have:=h.gap;omega) (fun i hi=>by
    rcases (hq i hi).2 with e | ⟨j,e1,e2,e3⟩
    ·exact .inl e
    ·exact .inr ⟨j,e1,e2,by show (q j).2+((cl c j).f_Beam+d.f_Gap)=(q i).2;omega⟩) hi)⟩
  rw [srch,List.findSome?_eq_none_iff] at hs
  have hs:=hs _ hxm
  rw [List.findSome?_eq_none_iff] at hs
  have hs:=hs _ hym
  have hok:okP d pre (bxs c pre.length (q pre.length).1 (q pre.length).2):=by
   refine ⟨(within_iff (bq _ hk).1 (bq _ hk).2 (h.lens _ hk) (h.beams _ hk) h.gap).2 (hr.1 _ hk),fun j hj=>?_⟩
   rw [hp j hj]
   exact (apart_iff h rfl (by omega) hk (bq j (by omega)) (bq _ hk)).2 (hr.2 j _ (by omega) hk (by omega))
  rw [if_pos hok] at hs
  refine complete6 h hr hq m _ (by simp;omega) (fun j hj=>?_) hs
  by_cases h1:j < pre.length
  ·rw [bx_l h1];exact hp j h1
  ·have:j=pre.length:=by simp at hj;omega
   subst this;rw [bx_last]
theorem rt_of {d:TDock} {c:List TCall} {s:List TSpot} (h:SK d c) (hp:Pl d c s):∃ p,Rt d c p:=by
 obtain ⟨r,_,_,hb⟩:=hp.boxed (N:=200) (by decide)
 have hbox:∀ i,i < c.length→∃ x∈s,x.f_Call=(cl c i).f_Name∧bx r.1 i=boxOf x (cl c i)∧ins x.f_X 0 1000000=true∧ins x.f_Y 0 1000000=true∧withinE d (boxOf x (cl c i))=true:=fun i hi=>by
  obtain ⟨k,hk,e⟩:=hb.on i hi
  have hn:=(ix_ok (hb.ok k hk)).2.2
  rw [e] at hn
  have hm:=mem_sp hk
  obtain ⟨y,hy,e1,e2,e3,e4⟩:=hp.spt _ hm
  have:y=cl c i:=nd_inj hp.cc.2.2 hy (mem_cl hi) (e1.trans hn.symm)
  subst this
  exact ⟨sp s k,hm,e1.symm,hp.box hb hi hm (mem_cl hi) e1.symm rfl,e2,e3,e4⟩
 refine ⟨fun i=>((bx r.1 i).f_x,(bx r.1 i).f_y),fun i hi=>?_,fun i j hi hj hne=>?_⟩
 ·obtain ⟨x,_,_,e2,e3,e4,e5⟩:=hbox i hi
  have nb1:=ins_iff.1 e3
  have nb2:=ins_iff.1 e4
  have:=(within_iff (b:=boxOf x (cl c i)) (by show 0≤x.f_X∧x.f_X≤10000000;omega) (by show 0≤x.f_Y∧x.f_Y≤10000000;omega) (h.lens i hi) (h.beams i hi) h.gap).1 e5
  unfold inX
  simp only
  rw [e2];exact this
 ·obtain ⟨x,hx,n1,e2,e3,e4,_⟩:=hbox i hi
  obtain ⟨x',hx',n2,f2,f3,f4,_⟩:=hbox j hj
  have nb1:=ins_iff.1 e3
  have nb2:=ins_iff.1 e4
  have nb3:=ins_iff.1 f3
  have nb4:=ins_iff.1 f4
  have hnn:x.f_Call≠x'.f_Call:=by
   rw [n1,n2]
   intro e
   obtain ⟨m1,m2⟩:(cl c i)∈c∧(cl c j)∈c:=⟨mem_cl hi,mem_cl hj⟩
   have h1:=List.pairwise_iff_getElem.1 hp.cc.2.2
   rcases Nat.lt_or_gt_of_ne hne with hlt | hlt
   ·have:=h1 i j (by simpa using hi) (by simpa using hj) hlt
    simp only [List.getElem_map] at this
    unfold cl at e;rw [getD_in hi,getD_in hj] at e;exact this e
   ·have:=h1 j i (by simpa using hj) (by simpa using hi) hlt
    simp only [List.getElem_map] at this
    unfold cl at e;rw [getD_in hi,getD_in hj] at e;exact this e.symm
  have ha:=hp.ap x hx x' hx' hnn _ (mem_cl hi) _ (mem_cl hj) n1.symm n2.symm
  refine (apart_iff h rfl (p:=fun i=>((bx r.1 i).f_x,(bx r.1 i).f_y)) hi hj ?_ ?_).1 ?_
  ·simp only [e2];exact ⟨by show 0≤x.f_X∧x.f_X≤10000000;omega,by show 0≤x.f_Y∧x.f_Y≤10000000;omega⟩
  ·simp only [f2];exact ⟨by show 0≤x'.f_X∧x'.f_X≤10000000;omega,by show 0≤x'.f_Y∧x'.f_Y≤10000000;omega⟩
  ·simp only [e2,f2];exact ha
theorem place_ok {N:Nat} (hN:500 < N) {d:TDock} {c:List TCall} (hd:DockOk d) (hc:CallsOk c) (hl:c.length≤3) {p:Nat→Int×Int} (hr:Rt d c p):∃ l,g_berth_Place N d c=some (l,0):=by
 have h:=sk_of hd hc hl
 obtain ⟨q,hq1,hq2⟩:=settle6 h (pot p c.length) p (Nat.le_refl _) hr
 have hs:=complete6 h hq1 hq2 c.length [] (by simp) (fun j hj=>absurd hj (by simp))
 rw [Place_eq hN (both_parts.2 ⟨dockOk_code hd,callsOk_iff.2 hc⟩) h]
 unfold placeR
 cases hf:srch d c c.length [] with
 | none=>exact absurd hf hs
 | some full=>exact ⟨_,rfl⟩
theorem berthAll_plain (p:Tw06_Plan) (longer wider:Int) (_:Tw06_Plan.wf p) (_:wI longer) (_:wI wider):∃ N,g_w06_BerthAll N p longer wider=some true:=by
 refine ⟨2000,?_⟩
 unfold g_w06_BerthAll
 obtain ⟨b,hb⟩:=planShort (N:=2000) (by decide) p
 rw [plansAwake,Option.bind_some,Bool.not_true,cond_false,hb,Option.bind_some]
 generalize hG:(cond (cond (cond (cond (cond (!b) true (decide (((p.f_Calls.length:Nat):Int) > 3))) true (decide (longer < 0))) true (decide (wider < 0))) true (decide (longer > 1000))) true (decide (wider > 1000)))=G
 cases G with
 | true=>rfl
 | false =>
  have hs:p.f_Calls.length≤3∧0≤longer∧0≤wider∧longer≤1000∧wider≤1000:=by
   cases b<;>simp [Bool.cond_eq_ite] at hG
   omega
  obtain ⟨s1,s2,s3,s4,s5⟩:=hs
  rw [Bool.not_false,cond_true,checkPlan6 (by decide),Option.bind_some,cond_false]
  by_cases hp:planCode p.f_Dock p.f_Calls p.f_Spots=0
  ·rw [hp,show ((0:Int) != 0)=false from rfl,cond_false]
   have hP:=Pl.of hp
   have hd:=dockOk_of hP.dk
   have hsk:=sk_of hd hP.cc s1
   obtain ⟨q,hq⟩:=rt_of hsk hP
   obtain ⟨l,hl⟩:=place_ok (N:=2000) (by decide) hd hP.cc s1 hq
   rw [hl,Option.bind_some]
   have h1:=hd.len
   have h2:=hd.wid
   rw [w64_eq (n:=p.f_Dock.f_Length+longer) (by omega) (by omega),w64_eq (n:=p.f_Dock.f_Width+wider) (by omega) (by omega)]
   generalize hL:(if (1000000:Int) < p.f_Dock.f_Length+longer then 1000000 else p.f_Dock.f_Length+longer)=L
   generalize hW:(if (1000000:Int) < p.f_Dock.f_Width+wider then 1000000 else p.f_Dock.f_Width+wider)=W
   have bL:p.f_Dock.f_Length≤L∧L≤1000000:=by subst hL;split<;>omega
   have bW:p.f_Dock.f_Width≤W∧W≤1000000:=by subst hW;split<;>omega
   have hd2:DockOk (⟨p.f_Dock.f_Name,L,W,p.f_Dock.f_Sill,p.f_Dock.f_Floor,p.f_Dock.f_Gap⟩:TDock):=⟨hd.nm,by show 1≤L∧L≤1000000;omega,by show 1≤W∧W≤1000000;omega,hd.gap,hd.sill⟩
   have hq2:Rt (⟨p.f_Dock.f_Name,L,W,p.f_Dock.f_Sill,p.f_Dock.f_Floor,p.f_Dock.f_Gap⟩:TDock) p.f_Calls q:=⟨fun i hi=>by
    have:=hq.1 i hi
    unfold inX at this ⊢
    simp only;omega,hq.2⟩
   obtain ⟨l2,hl2⟩:=place_ok (N:=2000) (by decide) hd2 hP.cc s1 hq2
   rw [hl2];rfl
  ·have:(planCode p.f_Dock p.f_Calls p.f_Spots != 0)=true:=by simpa using hp
   rw [this];rfl
end Go.Den
