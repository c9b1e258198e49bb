/- The plain law: the Lean function of the law returns true for every input, and what it needs. No conditions. -/
import Derived.Test.YtnhkjlebcdakkaaTopBestDockingPk
set_option linter.unusedVariables false
set_option linter.unusedSimpArgs false
namespace Go.Den
open Go.Ab
theorem getD_in6 {α:Type} {l:List α} {d:α} {i:Nat} (h:i < l.length):l.getD i d=l[i]:=by simp [List.getD,h]
theorem ix_at {α:Type} {f:α→ByteArray} {l:List α} {d:α} {i:Nat} (hi:i < l.length) (hd:∀ j,j < i→f (l.getD j d)≠f (l.getD i d)):scan (fun k=>cond (streq (f (l.getD k d)) (f (l.getD i d))) (some (k:Int)) none) (-1) l.length 0=(i:Int):=by
 rcases scan_inv (f:=fun k=>cond (streq (f (l.getD k d)) (f (l.getD i d))) (some (k:Int)) none) (z:=(-1:Int)) l.length 0 with ⟨j,r,_,h2,h3,h4,h5⟩ | ⟨h1,_⟩
 ·rw [h5]
  cases hs:streq (f (l.getD j d)) (f (l.getD i d))
  ·rw [hs] at h3;cases h3
  ·rw [hs] at h3
   have hr:(j:Int)=r:=Option.some.inj h3
   rcases Nat.lt_trichotomy j i with h | h | h
   ·exact absurd (streq_iff.1 hs) (hd j h)
   ·rw [← hr,h]
   ·have:=h4 i (Nat.zero_le _) h
    rw [streq_iff.2 rfl] at this;cases this
 ·have:=h1 i (Nat.zero_le _) (by omega)
  rw [streq_iff.2 rfl] at this;cases this
theorem scan_no {p:Nat→Bool} {n:Nat} (h:scan (fun j=>cond (p j) (some true) none) false n 0=false):∀ j,j < n→p j=false:=fun j hj=>by
 rcases scan_inv (f:=fun j=>cond (p j) (some true) none) (z:=false) n 0 with ⟨i,r,_,_,h3,_,h5⟩ | ⟨h1,_⟩
 ·rw [h] at h5
  subst h5
  cases hp:p i<;>rw [hp] at h3<;>cases h3
 ·have:=h1 j (Nat.zero_le _) (by omega)
  cases hp:p j
  ·rfl
  ·rw [hp] at this;cases this
theorem scan_z6 {f:Nat→Option Int} {z:Int} {n:Nat} (hf:∀ i,f i≠some 0) (h:scan f z n 0=0):(∀ i,i < n→f i=none)∧z=0:=by
 rcases scan_inv (f:=f) (z:=z) n 0 with ⟨i,r,_,_,h3,_,h5⟩ | ⟨h1,h2⟩
 ·rw [h5] at h;subst h;exact absurd h3 (hf i)
 ·exact ⟨fun i hi=>h1 i (Nat.zero_le _) (by omega),by rw [← h2,h]⟩
theorem nm_ok {y:TYard} (h:callsCode y.f_Calls=0):NmOk y:=fun i hi=>by
 unfold callsCode at h
 cases h8:decide (((y.f_Calls.length:Nat):Int) > 8) with
 | true=>rw [h8] at h;cases h
 | false =>
  rw [h8,cond_false] at h
  have hz:=(scan_z6 (fun i hi=>by
   unfold stepCall at hi
   revert hi
   generalize callCode (y.f_Calls.getD i TCall.d)=z
   have hb:(z != 0)=!decide (z=0):=by by_cases hz:z=0<;>simp [hz]
   rw [hb]
   by_cases hz:z=0<;>cases nameOk (y.f_Calls.getD i TCall.d).f_Name<;>cases dupCall y.f_Calls i<;>simp [hz]) h).1 i hi
  have hd:dupCall y.f_Calls i=false:=by
   unfold stepCall at hz
   cases hd:dupCall y.f_Calls i
   ·rfl
   ·rw [hd] at hz;cases hq:nameOk (y.f_Calls.getD i TCall.d).f_Name<;>rw [hq] at hz<;>cases hz
  exact ix_at (f:=TCall.f_Name) hi fun j hj e=>by
   have:=scan_no (p:=fun k=>streq (y.f_Calls.getD k TCall.d).f_Name (y.f_Calls.getD i TCall.d).f_Name) hd j hj
   rw [streq_iff.2 e] at this;cases this
theorem nm_dock {y:TYard} (h:docksCode y.f_Docks=0) {i:Nat} (hi:i < y.f_Docks.length):dIx y.f_Docks (y.f_Docks.getD i TDock.d).f_Name=(i:Int):=by
 unfold docksCode at h
 cases h8:decide (((y.f_Docks.length:Nat):Int) > 4) with
 | true=>rw [h8] at h;cases h
 | false =>
  rw [h8,cond_false] at h
  have hz:=(scan_z6 (fun i hi=>by
   unfold stepDock at hi
   revert hi
   generalize dockCode (y.f_Docks.getD i TDock.d)=z
   have hb:(z != 0)=!decide (z=0):=by by_cases hz:z=0<;>simp [hz]
   rw [hb]
   by_cases hz:z=0<;>cases nameOk (y.f_Docks.getD i TDock.d).f_Name<;>cases dupDock y.f_Docks i<;>simp [hz]) h).1 i hi
  have hd:dupDock y.f_Docks i=false:=by
   unfold stepDock at hz
   cases hd:dupDock y.f_Docks i
   ·rfl
   ·rw [hd] at hz;cases hq:nameOk (y.f_Docks.getD i TDock.d).f_Name<;>rw [hq] at hz<;>cases hz
  exact ix_at (f:=TDock.f_Name) hi fun j hj e=>by
   have:=scan_no (p:=fun k=>streq (y.f_Docks.getD k TDock.d).f_Name (y.f_Docks.getD i TDock.d).f_Name) hd j hj
   rw [streq_iff.2 e] at this;cases this
theorem yard_parts {y:TYard} (h:yardCode y=0):docksCode y.f_Docks=0∧callsCode y.f_Calls=0:=by
 unfold yardCode at h
 cases h1:docksCode y.f_Docks != 0<;>rw [h1] at h
 ·rw [cond_false] at h
  cases h2:callsCode y.f_Calls != 0<;>rw [h2] at h
  ·exact ⟨by simpa using h1,by simpa using h2⟩
  ·rw [cond_true] at h;rw [h] at h2;cases h2
 ·rw [cond_true] at h;rw [h] at h1;cases h1
theorem leaves_none (y:TYard):∀ (R:List (List TStay)) (s:List TStay) (c:Int),[]∈R→leaves y R s c=[]
 | [],_,_,h=>by cases h
 | O :: R,s,c,h=>by
  rcases List.mem_cons.1 h with h | h
  ·rw [← h];rfl
  ·show O.flatMap _=[]
   rw [List.flatMap_eq_nil_iff]
   intro x _
   cases s.any fun z=>ovB y z x
   ·exact leaves_none y R _ _ h
   ·rfl
noncomputable def bestQ (y:TYard):Leaf:=pick (-1,[]) (leaves y (optA y) [] 0)
noncomputable def bestV (y:TYard):List TStay×Int×Int:=if (bestQ y).1 < 0 then ([],0,29) else ((bestQ y).2,(bestQ y).1,0)
noncomputable def bestAll (y:TYard):List TStay×Int×Int:=cond (yardCode y != 0) ([],0,yardCode y) (cond (cond (decide (((y.f_Calls.length:Nat):Int) > 4)) true (decide (y.f_Last > 60))) ([],0,8) (bestV y))
section
variable {N:Nat} {y:TYard} (v:YardOk y) (hl:y.f_Sea.length≤40) (hN:1000301 < N) (hn:NmOk y)
include v hl hN hn
omit v hl hN hn in
theorem optA_len (y:TYard):(optA y).length=y.f_Calls.length:=by unfold optA;simp
def RInv (y:TYard) (k:Nat) (r:List Int):Prop:=r.length=y.f_Calls.length+1∧∀ j,k≤j→j≤y.f_Calls.length→LB y ((optA y).drop j) (r.getD j 0)∧0≤r.getD j 0∧r.getD j 0≤2000000000000 * ((y.f_Calls.length - j:Nat):Int)
omit hl in
theorem best_end {days:List (List (List Int))} (hdl:days.length=y.f_Calls.length) (hdays:∀ i,i < y.f_Calls.length→days.getD i []=rowD y i) {rest:List Int} (hr:RInv y 0 rest) (x:Int) (f:Nat) :
  g_berth_Best_L3 N y days x (f+1) rest (-1)=some (bestV y):=by
 have hcl:=v.calls
 rw [g_berth_Best_L3,decide_eq_false (by decide),cond_false]
 have hol:=optA_len y
 have hw:=walk_eq v hN hn hdl hdays hr.1 (fun j hj=>⟨(hr.2 j (Nat.zero_le _) hj).1,(hr.2 j (Nat.zero_le _) hj).2.1,by have:=(hr.2 j (Nat.zero_le _) hj).2.2;omega⟩) (optA y) [] N (-1,[]) (by rw [hol];simp) rfl (fun t ht=>by cases ht) (.inr ⟨by decide,rfl⟩) (.inl (by decide)) (by omega)
 have hw':g_berth_search_walk N N 0 0 y.f_Docks y.f_Calls y.f_Sea y.f_Last false 0 days rest [] []=some (outS y days rest [] (bestQ y)):=hw
 rw [hw',Option.bind_some]
 have hok:QOk y.f_Calls.length (bestQ y):=pickQ_ok _ (.inr ⟨by decide,rfl⟩) fun p hp=>⟨leaves_pos v (fun O hO=>(optA_ok v hn O hO).1) (Int.le_refl 0) p hp,by rw [leaves_len y _ _ _ p hp,hol];simp⟩
 have hm0:y.f_Calls.length=0→bestQ y=(0,[]):=fun h=>by
  have:optA y=[]:=List.length_eq_zero_iff.1 (hol.trans h)
  unfold bestQ
  rw [this];rfl
 unfold bestV
 show cond (fl (bestQ y) && decide ((bestQ y).2.length=0)) (if decide (((y.f_Calls.length:Nat):Int) > 0)=false then some ((bestQ y).2,cs (bestQ y),0) else none) (cond (cond (nqB (nqF (fl (bestQ y)))) (decide (((y.f_Calls.length:Nat):Int) > 0)) false) (some ([],0,29)) (some ((bestQ y).2,cs (bestQ y),0)))=_
 by_cases h0:y.f_Calls.length=0
 ·rw [hm0 h0,h0];rfl
 ·rcases hok with ⟨h1,h2⟩ | ⟨h1,h2⟩
  ·have hf:fl (bestQ y)=true:=decide_eq_true h1
   have hc:cs (bestQ y)=(bestQ y).1:=if_pos h1
   rw [hf,hc,if_neg (show ¬ (bestQ y).1 < 0 by omega),decide_eq_false (show ¬ (bestQ y).2.length=0 by omega)];rfl
  ·have hf:fl (bestQ y)=false:=decide_eq_false (by omega)
   rw [hf,if_pos h1,decide_eq_true (show ((y.f_Calls.length:Nat):Int) > 0 by omega)];rfl
omit hl in
theorem best_rest {days:List (List (List Int))} (hdl:days.length=y.f_Calls.length) (hdays:∀ i,i < y.f_Calls.length→days.getD i []=rowD y i) (x:Int) :
  ∀ k fuel rest,k≤y.f_Calls.length→k < fuel→RInv y k rest→g_berth_Best_L3 N y days x fuel rest ((k:Int) - 1)=some (bestV y)
 | 0,fuel,rest,_,hf,hr=>by
  obtain ⟨f,rfl⟩:∃ f,fuel=f+1:=⟨fuel - 1,by omega⟩
  exact best_end v hN hn hdl hdays hr x f
 | k+1,fuel,rest,hk,hf,hr=>by
  obtain ⟨f,rfl⟩:∃ f,fuel=f+1:=⟨fuel - 1,by omega⟩
  have hcl:=v.calls
  have hdk:=v.docks
  have hcc:=v.call k (by omega)
  have hrow:=hdays k (by omega)
  have hkk:(((k+1:Nat):Int) - 1)=(k:Int):=by omega
  rw [hkk,g_berth_Best_L3,decide_eq_true (show (k:Int)≥0 by omega),cond_true,if_pos ⟨by omega,by omega⟩]
  have hrl2:(rowD y k).length=y.f_Docks.length:=by unfold rowD;simp
  have hend:∀ fuel least any,(any=true→0≤least∧least≤2000000000000∧∀ j,j < y.f_Docks.length→∀ e,e∈(rowD y k).getD j []→least≤lateV (y.f_Calls.getD k TCall.d) e)→(any=false→∀ j,j < y.f_Docks.length→(rowD y k).getD j []=[]) →
    g_berth_Best_L4 N y days x rest (k:Int) (g_berth_Best_L3 N y days x f) (fuel+1) least any ((y.f_Docks.length:Nat):Int)=some (bestV y):=fun fuel least any ha hna=>by
   simp only [g_berth_Best_L4,toNat_nat,hrow,hrl2,dec_nlt,cond_false]
   have hget:∀ j,j < y.f_Docks.length→(rowD y k).getD j []=possV y (y.f_Calls.getD k TCall.d) (y.f_Docks.getD j TDock.d):=fun j hj=>by unfold rowD;simp [List.getD,hj]
   cases any
   ·rw [Bool.not_false,cond_true]
    have hno:optV y (y.f_Calls.getD k TCall.d)=[]:=by
     unfold optV
     rw [List.flatMap_eq_nil_iff]
     intro d hd
     obtain ⟨j,hj,rfl⟩:=List.getElem_of_mem hd
     have:=hna rfl j hj
     rw [hget j hj,getD_in6 hj] at this
     unfold dockOpt
     rw [this];rfl
    have:bestQ y=(-1,[]):=by
     unfold bestQ
     rw [leaves_none y _ _ _ (by rw [← hno];unfold optA;exact List.mem_map.2 ⟨_,getD_mem _ k _ (by omega),rfl⟩)];rfl
    unfold bestV
    rw [this,if_pos (by decide)]
   ·obtain ⟨h0,h1,h2⟩:=ha rfl
    obtain ⟨r1,r2,r3⟩:=hr.2 (k+1) (by omega) (by omega)
    have hrl:=hr.1
    rw [Bool.not_true,cond_false,w64_succ (by omega),if_pos ⟨by omega,by omega⟩,if_pos ⟨by omega,by omega⟩,toNat_nat,w64_eq (by omega) (by omega),w64_eq (n:=(k:Int) - 1) (by omega) (by omega)]
    refine best_rest hdl hdays x k f _ (by omega) (by omega) ⟨by rw [List.length_set];exact hrl,fun j hj1 hj2=>?_⟩
    by_cases hjk:j=k
    ·subst hjk
     have e:(rest.set j (rest.getD (j+1) 0+least)).getD j 0=rest.getD (j+1) 0+least:=by
      have:j < (rest.set j (rest.getD (j+1) 0+least)).length:=by rw [List.length_set];omega
      rw [getD_in6 this];simp
     rw [e,opt_cons (by omega)]
     refine ⟨⟨least,rest.getD (j+1) 0,by omega,fun t ht=>?_,r1⟩,by omega,?_⟩
     ·obtain ⟨d,hd,e,he,rfl⟩:=opt_mem.1 ht
      obtain ⟨i,hi,rfl⟩:=List.getElem_of_mem hd
      unfold priceV
      rw [cOf_at hn (by omega)]
      refine h2 i hi e ?_
      rw [hget i hi,getD_in6 hi];exact he
     ·have:((y.f_Calls.length - j:Nat):Int)=((y.f_Calls.length - (j+1):Nat):Int)+1:=by omega
      omega
    ·have e:(rest.set k (rest.getD (k+1) 0+least)).getD j 0=rest.getD j 0:=by
      have h1:j < (rest.set k (rest.getD (k+1) 0+least)).length:=by rw [List.length_set];omega
      have h2:j < rest.length:=by omega
      rw [getD_in6 h1,getD_in6 h2,List.getElem_set]
      rw [if_neg (fun h=>hjk h.symm)]
     rw [e]
     exact hr.2 j (by omega) hj2
  have hloop:∀ d j fuel least any,j+d=y.f_Docks.length→d < fuel→(any=true→0≤least∧least≤2000000000000∧∀ i,i < j→∀ e,e∈(rowD y k).getD i []→least≤lateV (y.f_Calls.getD k TCall.d) e)→(any=false→∀ i,i < j→(rowD y k).getD i []=[]) →
    g_berth_Best_L4 N y days x rest (k:Int) (g_berth_Best_L3 N y days x f) fuel least any (j:Int)=some (bestV y):=by
   intro d
   induction d with
   | zero =>
    intro j fuel least any h hf ha hna
    obtain ⟨f2,rfl⟩:∃ f2,fuel=f2+1:=⟨fuel - 1,by omega⟩
    have:j=y.f_Docks.length:=by omega
    subst this
    exact hend f2 least any ha hna
   | succ d ihd =>
    intro j fuel least any h hf ha hna
    obtain ⟨f2,rfl⟩:∃ f2,fuel=f2+1:=⟨fuel - 1,by omega⟩
    have hj:j < y.f_Docks.length:=by omega
    have hP:(rowD y k).getD j []=possV y (y.f_Calls.getD k TCall.d) (y.f_Docks.getD j TDock.d):=by unfold rowD;simp [List.getD,hj]
    rw [g_berth_Best_L4]
    simp only [toNat_nat,hrow,hrl2,dec_lt hj,cond_true,if_pos (inb hj)]
    have hnew:∀ least any,(any=true→0≤least∧least≤2000000000000∧∀ i,i < j+1→∀ e,e∈(rowD y k).getD i []→least≤lateV (y.f_Calls.getD k TCall.d) e)→(any=false→∀ i,i < j+1→(rowD y k).getD i []=[]) →
      g_berth_Best_J5 N y days x rest (k:Int) (j:Int) (g_berth_Best_L4 N y days x rest (k:Int) (g_berth_Best_L3 N y days x f) f2) (g_berth_Best_L3 N y days x f) least any=some (bestV y):=fun least any h1 h2=>by
     unfold g_berth_Best_J5
     rw [w64_succ (by omega)]
     exact ihd (j+1) f2 least any (by omega) (by omega) h1 h2
    have hPb:∀ e,e∈(rowD y k).getD j []→0≤e∧e≤1000:=fun e he=>by rw [hP] at he;exact poss_bd he
    have hPu:=poss_up y (y.f_Calls.getD k TCall.d) (y.f_Docks.getD j TDock.d)
    rw [← hP] at hPu
    generalize hPe:(rowD y k).getD j []=P at hPb hPu ⊢
    have hki:0≤(k:Int)∧(k:Int) < ((y.f_Calls.length:Nat):Int):=⟨by omega,by omega⟩
    by_cases hP0:P.length=0
    ·have hP1:P=[]:=List.length_eq_zero_iff.1 hP0
     have hdf:decide (((P.length:Nat):Int) > 0)=false:=decide_eq_false (by omega)
     simp only [hdf,Bool.false_and,cond_false]
     rw [if_pos (fun h=>by cases h),if_pos (fun h=>by cases h),Option.bind_some]
     have last:∀ i,i < j+1→i < j∨i=j:=fun i hi=>by omega
     refine hnew least any (fun h=>⟨(ha h).1,(ha h).2.1,fun i hi e he=>?_⟩) (fun h i hi=>?_)
     ·rcases last i hi with h1 | h1
      ·exact (ha h).2.2 i h1 e he
      ·rw [h1,hPe,hP1] at he;cases he
     ·rcases last i hi with h1 | h1
      ·exact hna h i h1
      ·rw [h1,hPe,hP1]
    ·have hdt:decide (((P.length:Nat):Int) > 0)=true:=decide_eq_true (by omega)
     have hp0:0≤(0:Int)∧(0:Int) < ((P.length:Nat):Int):=⟨by omega,by omega⟩
     have h00:=hPb _ (getD_mem P 0 0 (by omega))
     have hfirst:∀ e,e∈P→lateV (y.f_Calls.getD k TCall.d) (P.getD 0 0)≤lateV (y.f_Calls.getD k TCall.d) e:=fun e he=>by
      refine late_mono hcc ?_
      cases P with
      | nil=>cases he
      | cons a P =>
       rcases List.mem_cons.1 he with h | h
       ·rw [h];exact Int.le_refl _
       ·exact Int.le_of_lt (List.rel_of_pairwise_cons hPu h)
     have hlb:=late_bd hcc h00.2
     simp only [hdt,Bool.true_and,cond_true,if_pos (fun _=>hki),if_pos (fun _=>hp0),if_pos hki,if_pos hp0,late_eq hcc h00.1 h00.2,Option.bind_some,bind_cond]
     have last:∀ i,i < j+1→i < j∨i=j:=fun i hi=>by omega
     cases any
     ·simp only [Bool.not_false,cond_true]
      refine hnew _ true (fun _=>⟨hlb.1,hlb.2,fun i hi e he=>?_⟩) (fun h=>by cases h)
      rcases last i hi with h1 | h1
      ·rw [hna rfl i h1] at he;cases he
      ·rw [h1,hPe] at he;exact hfirst e he
     ·obtain ⟨a0,a1,a2⟩:=ha rfl
      simp only [Bool.not_true,Bool.not_false,cond_true,cond_false]
      by_cases hlt:lateV (y.f_Calls.getD k TCall.d) (P.getD 0 0) < least
      ·rw [decide_eq_true hlt,cond_true]
       refine hnew _ true (fun _=>⟨hlb.1,hlb.2,fun i hi e he=>?_⟩) (fun h=>by cases h)
       rcases last i hi with h1 | h1
       ·have:=a2 i h1 e he;omega
       ·rw [h1,hPe] at he;exact hfirst e he
      ·rw [decide_eq_false hlt,cond_false]
       refine hnew least true (fun _=>⟨a0,a1,fun i hi e he=>?_⟩) (fun h=>by cases h)
       rcases last i hi with h1 | h1
       ·exact a2 i h1 e he
       ·rw [h1,hPe] at he
        have:=hfirst e he;omega
  exact hloop y.f_Docks.length 0 N 0 false (by omega) (by omega) (fun h=>by cases h) (fun _ i hi=>by omega)
theorem best_days:g_berth_Best_L1 N y N [] 0=some (bestV y):=by
 have hcl:=v.calls
 have hdk:=v.docks
 have key:∀ k i fuel (s:List (List (List Int))),i+k=y.f_Calls.length→k < fuel→s.length=i→(∀ j,j < i→s.getD j []=rowD y j)→g_berth_Best_L1 N y fuel s (i:Int)=some (bestV y):=by
  intro k
  induction k with
  | zero =>
   intro i fuel s h hf hs1 hs2
   obtain ⟨f,rfl⟩:∃ f,fuel=f+1:=⟨fuel - 1,by omega⟩
   have:i=y.f_Calls.length:=by omega
   subst this
   simp only [g_berth_Best_L1,dec_nlt,cond_false]
   rw [w64_succ (by omega),w64_eq (n:=((y.f_Calls.length:Nat):Int) - 1) (by omega) (by omega)]
   refine best_rest v hN hn hs1 hs2 _ y.f_Calls.length N _ (Nat.le_refl _) (by omega) ⟨by rw [List.length_replicate];rfl,fun j h1 h2=>?_⟩
   have e:j=y.f_Calls.length:=by omega
   have e2:((optA y).drop j)=[]:=List.drop_eq_nil_of_le (by rw [optA_len y];omega)
   have e3:(List.replicate (((y.f_Calls.length+1:Nat):Int)).toNat (0:Int)).getD j 0=0:=by
    rw [toNat_nat];simp [List.getD,List.getElem?_replicate];split<;>rfl
   rw [e2,e3]
   exact ⟨Int.le_refl _,Int.le_refl _,by omega⟩
  | succ k ih =>
   intro i fuel s h hf hs1 hs2
   obtain ⟨f,rfl⟩:∃ f,fuel=f+1:=⟨fuel - 1,by omega⟩
   have hi:i < y.f_Calls.length:=by omega
   have hcc:=v.call i hi
   simp only [g_berth_Best_L1,dec_lt hi,cond_true,if_pos (inb hi)]
   have hrl2:(rowD y i).length=y.f_Docks.length:=by unfold rowD;simp
   have row:∀ d j fuel,j+d=y.f_Docks.length→d < fuel→g_berth_Best_L2 N y s (i:Int) (g_berth_Best_L1 N y f) fuel ((rowD y i).take j) (j:Int)=some (bestV y):=by
    intro d
    induction d with
    | zero =>
     intro j fuel h1 h2
     obtain ⟨f2,rfl⟩:∃ f2,fuel=f2+1:=⟨fuel - 1,by omega⟩
     have:j=y.f_Docks.length:=by omega
     subst this
     simp only [g_berth_Best_L2,dec_nlt,cond_false]
     rw [if_pos (by omega),w64_succ (by omega),List.take_of_length_le (by omega)]
     refine ih (i+1) f (s ++ [rowD y i]) (by omega) (by omega) (by simp [hs1]) fun j hj=>?_
     by_cases hji:j=i
     ·subst hji;subst hs1;simp [List.getD]
     ·rw [← hs2 j (by omega)]
      simp [List.getD,List.getElem?_append,show j < s.length by omega]
    | succ d ihd =>
     intro j fuel h1 h2
     obtain ⟨f2,rfl⟩:∃ f2,fuel=f2+1:=⟨fuel - 1,by omega⟩
     have hj:j < y.f_Docks.length:=by omega
     simp only [g_berth_Best_L2,dec_lt hj,cond_true,if_pos (inb hj),toNat_nat,possible_eq v hl hN hcc,Option.bind_some]
     rw [if_pos (by rw [List.length_take];omega),w64_succ (by omega)]
     have e:(rowD y i).take j ++ [possV y (y.f_Calls.getD i TCall.d) (y.f_Docks.getD j TDock.d)]=(rowD y i).take (j+1):=by
      rw [take_succ_getD (rowD y i) j [] (by omega)]
      congr 1
      unfold rowD;simp [List.getD,hj]
     rw [e]
     exact ihd (j+1) f2 (by omega) (by omega)
   exact row y.f_Docks.length 0 N (by omega) (by omega)
 exact key y.f_Calls.length 0 N [] (by omega) (by omega) rfl (fun j hj=>by omega)
end
end Go.Den
namespace Go.Den
open Go.Ab
def Fit (y:TYard):List (List TStay)→List TStay→List TStay→Prop
 | [],_,t=>t=[]
 | O :: R,s,t=>∃ x u,t=x :: u∧x∈O∧(s.any fun z=>ovB y z x)=false∧Fit y R (s ++ [x]) u
theorem leaf_iff (y:TYard):∀ (R:List (List TStay)) (s:List TStay) (c:Int) (p:Leaf),p∈leaves y R s c↔∃ t,p=(c+costV y t,s ++ t)∧Fit y R s t
 | [],s,c,p=>by
  show p∈[(c,s)]↔_
  rw [List.mem_singleton]
  constructor
  ·rintro rfl;exact ⟨[],by simp [costV],rfl⟩
  ·rintro ⟨t,h1,h2⟩
   have h2:t=[]:=h2
   subst h2
   rw [h1];simp [costV]
 | O :: R,s,c,p=>by
  have e:∀ x:TStay,p∈(cond (s.any fun z=>ovB y z x) [] (leaves y R (s ++ [x]) (c+priceV y x)):List Leaf)↔(s.any fun z=>ovB y z x)=false∧∃ t,p=(c+priceV y x+costV y t,s ++ [x] ++ t)∧Fit y R (s ++ [x]) t:=fun x=>by
   cases s.any fun z=>ovB y z x
   ·rw [cond_false,leaf_iff y R];simp
   ·simp
  show p∈O.flatMap _↔_
  rw [List.mem_flatMap]
  constructor
  ·rintro ⟨x,hx,hp⟩
   obtain ⟨h1,t,h2,h3⟩:=(e x).1 hp
   refine ⟨x :: t,?_,x,t,rfl,hx,h1,h3⟩
   rw [h2];simp only [costV,List.append_assoc,List.singleton_append];congr 1;omega
  ·rintro ⟨t,h1,x,u,rfl,hx,h2,h3⟩
   refine ⟨x,hx,(e x).2 ⟨h2,u,?_,h3⟩⟩
   rw [h1];simp only [costV,List.append_assoc,List.singleton_append];congr 1;omega
theorem fit_iff (y:TYard):∀ (R:List (List TStay)) (s u:List TStay),Fit y R s u↔u.length=R.length∧(∀ i,i < R.length→u.getD i TStay.d∈R.getD i [])∧(∀ z,z∈s→∀ x,x∈u→ovB y z x=false)∧u.Pairwise (fun a b=>ovB y a b=false)
 | [],s,u=>by
  show u=[]↔_
  constructor
  ·rintro rfl
   exact ⟨rfl,fun i hi=>absurd hi (Nat.not_lt_zero _),fun z _ x hx=>(by cases hx),List.Pairwise.nil⟩
  ·rintro ⟨h,_⟩;exact List.length_eq_zero_iff.1 h
 | O :: R,s,u=>by
  constructor
  ·rintro ⟨x,w,rfl,hx,ho,hf⟩
   obtain ⟨h1,h2,h3,h4⟩:=(fit_iff y R _ w).1 hf
   refine ⟨by simp [h1],fun i hi=>?_,fun z hz a ha=>?_,List.pairwise_cons.2 ⟨fun a ha=>h3 x (by simp) a ha,h4⟩⟩
   ·cases i with
    | zero=>exact hx
    | succ i=>exact h2 i (by simpa using hi)
   ·rcases List.mem_cons.1 ha with h | h
    ·subst h
     have:=List.any_eq_false.1 ho z hz
     simpa using this
    ·exact h3 z (by simp [hz]) a h
  ·rintro ⟨h1,h2,h3,h4⟩
   cases u with
   | nil=>cases h1
   | cons x w =>
    rw [List.pairwise_cons] at h4
    refine ⟨x,w,rfl,h2 0 (by simp),?_,(fit_iff y R _ w).2 ⟨by simpa using h1,fun i hi=>h2 (i+1) (by simpa using hi),fun z hz a ha=>?_,h4.2⟩⟩
    ·rw [List.any_eq_false]
     intro z hz
     rw [h3 z hz x (.head _)];simp
    ·rcases List.mem_append.1 hz with h | h
     ·exact h3 z h a (.tail _ ha)
     ·rw [List.mem_singleton.1 h];exact h4.1 a ha
theorem costV_perm (y:TYard) {a b:List TStay} (h:a.Perm b):costV y a=costV y b:=by
 induction h with
 | nil=>rfl
 | cons x _ ih=>simp only [costV,ih]
 | swap x z l=>simp only [costV];omega
 | trans _ _ h1 h2=>exact h1.trans h2
theorem ix_name {α:Type} {f:α→ByteArray} {l:List α} {d:α} {n:ByteArray} (h:0≤scan (fun k=>cond (streq (f (l.getD k d)) n) (some (k:Int)) none) (-1) l.length 0):f (l.getD (scan (fun k=>cond (streq (f (l.getD k d)) n) (some (k:Int)) none) (-1) l.length 0).toNat d)=n:=by
 rcases scan_inv (f:=fun k=>cond (streq (f (l.getD k d)) n) (some (k:Int)) none) (z:=(-1:Int)) l.length 0 with ⟨i,r,_,h2,h3,_,h5⟩ | ⟨_,h2⟩
 ·rw [h5]
  cases hs:streq (f (l.getD i d)) n
  ·rw [hs] at h3;cases h3
  ·rw [hs] at h3
   rw [← Option.some.inj h3]
   exact streq_iff.1 hs
 ·rw [h2] at h;omega
theorem cIx_name {c:List TCall} {n:ByteArray} (h:0≤cIx c n):(c.getD (cIx c n).toNat TCall.d).f_Name=n:=ix_name (f:=TCall.f_Name) h
theorem dIx_name {c:List TDock} {n:ByteArray} (h:0≤dIx c n):(c.getD (dIx c n).toNat TDock.d).f_Name=n:=ix_name (f:=TDock.f_Name) h
theorem memB_iff (l:List Int) (x:Int):memB l x=true↔x∈l:=by
 unfold memB
 rw [scan_anyL (fun z=>z == x) 0 l l.length 0 (by omega),List.drop_zero,List.any_eq_true]
 constructor
 ·rintro ⟨z,h1,h2⟩;exact (by simpa using h2:z=x) ▸ h1
 ·intro h;exact ⟨x,h,by simp⟩
theorem own_iff {y:TYard} {t:TStay}:stayOwn y t=none↔t.f_Day∈possV y (cOf y t) (dOf y t):=by
 rw [poss_mem]
 unfold stayOwn mayD
 have a1:=memB_iff (daysR (dOf y t) (cOf y t) y.f_Sea) t.f_Day
 generalize memB (daysR (dOf y t) (cOf y t) y.f_Sea) t.f_Day=b1 at a1 ⊢
 generalize memB (daysR (dOf y t) (cOf y t) y.f_Sea) (t.f_Day+(cOf y t).f_Work)=b2
 rw [← a1]
 by_cases h1:t.f_Day < (cOf y t).f_Arrive
 ·rw [decide_eq_true h1,decide_eq_false (show ¬ t.f_Day≥(cOf y t).f_Arrive by omega)]
  cases fitsV (dOf y t) (cOf y t)<;>simp
 ·rw [decide_eq_false h1,decide_eq_true (show t.f_Day≥(cOf y t).f_Arrive by omega)]
  by_cases h2:t.f_Day > y.f_Last - (cOf y t).f_Work
  ·rw [decide_eq_true h2,decide_eq_false (show ¬ t.f_Day+(cOf y t).f_Work≤y.f_Last by omega)]
   cases fitsV (dOf y t) (cOf y t)<;>simp
  ·rw [decide_eq_false h2,decide_eq_true (show t.f_Day+(cOf y t).f_Work≤y.f_Last by omega)]
   cases fitsV (dOf y t) (cOf y t)<;>cases b1<;>cases b2<;>simp
structure Right (y:TYard) (s:List TStay):Prop where
 len:s.length=y.f_Calls.length
 ship:∀ i,i < s.length→0≤cIx y.f_Calls (sAt s i).f_Call∧0≤dIx y.f_Docks (sAt s i).f_Dock∧stayOwn y (sAt s i)=none
 once:∀ i j,i < s.length→j < i→(sAt s j).f_Call≠(sAt s i).f_Call
 free:∀ i j,i < s.length→j < i→ovB y (sAt s i) (sAt s j)=false
section
variable {y:TYard} (h0:yardCode y=0)
include h0
omit h0 in
theorem right_ok {s:List TStay} (r:Right y s):∀ t,t∈s→StayOk y t:=fun t ht=>by
 obtain ⟨i,hi,rfl⟩:=List.getElem_of_mem ht
 have e:sAt s i=s[i]:=getD_in6 hi
 rw [← e]
 obtain ⟨h1,h2,h3⟩:=r.ship i hi
 exact ⟨h1,poss_bd (own_iff.1 h3)⟩
theorem fit_right {t:List TStay} (hf:Fit y (optA y) [] t):Right y t:=by
 have hn:=nm_ok (yard_parts h0).2
 have hol:(optA y).length=y.f_Calls.length:=by unfold optA;simp
 obtain ⟨h1,h2,_,h4⟩:=(fit_iff y (optA y) [] t).1 hf
 have hlen:t.length=y.f_Calls.length:=by omega
 have hat:∀ i,i < t.length→∃ k dk,k < y.f_Docks.length∧dk∈possV y (y.f_Calls.getD i TCall.d) (y.f_Docks.getD k TDock.d)∧sAt t i=stayOf (y.f_Calls.getD i TCall.d) (y.f_Docks.getD k TDock.d) dk:=fun i hi=>by
  have:=h2 i (by omega)
  rw [opt_get (by omega)] at this
  obtain ⟨d,hd,dk,h5,h6⟩:=opt_mem.1 this
  obtain ⟨k,hk,rfl⟩:=List.getElem_of_mem hd
  exact ⟨k,dk,hk,by rw [getD_in6 hk];exact h5,by rw [getD_in6 hk];exact h6⟩
 have hcx:∀ i,i < t.length→cIx y.f_Calls (sAt t i).f_Call=(i:Int):=fun i hi=>by
  obtain ⟨k,dk,_,_,e⟩:=hat i hi
  rw [e];exact hn i (by omega)
 refine ⟨hlen,fun i hi=>?_,fun i j hi hj e=>?_,fun i j hi hj=>?_⟩
 ·obtain ⟨k,dk,hk,hp,e⟩:=hat i hi
  have hdx:dIx y.f_Docks (sAt t i).f_Dock=(k:Int):=by rw [e];exact nm_dock (yard_parts h0).1 hk
  refine ⟨by rw [hcx i hi];omega,by rw [hdx];omega,own_iff.2 ?_⟩
  have e1:cOf y (sAt t i)=y.f_Calls.getD i TCall.d:=by unfold cOf;rw [hcx i hi];rfl
  have e2:dOf y (sAt t i)=y.f_Docks.getD k TDock.d:=by unfold dOf;rw [hdx];rfl
  rw [e1,e2,e];exact hp
 ·have a:=hcx i hi
  have b:=hcx j (by omega)
  rw [e] at b
  omega
 ·have:=List.pairwise_iff_getElem.1 h4 j i (by omega) hi hj
  rw [ovB_comm]
  unfold sAt
  rw [getD_in6 hi,getD_in6 (show j < t.length by omega)]
  exact this
theorem right_fit {s:List TStay} (r:Right y s):∃ t,Fit y (optA y) [] t∧costV y t=costV y s:=by
 have hn:=nm_ok (yard_parts h0).2
 have hol:(optA y).length=y.f_Calls.length:=by unfold optA;simp
 let idx:TStay→Nat:=fun t=>(cIx y.f_Calls t.f_Call).toNat
 have hm:∀ t,t∈s→0≤cIx y.f_Calls t.f_Call∧idx t < y.f_Calls.length∧0≤dIx y.f_Docks t.f_Dock∧stayOwn y t=none:=fun t ht=>by
  obtain ⟨i,hi,rfl⟩:=List.getElem_of_mem ht
  have e:sAt s i=s[i]:=getD_in6 hi
  have:=r.ship i hi
  rw [e] at this
  have b:=cIx_bd this.1
  exact ⟨this.1,by show (cIx y.f_Calls s[i].f_Call).toNat < _;omega,this.2⟩
 have hinj:∀ i j,(hi:i < s.length)→(hj:j < s.length)→idx s[i]=idx s[j]→i=j:=fun i j hi hj e=>by
  have a:=hm _ (List.getElem_mem hi)
  have b:=hm _ (List.getElem_mem hj)
  have e2:cIx y.f_Calls s[i].f_Call=cIx y.f_Calls s[j].f_Call:=by
   have e:(cIx y.f_Calls s[i].f_Call).toNat=(cIx y.f_Calls s[j].f_Call).toNat:=e
   have:=a.1;have:=b.1
   omega
  have e3:s[i].f_Call=s[j].f_Call:=by rw [← cIx_name a.1,← cIx_name b.1,e2]
  rcases Nat.lt_trichotomy i j with h | h | h
  ·have:=r.once j i hj h
   unfold sAt at this
   rw [getD_in6 hi,getD_in6 hj] at this
   exact absurd e3 this
  ·exact h
  ·have:=r.once i j hi h
   unfold sAt at this
   rw [getD_in6 hi,getD_in6 hj] at this
   exact absurd e3.symm this
 have hnd:(s.map idx).Nodup:=by
  rw [List.Nodup,List.pairwise_iff_getElem]
  intro i j hi hj hij e
  simp only [List.getElem_map,List.length_map] at e hi hj
  have:=hinj i j hi hj e
  omega
 have hsub:s.map idx ⊆ List.range y.f_Calls.length:=fun a ha=>by
  obtain ⟨t,ht,rfl⟩:=List.mem_map.1 ha
  exact List.mem_range.2 (hm t ht).2.1
 have hperm:(s.map idx).Perm (List.range y.f_Calls.length):=by
  rw [List.perm_ext_iff_of_nodup hnd List.nodup_range]
  intro a
  constructor
  ·exact fun h=>hsub h
  ·intro ha
   by_cases hin:a∈s.map idx
   ·exact hin
   ·have h1:(a :: s.map idx).Nodup:=List.nodup_cons.2 ⟨hin,hnd⟩
    have:=h1.length_le_of_subset (l₂:=List.range y.f_Calls.length) fun z hz=>by
     rcases List.mem_cons.1 hz with h | h
     ·rw [h];exact ha
     ·exact hsub h
    simp only [List.length_cons,List.length_map,List.length_range] at this
    have:=r.len
    omega
 let g:Nat→TStay:=fun i=>(s.find? fun t=>idx t == i).getD TStay.d
 have hg:∀ t,t∈s→g (idx t)=t:=fun t ht=>by
  show (s.find? fun u=>idx u == idx t).getD TStay.d=t
  cases hf:s.find? fun u=>idx u == idx t with
  | none =>
   have:=List.find?_eq_none.1 hf t ht
   simp at this
  | some u =>
   have h1:=List.find?_some hf
   have h2:=List.mem_of_find?_eq_some hf
   obtain ⟨i,hi,rfl⟩:=List.getElem_of_mem h2
   obtain ⟨j,hj,rfl⟩:=List.getElem_of_mem ht
   have:=hinj i j hi hj (by simpa using h1)
   subst this;rfl
 have hs2:(s.map idx).map g=s:=by
  rw [List.map_map]
  have:s.map (g ∘ idx)=s.map id:=List.map_congr_left fun t ht=>hg t ht
  rw [this,List.map_id]
 have hp2:s.Perm ((List.range y.f_Calls.length).map g):=by
  have:=hperm.map g
  rw [hs2] at this
  exact this
 refine ⟨(List.range y.f_Calls.length).map g,?_,(costV_perm y hp2).symm⟩
 have hgm:∀ i,i < y.f_Calls.length→g i∈s∧idx (g i)=i:=fun i hi=>by
  have:i∈s.map idx:=hperm.mem_iff.2 (List.mem_range.2 hi)
  obtain ⟨t,ht,rfl⟩:=List.mem_map.1 this
  rw [hg t ht];exact ⟨ht,rfl⟩
 refine (fit_iff y (optA y) [] _).2 ⟨by simp [hol],fun i hi=>?_,fun z hz=>(by cases hz),?_⟩
 ·have hi2:i < y.f_Calls.length:=by omega
  have e:((List.range y.f_Calls.length).map g).getD i TStay.d=g i:=by
   have:i < ((List.range y.f_Calls.length).map g).length:=by simpa using hi2
   rw [getD_in6 this];simp
  rw [e,opt_get hi2]
  obtain ⟨h1,h2⟩:=hgm i hi2
  obtain ⟨a1,a2,a3,a4⟩:=hm _ h1
  have a5:=dIx_bd a3
  refine opt_mem.2 ⟨y.f_Docks.getD (dIx y.f_Docks (g i).f_Dock).toNat TDock.d,getD_mem _ _ _ (by omega),(g i).f_Day,?_,?_⟩
  ·have:=own_iff.1 a4
   unfold cOf at this
   have e3:(cIx y.f_Calls (g i).f_Call).toNat=i:=h2
   rw [e3] at this
   exact this
  ·have e3:(cIx y.f_Calls (g i).f_Call).toNat=i:=h2
   have e4:=cIx_name a1
   rw [e3] at e4
   unfold stayOf
   rw [e4,dIx_name a3]
 ·rw [List.pairwise_map]
  refine List.Pairwise.imp_of_mem ?_ (List.pairwise_lt_range (n:=y.f_Calls.length))
  intro i j hi hj hij
  have hi:=hgm i (List.mem_range.1 hi)
  have hj:=hgm j (List.mem_range.1 hj)
  obtain ⟨a,ha,ea⟩:=List.getElem_of_mem hi.1
  obtain ⟨b,hb,eb⟩:=List.getElem_of_mem hj.1
  have e1:sAt s a=g i:=by rw [← ea];exact getD_in6 ha
  have e2:sAt s b=g j:=by rw [← eb];exact getD_in6 hb
  rcases Nat.lt_trichotomy a b with h | h | h
  ·have:=r.free b a hb h
   rw [e1,e2,ovB_comm] at this;exact this
  ·subst h
   have:i=j:=by rw [← hi.2,← hj.2,← e1,e2]
   omega
  ·have:=r.free a b ha h
   rw [e1,e2] at this;exact this
theorem best_right (hok:0≤(bestQ y).1):Right y (bestQ y).2∧costV y (bestQ y).2=(bestQ y).1:=by
 have v:=yard_of h0
 have hn:=nm_ok (yard_parts h0).2
 have hpos:∀ p,p∈leaves y (optA y) [] 0→0≤p.1:=leaves_pos v (fun O hO=>(optA_ok v hn O hO).1) (Int.le_refl 0)
 rcases pick_two _ (-1) hpos with h | ⟨p,h1,h2,h3,h4⟩
 ·have:bestQ y=(-1,[]):=h []
  rw [this] at hok;exact absurd hok (by decide)
 ·have:bestQ y=p:=h4 []
  rw [this]
  obtain ⟨t,e,hf⟩:=(leaf_iff y _ _ _ p).1 h1
  rw [e,List.nil_append]
  exact ⟨fit_right h0 hf,by simp⟩
theorem best_least {s:List TStay} (r:Right y s):0≤(bestQ y).1∧(bestQ y).1≤costV y s:=by
 have v:=yard_of h0
 have hn:=nm_ok (yard_parts h0).2
 have hpos:∀ p,p∈leaves y (optA y) [] 0→0≤p.1:=leaves_pos v (fun O hO=>(optA_ok v hn O hO).1) (Int.le_refl 0)
 obtain ⟨t,hf,e⟩:=right_fit h0 r
 have:=pick_le _ (-1,[]) hpos (0+costV y t,[] ++ t) ((leaf_iff y _ _ _ _).2 ⟨t,rfl,hf⟩)
 rw [e] at this
 have h2:(0+costV y s,([]:List TStay) ++ t).1=costV y s:=by simp
 rw [h2] at this
 exact this
end
end Go.Den
namespace Go.Den
open Go.Ab
def cl (c:List TCall) (k:Nat):TCall:=c.getD k TCall.d
def sp (s:List TSpot) (k:Nat):TSpot:=s.getD k TSpot.d
def callIx (c:List TCall) (s:ByteArray):Int:=scan (fun k=>cond (streq (cl c k).f_Name s) (some (k:Int)) none) (-1) c.length 0
theorem callIx_inv (c:List TCall) (s:ByteArray):(callIx c s = -1∧∀ i,i < c.length→(cl c i).f_Name≠s)∨∃ i:Nat,i < c.length∧callIx c s=(i:Int)∧(cl c i).f_Name=s:=by
 unfold callIx
 rcases scan_inv (f:=fun k=>cond (streq (cl c k).f_Name s) (some (k:Int)) none) (z:=-1) c.length 0 with ⟨i,r,_,h2,h3,_,h5⟩ | ⟨h1,h2⟩
 ·right
  cases hs:streq (cl c i).f_Name s with
  | false=>simp only [hs,cond_false] at h3;cases h3
  | true =>
   simp only [hs,cond_true,Option.some.injEq] at h3
   exact ⟨i,by omega,by rw [h5,← h3],streq_iff.1 hs⟩
 ·left
  refine ⟨h2,fun i hi he=>?_⟩
  have:=h1 i (Nat.zero_le _) (by omega)
  simp only [streq_iff.2 he,cond_true] at this
  cases this
def withinE (d:TDock) (b:Tberth_box):Bool:=cond (cond (cond (decide (b.f_x≥d.f_Gap)) (decide (b.f_y≥d.f_Gap)) false) (decide ((w64 ((w64 (b.f_x+b.f_w))+d.f_Gap))≤d.fLn)) false) (decide ((w64 ((w64 (b.f_y+b.f_h))+d.f_Gap))≤d.f_Width)) false
def apartE (g:Int) (a b:Tberth_box):Bool:=cond (cond (cond (decide ((w64 ((w64 (a.f_x+a.f_w))+g))≤b.f_x)) true (decide ((w64 ((w64 (b.f_x+b.f_w))+g))≤a.f_x))) true (decide ((w64 ((w64 (a.f_y+a.f_h))+g))≤b.f_y))) true (decide ((w64 ((w64 (b.f_y+b.f_h))+g))≤a.f_y))
theorem apartE_comm (g:Int) (a b:Tberth_box):apartE g a b=apartE g b a:=by
 unfold apartE
 generalize decide ((w64 ((w64 (a.f_x+a.f_w))+g))≤b.f_x)=p,decide ((w64 ((w64 (b.f_x+b.f_w))+g))≤a.f_x)=q,decide ((w64 ((w64 (a.f_y+a.f_h))+g))≤b.f_y)=r,decide ((w64 ((w64 (b.f_y+b.f_h))+g))≤a.f_y)=t
 cases p<;>cases q<;>cases r<;>cases t<;>rfl
def boxS (c:List TCall) (s:List TSpot) (i:Nat):Tberth_box:=⟨(sp s i).f_X,(sp s i).f_Y,(cl c (callIx c (sp s i).f_Call).toNat).fLn,(cl c (callIx c (sp s i).f_Call).toNat).f_Beam⟩
theorem insideB_eq (N:Nat) (d:TDock) (b:Tberth_box):g_berth_inside N d b=some (withinE d b):=rfl
theorem apart6_eq (N:Nat) (a b:Tberth_box) (g:Int):g_berth_apart N a b g=some (apartE g a b):=rfl
def dupS (s:List TSpot) (i:Nat):Bool:=scan (fun j=>cond (streq (sp s j).f_Call (sp s i).f_Call) (some true) none) false i 0
def spotStep (d:TDock) (c:List TCall) (s:List TSpot) (i:Nat):Option Int :=
 cond (decide (callIx c (sp s i).f_Call < 0)) (some 6) (cond (dupS s i) (some 5) (cond (!(ins (sp s i).f_X 0 1000000 && ins (sp s i).f_Y 0 1000000)) (some 2) (cond (!withinE d (boxS c s i)) (some 16) none)))
theorem spot_ok {d:TDock} {c:List TCall} {s:List TSpot} {i:Nat} (h:spotStep d c s i=none):(0≤callIx c (sp s i).f_Call∧callIx c (sp s i).f_Call < ((c.length:Nat):Int))∧dupS s i=false∧(ins (sp s i).f_X 0 1000000=true∧ins (sp s i).f_Y 0 1000000=true)∧withinE d (boxS c s i)=true:=by
 unfold spotStep at h
 cases h1:decide (callIx c (sp s i).f_Call < 0) with
 | true=>rw [h1] at h;cases h
 | false =>
  rw [h1,cond_false] at h
  cases h2:dupS s i with
  | true=>rw [h2] at h;cases h
  | false =>
   rw [h2,cond_false] at h
   cases h3:(ins (sp s i).f_X 0 1000000 && ins (sp s i).f_Y 0 1000000) with
   | false=>rw [h3] at h;cases h
   | true =>
    rw [h3,Bool.not_true,cond_false] at h
    cases h4:withinE d (boxS c s i) with
    | false=>rw [h4] at h;cases h
    | true =>
     refine ⟨?_,rfl,by simpa using h3,rfl⟩
     have h1:=of_decide_eq_false h1
     rcases callIx_inv c (sp s i).f_Call with ⟨h,_⟩ | ⟨j,h,hj,_⟩<;>omega
def pairStep (d:TDock) (c:List TCall) (s:List TSpot) (i:Nat):Option Int :=
 cond (scan (fun j=>cond (!apartE d.f_Gap (boxS c s i) (boxS c s j)) (some true) none) false i 0) (some 17) none
def planCode (d:TDock) (c:List TCall) (s:List TSpot):Int :=
 cond (bothCode d c != 0) (bothCode d c) (cond (((s.length:Nat):Int) != ((c.length:Nat):Int)) 11 (scan (spotStep d c s) (scan (pairStep d c s) 0 s.length 0) s.length 0))
end Go.Den
namespace Go.Den
open Go.Ab
def bx (o:List Tberth_box) (r:Nat):Tberth_box:=o.getD r Tberth_box.d
def ixn (c:List TCall) (s:List TSpot) (i:Nat):Nat:=(callIx c (sp s i).f_Call).toNat
theorem scan_ex {p:Nat→Bool} (n:Nat):scan (fun j=>cond (p j) (some true) none) false n 0=true↔∃ j,j < n∧p j=true:=by
 rcases scan_inv (f:=fun j=>cond (p j) (some true) none) (z:=false) n 0 with ⟨i,r,h1,h2,h3,h4,h5⟩ | ⟨h1,h2⟩
 ·cases hp:p i with
  | false=>simp only [hp,cond_false] at h3;cases h3
  | true =>
   simp only [hp,cond_true,Option.some.injEq] at h3
   rw [h5,← h3]
   exact ⟨fun _=>⟨i,by omega,hp⟩,fun _=>rfl⟩
 ·rw [h2]
  refine ⟨fun h=>(by cases h),fun ⟨j,h3,h4⟩=>?_⟩
  have:=h1 j (Nat.zero_le _) (by omega)
  simp only [h4,cond_true] at this;cases this
theorem dup_iff {s:List TSpot} {i:Nat}:dupS s i=true↔∃ j,j < i∧(sp s j).f_Call=(sp s i).f_Call:=by
 unfold dupS
 rw [scan_ex (p:=fun j=>streq (sp s j).f_Call (sp s i).f_Call)]
 constructor
 ·rintro ⟨j,h1,h2⟩;exact ⟨j,h1,streq_iff.1 h2⟩
 ·rintro ⟨j,h1,h2⟩;exact ⟨j,h1,streq_iff.2 h2⟩
theorem callIx_name {c:List TCall} {s:ByteArray} (h:0≤callIx c s):(callIx c s).toNat < c.length∧callIx c s=(((callIx c s).toNat:Nat):Int)∧(cl c (callIx c s).toNat).f_Name=s:=by
 rcases callIx_inv c s with ⟨h1,_⟩ | ⟨i,h1,h2,h3⟩
 ·omega
 ·rw [h2,toNat_nat];exact ⟨h1,rfl,h3⟩
def allApart (g:Int) (f:Nat→Tberth_box) (n:Nat):Prop:=∀ i,i < n→∀ j,j < i→apartE g (f i) (f j)=true
theorem allApart_sym {g:Int} {f:Nat→Tberth_box} {n:Nat}:allApart g f n↔∀ i j,i < n→j < n→i≠j→apartE g (f i) (f j)=true:=by
 constructor
 ·intro h i j hi hj hne
  by_cases h1:j < i
  ·exact h i hi j h1
  ·rw [apartE_comm];exact h j hj i (by omega)
 ·intro h i hi j hj;exact h i j hi (by omega) (by omega)
structure BI (d:TDock) (c:List TCall) (s:List TSpot) (x:Nat) (out:List Tberth_box) (seen:List Bool):Prop where
 ol:out.length=c.length
 sl:seen.length=c.length
 ok:∀ i,i < x→spotStep d c s i=none
 at_:∀ i,i < x→bx out (ixn c s i)=boxS c s i
 sn:∀ r,r < c.length→(seen.getD r false=true↔∃ i,i < x∧ixn c s i=r)
 cnt:seen.count true=x
theorem ix_ok {d:TDock} {c:List TCall} {s:List TSpot} {i:Nat} (h:spotStep d c s i=none):ixn c s i < c.length∧callIx c (sp s i).f_Call=((ixn c s i:Nat):Int)∧(cl c (ixn c s i)).f_Name=(sp s i).f_Call :=
 callIx_name (spot_ok h).1.1
theorem ix_inj {d:TDock} {c:List TCall} {s:List TSpot} {i j:Nat} (hi:spotStep d c s i=none) (hj:spotStep d c s j=none) (h:ixn c s i=ixn c s j):i=j:=by
 have h1:=(ix_ok hi).2.2
 have h2:=(ix_ok hj).2.2
 rw [h] at h1
 have e:(sp s i).f_Call=(sp s j).f_Call:=h1.symm.trans h2
 have d1:=(spot_ok hi).2.1
 have d2:=(spot_ok hj).2.1
 rcases Nat.lt_trichotomy i j with h3 | h3 | h3
 ·have:=dup_iff.2 ⟨i,h3,e⟩;rw [d2] at this;cases this
 ·exact h3
 ·have:=dup_iff.2 ⟨j,h3,e.symm⟩;rw [d1] at this;cases this
structure Boxed (d:TDock) (c:List TCall) (s:List TSpot) (out:List Tberth_box):Prop where
 len:s.length=c.length
 le:c.length≤8
 ol:out.length=c.length
 ok:∀ i,i < s.length→spotStep d c s i=none
 at_:∀ i,i < s.length→bx out (ixn c s i)=boxS c s i
 on:∀ r,r < c.length→∃ i,i < s.length∧ixn c s i=r
section
variable {d:TDock} {c:List TCall} {s:List TSpot}
theorem Boxed.apart {out:List Tberth_box} (h:Boxed d c s out):allApart d.f_Gap (bx out) c.length↔allApart d.f_Gap (boxS c s) s.length:=by
 rw [allApart_sym,allApart_sym]
 constructor
 ·intro ha i j hi hj hne
  rw [← h.at_ i hi,← h.at_ j hj]
  exact ha _ _ (ix_ok (h.ok i hi)).1 (ix_ok (h.ok j hj)).1 (fun e=>hne (ix_inj (h.ok i hi) (h.ok j hj) e))
 ·intro ha r t hr ht hne
  obtain ⟨i,hi,rfl⟩:=h.on r hr
  obtain ⟨j,hj,rfl⟩:=h.on t ht
  rw [h.at_ i hi,h.at_ j hj]
  exact ha i j hi hj (fun e=>hne (by rw [e]))
theorem BI.full {out:List Tberth_box} {seen:List Bool} (h:BI d c s s.length out seen) (hl:s.length=c.length) (hc:c.length≤8):Boxed d c s out :=
 ⟨hl,hc,h.ol,h.ok,h.at_,fun r hr=>by
  refine (h.sn r hr).1 ?_
  have h1:seen.count true=seen.length:=by rw [h.cnt,h.sl,hl]
  have h2:=List.count_eq_length.1 h1
  have hr':r < seen.length:=by rw [h.sl];exact hr
  have e:seen.getD r false=seen[r]:=by simp [List.getD,hr']
  rw [e]
  exact (h2 _ (List.getElem_mem hr')).symm⟩
end
end Go.Den
namespace Go.Den
open Go.Ab
def blE (d:TDock) (a b:Tberth_box):Bool:=cond (cond (decide (a.f_x < b.f_x)) (decide (a.f_y < (w64 ((w64 (b.f_y+b.f_h))+d.f_Gap)))) false) (decide ((w64 (a.f_y+a.f_h)) > (w64 (b.f_y - d.f_Gap)))) false
section
variable {d:TDock} {c:List TCall} {s:List TSpot} {out:List Tberth_box}
end
end Go.Den
namespace Go.Den
open Go.Ab
end Go.Den
namespace Go.Den
open Go.Ab
theorem nd_inj {α:Type} {f:α→ByteArray} {l:List α} (h:(l.map f).Nodup) {a b:α} (ha:a∈l) (hb:b∈l) (e:f a=f b):a=b:=by
 obtain ⟨i,hi,rfl⟩:=List.getElem_of_mem ha
 obtain ⟨j,hj,rfl⟩:=List.getElem_of_mem hb
 have hp:=List.pairwise_iff_getElem.1 h
 rcases Nat.lt_trichotomy i j with h1 | h1 | h1
 ·have:=hp i j (by simpa using hi) (by simpa using hj) h1
  simp only [List.getElem_map] at this;exact absurd e this
 ·subst h1;rfl
 ·have:=hp j i (by simpa using hj) (by simpa using hi) h1
  simp only [List.getElem_map] at this;exact absurd e.symm this
theorem scan_z {f:Nat→Option Int} {z:Int} {n:Nat} (hf:∀ i,f i≠some 0) (h:scan f z n 0=0):(∀ i,i < n→f i=none)∧z=0:=by
 rcases scan_inv (f:=f) (z:=z) n 0 with ⟨i,r,_,_,h3,_,h5⟩ | ⟨h1,h2⟩
 ·rw [h5] at h;subst h;exact absurd h3 (hf i)
 ·exact ⟨fun i hi=>h1 i (Nat.zero_le _) (by omega),by rw [← h2,h]⟩
theorem getD_in {α:Type} {l:List α} {d:α} {i:Nat} (h:i < l.length):l.getD i d=l[i]:=by simp [List.getD,h]
def CallsOk (c:List TCall):Prop:=c.length≤8∧(∀ y∈c,nameOk y.f_Name=true∧callCode y=0)∧(c.map TCall.f_Name).Nodup
theorem dupC_iff {c:List TCall} {i:Nat}:dupCall c i=true↔∃ j,j < i∧(cl c j).f_Name=(cl c i).f_Name:=by
 unfold dupCall
 rw [scan_ex (p:=fun k=>streq (c.getD k TCall.d).f_Name (c.getD i TCall.d).f_Name)]
 constructor
 ·rintro ⟨j,h1,h2⟩;exact ⟨j,h1,streq_iff.1 h2⟩
 ·rintro ⟨j,h1,h2⟩;exact ⟨j,h1,streq_iff.2 h2⟩
theorem callsOk_iff {c:List TCall}:callsCode c=0↔CallsOk c:=by
 constructor
 ·intro h
  unfold callsCode at h
  cases h8:decide (((c.length:Nat):Int) > 8) with
  | true=>rw [h8] at h;cases h
  | false =>
   rw [h8,cond_false] at h
   have h8:=of_decide_eq_false h8
   have hz:=(scan_z (fun i hi=>by
    unfold stepCall at hi
    revert hi
    generalize callCode (c.getD i TCall.d)=z
    have hb:(z != 0)=!decide (z=0):=by by_cases hz:z=0<;>simp [hz]
    rw [hb]
    by_cases hz:z=0<;>cases nameOk (c.getD i TCall.d).f_Name<;>cases dupCall c i<;>simp [hz]) h).1
   have one:∀ i,i < c.length→nameOk (cl c i).f_Name=true∧dupCall c i=false∧callCode (cl c i)=0:=fun i hi=>by
    have:=hz i hi
    unfold stepCall at this
    unfold cl
    revert this
    generalize callCode (c.getD i TCall.d)=z
    have hb:(z != 0)=!decide (z=0):=by by_cases hz:z=0<;>simp [hz]
    rw [hb]
    by_cases hz:z=0<;>cases nameOk (c.getD i TCall.d).f_Name<;>cases dupCall c i<;>simp [hz]
   refine ⟨by omega,fun y hy=>?_,List.pairwise_iff_getElem.2 fun i j hi hj hij=>?_⟩
   ·obtain ⟨i,hi,rfl⟩:=List.getElem_of_mem hy
    have:=one i hi
    unfold cl at this
    rw [getD_in hi] at this
    exact ⟨this.1,this.2.2⟩
   ·simp only [List.length_map] at hi hj
    simp only [List.getElem_map]
    intro e
    have:=dupC_iff.2 ⟨i,hij,by unfold cl;rw [getD_in hi,getD_in hj];exact e⟩
    rw [(one j hj).2.1] at this;cases this
 ·rintro ⟨h1,h2,h3⟩
  unfold callsCode
  rw [decide_eq_false (by omega),cond_false]
  refine scan_all _ 0 fun i _ hi=>?_
  have hi:i < c.length:=by omega
  have hy:=h2 c[i] (List.getElem_mem hi)
  have hd:dupCall c i=false:=by
   cases hd:dupCall c i with
   | false=>rfl
   | true =>
    obtain ⟨j,hj,e⟩:=dupC_iff.1 hd
    have hjl:j < c.length:=by omega
    have:=List.pairwise_iff_getElem.1 h3 j i (by simpa using hjl) (by simpa using hi) hj
    simp only [List.getElem_map] at this
    unfold cl at e
    rw [getD_in hjl,getD_in hi] at e
    exact absurd e this
  unfold stepCall
  rw [hd,getD_in hi,hy.1,hy.2];rfl
def boxOf (x:TSpot) (y:TCall):Tberth_box:=⟨x.f_X,x.f_Y,y.fLn,y.f_Beam⟩
structure Pl (d:TDock) (c:List TCall) (s:List TSpot):Prop where
 dk:docksCode [d]=0
 cc:CallsOk c
 len:s.length=c.length
 nd:(s.map TSpot.f_Call).Nodup
 spt:∀ x∈s,∃ y∈c,y.f_Name=x.f_Call∧ins x.f_X 0 1000000=true∧ins x.f_Y 0 1000000=true∧withinE d (boxOf x y)=true
 ap:∀ x∈s,∀ x'∈s,x.f_Call≠x'.f_Call→∀ y∈c,∀ y'∈c,y.f_Name=x.f_Call→y'.f_Name=x'.f_Call→apartE d.f_Gap (boxOf x y) (boxOf x' y')=true
section
variable {d:TDock} {c:List TCall} {s:List TSpot}
theorem spotStep_nz (i:Nat):spotStep d c s i≠some 0:=by
 unfold spotStep
 cases decide (callIx c (sp s i).f_Call < 0)<;>cases dupS s i<;>cases (ins (sp s i).f_X 0 1000000 && ins (sp s i).f_Y 0 1000000)<;>cases withinE d (boxS c s i)<;>decide
theorem pairStep_nz (i:Nat):pairStep d c s i≠some 0:=by
 unfold pairStep
 cases scan (fun j=>cond (!apartE d.f_Gap (boxS c s i) (boxS c s j)) (some true) none) false i 0<;>decide
theorem mem_sp {i:Nat} (hi:i < s.length):sp s i∈s:=by unfold sp;rw [getD_in hi];exact List.getElem_mem hi
theorem mem_cl {i:Nat} (hi:i < c.length):cl c i∈c:=by unfold cl;rw [getD_in hi];exact List.getElem_mem hi
theorem sp_of {x:TSpot} (h:x∈s):∃ i,i < s.length∧sp s i=x:=by
 obtain ⟨i,hi,rfl⟩:=List.getElem_of_mem h
 exact ⟨i,hi,by unfold sp;rw [getD_in hi]⟩
theorem cl_of {y:TCall} (h:y∈c):∃ i,i < c.length∧cl c i=y:=by
 obtain ⟨i,hi,rfl⟩:=List.getElem_of_mem h
 exact ⟨i,hi,by unfold cl;rw [getD_in hi]⟩
theorem callIx_of (hc:CallsOk c) {y:TCall} (hy:y∈c):0≤callIx c y.f_Name∧cl c (callIx c y.f_Name).toNat=y:=by
 rcases callIx_inv c y.f_Name with ⟨_,h2⟩ | ⟨i,h1,h2,h3⟩
 ·obtain ⟨i,hi,e⟩:=cl_of hy
  exact absurd (by rw [e]) (h2 i hi)
 ·rw [h2,toNat_nat]
  exact ⟨by omega,nd_inj hc.2.2 (mem_cl h1) hy h3⟩
theorem Pl.of (h:planCode d c s=0):Pl d c s:=by
 unfold planCode at h
 cases hb:bothCode d c != 0 with
 | true=>rw [hb,cond_true] at h;rw [h] at hb;cases hb
 | false =>
  rw [hb,cond_false] at h
  have hb:bothCode d c=0:=by simpa using hb
  cases hl:((s.length:Nat):Int) != ((c.length:Nat):Int) with
  | true=>rw [hl] at h;cases h
  | false =>
   rw [hl,cond_false] at h
   have hs:s.length=c.length:=by simp at hl;omega
   obtain ⟨hst,hz⟩:=scan_z spotStep_nz h
   have hpa:=(scan_z pairStep_nz hz).1
   have hdc:docksCode [d]=0∧callsCode c=0:=by
    unfold bothCode at hb
    cases h1:(docksCode [d] != 0) with
    | true=>rw [h1,cond_true] at hb;rw [hb] at h1;cases h1
    | false=>rw [h1,cond_false] at hb;exact ⟨by simpa using h1,hb⟩
   have hc:=callsOk_iff.1 hdc.2
   have ixx:∀ i,i < s.length→∀ y∈c,y.f_Name=(sp s i).f_Call→boxS c s i=boxOf (sp s i) y:=fun i hi y hy e=>by
    have:=(callIx_of hc hy).2
    rw [e] at this
    unfold boxS boxOf;rw [this]
   refine ⟨hdc.1,hc,hs,List.pairwise_iff_getElem.2 fun i j hi hj hij=>?_,fun x hx=>?_,fun x hx x' hx' hne y hy y' hy' e e'=>?_⟩
   ·simp only [List.length_map] at hi hj
    simp only [List.getElem_map]
    intro e
    have:=dup_iff.2 ⟨i,hij,by unfold sp;rw [getD_in hi,getD_in hj];exact e⟩
    rw [(spot_ok (hst j hj)).2.1] at this;cases this
   ·obtain ⟨i,hi,rfl⟩:=sp_of hx
    have hok:=spot_ok (hst i hi)
    have hix:=ix_ok (hst i hi)
    refine ⟨cl c (ixn c s i),mem_cl hix.1,hix.2.2,hok.2.2.1.1,hok.2.2.1.2,?_⟩
    rw [← ixx i hi _ (mem_cl hix.1) hix.2.2]
    exact hok.2.2.2
   ·obtain ⟨i,hi,rfl⟩:=sp_of hx
    obtain ⟨j,hj,rfl⟩:=sp_of hx'
    rw [← ixx i hi y hy e,← ixx j hj y' hy' e']
    have hall:allApart d.f_Gap (boxS c s) s.length:=fun i hi j hj=>by
     have:=hpa i hi
     unfold pairStep at this
     cases ha:apartE d.f_Gap (boxS c s i) (boxS c s j) with
     | true=>rfl
     | false =>
      rw [(scan_ex (p:=fun j=>!apartE d.f_Gap (boxS c s i) (boxS c s j)) i).2 ⟨j,hj,by rw [ha];rfl⟩] at this
      cases this
    exact allApart_sym.1 hall i j hi hj (fun e=>hne (by rw [e]))
theorem Pl.code (h:Pl d c s):planCode d c s=0:=by
 have hc:=h.cc
 unfold planCode bothCode
 rw [h.dk,callsOk_iff.2 hc]
 have e1:(((s.length:Nat):Int) != ((c.length:Nat):Int))=false:=by rw [h.len];simp
 have ixx:∀ i,i < s.length→∃ y∈c,y.f_Name=(sp s i).f_Call∧boxS c s i=boxOf (sp s i) y∧0≤callIx c (sp s i).f_Call∧ins (sp s i).f_X 0 1000000=true∧ins (sp s i).f_Y 0 1000000=true∧withinE d (boxOf (sp s i) y)=true:=fun i hi=>by
  obtain ⟨y,hy,e,h1,h2,h3⟩:=h.spt _ (mem_sp hi)
  obtain ⟨k1,k2⟩:=callIx_of hc hy
  rw [e] at k1 k2
  exact ⟨y,hy,e,by unfold boxS boxOf;rw [k2],k1,h1,h2,h3⟩
 have hnd:∀ i j,i < j→j < s.length→(sp s i).f_Call≠(sp s j).f_Call:=fun i j hij hj=>by
  have hi:i < s.length:=by omega
  have:=List.pairwise_iff_getElem.1 h.nd i j (by simpa using hi) (by simpa using hj) hij
  simp only [List.getElem_map] at this
  unfold sp;rw [getD_in hi,getD_in hj];exact this
 have h1:scan (pairStep d c s) 0 s.length 0=0:=scan_all _ 0 fun i _ hi=>by
  have hi:i < s.length:=by omega
  unfold pairStep
  cases hs:scan (fun j=>cond (!apartE d.f_Gap (boxS c s i) (boxS c s j)) (some true) none) false i 0 with
  | false=>rfl
  | true =>
   obtain ⟨j,hj,ha⟩:=(scan_ex (p:=fun j=>!apartE d.f_Gap (boxS c s i) (boxS c s j)) i).1 hs
   obtain ⟨y,hy,e,hb,_⟩:=ixx i hi
   obtain ⟨y',hy',e',hb',_⟩:=ixx j (by omega)
   rw [hb,hb',h.ap _ (mem_sp hi) _ (mem_sp (by omega)) (fun e=>hnd j i hj hi e.symm) y hy y' hy' e e'] at ha
   cases ha
 have h2:scan (spotStep d c s) (scan (pairStep d c s) 0 s.length 0) s.length 0=0:=by
  rw [h1]
  refine scan_all _ 0 fun i _ hi=>?_
  have hi:i < s.length:=by omega
  obtain ⟨y,hy,e,hb,k1,k2,k3,k4⟩:=ixx i hi
  have hd:dupS s i=false:=by
   cases hd:dupS s i with
   | false=>rfl
   | true =>
    obtain ⟨j,hj,e⟩:=dup_iff.1 hd
    exact absurd e (hnd j i hj hi)
  unfold spotStep
  rw [hb,decide_eq_false (by omega),hd,k2,k3,k4];rfl
 rw [e1,h2];rfl
theorem Pl.box {out:List Tberth_box} (h:Pl d c s) (hb:Boxed d c s out) {r:Nat} (hr:r < c.length) {x:TSpot} {y:TCall} (hx:x∈s) (hy:y∈c) (e1:x.f_Call=y.f_Name) (e2:y.f_Name=(cl c r).f_Name):bx out r=boxOf x y:=by
 obtain ⟨i,hi,rfl⟩:=hb.on r hr
 have hn:=(ix_ok (hb.ok i hi)).2.2
 have hx':x=sp s i:=nd_inj h.nd hx (mem_sp hi) (by rw [e1,e2,hn])
 have hy':y=cl c (ixn c s i):=nd_inj h.cc.2.2 hy (mem_cl hr) e2
 rw [hb.at_ i hi,hx',hy'];rfl
structure Turn (d:TDock) (c:List TCall) (out:List Tberth_box) (G:List ByteArray) (nm:ByteArray):Prop where
 ex:∃ r,r < c.length∧(cl c r).f_Name=nm∧nm ∉ G∧∀ t,t < c.length→(cl c t).f_Name ∉ G→blE d (bx out t) (bx out r)=false
end
section
end
end Go.Den
set_option linter.unusedSimpArgs false
namespace Go.Den
open Go.Ab
def addS (out:List Int) (a:Int):List Int:=out ++ out.map (fun x=>x+a)
theorem getD_l {α:Type} {l m:List α} {k:Nat} {d:α} (h:k < l.length):(l ++ m).getD k d=l.getD k d:=by simp [List.getD,List.getElem?_append_left h]
theorem addS_loop {R:Type} {L:Nat→List Int→Int→Option R} {K:List Int→Option R} {out:List Int} {a:Int}
  (hstep:∀ fuel (o2:List Int) (k:Nat),k < out.length→o2.getD k 0=out.getD k 0→o2.length=out.length+k→L (fuel+1) o2 (k:Int)=L fuel (o2 ++ [out.getD k 0+a]) ((k+1:Nat):Int))
  (hend:∀ fuel o2,L (fuel+1) o2 ((out.length:Nat):Int)=K o2):∀ (m k fuel:Nat),k+m=out.length→m < fuel→L fuel (out ++ (out.take k).map (fun x=>x+a)) (k:Int)=K (addS out a)
 | 0,k,fuel,hk,hf=>by
  obtain ⟨g,rfl⟩:∃ g,fuel=g+1:=⟨fuel - 1,by omega⟩
  have:k=out.length:=by omega
  subst this
  rw [hend,List.take_length];rfl
 | m+1,k,fuel,hk,hf=>by
  obtain ⟨g,rfl⟩:∃ g,fuel=g+1:=⟨fuel - 1,by omega⟩
  have hlt:k < out.length:=by omega
  rw [hstep g _ k hlt (getD_l hlt) (by simp;omega),List.append_assoc]
  have e:(out.take k).map (fun x=>x+a) ++ [out.getD k 0+a]=(out.take (k+1)).map (fun x=>x+a):=by
   rw [List.take_succ_eq_append_getElem hlt,List.map_append]
   simp [List.getD,hlt]
  rw [e]
  exact addS_loop hstep hend m (k+1) g (by omega) (by omega)
theorem addS_loop0 {R:Type} {L:Nat→List Int→Int→Option R} {K:List Int→Option R} {out:List Int} {a:Int} {fuel:Nat} (hf:out.length < fuel)
  (hstep:∀ fuel (o2:List Int) (k:Nat),k < out.length→o2.getD k 0=out.getD k 0→o2.length=out.length+k→L (fuel+1) o2 (k:Int)=L fuel (o2 ++ [out.getD k 0+a]) ((k+1:Nat):Int))
  (hend:∀ fuel o2,L (fuel+1) o2 ((out.length:Nat):Int)=K o2):L fuel out 0=K (addS out a):=by
 have:=addS_loop hstep hend out.length 0 fuel (by omega) hf
 simpa using this
def oth (f:Nat→Int) (k:Nat):Nat→List Int
 | 0=>[]
 | n+1=>oth f k n ++ (if n=k then [] else [f n])
def Small (out:List Int) (b:Int) (n:Nat):Prop:=out.length≤n∧∀ x,x∈out→0≤x∧x≤b
theorem Small.add {out:List Int} {b a:Int} {n:Nat} (h:Small out b n) (ha:0≤a∧a≤2000000):Small (addS out a) (b+2000000) (2 * n):=by
 refine ⟨by simp [addS];have:=h.1;omega,fun x hx=>?_⟩
 simp only [addS,List.mem_append,List.mem_map] at hx
 rcases hx with hx | ⟨y,hy,rfl⟩
 ·have:=h.2 x hx;omega
 ·have:=h.2 y hy;omega
theorem mem_getD {α:Type} {l:List α} {k:Nat} {d:α} (h:k < l.length):l.getD k d∈l:=by simp [List.getD,h]
def sumS (g:Int) (l:List Int):List Int:=l.foldl addS [g]
theorem sumS_snoc (g:Int) (l:List Int) (a:Int):sumS g (l ++ [a])=addS (sumS g l) a:=by simp [sumS]
theorem sumS_small {g:Int} (hg:0≤g∧g≤1000000):∀ (l:List Int),(∀ x,x∈l→0≤x∧x≤2000000)→Small (sumS g l) (1000000+2000000 * l.length) (2 ^ l.length):=by
 intro l
 induction hn:l.length generalizing l with
 | zero =>
  intro _
  have:l=[]:=List.length_eq_zero_iff.1 hn
  subst this
  exact ⟨by simp [sumS],fun x hx=>by simp [sumS] at hx;omega⟩
 | succ n ih =>
  intro h
  obtain ⟨m,a,rfl⟩:∃ m a,l=m ++ [a]:=⟨l.dropLast,l.getLast (by intro e;simp [e] at hn),(List.dropLast_concat_getLast _).symm⟩
  rw [sumS_snoc]
  have:=(ih m (by simpa using hn) fun x hx=>h x (by simp [hx])).add (h a (by simp))
  refine ⟨by have:=this.1;rw [Nat.pow_succ];omega,fun x hx=>by have:=this.2 x hx;omega⟩
theorem berthSums_L3 {N:Nat} {sizes:List Int} {but gap:Int} {out:List Int} {x:Nat} (hx:x < sizes.length) {K:List Int→Int→Option (List Int)} (hN:out.length < N) {b:Int} (hs:Small out b 256) (hb:b≤100000000)
  (hg:0≤gap∧gap≤1000000) (hz:0≤sizes.getD x 0∧sizes.getD x 0≤1000000) (o0:List Int) (ho:o0.length=out.length) :
  g_berth_sums_L3 N sizes but gap o0 (x:Int) K N out out.length 0=K (addS out (sizes.getD x 0+gap)) ((x+1:Nat):Int)∨sizes.length≥9223372036854775807:=by
 by_cases hbig:sizes.length≥9223372036854775807
 ·exact .inr hbig
 left
 have e:w64 ((x:Int)+1)=((x+1:Nat):Int):=w64_succ (by omega)
 refine addS_loop0 (L:=fun fuel o k=>g_berth_sums_L3 N sizes but gap o0 (x:Int) K fuel o out.length k) (K:=fun o=>K o ((x+1:Nat):Int)) hN (fun fuel o2 k hk h1 h2=>?_) (fun fuel o2=>?_)
 ·have hv:=hs.2 _ (mem_getD (d:=0) hk)
  have e1:w64 (w64 (out.getD k 0+sizes.getD x 0)+gap)=out.getD k 0+(sizes.getD x 0+gap):=by rw [w64_eq (n:=out.getD k 0+sizes.getD x 0) (by omega) (by omega),w64_eq (by omega) (by omega)];omega
  have hl:=hs.1
  simp only [g_berth_sums_L3,ho,dec_lt hk,cond_true,if_pos (inb hk),toNat_nat,h1,e1,w64_succ (show k < 9223372036854775807 by omega),if_pos (show 0+out.length≤o2.length by omega),if_pos (show (o2.length+1) * 8≤140737488355328 by omega)]
 ·simp only [g_berth_sums_L3,ho,dec_nlt,cond_false,g_berth_sums_J2,e]
theorem berthSums_L1 {N:Nat} {sizes:List Int} {but gap:Int} {k:Nat} (hbut:but=(k:Int)) (hl:sizes.length≤8) (hN:300 < N) (hg:0≤gap∧gap≤1000000) (hz:∀ z,z∈sizes→0≤z∧z≤1000000):∀ (m x fuel:Nat),x+m=sizes.length→m < fuel →
  g_berth_sums_L1 N sizes but gap fuel (sumS gap (oth (fun i=>sizes.getD i 0+gap) k x)) (x:Int)=g_berth_sums_L1 N sizes but gap (fuel - m) (sumS gap (oth (fun i=>sizes.getD i 0+gap) k sizes.length)) ((sizes.length:Nat):Int)
 | 0,x,fuel,hx,hf=>by
  have:x=sizes.length:=by omega
  subst this;rfl
 | m+1,x,fuel,hx,hf=>by
  obtain ⟨g,rfl⟩:∃ g,fuel=g+1:=⟨fuel - 1,by omega⟩
  have hlt:x < sizes.length:=by omega
  have ih:=berthSums_L1 hbut hl hN hg hz m (x+1) g (by omega) (by omega)
  have e:w64 ((x:Int)+1)=((x+1:Nat):Int):=w64_succ (by omega)
  rw [g_berth_sums_L1]
  simp only [dec_lt hlt,cond_true,if_pos (inb hlt)]
  rw [show g+1 - (m+1)=g - m by omega,← ih]
  have hoth:∀ (f:Nat→Int) (n:Nat),(oth f k n).length≤n:=by
   intro f n
   induction n with
   | zero=>simp [oth]
   | succ n ih=>simp only [oth,List.length_append];split<;>simp<;>omega
  have hmem:∀ n,n≤sizes.length→∀ y,y∈oth (fun i=>sizes.getD i 0+gap) k n→0≤y∧y≤2000000:=by
   intro n
   induction n with
   | zero=>intro _ y hy;simp [oth] at hy
   | succ n ih =>
    intro hn y hy
    simp only [oth,List.mem_append] at hy
    rcases hy with hy | hy
    ·exact ih (by omega) y hy
    ·split at hy
     ·simp at hy
     ·simp only [List.mem_singleton] at hy
      have:=hz _ (mem_getD (d:=0) (show n < sizes.length by omega));omega
  by_cases hxb:x=k
  ·have hc:((x:Int) == but)=true:=by rw [hbut,hxb];simp
   rw [hc,cond_true,g_berth_sums_J2,e]
   have:oth (fun i=>sizes.getD i 0+gap) k (x+1)=oth (fun i=>sizes.getD i 0+gap) k x:=by simp [oth,hxb]
   rw [this]
  ·have hc:((x:Int) == but)=false:=by rw [hbut];simp;omega
   rw [hc,cond_false]
   have ho:oth (fun i=>sizes.getD i 0+gap) k (x+1)=oth (fun i=>sizes.getD i 0+gap) k x ++ [sizes.getD x 0+gap]:=by simp [oth,hxb]
   rw [ho,sumS_snoc]
   have hl2:=hoth (fun i=>sizes.getD i 0+gap) x
   have hsm:=sumS_small hg _ (hmem x (by omega))
   have hp:2 ^ (oth (fun i=>sizes.getD i 0+gap) k x).length≤2 ^ 8:=Nat.pow_le_pow_right (by omega) (by omega)
   have hp:2 ^ (oth (fun i=>sizes.getD i 0+gap) k x).length≤256:=hp
   rcases berthSums_L3 (N:=N) (but:=but) (gap:=gap) (K:=g_berth_sums_L1 N sizes but gap g) hlt (by have:=hsm.1;omega) (out:=sumS gap (oth (fun i=>sizes.getD i 0+gap) k x)) (b:=100000000) ⟨by have:=hsm.1;omega,fun y hy=>by have:=hsm.2 y hy;omega⟩ (by omega) hg (hz _ (mem_getD hlt)) _ rfl with h | h
   ·exact h
   ·omega
end Go.Den
set_option linter.unusedSimpArgs false
namespace Go.Den
open Go.Ab
def sink:List Int→Int→List Int→List Int
 | [],x,p=>x :: p
 | y :: q,x,p=>if x < y then sink q x (y :: p) else (y :: q).reverse ++ x :: p
theorem sink_len:∀ (q:List Int) (x:Int) (p:List Int),(sink q x p).length=q.length+1+p.length
 | [],x,p=>by simp [sink];omega
 | y :: q,x,p=>by
  rw [sink];split
  ·rw [sink_len q];simp;omega
  ·simp;omega
def srt:List Int→List Int→List Int
 | pre,[]=>pre
 | pre,x :: post=>srt (sink pre.reverse x []) post
theorem getD_mid {a b:List Int} {x:Int}:(a ++ x :: b).getD a.length 0=x:=by simp [List.getD]
theorem set_mid {a b:List Int} {x y:Int}:(a ++ x :: b).set a.length y=a ++ y :: b:=by simp [List.set_append]
theorem less_eq (N:Nat) (x y:Int):g_cmp_Less_int N x y=some (decide (x < y)):=by
 simp [g_cmp_Less_int,g_cmp_isNaN_int]
theorem ins_L2 {N:Nat} {b i:Int} {K:List Int→Int→Option (List Int)}:∀ (q:List Int) (x:Int) (p post:List Int) (fuel:Nat),q.length < fuel→q.length < 1000000 →
  g_slices_insertionSortOrdered_int_L2 N 0 b i K fuel (q.reverse ++ x :: (p ++ post)) ((q.length:Nat):Int)=K (sink q x p ++ post) (w64 (i+1))
 | [],x,p,post,fuel,hf,_=>by
  obtain ⟨g,rfl⟩:∃ g,fuel=g+1:=⟨fuel - 1,by omega⟩
  simp [g_slices_insertionSortOrdered_int_L2,sink]
 | y :: r,x,p,post,fuel,hf,hb=>by
  obtain ⟨g,rfl⟩:∃ g,fuel=g+1:=⟨fuel - 1,by omega⟩
  have hb:r.length+1 < 1000000:=hb
  have e1:w64 ((((y :: r).length:Nat):Int) - 1)=((r.length:Nat):Int):=by rw [w64_eq (by simp only [List.length_cons];omega) (by simp only [List.length_cons];omega)];simp
  have hpos:decide ((((y :: r).length:Nat):Int) > 0)=true:=by simp
  have hlen:((y :: r).reverse ++ x :: (p ++ post)).length=r.length+1+1+(p ++ post).length:=by simp only [List.length_append,List.length_reverse,List.length_cons];omega
  have g1:((y :: r).reverse ++ x :: (p ++ post)).getD (y :: r).length 0=x:=by
   have:=getD_mid (a:=(y :: r).reverse) (b:=p ++ post) (x:=x)
   rwa [List.length_reverse] at this
  have ee:(y :: r).reverse ++ x :: (p ++ post)=r.reverse ++ y :: (x :: (p ++ post)):=by simp
  have g2:((y :: r).reverse ++ x :: (p ++ post)).getD r.length 0=y:=by
   have:=getD_mid (a:=r.reverse) (b:=x :: (p ++ post)) (x:=y)
   rw [ee];rwa [List.length_reverse] at this
  have s1:(((y :: r).reverse ++ x :: (p ++ post)).set (y :: r).length y).set r.length x=r.reverse ++ x :: ((y :: p) ++ post):=by
   have a1:=set_mid (a:=(y :: r).reverse) (b:=p ++ post) (x:=x) (y:=y)
   rw [List.length_reverse] at a1
   rw [a1,show (y :: r).reverse ++ y :: (p ++ post)=r.reverse ++ y :: (y :: (p ++ post)) by simp]
   have a2:=set_mid (a:=r.reverse) (b:=y :: (p ++ post)) (x:=y) (y:=x)
   rw [List.length_reverse] at a2
   rw [a2];rfl
  have i1:0≤(((y :: r).length:Nat):Int)∧(((y :: r).length:Nat):Int) < ((((y :: r).reverse ++ x :: (p ++ post)).length:Nat):Int):=by rw [hlen];simp;omega
  have i2:0≤((r.length:Nat):Int)∧((r.length:Nat):Int) < ((((y :: r).reverse ++ x :: (p ++ post)).length:Nat):Int):=by rw [hlen];omega
  rw [g_slices_insertionSortOrdered_int_L2]
  simp only [e1,hpos,cond_true,toNat_nat,g1,g2,less_eq,Option.bind_some,if_pos i1,if_pos i2,if_pos (fun _=>i1),if_pos (fun _=>i2),s1]
  rw [sink]
  by_cases hxy:x < y
  ·rw [decide_eq_true hxy,cond_true,if_pos hxy]
   exact ins_L2 r x (y :: p) post g (by simp at hf;omega) (by omega)
  ·rw [decide_eq_false hxy,cond_false,if_neg hxy,List.append_assoc];rfl
theorem ins_L1 {N:Nat} {b:Int}:∀ (post pre:List Int) (fuel:Nat),post.length < fuel→b=(((pre ++ post).length:Nat):Int)→pre.length+post.length < 1000000→pre.length+post.length < N →
  g_slices_insertionSortOrdered_int_L1 N 0 b fuel (pre ++ post) ((pre.length:Nat):Int)=some (srt pre post)
 | [],pre,fuel,hf,hb,_,_=>by
  obtain ⟨g,rfl⟩:∃ g,fuel=g+1:=⟨fuel - 1,by omega⟩
  rw [g_slices_insertionSortOrdered_int_L1,hb,List.append_nil,dec_nlt,cond_false];rfl
 | x :: post,pre,fuel,hf,hb,hs,hN=>by
  obtain ⟨g,rfl⟩:∃ g,fuel=g+1:=⟨fuel - 1,by omega⟩
  simp only [List.length_cons] at hs hN hf
  rw [g_slices_insertionSortOrdered_int_L1]
  have hlt:pre.length < (pre ++ x :: post).length:=by simp
  have e:=ins_L2 (N:=N) (b:=b) (i:=((pre.length:Nat):Int)) (K:=g_slices_insertionSortOrdered_int_L1 N 0 b g) pre.reverse x [] post N (by simp;omega) (by simp;omega)
  simp only [List.reverse_reverse,List.length_reverse,List.nil_append] at e
  rw [hb,dec_lt hlt,cond_true,← hb,e,w64_succ (by omega)]
  have hl:=sink_len pre.reverse x []
  simp only [List.length_reverse,List.length_nil,Nat.add_zero] at hl
  have h2:b=(((sink pre.reverse x [] ++ post).length:Nat):Int):=by
   rw [hb,List.length_append,List.length_append,hl,List.length_cons];omega
  have:=ins_L1 (N:=N) (b:=b) post (sink pre.reverse x []) g (by omega) h2 (by omega) (by omega)
  rw [hl] at this
  rw [this];rfl
theorem srt_len:∀ (post pre:List Int),(srt pre post).length=pre.length+post.length
 | [],pre=>by simp [srt]
 | x :: post,pre=>by rw [srt,srt_len post,sink_len];simp;omega
theorem sort_eq {N:Nat} {x:Int} {l:List Int} (hl:l.length≤11) (hN:20 < N) (hb:∃ r,g_math_bits_Len N (IntKind.u64.wrap (((x :: l).length:Nat):Int))=some r):g_slices_Sort_int_int N (x :: l)=some (srt [x] l):=by
 obtain ⟨r,hr⟩:=hb
 obtain ⟨M,rfl⟩:∃ M,N=M+1:=⟨N - 1,by omega⟩
 unfold g_slices_Sort_int_int
 rw [hr,Option.bind_some,g_slices_pdqsortOrdered_int,g_slices_pdqsortOrdered_int_L1]
 have hd:decide (w64 ((((x :: l).length:Nat):Int) - 0)≤12)=true:=by rw [w64_eq (by simp;omega) (by simp;omega)];simp;omega
 have hi:=ins_L1 (N:=M+1) (b:=(((x :: l).length:Nat):Int)) l [x] (M+1) (by omega) rfl (by simp;omega) (by simp;omega)
 have hlen:(srt [x] l).length=(x :: l).length:=by rw [srt_len];simp;omega
 rw [hd,cond_true]
 unfold g_slices_insertionSortOrdered_int
 have e1:w64 (0+1)=(([x].length:Nat):Int):=rfl
 have hi:g_slices_insertionSortOrdered_int_L1 (M+1) 0 (((x :: l).length:Nat):Int) (M+1) (x :: l) (([x].length:Nat):Int)=some (srt [x] l):=hi
 rw [e1,hi,Option.bind_some,if_pos hlen,Option.bind_some,if_pos hlen]
end Go.Den
set_option linter.unusedSimpArgs false
namespace Go.Den
open Go.Ab
def nrm (g:Int):List Int→List Int
 | []=>[g]
 | [a]=>[g,g+a]
 | a :: b :: _=>if a < b then [g,g+a,g+b,g+a+b] else if a=b then [g,g+a,g+a+b] else [g,g+b,g+a,g+a+b]
theorem compact_nd {N:Nat} {l:List Int} (hl:l.length < 1000) (hN:l.length < N) (h:∀ k,1≤k→k < l.length→l.getD k 0≠l.getD (k - 1) 0):g_slices_Compact_int_int N l=some (l,l):=by
 unfold g_slices_Compact_int_int
 by_cases h2:l.length < 2
 ·rw [decide_eq_true (by omega)];rfl
 ·rw [decide_eq_false (by omega),cond_false]
  have key:∀ m k fuel,1≤k→k+m=l.length→m < fuel→g_slices_Compact_int_int_L1 N l fuel (k:Int)=some (l,l):=by
   intro m
   induction m with
   | zero =>
    intro k fuel h1 hk hf
    obtain ⟨g,rfl⟩:∃ g,fuel=g+1:=⟨fuel - 1,by omega⟩
    have:k=l.length:=by omega
    rw [g_slices_Compact_int_int_L1,this,dec_nlt];rfl
   | succ m ih =>
    intro k fuel h1 hk hf
    obtain ⟨g,rfl⟩:∃ g,fuel=g+1:=⟨fuel - 1,by omega⟩
    have hlt:k < l.length:=by omega
    have e1:w64 ((k:Int) - 1)=((k - 1:Nat):Int):=by rw [w64_eq (by omega) (by omega)];omega
    have hc:(l.getD k 0 == l.getD (k - 1) 0)=false:=by simpa using h k h1 hlt
    rw [g_slices_Compact_int_int_L1,dec_lt hlt,cond_true,if_pos (inb hlt),e1,if_pos (inb (by omega)),toNat_nat,toNat_nat,hc,cond_false,w64_succ (by omega)]
    exact ih (k+1) g (by omega) (by omega) (by omega)
  exact key (l.length - 1) 1 N (by omega) (by omega) (by omega)
theorem compact_dup {N:Nat} {g u v:Int} (h1:g≠u) (h2:u≠v) (hN:10 < N):g_slices_Compact_int_int N [g,u,u,v]=some ([g,u,v],[g,u,v]):=by
 obtain ⟨M,rfl⟩:∃ M,N=M+1+1+1:=⟨N - 3,by omega⟩
 have a0:w64 (1 - 1)=0:=by decide
 have a1:w64 (2 - 1)=1:=by decide
 have a2:w64 (1+1)=2:=by decide
 have a3:w64 (2+1)=3:=by decide
 have nb1:(u == g)=false:=by simpa using fun e=>h1 e.symm
 have nb2:(v != u)=true:=by simpa using fun e=>h2 e.symm
 have e2:∀ K,g_slices_Compact_int_int_L2 (M+1+1+1) [g,u,u,v] 2 K (M+1+1+1) [g,u,u,v] 2 1=some ([g,u,v],[g,u,v]):=by
  intro K
  rw [g_slices_Compact_int_int_L2]
  simp only [List.length_cons,List.length_nil]
  simp only [show decide ((1:Int) < ((0+1+1+1+1 - (2:Int).toNat:Nat):Int))=true from rfl,cond_true,show (2:Int).toNat=2 from rfl,show (1:Int).toNat=1 from rfl,a0,show (0:Int).toNat=0 from rfl]
  rw [if_pos (by decide),if_pos (by decide),if_pos (by decide)]
  rw [show ([g,u,u,v].getD (addz 2 1) 0 != [g,u,u,v].getD (addz 2 0) 0)=true from nb2,cond_true,if_pos (by decide),g_slices_Compact_int_int_J3,a2,a3]
  rw [show [g,u,u,v].set 2 ([g,u,u,v].getD (addz 2 1) 0)=[g,u,v,v] from rfl,g_slices_Compact_int_int_L2]
  rfl
 unfold g_slices_Compact_int_int
 rw [show decide ((([g,u,u,v].length:Nat):Int) < 2)=false from rfl,cond_false,g_slices_Compact_int_int_L1]
 simp only [List.length_cons,List.length_nil,a0]
 rw [show decide ((1:Int) < ((0+1+1+1+1:Nat):Int))=true from rfl,cond_true,if_pos (by decide),if_pos (by decide)]
 rw [show ([g,u,u,v].getD (1:Int).toNat 0 == [g,u,u,v].getD (0:Int).toNat 0)=false from nb1,cond_false,a2,g_slices_Compact_int_int_L1]
 simp only [List.length_cons,List.length_nil,a1]
 rw [show decide ((2:Int) < ((0+1+1+1+1:Nat):Int))=true from rfl,cond_true,if_pos (by decide),if_pos (by decide)]
 rw [show ([g,u,u,v].getD (2:Int).toNat 0 == [g,u,u,v].getD (1:Int).toNat 0)=true from by show (u == u)=true;simp,cond_true,if_pos (by decide),if_pos (by decide)]
 exact e2 _
theorem bits1 (N:Nat):g_math_bits_Len N (IntKind.u64.wrap ((1:Nat):Int))=some 1:=by kernel_rfl
theorem bits2 (N:Nat):g_math_bits_Len N (IntKind.u64.wrap ((2:Nat):Int))=some 2:=by kernel_rfl
theorem bits4 (N:Nat):g_math_bits_Len N (IntKind.u64.wrap ((4:Nat):Int))=some 3:=by kernel_rfl
theorem sortedSums {N:Nat} (hN:30 < N) {g:Int} {l:List Int} (hl:l.length≤2) (ha:∀ x,x∈l→1≤x):∃ r,g_slices_Sort_int_int N (sumS g l)=some r∧r.length=(sumS g l).length∧g_slices_Compact_int_int N r=some (nrm g l,nrm g l):=by
 match l,hl with
 | [],_=>exact ⟨[g],sort_eq (by simp) (by omega) ⟨_,bits1 N⟩,rfl,by unfold g_slices_Compact_int_int;rfl⟩
 | [a],_ =>
  have h1:=ha a (by simp)
  refine ⟨[g,g+a],?_,rfl,compact_nd (N:=N) (l:=[g,g+a]) (by simp) (by simp;omega) (fun k h1 h2=>?_)⟩
  ·have es:=sort_eq (N:=N) (x:=g) (l:=[g+a]) (by simp) (by omega) ⟨_,bits2 N⟩
   rw [show sumS g [a]=g :: [g+a] from rfl,es]
   simp [srt,sink,show ¬ g+a < g by omega]
  ·have:k=1:=by simp at h2;omega
   subst this;show g+a≠g;omega
 | [a,b],_ =>
  have h1:=ha a (by simp)
  have h2:=ha b (by simp)
  have e:sumS g [a,b]=g :: [g+a,g+b,g+a+b]:=rfl
  have es:=sort_eq (N:=N) (x:=g) (l:=[g+a,g+b,g+a+b]) (by simp) (by omega) ⟨_,bits4 N⟩
  have c1:¬ g+a < g:=by omega
  have c2:¬ g+b < g:=by omega
  have c4:¬ g+a+b < g+a:=by omega
  have c5:¬ g+a+b < g+b:=by omega
  rw [e]
  rcases Int.lt_trichotomy a b with h | h | h
  ·have c6:¬ g+b < g+a:=by omega
   refine ⟨[g,g+a,g+b,g+a+b],by rw [es];simp [srt,sink,c1,c2,c4,c5,c6],rfl,?_⟩
   rw [show nrm g [a,b]=[g,g+a,g+b,g+a+b] by simp [nrm,h]]
   refine compact_nd (by simp) (by simp;omega) (fun k h3 h4=>?_)
   have:k=1∨k=2∨k=3:=by simp at h4;omega
   rcases this with rfl | rfl | rfl
   ·show g+a≠g;omega
   ·show g+b≠g+a;omega
   ·show g+a+b≠g+b;omega
  ·subst h
   refine ⟨[g,g+a,g+a,g+a+a],by rw [es];simp [srt,sink,c1,c2,c4,c5],rfl,?_⟩
   rw [show nrm g [a,a]=[g,g+a,g+a+a] by simp [nrm]]
   exact compact_dup (by omega) (by omega) (by omega)
  ·have c6:g+b < g+a:=by omega
   refine ⟨[g,g+b,g+a,g+a+b],by rw [es];simp [srt,sink,c1,c2,c4,c5,c6],rfl,?_⟩
   rw [show nrm g [a,b]=[g,g+b,g+a,g+a+b] by simp [nrm,show ¬ a < b by omega,show ¬ a=b by omega]]
   refine compact_nd (by simp) (by simp;omega) (fun k h3 h4=>?_)
   have:k=1∨k=2∨k=3:=by simp at h4;omega
   rcases this with rfl | rfl | rfl
   ·show g+b≠g;omega
   ·show g+a≠g+b;omega
   ·show g+a+b≠g+a;omega
theorem oth_len3 {f:Nat→Int} {k n:Nat} (hk:k < n) (hn:n≤3):(oth f k n).length≤2:=by
 have:n=1∨n=2∨n=3:=by omega
 rcases this with rfl | rfl | rfl
 ·have:k=0:=by omega
  subst this;simp [oth]
 ·have:k=0∨k=1:=by omega
  rcases this with rfl | rfl<;>simp [oth]
 ·have:k=0∨k=1∨k=2:=by omega
  rcases this with rfl | rfl | rfl<;>simp [oth]
theorem oth_mem {f:Nat→Int} {k:Nat}:∀ {n:Nat} {y:Int},y∈oth f k n↔∃ i,i < n∧i≠k∧y=f i
 | 0,y=>by simp [oth]
 | n+1,y=>by
  simp only [oth,List.mem_append,oth_mem (n:=n)]
  constructor
  ·rintro (⟨i,h1,h2,h3⟩ | h)
   ·exact ⟨i,by omega,h2,h3⟩
   ·split at h
    ·simp at h
    ·rename_i hne;simp at h;exact ⟨n,by omega,hne,h⟩
  ·rintro ⟨i,h1,h2,h3⟩
   by_cases hi:i=n
   ·right;subst hi;rw [if_neg h2];simp [h3]
   ·exact .inl ⟨i,by omega,h2,h3⟩
theorem berthSums_eq {N:Nat} (hN:400 < N) {sizes:List Int} {gap:Int} {k:Nat} (hk:k < sizes.length) (hl:sizes.length≤3) (hg:0≤gap∧gap≤1000000) (hz:∀ z,z∈sizes→1≤z∧z≤1000000) :
  g_berth_sums N sizes (k:Int) gap=some (nrm gap (oth (fun i=>sizes.getD i 0+gap) k sizes.length)):=by
 unfold g_berth_sums
 have h1:=berthSums_L1 (N:=N) (sizes:=sizes) (but:=(k:Int)) (gap:=gap) rfl (by omega) (by omega) hg (fun z hz'=>by have:=hz z hz';omega) sizes.length 0 N (by omega) (by omega)
 have h0:sumS gap (oth (fun i=>sizes.getD i 0+gap) k 0)=[gap]:=rfl
 rw [h0] at h1
 refine h1.trans ?_
 obtain ⟨f,hf⟩:∃ f,N - sizes.length=f+1:=⟨N - sizes.length - 1,by omega⟩
 rw [hf,g_berth_sums_L1,dec_nlt,cond_false]
 obtain ⟨r,r1,r2,r3⟩:=sortedSums (N:=N) (by omega) (g:=gap) (oth_len3 (f:=fun i=>sizes.getD i 0+gap) hk hl) (fun x hx=>by
  obtain ⟨i,q1,_,rfl⟩:=oth_mem.1 hx
  have:=hz _ (mem_getD (d:=0) q1);omega)
 rw [r1,Option.bind_some,if_pos r2,r3];rfl
end Go.Den
set_option linter.unusedSimpArgs false
namespace Go.Den
open Go.Ab
end Go.Den
set_option linter.unusedSimpArgs false
namespace Go.Den
open Go.Ab
def bxs (c:List TCall) (k:Nat) (x y:Int):Tberth_box:=⟨x,y,(cl c k).fLn,(cl c k).f_Beam⟩
def xsOf (d:TDock) (c:List TCall) (k:Nat):List Int:=nrm d.f_Gap (oth (fun i=>(cl c i).fLn+d.f_Gap) k c.length)
def ysOf (d:TDock) (c:List TCall) (k:Nat):List Int:=nrm d.f_Gap (oth (fun i=>(cl c i).f_Beam+d.f_Gap) k c.length)
def okP (d:TDock) (pre:List Tberth_box) (b:Tberth_box):Prop:=withinE d b=true∧∀ m,m < pre.length→apartE d.f_Gap (bx pre m) b=true
instance (d:TDock) (pre:List Tberth_box) (b:Tberth_box):Decidable (okP d pre b):=by unfold okP;infer_instance
def srch (d:TDock) (c:List TCall):Nat→List Tberth_box→Option (List Tberth_box)
 | 0,pre=>some pre
 | n+1,pre=>(xsOf d c pre.length).findSome? fun x=>(ysOf d c pre.length).findSome? fun y=>if okP d pre (bxs c pre.length x y) then srch d c n (pre ++ [bxs c pre.length x y]) else none
theorem srch_some {d:TDock} {c:List TCall}:∀ {n:Nat} {pre full:List Tberth_box},srch d c n pre=some full→full.length=pre.length+n∧full.take pre.length=pre
 | 0,pre,full,h=>by simp only [srch,Option.some.injEq] at h;subst h;simp
 | n+1,pre,full,h=>by
  simp only [srch] at h
  obtain ⟨x,_,h⟩:=List.exists_of_findSome?_eq_some h
  obtain ⟨y,_,h⟩:=List.exists_of_findSome?_eq_some h
  split at h
  ·obtain ⟨h1,h2⟩:=srch_some h
   refine ⟨by rw [h1];simp;omega,?_⟩
   have:=congrArg (List.take pre.length) h2
   rw [List.take_take,List.take_left] at this
   rwa [Nat.min_eq_left (by simp)] at this
  ·cases h
structure SK (d:TDock) (c:List TCall):Prop where
 len:c.length≤3
 gap:0≤d.f_Gap∧d.f_Gap≤1000000
 lens:∀ i,i < c.length→1≤(cl c i).fLn∧(cl c i).fLn≤1000000
 beams:∀ i,i < c.length→1≤(cl c i).f_Beam∧(cl c i).f_Beam≤1000000
theorem tryLoop {L:Nat→List Tberth_box→Int→Option (Bool×List Tberth_box)} {l:List Int} {F:Int→Option (List Tberth_box)} {inv:List Tberth_box→Prop}
  (hstep:∀ fuel arr (m:Nat),m < l.length→inv arr→(∃ full,F (l.getD m 0)=some full∧L (fuel+1) arr (m:Int)=some (true,full))∨(F (l.getD m 0)=none∧∃ arr',inv arr'∧L (fuel+1) arr (m:Int)=L fuel arr' ((m+1:Nat):Int))) :
  ∀ (k m fuel:Nat) (arr:List Tberth_box),m+k=l.length→k < fuel→inv arr→(∃ full,(l.drop m).findSome? F=some full∧L fuel arr (m:Int)=some (true,full))∨((l.drop m).findSome? F=none∧∃ arr' g,inv arr'∧L fuel arr (m:Int)=L (g+1) arr' ((l.length:Nat):Int))
 | 0,m,fuel,arr,hm,hf,hi=>by
  obtain ⟨g,rfl⟩:∃ g,fuel=g+1:=⟨fuel - 1,by omega⟩
  have:m=l.length:=by omega
  subst this
  exact .inr ⟨by simp,arr,g,hi,rfl⟩
 | k+1,m,fuel,arr,hm,hf,hi=>by
  obtain ⟨g,rfl⟩:∃ g,fuel=g+1:=⟨fuel - 1,by omega⟩
  have hlt:m < l.length:=by omega
  have hd:l.drop m=l.getD m 0 :: l.drop (m+1):=by rw [List.drop_eq_getElem_cons hlt];simp [List.getD,hlt]
  rw [hd,List.findSome?_cons]
  rcases hstep g arr m hlt hi with ⟨full,h1,h2⟩ | ⟨h1,arr',h2,h3⟩
  ·exact .inl ⟨full,by rw [h1],h2⟩
  ·rw [h1,h3]
   exact tryLoop hstep k (m+1) g arr' (by omega) (by omega) h2
theorem take_set_app {α:Type} {arr pre:List α} {b:α} (h:arr.take pre.length=pre) (hl:pre.length < arr.length):(arr.set pre.length b).take (pre.length+1)=pre ++ [b]:=by
 apply List.ext_getElem?
 intro j
 have hp:∀ j,j < pre.length→arr[j]?=pre[j]?:=fun j hj=>by have:=congrArg (fun l=>l[j]?) h;simp only [List.getElem?_take,if_pos hj] at this;exact this
 rw [List.getElem?_take]
 by_cases h1:j < pre.length+1
 ·rw [if_pos h1]
  by_cases h2:j=pre.length
  ·subst h2;simp [hl]
  ·rw [List.getElem?_set_ne (by omega),List.getElem?_append_left (by omega)]
   exact hp j (by omega)
 ·rw [if_neg h1,List.getElem?_eq_none (by simp;omega)]
theorem contains_box {N:Nat} {d:TDock} {pre:List Tberth_box} {b:Tberth_box} (hN:pre.length < N) (hl:pre.length < 1000):∃ q,g_slices_ContainsFunc_berth_box_berth_box N pre b d=some q∧(q=false↔∀ m,m < pre.length→apartE d.f_Gap (bx pre m) b=true):=by
 refine ⟨scan (fun m=>cond (!apartE d.f_Gap (bx pre m) b) (some true) none) false pre.length 0,?_,?_⟩
 ·have e:g_slices_IndexFunc_berth_box_berth_box N pre b d=some (scan (fun m=>cond (!apartE d.f_Gap (bx pre m) b) (some (m:Int)) none) (-1) pre.length 0):=by
   unfold g_slices_IndexFunc_berth_box_berth_box
   refine loop_scan0 (L:=fun fuel=>g_slices_IndexFunc_berth_box_berth_box_L1 N pre b d fuel) _ _ hN (fun fuel k hk=>?_) (fun fuel=>?_)
   ·simp only [g_slices_IndexFunc_berth_box_berth_box_L1,dec_lt hk,cond_true,if_pos (inb hk),w64_succ (show k < 9223372036854775807 by omega),toNat_nat,g_berth_Place_1_1,apart6_eq,Option.bind_some]
    change cond (!apartE d.f_Gap (bx pre k) b) _ _=_
    cases apartE d.f_Gap (bx pre k) b<;>rfl
   ·simp only [g_slices_IndexFunc_berth_box_berth_box_L1,dec_nlt,cond_false]
  unfold g_slices_ContainsFunc_berth_box_berth_box
  rw [e,Option.bind_some,scan_index (p:=fun m=>!apartE d.f_Gap (bx pre m) b)]
 ·have h:=scan_ex (p:=fun m=>!apartE d.f_Gap (bx pre m) b) pre.length
  constructor
  ·intro hq m hm
   cases ha:apartE d.f_Gap (bx pre m) b with
   | true=>rfl
   | false =>
    have:=h.2 ⟨m,hm,by rw [ha];rfl⟩
    rw [hq] at this;cases this
  ·intro hall
   cases hq:scan (fun m=>cond (!apartE d.f_Gap (bx pre m) b) (some true) none) false pre.length 0 with
   | false=>rfl
   | true =>
    obtain ⟨j,hj,h2⟩:=h.1 hq
    rw [hall j hj] at h2;cases h2
theorem map_cl (c:List TCall) (f:TCall→Int) {i:Nat} (hi:i < c.length):(c.map f).getD i 0=f (cl c i):=by simp [cl,List.getD,hi]
theorem oth_congr {f g:Nat→Int} {k:Nat}:∀ {n:Nat},(∀ i,i < n→f i=g i)→oth f k n=oth g k n
 | 0,_=>rfl
 | n+1,h=>by simp only [oth];rw [oth_congr fun i hi=>h i (by omega),h n (by omega)]
theorem xs_eq {N:Nat} {d:TDock} {c:List TCall} (hN:400 < N) (h:SK d c) {k:Nat} (hk:k < c.length):g_berth_sums N (c.map (·.fLn)) (k:Int) d.f_Gap=some (xsOf d c k):=by
 rw [berthSums_eq hN (by simpa using hk) (by simpa using h.len) h.gap (fun z hz=>?_)]
 ·unfold xsOf
  rw [List.length_map]
  congr 2
  exact oth_congr fun i hi=>by rw [map_cl c _ hi]
 ·obtain ⟨i,hi,rfl⟩:=List.getElem_of_mem hz
  have hi':i < c.length:=by simpa using hi
  have:=h.lens i hi'
  simpa [cl,List.getD,hi'] using this
theorem ys_eq {N:Nat} {d:TDock} {c:List TCall} (hN:400 < N) (h:SK d c) {k:Nat} (hk:k < c.length):g_berth_sums N (c.map (·.f_Beam)) (k:Int) d.f_Gap=some (ysOf d c k):=by
 rw [berthSums_eq hN (by simpa using hk) (by simpa using h.len) h.gap (fun z hz=>?_)]
 ·unfold ysOf
  rw [List.length_map]
  congr 2
  exact oth_congr fun i hi=>by rw [map_cl c _ hi]
 ·obtain ⟨i,hi,rfl⟩:=List.getElem_of_mem hz
  have hi':i < c.length:=by simpa using hi
  have:=h.beams i hi'
  simpa [cl,List.getD,hi'] using this
theorem nrm_len (g:Int) (l:List Int):(nrm g l).length≤4:=by
 match l with
 | []=>simp [nrm]
 | [a]=>simp [nrm]
 | a :: b :: t =>
  simp only [nrm]
  split
  ·simp
  ·split<;>simp
theorem place_eq {N:Nat} {d:TDock} {c:List TCall} (hN:400 < N) (h:SK d c):∀ (n:Nat) (pre arr:List Tberth_box) (fuel:Nat),pre.length+n=c.length→arr.length=c.length→arr.take pre.length=pre→n < fuel →
  ∃ q,g_berth_Place_1 N fuel ((pre.length:Nat):Int) c (c.map (·.fLn)) d (c.map (·.f_Beam)) arr=some q∧((∃ full,srch d c n pre=some full∧q=(true,full))∨(srch d c n pre=none∧q.1=false∧q.2.length=c.length∧q.2.take pre.length=pre))
 | 0,pre,arr,fuel,hn,ha,ht,hf=>by
  obtain ⟨g,rfl⟩:∃ g,fuel=g+1:=⟨fuel - 1,by omega⟩
  have hp:pre.length=c.length:=by omega
  have:arr=pre:=by rw [hp,← ha,List.take_length] at ht;exact ht
  subst this
  refine ⟨(true,arr),?_,.inl ⟨arr,rfl,rfl⟩⟩
  rw [g_berth_Place_1,hp];simp
 | n+1,pre,arr,fuel,hn,ha,ht,hf=>by
  obtain ⟨g,rfl⟩:∃ g,fuel=g+1:=⟨fuel - 1,by omega⟩
  have hk:pre.length < c.length:=by omega
  have hlen:=h.len
  rw [g_berth_Place_1,show (((pre.length:Nat):Int) == ((c.length:Nat):Int))=false by simp;omega,cond_false,xs_eq hN h hk,Option.bind_some]
  generalize hI:((pre.length:Nat):Int)=I
  have hcb:∀ {x y:Int},(⟨x,y,(c.getD pre.length TCall.d).fLn,(c.getD pre.length TCall.d).f_Beam⟩:Tberth_box)=bxs c pre.length x y:=fun {x y}=>rfl
  have L2:∀ (K:List Tberth_box→Int→Option (Bool×List Tberth_box)) (x:Nat) (arr:List Tberth_box),x < (xsOf d c pre.length).length→arr.length=c.length→arr.take pre.length=pre →
    (∃ full,(ysOf d c pre.length).findSome? (fun y=>if okP d pre (bxs c pre.length ((xsOf d c pre.length).getD x 0) y) then srch d c n (pre ++ [bxs c pre.length ((xsOf d c pre.length).getD x 0) y]) else none)=some full∧g_berth_Place_1_L2 N I c (c.map (·.fLn)) d (c.map (·.f_Beam)) (xsOf d c pre.length) (x:Int) (ysOf d c pre.length) (g_berth_Place_1 N g) K N arr 0=some (true,full)) ∨
    ((ysOf d c pre.length).findSome? (fun y=>if okP d pre (bxs c pre.length ((xsOf d c pre.length).getD x 0) y) then srch d c n (pre ++ [bxs c pre.length ((xsOf d c pre.length).getD x 0) y]) else none)=none∧∃ arr',(arr'.length=c.length∧arr'.take pre.length=pre)∧g_berth_Place_1_L2 N I c (c.map (·.fLn)) d (c.map (·.f_Beam)) (xsOf d c pre.length) (x:Int) (ysOf d c pre.length) (g_berth_Place_1 N g) K N arr 0=K arr' ((x+1:Nat):Int)):=by
   intro K x arr hx ha ht
   have hyl:=nrm_len d.f_Gap (oth (fun i=>(cl c i).f_Beam+d.f_Gap) pre.length c.length)
   have hyl:(ysOf d c pre.length).length≤4:=hyl
   have hxl:(xsOf d c pre.length).length≤4:=nrm_len _ _
   have:=tryLoop (L:=fun fuel arr m=>g_berth_Place_1_L2 N I c (c.map (·.fLn)) d (c.map (·.f_Beam)) (xsOf d c pre.length) (x:Int) (ysOf d c pre.length) (g_berth_Place_1 N g) K fuel arr m) (l:=ysOf d c pre.length)
    (F:=fun y=>if okP d pre (bxs c pre.length ((xsOf d c pre.length).getD x 0) y) then srch d c n (pre ++ [bxs c pre.length ((xsOf d c pre.length).getD x 0) y]) else none) (inv:=fun arr=>arr.length=c.length∧arr.take pre.length=pre) ?_ (ysOf d c pre.length).length 0 N arr (by omega) (by omega) ⟨ha,ht⟩
   ·rw [List.drop_zero] at this
    rcases this with h1 | ⟨h1,arr',g',h2,h3⟩
    ·exact .inl h1
    ·refine .inr ⟨h1,arr',h2,h3.trans ?_⟩
     show g_berth_Place_1_L2 N I c (c.map (·.fLn)) d (c.map (·.f_Beam)) (xsOf d c pre.length) (x:Int) (ysOf d c pre.length) (g_berth_Place_1 N g) K (g'+1) arr' _=_
     rw [g_berth_Place_1_L2,dec_nlt,cond_false,w64_succ (by omega)]
   ·rintro fuel arr m hm ⟨ha,ht⟩
    generalize hv:(ysOf d c pre.length).getD m 0=y
    generalize hu:(xsOf d c pre.length).getD x 0=u
    obtain ⟨qc,hqc,hqi⟩:=contains_box (N:=N) (d:=d) (pre:=pre) (b:=bxs c pre.length u y) (by omega) (by omega)
    have htake:(arr.take (pre.length)).drop 0=pre:=by rw [List.drop_zero];exact ht
    have hstep:g_berth_Place_1_L2 N I c (c.map (·.fLn)) d (c.map (·.f_Beam)) (xsOf d c pre.length) (x:Int) (ysOf d c pre.length) (g_berth_Place_1 N g) K (fuel+1) arr (m:Int) =
      cond (cond (!withinE d (bxs c pre.length u y)) true (cond (withinE d (bxs c pre.length u y)) qc false)) (g_berth_Place_1_L2 N I c (c.map (·.fLn)) d (c.map (·.f_Beam)) (xsOf d c pre.length) (x:Int) (ysOf d c pre.length) (g_berth_Place_1 N g) K fuel arr ((m+1:Nat):Int))
       ((g_berth_Place_1 N g (w64 (I+1)) c (c.map (·.fLn)) d (c.map (·.f_Beam)) (arr.set pre.length (bxs c pre.length u y))).bind fun r=>if r.2.length=(arr.set pre.length (bxs c pre.length u y)).length then cond r.1 (some (true,r.2)) (g_berth_Place_1_L2 N I c (c.map (·.fLn)) d (c.map (·.f_Beam)) (xsOf d c pre.length) (x:Int) (ysOf d c pre.length) (g_berth_Place_1 N g) K fuel r.2 ((m+1:Nat):Int)) else none):=by
     rw [g_berth_Place_1_L2,dec_lt hm,cond_true,if_pos (inb hm),← hI,if_pos (inb hk)]
     simp only [toNat_nat,hv,hu,hcb,insideB_eq,Option.bind_some,g_berth_Place_1_J3,w64_succ (show m < 9223372036854775807 by omega),htake]
     rw [if_pos (fun _=>⟨Nat.zero_le _,by omega⟩),if_pos (fun _=>Int.natCast_nonneg _),if_pos ⟨Nat.zero_le _,by omega⟩]
     have hsel:(cond (!(!withinE d (bxs c pre.length u y))) (g_slices_ContainsFunc_berth_box_berth_box N pre (bxs c pre.length u y) d) (some false))=some (cond (withinE d (bxs c pre.length u y)) qc false):=by
      rw [hqc];cases withinE d (bxs c pre.length u y)<;>rfl
     rw [hsel,Option.bind_some,if_pos (inb (by omega))]
    rw [hstep]
    by_cases hok:okP d pre (bxs c pre.length u y)
    ·have hq:qc=false:=hqi.2 hok.2
     rw [if_pos hok,hok.1,hq,Bool.not_true,cond_false,cond_true,cond_false]
     have e1:w64 (I+1)=(((pre ++ [bxs c pre.length u y]).length:Nat):Int):=by rw [← hI,w64_succ (by omega)];simp
     have ht2:=take_set_app (b:=bxs c pre.length u y) ht (by omega)
     obtain ⟨q,hq1,hq2⟩:=place_eq hN h n (pre ++ [bxs c pre.length u y]) (arr.set pre.length (bxs c pre.length u y)) g (by simp;omega) (by simpa using ha) (by simpa using ht2) (by omega)
     rw [e1,hq1,Option.bind_some]
     rcases hq2 with ⟨full,h1,rfl⟩ | ⟨h1,h2,h3,h4⟩
     ·left
      refine ⟨full,h1,?_⟩
      have:=(srch_some h1).1
      rw [if_pos (by simp only [List.length_set,ha];simp at this;omega)];rfl
     ·right
      refine ⟨h1,q.2,⟨h3,?_⟩,?_⟩
      ·have:=congrArg (List.take pre.length) h4
       rw [List.take_take,List.take_left] at this
       rwa [Nat.min_eq_left (by simp)] at this
      ·rw [if_pos (by rw [h3,List.length_set,ha]),h2];rfl
    ·right
     rw [if_neg hok]
     refine ⟨rfl,arr,⟨ha,ht⟩,?_⟩
     cases hw:withinE d (bxs c pre.length u y) with
     | false=>rfl
     | true =>
      have hq:qc=true:=by
       cases qc with
       | true=>rfl
       | false=>exact absurd ⟨hw,hqi.1 rfl⟩ hok
      rw [hq];rfl
  have:=tryLoop (L:=fun fuel arr m=>g_berth_Place_1_L1 N I c (c.map (·.fLn)) d (c.map (·.f_Beam)) (xsOf d c pre.length) (g_berth_Place_1 N g) fuel arr m) (l:=xsOf d c pre.length)
   (F:=fun x=>(ysOf d c pre.length).findSome? fun y=>if okP d pre (bxs c pre.length x y) then srch d c n (pre ++ [bxs c pre.length x y]) else none) (inv:=fun arr=>arr.length=c.length∧arr.take pre.length=pre) ?_ (xsOf d c pre.length).length 0 N arr (by omega) (by have:(xsOf d c pre.length).length≤4:=nrm_len _ _;omega) ⟨ha,ht⟩
  ·rw [List.drop_zero] at this
   rcases this with ⟨full,h1,h2⟩ | ⟨h1,arr',g',h2,h3⟩
   ·exact ⟨(true,full),h2,.inl ⟨full,by rw [srch];exact h1,rfl⟩⟩
   ·refine ⟨(false,arr'),h3.trans ?_,.inr ⟨by rw [srch];exact h1,rfl,h2.1,h2.2⟩⟩
    show g_berth_Place_1_L1 N I c (c.map (·.fLn)) d (c.map (·.f_Beam)) (xsOf d c pre.length) (g_berth_Place_1 N g) (g'+1) arr' _=_
    rw [g_berth_Place_1_L1,dec_nlt,cond_false]
  ·rintro fuel arr m hm ⟨ha,ht⟩
   have hs:g_berth_Place_1_L1 N I c (c.map (·.fLn)) d (c.map (·.f_Beam)) (xsOf d c pre.length) (g_berth_Place_1 N g) (fuel+1) arr (m:Int)=g_berth_Place_1_L2 N I c (c.map (·.fLn)) d (c.map (·.f_Beam)) (xsOf d c pre.length) (m:Int) (ysOf d c pre.length) (g_berth_Place_1 N g) (g_berth_Place_1_L1 N I c (c.map (·.fLn)) d (c.map (·.f_Beam)) (xsOf d c pre.length) (g_berth_Place_1 N g) fuel) N arr 0:=by
    rw [g_berth_Place_1_L1,dec_lt hm,cond_true,if_pos (inb hm),← hI,ys_eq hN h hk,Option.bind_some]
   rw [hs]
   exact L2 _ m arr hm ha ht
end Go.Den
set_option linter.unusedSimpArgs false
namespace Go.Den
open Go.Ab
def spotsOf (c:List TCall) (l:List Tberth_box):List TSpot:=(List.range l.length).map fun i=>⟨(cl c i).f_Name,(bx l i).f_x,(bx l i).f_y⟩
def wfp (c:List TCall) (l:List Tberth_box):Prop:=∀ m,m < l.length→bx l m=bxs c m (bx l m).f_x (bx l m).f_y
theorem spotsOf_len (c:List TCall) (l:List Tberth_box):(spotsOf c l).length=l.length:=by simp [spotsOf]
theorem bx_l {l m:List Tberth_box} {k:Nat} (h:k < l.length):bx (l ++ m) k=bx l k:=by unfold bx;exact getD_l h
theorem bx_last {l:List Tberth_box} {b:Tberth_box}:bx (l ++ [b]) l.length=b:=by simp [bx,List.getD]
theorem spotsOf_snoc (c:List TCall) (l:List Tberth_box) (b:Tberth_box):spotsOf c (l ++ [b])=spotsOf c l ++ [⟨(cl c l.length).f_Name,b.f_x,b.f_y⟩]:=by
 unfold spotsOf
 rw [List.length_append,List.length_singleton,List.range_succ,List.map_append,List.map_singleton,bx_last]
 congr 1
 apply List.map_congr_left
 intro i hi
 rw [bx_l (List.mem_range.1 hi)]
end Go.Den
set_option linter.unusedSimpArgs false
namespace Go.Den
open Go.Ab
structure DockOk (d:TDock):Prop where
 nm:nameOk d.f_Name=true
 len:1≤d.fLn∧d.fLn≤1000000
 wid:1≤d.f_Width∧d.f_Width≤1000000
 gap:0≤d.f_Gap∧d.f_Gap≤1000000
 sill:ins d.f_Sill (-1000000) 1000000=true∧ins d.f_Floor (-1000000) 1000000=true
theorem dockOk_of {d:TDock} (h:docksCode [d]=0):DockOk d:=by
 have e:docksCode [d]=scan (stepDock [d]) 0 1 0:=rfl
 rw [e,scan] at h
 have e0:stepDock [d] 0=cond (!nameOk d.f_Name) (some 4) (cond (dockCode d != 0) (some (dockCode d)) none):=rfl
 rw [e0] at h
 cases h1:nameOk d.f_Name with
 | false=>rw [h1] at h;cases h
 | true =>
  rw [h1,Bool.not_true,cond_false] at h
  cases h2:dockCode d != 0 with
  | true=>rw [h2] at h;simp only [cond_true] at h;rw [h] at h2;cases h2
  | false =>
   have h3:dockCode d=0:=by simpa using h2
   unfold dockCode at h3
   cases a1:ins d.fLn 1 1000000<;>cases a2:ins d.f_Width 1 1000000<;>cases a3:ins d.f_Sill (-1000000) 1000000<;>cases a4:ins d.f_Floor (-1000000) 1000000<;>cases a5:ins d.f_Gap 0 1000000<;>simp [a1,a2,a3,a4,a5] at h3
   exact ⟨h1,ins_iff.1 a1,ins_iff.1 a2,ins_iff.1 a5,⟨a3,a4⟩⟩
theorem call_bounds {y:TCall} (h:callCode y=0):(1≤y.fLn∧y.fLn≤1000000)∧(1≤y.f_Beam∧y.f_Beam≤1000000):=by
 unfold callCode at h
 cases a1:ins y.fLn 1 1000000
 ·rw [a1] at h;simp at h
 ·cases a2:ins y.f_Beam 1 1000000
  ·rw [a1,a2] at h;simp at h
  ·exact ⟨ins_iff.1 a1,ins_iff.1 a2⟩
theorem both_parts {d:TDock} {c:List TCall}:bothCode d c=0↔docksCode [d]=0∧callsCode c=0:=by
 unfold bothCode
 cases h1:(docksCode [d] != 0) with
 | true =>
  have:docksCode [d]≠0:=by simpa using h1
  simp [this]
 | false =>
  have:docksCode [d]=0:=by simpa using h1
  simp [this]
theorem sk_of {d:TDock} {c:List TCall} (hd:DockOk d) (hc:CallsOk c) (hl:c.length≤3):SK d c :=
 ⟨hl,hd.gap,fun i hi=>(call_bounds (hc.2.1 _ (mem_cl hi)).2).1,fun i hi=>(call_bounds (hc.2.1 _ (mem_cl hi)).2).2⟩
theorem maps_L1 {N:Nat} {d:TDock} {c:List TCall} (hl:c.length≤3):∀ (m x fuel:Nat),x+m=c.length→m < fuel →
  g_berth_Place_L1 N d c fuel ((c.take x).map (·.fLn)) ((c.take x).map (·.f_Beam)) (x:Int)=g_berth_Place_L1 N d c (fuel - m) (c.map (·.fLn)) (c.map (·.f_Beam)) ((c.length:Nat):Int)
 | 0,x,fuel,hx,hf=>by
  have:x=c.length:=by omega
  subst this;rw [List.take_length];rfl
 | m+1,x,fuel,hx,hf=>by
  obtain ⟨g,rfl⟩:∃ g,fuel=g+1:=⟨fuel - 1,by omega⟩
  have hlt:x < c.length:=by omega
  have e:c.take (x+1)=c.take x ++ [cl c x]:=by rw [List.take_succ_eq_append_getElem hlt];simp [cl,List.getD,hlt]
  have ih:=maps_L1 (N:=N) (d:=d) hl m (x+1) g (by omega) (by omega)
  rw [e,List.map_append,List.map_append] at ih
  rw [g_berth_Place_L1,dec_lt hlt,cond_true,if_pos (inb hlt),if_pos (by simp;omega),if_pos (by simp;omega),w64_succ (by omega),show g+1 - (m+1)=g - m by omega]
  exact ih
theorem spots_L2 {N:Nat} {c:List TCall} {q:Bool×List Tberth_box} (hl:q.2.length≤8) (hc:q.2.length=c.length):∀ (m x fuel:Nat),x+m=q.2.length→m < fuel→g_berth_Place_L2 N c q fuel (spotsOf c (q.2.take x)) (x:Int)=some (spotsOf c q.2,0)
 | 0,x,fuel,hx,hf=>by
  obtain ⟨g,rfl⟩:∃ g,fuel=g+1:=⟨fuel - 1,by omega⟩
  have:x=q.2.length:=by omega
  subst this
  rw [g_berth_Place_L2,dec_nlt,cond_false,List.take_length]
 | m+1,x,fuel,hx,hf=>by
  obtain ⟨g,rfl⟩:∃ g,fuel=g+1:=⟨fuel - 1,by omega⟩
  have hlt:x < q.2.length:=by omega
  have e:q.2.take (x+1)=q.2.take x ++ [bx q.2 x]:=by rw [List.take_succ_eq_append_getElem hlt];simp [bx,List.getD,hlt]
  have hlen:(q.2.take x).length=x:=by simp;omega
  rw [g_berth_Place_L2,dec_lt hlt,cond_true,if_pos (inb hlt),if_pos (inb (by omega)),if_pos (by rw [spotsOf_len];omega),w64_succ (by omega)]
  have:=spots_L2 (N:=N) hl hc m (x+1) g (by omega) (by omega)
  rw [e,spotsOf_snoc,hlen] at this
  exact this
def placeR (d:TDock) (c:List TCall):List TSpot×Int :=
 match srch d c c.length [] with
 | some full=>(spotsOf c full,0)
 | none=>([],29)
theorem Place_eq {N:Nat} (hN:500 < N) {d:TDock} {c:List TCall} (hb:bothCode d c=0) (h:SK d c):g_berth_Place N d c=some (placeR d c):=by
 have hl:=h.len
 unfold g_berth_Place placeR
 rw [both_eq (by omega),Option.bind_some,hb,show ((0:Int) != 0)=false from rfl,cond_false,decide_eq_false (by omega),cond_false]
 have h1:=maps_L1 (N:=N) (d:=d) hl c.length 0 N (by omega) (by omega)
 rw [List.take_zero] at h1
 refine Eq.trans h1 ?_
 obtain ⟨f,hf⟩:∃ f,N - c.length=f+1:=⟨N - c.length - 1,by omega⟩
 rw [hf,g_berth_Place_L1,dec_nlt,cond_false,if_pos ⟨by omega,by omega,by omega⟩]
 obtain ⟨q,hq,hq2⟩:=place_eq (N:=N) (by omega) h c.length [] (List.replicate c.length Tberth_box.d) N (by simp) (by simp) (by simp) (by omega)
 change (g_berth_Place_1 N N 0 c _ d _ _).bind _=_
 have e0:((([]:List Tberth_box).length:Nat):Int)=0:=rfl
 rw [e0] at hq
 rw [hq,Option.bind_some]
 rcases hq2 with ⟨full,e1,rfl⟩ | ⟨e1,e2,e3,_⟩
 ·have hfl:=(srch_some e1).1
  simp at hfl
  rw [if_pos (by simp;omega),Bool.not_true,cond_false,e1]
  have:=spots_L2 (N:=N) (c:=c) (q:=(true,full)) (by show full.length≤8;omega) hfl full.length 0 N (by simp) (by omega)
  simpa [spotsOf] using this
 ·rw [if_pos (by simp;omega),e2,e1];rfl
structure GoodB (d:TDock) (c:List TCall) (l:List Tberth_box):Prop where
 wf:wfp c l
 bd:∀ m,m < l.length→(0≤(bx l m).f_x∧(bx l m).f_x≤10000000)∧(0≤(bx l m).f_y∧(bx l m).f_y≤10000000)
 inn:∀ m,m < l.length→withinE d (bx l m)=true
 ap:∀ m,m < l.length→∀ j,j < m→apartE d.f_Gap (bx l j) (bx l m)=true
end Go.Den
namespace Go.Den
open Go.Ab
theorem wet_eq {N:Nat} (hN:2 < N):g_keelblocktop_wet N=some true:=by
 obtain ⟨n,rfl⟩:∃ n,N=n+3:=⟨N - 3,by omega⟩
 rfl
theorem progBest_eq {N:Nat} (hN:1000301 < N) (y:TYard) (hl:yardCode y=0→y.f_Sea.length≤40):g_berth_Best N y=some (bestAll y):=by
 unfold g_berth_Best bestAll
 rw [checkYard_eq (by omega),Option.bind_some]
 cases h:yardCode y != 0
 ·have h0:yardCode y=0:=by simpa using h
  have v:=yard_of h0
  have hn:=nm_ok (yard_parts h0).2
  have hcl:=v.calls
  simp only [cond_false]
  cases hbig:cond (decide (((y.f_Calls.length:Nat):Int) > 4)) true (decide (y.f_Last > 60))
  ·simp only [cond_false]
   rw [w64_succ (by omega),if_pos ⟨by omega,by omega,by omega⟩]
   exact best_days v (hl h0) hN hn
  ·rfl
 ·rfl
theorem hs_true (H:Int→Bool) (a:Int):∀ n u,u∈hs H a n→∀ k,u.e0≤k→k≤u.e1→H k=true
 | 0,u,h=>by cases h
 | n+1,u,h=>by
  have ih:=hs_true H a n
  have inv:=hs_inv H a n
  unfold hs at h
  cases hH:H (a+(n:Int))<;>rw [hH] at h
  ·exact ih u h
  ·rw [cond_true] at h
   have one:∀ k,a+(n:Int)≤k→k≤a+(n:Int)→H k=true:=fun k h1 h2=>by
    have:k=a+(n:Int):=by omega
    rw [this];exact hH
   rcases inv.lo with h0 | ⟨l,p,q,h0,h1,h2,h3⟩
   ·rw [h0,addI_nil,List.mem_singleton] at h
    subst h;exact one
   ·rw [h0] at h ih
    by_cases hc:a+(n:Int)≤q+1
    ·rw [addI_ext _ _ hc] at h
     rcases List.mem_append.1 h with h | h
     ·exact ih u (List.mem_append_left _ h)
     ·rw [List.mem_singleton] at h
      subst h
      intro k hk1 hk2
      by_cases e:k=a+(n:Int)
      ·rw [e];exact hH
      ·exact ih ⟨p,q⟩ (by simp) k hk1 (by have hk2:k≤a+(n:Int):=hk2;show k≤q;omega)
    ·rw [addI_new _ _ hc] at h
     rcases List.mem_append.1 h with h | h
     ·exact ih u h
     ·rw [List.mem_singleton] at h
      subst h;exact one
def needL (d:TDock) (c:TCall):Int:=w64 ((w64 (d.f_Sill+c.f_Draught))+c.f_Under)
theorem passR_high {d:TDock} {c:TCall} {sea:List TMark} {u:TS__2_int} (hu:u∈passR d c sea):∀ k,u.e0≤k→k≤u.e1→needL d c≤tv sea k:=by
 unfold passR at hu
 cases hb:decide ((w64 ((w64 (d.f_Sill+c.f_Draught))+c.f_Under)) > 1000000)<;>rw [hb] at hu
 ·rw [cond_false] at hu
  unfold aboveR at hu
  cases hs1:seaCode sea != 0<;>rw [hs1] at hu
  ·rw [cond_false] at hu
   cases h2:(cond (cond (!ins (w64 ((w64 (d.f_Sill+c.f_Draught))+c.f_Under)) (-1000000) 1000000) true (!ins 0 0 (lastM sea))) true (decide (lastM sea > 1000000)))<;>rw [h2] at hu
   ·rw [cond_false] at hu
    cases h3:((sea.length:Nat):Int) == 0<;>rw [h3] at hu
    ·intro k h4 h5
     exact of_decide_eq_true (hs_true _ _ _ _ hu k h4 h5)
    ·cases hu
   ·cases hu
  ·cases hu
 ·cases hu
theorem days_run {d:TDock} {c:TCall} {sea:List TMark} (v:SeaOk sea) (h0:0 < sea.length) {k:Int} (hk:k∈daysR d c sea) :
  ∃ a,1440 * k≤a∧a+29≤1440 * k+1439∧0≤k∧k≤1000∧a+29≤lastM sea∧∀ t,a≤t→t≤a+29→needL d c≤tv sea t:=by
 obtain ⟨n,h1,h2,rfl⟩:=(dayL_mem _ k).1 hk
 unfold anyT at h2
 rw [List.take_length] at h2
 obtain ⟨u,hu,ho⟩:=List.any_eq_true.1 h2
 have I:=(passR_ok d c v h0).1.mem u hu
 have hh:=passR_high hu
 have ho:=of_decide_eq_true ho
 refine ⟨if (n:Int) * 1440 > u.e0 then (n:Int) * 1440 else u.e0,?_⟩
 split at ho<;>split at ho<;>(try rw [if_pos (by assumption)])<;>(try rw [if_neg (by assumption)])<;>exact ⟨by omega,by omega,by omega,by omega,by omega,fun t h5 h6=>hh t (by omega) (by omega)⟩
theorem passes_eq {N:Nat} (hN:1000301 < N) {y:TYard} (v:YardOk y) {d:TDock} {c:TCall} {k:Int} (hk:k∈daysR d c y.f_Sea):g_keelblocktop_passes N y d c k=some true:=by
 obtain ⟨a,h1,h2,h3,h4,h5,h6⟩:=days_run v.sea v.some hk
 have hsl:=v.some
 have hs4:=v.sea.len
 have hlm:=v.sea.min (y.f_Sea.length - 1) (by omega)
 have hlast:lastM y.f_Sea=(mk y.f_Sea (y.f_Sea.length - 1)).f_Minute:=rfl
 rw [← hlast] at hlm
 have e1:w64 (((y.f_Sea.length:Nat):Int) - 1)=((y.f_Sea.length - 1:Nat):Int):=by rw [w64_eq (by omega) (by omega)];omega
 have hsc:seaCode y.f_Sea=0:=by
  have:=v.sea
  unfold seaCode
  rw [decide_eq_false (by omega),cond_false]
  refine scan_all _ 0 fun i _ hi=>?_
  have h1:=this.min i (by omega)
  have h2:=this.lev i (by omega)
  unfold seaStep
  rw [ins_iff.2 h1,ins_iff.2 h2]
  by_cases hz:0 < i
  ·have h3:=this.ord (i - 1) (by omega)
   have e:i - 1+1=i:=by omega
   rw [e] at h3
   rw [decide_eq_true hz,decide_eq_false (by omega)];rfl
  ·rw [decide_eq_false hz];rfl
 have tide:∀ t,0≤t→t≤1000000→g_w_Tide N y.f_Sea t=some (tv y.f_Sea t,0):=fun t h7 h8=>by
  unfold g_w_Tide
  rw [checkSea_eq (by omega),hsc,Option.bind_some,between_eq,ins_iff.2 ⟨h7,h8⟩,tide_tv (by omega) v.sea v.some]
  have:(((y.f_Sea.length:Nat):Int) == 0)=false:=by rw [beq_eq_false_iff_ne];omega
  simp only [bne_self_eq_false,cond_false,Option.bind_some,Bool.not_true,this]
 have key:∀ (n fuel:Nat) (run t:Int),t+(n:Int)=a+29→1440 * k≤t→n < fuel→0≤run→run≤t - 1440 * k→(a < t→t - a≤run)→g_keelblocktop_passes_L1 N y d c k fuel run t=some true:=by
  intro n
  induction n with
  | zero =>
   intro fuel run t e ht hf hr0 hr1 hr2
   obtain ⟨f,rfl⟩:∃ f,fuel=f+1:=⟨fuel - 1,by omega⟩
   have hr:=hr2 (by omega)
   have hi:=h6 t (by omega) (by omega)
   unfold needL at hi
   rw [g_keelblocktop_passes_L1,if_pos (fun _=>by rw [e1];exact inb (by omega)),w64_eq (n:=1440 * k) (by omega) (by omega),w64_eq (n:=1440 * k+1440) (by omega) (by omega),decide_eq_true (by omega),cond_true,e1,toNat_nat]
   rw [show (y.f_Sea.getD (y.f_Sea.length - 1) TMark.d).f_Minute=lastM y.f_Sea from rfl,decide_eq_true (show t≤lastM y.f_Sea by omega),cond_true,tide t (by omega) (by omega),Option.bind_some]
   rw [show ((0:Int) != 0)=false from rfl,cond_false,decide_eq_true hi,cond_true,g_keelblocktop_passes_J2,w64_eq (n:=run+1) (by omega) (by omega),decide_eq_true (by omega)];rfl
  | succ n ih =>
   intro fuel run t e ht hf hr0 hr1 hr2
   obtain ⟨f,rfl⟩:∃ f,fuel=f+1:=⟨fuel - 1,by omega⟩
   rw [g_keelblocktop_passes_L1,if_pos (fun _=>by rw [e1];exact inb (by omega)),w64_eq (n:=1440 * k) (by omega) (by omega),w64_eq (n:=1440 * k+1440) (by omega) (by omega),decide_eq_true (by omega),cond_true,e1,toNat_nat]
   rw [show (y.f_Sea.getD (y.f_Sea.length - 1) TMark.d).f_Minute=lastM y.f_Sea from rfl,decide_eq_true (show t≤lastM y.f_Sea by omega),cond_true,tide t (by omega) (by omega),Option.bind_some]
   rw [show ((0:Int) != 0)=false from rfl,cond_false,g_keelblocktop_passes_J2,g_keelblocktop_passes_J2,w64_eq (n:=run+1) (by omega) (by omega),w64_eq (n:=t+1) (by omega) (by omega)]
   by_cases hi:tv y.f_Sea t≥w64 ((w64 (d.f_Sill+c.f_Draught))+c.f_Under)
   ·rw [decide_eq_true hi,cond_true]
    by_cases h30:run+1≥30
    ·rw [decide_eq_true h30];rfl
    ·rw [decide_eq_false h30,cond_false]
     refine ih f (run+1) (t+1) (by omega) (by omega) (by omega) (by omega) (by omega) fun h=>?_
     by_cases ha:a < t
     ·have:=hr2 ha;omega
     ·omega
   ·have hta:t < a:=by
     rcases Int.lt_or_le t a with h | h
     ·exact h
     ·have:=h6 t h (by omega)
      unfold needL at this
      omega
    rw [decide_eq_false hi,cond_false,decide_eq_false (by decide),cond_false]
    exact ih f 0 (t+1) (by omega) (by omega) (by omega) (by omega) (by omega) fun h=>by omega
 unfold g_keelblocktop_passes
 rw [w64_eq (n:=1440 * k) (by omega) (by omega)]
 exact key (a+29 - 1440 * k).toNat N 0 (1440 * k) (by omega) (by omega) (by omega) (by omega) (by omega) fun h=>by omega
theorem docks_at {l:List TDock} (h:docksCode l=0) {i:Nat} (hi:i < l.length):nameOk (l.getD i TDock.d).f_Name=true∧dockCode (l.getD i TDock.d)=0:=by
 unfold docksCode at h
 cases h8:decide (((l.length:Nat):Int) > 4) with
 | true=>rw [h8] at h;cases h
 | false =>
  rw [h8,cond_false] at h
  have hz:=(scan_z6 (fun i hi=>by
   unfold stepDock at hi
   revert hi
   generalize dockCode (l.getD i TDock.d)=z
   have hb:(z != 0)=!decide (z=0):=by by_cases hz:z=0<;>simp [hz]
   rw [hb]
   by_cases hz:z=0<;>cases nameOk (l.getD i TDock.d).f_Name<;>cases dupDock l i<;>simp [hz]) h).1 i hi
  unfold stepDock at hz
  revert hz
  generalize dockCode (l.getD i TDock.d)=z
  have hb:(z != 0)=!decide (z=0):=by by_cases hz:z=0<;>simp [hz]
  rw [hb]
  by_cases hz:z=0<;>cases nameOk (l.getD i TDock.d).f_Name<;>cases dupDock l i<;>simp [hz]
theorem place_one {N:Nat} (hN:500 < N) {d:TDock} {c:TCall} (hd:nameOk d.f_Name=true∧dockCode d=0) (hc:nameOk c.f_Name=true∧callCode c=0) (hf:fitsV d c=true):∃ p,g_berth_Place N d [c]=some ([p],0):=by
 have hd1:docksCode [d]=0:=(docks_one d hd.1).trans hd.2
 have hc1:callsCode [c]=0:=(calls_one c hc.1).trans hc.2
 have hdk:=dockOk_of hd1
 have hsk:=sk_of (c:=[c]) hdk (callsOk_iff.1 hc1) (by simp)
 have hb:bothCode d [c]=0:=both_parts.2 ⟨hd1,hc1⟩
 have hg:=hsk.gap
 have hbd:=call_bounds hc.2
 have hw:withinE d (bxs [c] 0 d.f_Gap d.f_Gap)=true:=by
  unfold fitsV at hf
  rw [w64_eq (n:=2 * d.f_Gap) (by omega) (by omega),w64_eq (n:=c.fLn+2 * d.f_Gap) (by omega) (by omega),w64_eq (n:=c.f_Beam+2 * d.f_Gap) (by omega) (by omega)] at hf
  have hf1:c.fLn+2 * d.f_Gap≤d.fLn:=by
   cases h:decide (c.fLn+2 * d.f_Gap≤d.fLn)
   ·rw [h] at hf;cases hf
   ·exact of_decide_eq_true h
  rw [decide_eq_true hf1,cond_true] at hf
  have hf2:=of_decide_eq_true hf
  show cond (cond (cond (decide (d.f_Gap≥d.f_Gap)) (decide (d.f_Gap≥d.f_Gap)) false) (decide ((w64 ((w64 (d.f_Gap+c.fLn))+d.f_Gap))≤d.fLn)) false) (decide ((w64 ((w64 (d.f_Gap+c.f_Beam))+d.f_Gap))≤d.f_Width)) false=true
  rw [w64_eq (n:=d.f_Gap+c.fLn) (by omega) (by omega),w64_eq (n:=d.f_Gap+c.f_Beam) (by omega) (by omega),w64_eq (n:=d.f_Gap+c.fLn+d.f_Gap) (by omega) (by omega),w64_eq (n:=d.f_Gap+c.f_Beam+d.f_Gap) (by omega) (by omega),
   decide_eq_true (show d.f_Gap≥d.f_Gap from Int.le_refl _),decide_eq_true (show d.f_Gap+c.fLn+d.f_Gap≤d.fLn by omega),decide_eq_true (show d.f_Gap+c.f_Beam+d.f_Gap≤d.f_Width by omega)];rfl
 have hsr:srch d [c] 1 []=some [bxs [c] 0 d.f_Gap d.f_Gap]:=by
  have hok:okP d [] (bxs [c] 0 d.f_Gap d.f_Gap):=⟨hw,fun m hm=>absurd hm (Nat.not_lt_zero _)⟩
  show ([d.f_Gap].findSome? fun x=>[d.f_Gap].findSome? fun y=>if okP d [] (bxs [c] 0 x y) then some [bxs [c] 0 x y] else none)=_
  simp [hok]
 refine ⟨⟨(cl [c] 0).f_Name,(bx [bxs [c] 0 d.f_Gap d.f_Gap] 0).f_x,(bx [bxs [c] 0 d.f_Gap d.f_Gap] 0).f_y⟩,?_⟩
 rw [Place_eq hN hb hsk]
 unfold placeR
 rw [show ([c]:List TCall).length=1 from rfl,hsr];rfl
theorem costV_cong {y z:TYard}:∀ l:List TStay,(∀ x,x∈l→cOf z x=cOf y x)→costV z l=costV y l
 | [],_=>rfl
 | x :: l,h=>by
  simp only [costV,costV_cong l fun u hu=>h u (.tail _ hu)]
  unfold priceV
  rw [h x (.head _)]
theorem right_more {y:TYard} {M:List TDock} (h0:yardCode y=0) (hM:docksCode M=0) (hget:∀ i,i < y.f_Docks.length→i < M.length∧M.getD i TDock.d=y.f_Docks.getD i TDock.d) {s:List TStay} (r:Right y s) :
  yardCode ⟨M,y.f_Calls,y.f_Sea,y.f_Last⟩=0∧Right ⟨M,y.f_Calls,y.f_Sea,y.f_Last⟩ s:=by
 have hy:yardCode ⟨M,y.f_Calls,y.f_Sea,y.f_Last⟩=0:=by
  have hp:=yard_parts h0
  unfold yardCode at h0 ⊢
  rw [hp.1,hp.2] at h0
  rw [hM,hp.2]
  exact h0
 refine ⟨hy,r.len,fun i hi=>?_,r.once,r.free⟩
 obtain ⟨h1,h2,h3⟩:=r.ship i hi
 have hb:=dIx_bd h2
 have hk:(dIx y.f_Docks (sAt s i).f_Dock).toNat < y.f_Docks.length:=by omega
 obtain ⟨hk1,hk2⟩:=hget _ hk
 have hix:dIx M (sAt s i).f_Dock=dIx y.f_Docks (sAt s i).f_Dock:=by
  have:=nm_dock (y:=⟨M,y.f_Calls,y.f_Sea,y.f_Last⟩) hM hk1
  have this:dIx M (M.getD (dIx y.f_Docks (sAt s i).f_Dock).toNat TDock.d).f_Name=(((dIx y.f_Docks (sAt s i).f_Dock).toNat:Nat):Int):=this
  rw [hk2,dIx_name h2] at this
  omega
 have hd:dOf ⟨M,y.f_Calls,y.f_Sea,y.f_Last⟩ (sAt s i)=dOf y (sAt s i):=by
  show M.getD (dIx M (sAt s i).f_Dock).toNat TDock.d=_
  rw [hix,hk2];rfl
 refine ⟨h1,by rw [hix];exact h2,?_⟩
 have:stayOwn ⟨M,y.f_Calls,y.f_Sea,y.f_Last⟩ (sAt s i)=stayOwn y (sAt s i):=by
  unfold stayOwn
  rw [hd];rfl
 rw [this];exact h3
theorem right_less {y:TYard} (h0:yardCode y=0) {s:List TStay} (r:Right y s) :
  ∃ t,yardCode ⟨y.f_Docks,y.f_Calls.drop 1,y.f_Sea,y.f_Last⟩=0∧Right ⟨y.f_Docks,y.f_Calls.drop 1,y.f_Sea,y.f_Last⟩ t∧costV ⟨y.f_Docks,y.f_Calls.drop 1,y.f_Sea,y.f_Last⟩ t≤costV y s:=by
 have hp:=yard_parts h0
 have v:=yard_of h0
 have hn:=nm_ok hp.2
 have hc:callsCode (y.f_Calls.drop 1)=0:=by
  obtain ⟨h1,h2,h3⟩:=callsOk_iff.1 hp.2
  refine callsOk_iff.2 ⟨by rw [List.length_drop];omega,fun x hx=>h2 x (List.mem_of_mem_drop hx),?_⟩
  rw [List.map_drop]
  exact h3.sublist (List.drop_sublist _ _)
 have hy:yardCode ⟨y.f_Docks,y.f_Calls.drop 1,y.f_Sea,y.f_Last⟩=0:=by
  unfold yardCode at h0 ⊢
  rw [hp.1,hp.2] at h0
  rw [hp.1,hc]
  exact h0
 have hn2:=nm_ok (y:=⟨y.f_Docks,y.f_Calls.drop 1,y.f_Sea,y.f_Last⟩) hc
 obtain ⟨t,hf,hct⟩:=right_fit h0 r
 obtain ⟨f1,f2,_,f4⟩:=(fit_iff y (optA y) [] t).1 hf
 have hol:=optA_len y
 have hoA:optA ⟨y.f_Docks,y.f_Calls.drop 1,y.f_Sea,y.f_Last⟩=(optA y).drop 1:=by
  unfold optA
  rw [← List.map_drop];rfl
 have hship:∀ x,x∈t.drop 1→StayOk y x∧cOf ⟨y.f_Docks,y.f_Calls.drop 1,y.f_Sea,y.f_Last⟩ x=cOf y x:=fun x hx=>by
  obtain ⟨i,hi,rfl⟩:=List.getElem_of_mem hx
  rw [List.length_drop] at hi
  have hi1:1+i < t.length:=by omega
  have hm:=f2 (1+i) (by omega)
  rw [opt_get (by omega),getD_in6 hi1] at hm
  rw [List.getElem_drop]
  refine ⟨opt_ok hn (by omega) hm,?_⟩
  obtain ⟨d,_,k,_,e⟩:=opt_mem.1 hm
  have hcd:(y.f_Calls.drop 1).getD i TCall.d=y.f_Calls.getD (1+i) TCall.d:=by
   have h1:i < (y.f_Calls.drop 1).length:=by rw [List.length_drop];omega
   have h2:1+i < y.f_Calls.length:=by omega
   rw [getD_in6 h1,getD_in6 h2,List.getElem_drop]
  have a:=cOf_at hn (i:=1+i) (by omega) d k
  have b:=cOf_at (y:=⟨y.f_Docks,y.f_Calls.drop 1,y.f_Sea,y.f_Last⟩) hn2 (i:=i) (by show i < (y.f_Calls.drop 1).length;rw [List.length_drop];omega) d k
  have b:cOf ⟨y.f_Docks,y.f_Calls.drop 1,y.f_Sea,y.f_Last⟩ (stayOf ((y.f_Calls.drop 1).getD i TCall.d) d k)=(y.f_Calls.drop 1).getD i TCall.d:=b
  rw [hcd] at b
  rw [e,a,b]
 have hlow:costV y (t.drop 1)≤costV y t:=by
  cases t with
  | nil=>exact Int.le_refl _
  | cons a l =>
   have ha:=(right_ok (fit_right h0 hf)) a (.head _)
   have:=(price_bd v ha).1
   show costV y l≤priceV y a+costV y l
   omega
 refine ⟨t.drop 1,hy,fit_right hy ((fit_iff _ _ _ _).2 ⟨?_,fun i hi=>?_,fun z hz=>(by cases hz),?_⟩),by rw [costV_cong _ fun x hx=>(hship x hx).2];omega⟩
 ·rw [hoA,List.length_drop,List.length_drop,f1]
 ·rw [hoA,List.length_drop] at hi
  have h1:i < (t.drop 1).length:=by rw [List.length_drop];omega
  have h2:1+i < t.length:=by omega
  have h3:i < ((optA y).drop 1).length:=by rw [List.length_drop];omega
  have h4:1+i < (optA y).length:=by omega
  have:=f2 (1+i) h4
  rw [getD_in6 h2,getD_in6 h4] at this
  rw [hoA,getD_in6 h1,getD_in6 h3,List.getElem_drop,List.getElem_drop]
  exact this
 ·refine List.Pairwise.imp_of_mem ?_ (f4.sublist (List.drop_sublist 1 t))
  intro a b ha hb h
  unfold ovB at h ⊢
  rw [(hship a ha).2,(hship b hb).2];exact h
theorem calm_top {N:Nat} (hN:1000301 < N) (y:TYard):∃ b,g_keelblocktop_calmYard N y=some b∧(b=true→yardCode y=0∧y.f_Calls.length≤3∧y.f_Docks.length≤2∧y.f_Sea.length≤12∧y.f_Last≤9):=by
 unfold g_keelblocktop_calmYard
 obtain ⟨b,hb⟩:=Names_total y.f_Docks y.f_Calls (show 13 < N by omega)
 rw [hb,Option.bind_some,refYard_eq (by omega)]
 cases hq:(cond (cond (cond b (decide (((y.f_Calls.length:Nat):Int)≤3)) false) (decide (((y.f_Docks.length:Nat):Int)≤2)) false) (decide (((y.f_Sea.length:Nat):Int)≤12)) false)
 ·exact ⟨false,rfl,fun h=>by cases h⟩
 ·have hb1:b=true:=by
   cases b
   ·cases hq
   ·rfl
  subst hb1
  rw [cond_true] at hq
  have h1:y.f_Calls.length≤3:=by
   cases h:decide (((y.f_Calls.length:Nat):Int)≤3)
   ·rw [h] at hq;cases hq
   ·have:=of_decide_eq_true h;omega
  rw [decide_eq_true (by omega),cond_true] at hq
  have h2:y.f_Docks.length≤2:=by
   cases h:decide (((y.f_Docks.length:Nat):Int)≤2)
   ·rw [h] at hq;cases hq
   ·have:=of_decide_eq_true h;omega
  rw [decide_eq_true (by omega),cond_true] at hq
  have h3:y.f_Sea.length≤12:=by have:=of_decide_eq_true hq;omega
  simp only [cond_true,Option.bind_some]
  by_cases h0:yardCode y=0
  ·have v:=yard_of h0
   have hs:=v.some
   have e1:w64 (((y.f_Sea.length:Nat):Int) - 1)=((y.f_Sea.length - 1:Nat):Int):=by rw [w64_eq (by omega) (by omega)];omega
   rw [if_pos (fun _=>by rw [e1];exact inb (by omega)),h0]
   by_cases hl:y.f_Last≤9
   ·exact ⟨_,rfl,fun _=>⟨rfl,h1,h2,h3,hl⟩⟩
   ·rw [decide_eq_false hl]
    exact ⟨false,rfl,fun h=>by cases h⟩
  ·have hne:(yardCode y == 0)=false:=by rw [beq_eq_false_iff_ne];exact h0
   rw [hne]
   simp only [cond_false]
   rw [if_pos (fun h=>by cases h)]
   exact ⟨false,rfl,fun h=>by cases h⟩
theorem str_one (b:Int):(strL [b]).size=1:=by
 unfold strL strOf;simp [ByteArray.size]
theorem topBestDocking_plain (y:TYard) (_:TYard.wf y):∃ N,g_keelblocktop_TopBestDocking N y=some true:=by
 refine ⟨1000302,?_⟩
 have hN:1000301 < 1000302:=by decide
 generalize 1000302=N at hN
 unfold g_keelblocktop_TopBestDocking
 obtain ⟨q,hq,hok⟩:=calm_top hN y
 rw [hq,Option.bind_some,wet_eq (by omega)]
 cases q
 ·rfl
 ·obtain ⟨h0,hc3,hd2,hs12,hl9⟩:=hok rfl
  have v:=yard_of h0
  have hn:=nm_ok (yard_parts h0).2
  rw [Bool.not_true,cond_false,progBest_eq hN y (fun _=>by omega),Option.bind_some]
  have hall:bestAll y=bestV y:=by
   unfold bestAll
   rw [h0,decide_eq_false (by omega),decide_eq_false (by omega)];rfl
  rw [hall]
  by_cases hneg:(bestQ y).1 < 0
  ·have hb:bestV y=([],0,29):=by unfold bestV;rw [if_pos hneg]
   rw [hb];rfl
  ·have hb:bestV y=((bestQ y).2,(bestQ y).1,0):=by unfold bestV;rw [if_neg hneg]
   obtain ⟨r,hcost⟩:=best_right h0 (by omega)
   have hbl:=v.docks
   rw [hb]
   generalize (bestQ y).2=s at r hcost
   generalize (bestQ y).1=n at hneg hcost
   have hlen:=r.len
   simp only [bne_self_eq_false,cond_false]
   have hl1:(((s.length:Nat):Int) != ((y.f_Calls.length:Nat):Int))=false:=by rw [hlen];simp
   rw [hl1,cond_false]
   -- one ship after the other
   have hend:∀ more:List TDock,(∀ i,i < y.f_Docks.length→i < more.length∧more.getD i TDock.d=y.f_Docks.getD i TDock.d)→∀ f,
     g_keelblocktop_TopBestDocking_L2 N y (s,n,0) (f+1) more ((more.length:Nat):Int)=some true:=fun more hm f=>by
    rw [g_keelblocktop_TopBestDocking_L2,dec_nlt,cond_false,progBest_eq hN ⟨more,y.f_Calls,y.f_Sea,y.f_Last⟩ (fun _=>by show y.f_Sea.length≤40;omega),Option.bind_some,refDocks_eq (by omega),Option.bind_some]
    have hmore:cond (docksCode more == 0) (cond ((bestAll ⟨more,y.f_Calls,y.f_Sea,y.f_Last⟩).2.2 != 0) true (decide ((bestAll ⟨more,y.f_Calls,y.f_Sea,y.f_Last⟩).2.1 > n))) false=false:=by
     by_cases hM:docksCode more=0
     ·obtain ⟨h5,h6⟩:=right_more h0 hM hm r
      obtain ⟨h7,h8⟩:=best_least h5 h6
      have hc:costV ⟨more,y.f_Calls,y.f_Sea,y.f_Last⟩ s=costV y s:=costV_cong s fun _ _=>rfl
      have ha:bestAll ⟨more,y.f_Calls,y.f_Sea,y.f_Last⟩=bestV ⟨more,y.f_Calls,y.f_Sea,y.f_Last⟩:=by
       unfold bestAll
       rw [h5,decide_eq_false (show ¬ ((y.f_Calls.length:Nat):Int) > 4 by omega),decide_eq_false (show ¬ y.f_Last > 60 by omega)];rfl
      rw [ha]
      unfold bestV
      rw [if_neg (by omega),hM]
      show cond (0 == (0:Int)) (cond ((0:Int) != 0) true (decide ((bestQ ⟨more,y.f_Calls,y.f_Sea,y.f_Last⟩).1 > n))) false=false
      rw [decide_eq_false (by omega)];rfl
     ·have:(docksCode more == 0)=false:=by rw [beq_eq_false_iff_ne];exact hM
      rw [this];rfl
    have hJ:g_keelblocktop_TopBestDocking_J3 N=some true:=by
     unfold g_keelblocktop_TopBestDocking_J3
     rw [wet_eq (by omega)];rfl
    show cond (cond (docksCode more == 0) (cond ((bestAll ⟨more,y.f_Calls,y.f_Sea,y.f_Last⟩).2.2 != 0) true (decide ((bestAll ⟨more,y.f_Calls,y.f_Sea,y.f_Last⟩).2.1 > n))) false) _ _=_
    rw [hmore,cond_false,hJ]
    cases hcl:decide (((y.f_Calls.length:Nat):Int) > 0)
    ·rfl
    ·have hcl:=of_decide_eq_true hcl
     rw [cond_true,if_pos ⟨by omega,Nat.le_refl _⟩,List.take_length,progBest_eq hN ⟨y.f_Docks,y.f_Calls.drop 1,y.f_Sea,y.f_Last⟩ (fun _=>by show y.f_Sea.length≤40;omega),Option.bind_some]
     obtain ⟨t,h5,h6,h9⟩:=right_less h0 r
     obtain ⟨h7,h8⟩:=best_least h5 h6
     have ha:bestAll ⟨y.f_Docks,y.f_Calls.drop 1,y.f_Sea,y.f_Last⟩=bestV ⟨y.f_Docks,y.f_Calls.drop 1,y.f_Sea,y.f_Last⟩:=by
      unfold bestAll
      rw [h5,decide_eq_false (show ¬ (((y.f_Calls.drop 1).length:Nat):Int) > 4 by rw [List.length_drop];omega),decide_eq_false (show ¬ y.f_Last > 60 by omega)];rfl
     rw [ha]
     unfold bestV
     rw [if_neg (by omega)]
     show cond (cond ((0:Int) != 0) true (decide ((bestQ ⟨y.f_Docks,y.f_Calls.drop 1,y.f_Sea,y.f_Last⟩).1 > n))) (some false) (some true)=some true
     rw [decide_eq_false (by omega)];rfl
   have hL2:∀ k fuel (more:List TDock) (i:Nat),i+k=more.length→k < fuel→more.length≤4→y.f_Docks.length≤i→(∀ j,j < y.f_Docks.length→j < more.length∧more.getD j TDock.d=y.f_Docks.getD j TDock.d) →
     g_keelblocktop_TopBestDocking_L2 N y (s,n,0) fuel more (i:Int)=some true:=by
    intro k
    induction k with
    | zero =>
     intro fuel more i h1 h2 _ _ hm
     obtain ⟨f,rfl⟩:∃ f,fuel=f+1:=⟨fuel - 1,by omega⟩
     have:i=more.length:=by omega
     subst this
     exact hend more hm f
    | succ k ih =>
     intro fuel more i h1 h2 h4 hdi hm
     obtain ⟨f,rfl⟩:∃ f,fuel=f+1:=⟨fuel - 1,by omega⟩
     have hi:i < more.length:=by omega
     rw [g_keelblocktop_TopBestDocking_L2,dec_lt hi,cond_true]
     rw [if_pos (by rw [str_one];decide),if_pos (inb hi),toNat_nat,w64_succ (by omega)]
     refine ih f _ (i+1) (by rw [List.length_set];omega) (by omega) (by rw [List.length_set];omega) (by omega) fun j hj=>?_
     obtain ⟨h5,h6⟩:=hm j hj
     refine ⟨by rw [List.length_set];exact h5,?_⟩
     rw [← h6]
     have h7:j < (more.set i (⟨((⟨#[109,111,114,101]⟩:ByteArray) ++ (strL ([(IntKind.u8.wrap ((w64 (97+(i:Int)))))]:List Int))),(more.getD i TDock.d).fLn,(more.getD i TDock.d).f_Width,(more.getD i TDock.d).f_Sill,(more.getD i TDock.d).f_Floor,(more.getD i TDock.d).f_Gap⟩:TDock)).length:=by rw [List.length_set];exact h5
     rw [getD_in6 h7,getD_in6 h5,List.getElem_set,if_neg (by omega)]
   have hL1:∀ k i fuel,i+k=s.length→k < fuel→g_keelblocktop_TopBestDocking_L1 N y (s,n,0) fuel (i:Int)=some true:=by
    intro k
    induction k with
    | zero =>
     intro i fuel h1 h2
     obtain ⟨f,rfl⟩:∃ f,fuel=f+1:=⟨fuel - 1,by omega⟩
     have:i=s.length:=by omega
     subst this
     rw [g_keelblocktop_TopBestDocking_L1]
     show cond (decide ((s.length:Int) < ((s.length:Nat):Int))) _ _=_
     rw [dec_nlt,cond_false,if_pos (by omega),if_pos (by omega),List.nil_append]
     refine hL2 y.f_Docks.length N _ y.f_Docks.length (by rw [List.length_append]) (by omega) (by rw [List.length_append];omega) (Nat.le_refl _) fun j hj=>⟨by rw [List.length_append];omega,?_⟩
     have h1:j < (y.f_Docks ++ y.f_Docks).length:=by rw [List.length_append];omega
     rw [getD_in6 h1,getD_in6 hj,List.getElem_append_left hj]
    | succ k ih =>
     intro i fuel h1 h2
     obtain ⟨f,rfl⟩:∃ f,fuel=f+1:=⟨fuel - 1,by omega⟩
     have hi:i < s.length:=by omega
     obtain ⟨a1,a2,a3⟩:=r.ship i hi
     have bb1:=cIx_bd a1
     have bb2:=dIx_bd a2
     have hcl:=v.calls
     have hp:=poss_mem.1 (own_iff.1 a3)
     have hwork:memB (daysR (dOf y (sAt s i)) (cOf y (sAt s i)) y.f_Sea) ((sAt s i).f_Day+(cOf y (sAt s i)).f_Work)=true∧(sAt s i).f_Day≥(cOf y (sAt s i)).f_Arrive:=by
      have:=hp.2.2
      unfold mayD at this
      rw [Bool.and_eq_true,Bool.and_eq_true] at this
      exact ⟨this.2.2,of_decide_eq_true this.1⟩
     have hcc:=cOf_ok v a1
     have hcn:nameOk (cOf y (sAt s i)).f_Name=true:=((callsOk_iff.1 (yard_parts h0).2).2.1 _ (getD_mem _ _ _ (by omega))).1
     obtain ⟨p,hpl⟩:=place_one (N:=N) (by omega) (d:=dOf y (sAt s i)) (c:=cOf y (sAt s i)) (docks_at (yard_parts h0).1 (by omega)) ⟨hcn,hcc⟩ hp.1
     have hdb:=days_bd hp.2.1
     have hcw:=call_of hcc
     rw [g_keelblocktop_TopBestDocking_L1]
     show cond (decide ((i:Int) < ((s.length:Nat):Int))) _ _=_
     rw [dec_lt hi,cond_true]
     show (if 0≤(i:Int)∧(i:Int) < ((s.length:Nat):Int) then _ else none)=_
     rw [if_pos (inb hi),toNat_nat,callOf_eq y.f_Calls _ (by omega) (by omega)]
     change (Option.bind (some (cIx y.f_Calls (sAt s i).f_Call)) _)=_
     rw [Option.bind_some,dockOf_eq y.f_Docks _ (by omega) (by omega)]
     change (Option.bind (some (dIx y.f_Docks (sAt s i).f_Dock)) _)=_
     rw [Option.bind_some,decide_eq_false (by omega),decide_eq_false (by omega),cond_false,cond_false,if_pos ⟨a1,bb1⟩,if_pos ⟨a2,bb2⟩]
     change (Option.bind (g_berth_Place N (dOf y (sAt s i)) [cOf y (sAt s i)]) _)=_
     rw [hpl,Option.bind_some,if_pos (fun _=>inb hi),if_pos (fun _=>inb hi)]
     change (Option.bind (cond (!(cond (cond ((0:Int) != 0) true (((([p]:List TSpot).length:Nat):Int) != 1)) true (decide ((sAt s i).f_Day < (cOf y (sAt s i)).f_Arrive)))) (g_keelblocktop_passes N y (dOf y (sAt s i)) (cOf y (sAt s i)) (sAt s i).f_Day) (some false)) _)=_
     rw [decide_eq_false (by omega),passes_eq hN v hp.2.1]
     change (if _ then _ else none)=_
     rw [if_pos (fun _=>inb hi)]
     change (Option.bind (cond (!(cond (cond (cond ((0:Int) != 0) true (((([p]:List TSpot).length:Nat):Int) != 1)) true (decide ((sAt s i).f_Day < (cOf y (sAt s i)).f_Arrive))) true (!true))) (g_keelblocktop_passes N y (dOf y (sAt s i)) (cOf y (sAt s i)) (w64 ((sAt s i).f_Day+(cOf y (sAt s i)).f_Work))) (some false)) _)=_
     rw [decide_eq_false (by omega),w64_eq (n:=(sAt s i).f_Day+(cOf y (sAt s i)).f_Work) (by omega) (by omega),passes_eq hN v ((memB_iff _ _).1 hwork.1),w64_succ (by omega)]
     have:=ih (i+1) f (by omega) (by omega)
     show cond (cond (cond (cond (cond ((0:Int) != 0) true (((([p]:List TSpot).length:Nat):Int) != 1)) true (decide ((sAt s i).f_Day < (cOf y (sAt s i)).f_Arrive))) true (!true)) true (!true)) (some false) (g_keelblocktop_TopBestDocking_L1 N y (s,n,0) f ((i+1:Nat):Int))=some true
     rw [decide_eq_false (by omega)]
     exact this
   exact hL1 s.length 0 N (by omega) (by omega)
end Go.Den
