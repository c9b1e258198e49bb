/- The plain law: the Lean function of the law returns true for every input, and what it needs. No conditions. -/
import Derived.Test.YtnhkjlebcdakkaaTopBestDockingDen
set_option linter.unusedVariables false
set_option linter.unusedSimpArgs false
namespace Go.Den
open Go.Ab
theorem w64_def (n:Int):w64 n=if n % 18446744073709551616≥9223372036854775808 then n % 18446744073709551616 - 18446744073709551616 else n % 18446744073709551616:=by
 have e:w64 n=(if (true && decide (n % 18446744073709551616≥9223372036854775808))=true then n % 18446744073709551616 - 18446744073709551616 else n % 18446744073709551616):=rfl
 rw [e];simp
theorem w64_eq {n:Int} (h1:-9223372036854775808≤n) (h2:n≤9223372036854775807):w64 n=n:=by
 rw [w64_def];split<;>omega
theorem w64_succ {m:Nat} (h:m < 9223372036854775807):w64 ((m:Int)+1)=((m+1:Nat):Int):=by rw [w64_eq (by omega) (by omega)];simp
theorem toList_inj {a b:ByteArray} (h:a.toList=b.toList):a=b:=by
 have e:∀ x:ByteArray,x.toList=x.data.toList:=fun x=>ByteArray.toList_eq x
 rw [e,e] at h
 cases a;cases b;simp_all [Array.toList_inj]
theorem streq_iff {a b:ByteArray}:streq a b=true↔a=b:=by
 unfold streq;simp only [beq_iff_eq]
 exact ⟨toList_inj,fun h=>h ▸ rfl⟩
theorem streq_comm (a b:ByteArray):streq a b=streq b a:=by
 rw [Bool.eq_iff_iff,streq_iff,streq_iff];exact eq_comm
def scan {R:Type} (f:Nat→Option R) (z:R):Nat→Nat→R
 | 0,_=>z
 | k+1,m=>match f m with
  | some r=>r
  | none=>scan f z k (m+1)
theorem loop_scan {R:Type} {L:Nat→Int→Option R} (f:Nat→Option R) (z:R) {n:Nat}
  (hstep:∀ fuel m,m < n→L (fuel+1) (m:Int)=(match f m with | some r=>some r | none=>L fuel ((m+1:Nat):Int)))
  (hend:∀ fuel,L (fuel+1) (n:Int)=some z):∀ k m fuel,m+k=n→k < fuel→L fuel (m:Int)=some (scan f z k m)
 | 0,m,fuel,h,hf=>by
  obtain ⟨g,rfl⟩:∃ g,fuel=g+1:=⟨fuel - 1,by omega⟩
  have:m=n:=by omega
  subst this;exact hend g
 | k+1,m,fuel,h,hf=>by
  obtain ⟨g,rfl⟩:∃ g,fuel=g+1:=⟨fuel - 1,by omega⟩
  rw [hstep g m (by omega)]
  unfold scan
  cases hfm:f m with
  | some r=>rfl
  | none=>exact loop_scan f z hstep hend k (m+1) g (by omega) (by omega)
theorem loop_scan0 {R:Type} {L:Nat→Int→Option R} (f:Nat→Option R) (z:R) {n fuel:Nat} (hf:n < fuel)
  (hstep:∀ fuel m,m < n→L (fuel+1) (m:Int)=(match f m with | some r=>some r | none=>L fuel ((m+1:Nat):Int)))
  (hend:∀ fuel,L (fuel+1) (n:Int)=some z):L fuel 0=some (scan f z n 0) :=
 loop_scan f z hstep hend n 0 fuel (by omega) hf
theorem scan_all {R:Type} {f:Nat→Option R} {z:R}:∀ (k m:Nat),(∀ i,m≤i→i < m+k→f i=none)→scan f z k m=z
 | 0,_,_=>rfl
 | k+1,m,h=>by
  unfold scan
  rw [h m (by omega) (by omega)]
  exact scan_all k (m+1) fun i hi hi2=>h i (by omega) (by omega)
theorem scan_inv {R:Type} {f:Nat→Option R} {z:R}:∀ (k m:Nat),(∃ i r,m≤i∧i < m+k∧f i=some r∧(∀ j,m≤j→j < i→f j=none)∧scan f z k m=r)∨((∀ i,m≤i→i < m+k→f i=none)∧scan f z k m=z)
 | 0,m=>.inr ⟨fun i h1 h2=>by omega,rfl⟩
 | k+1,m=>by
  cases hm:f m with
  | some r=>exact .inl ⟨m,r,Nat.le_refl _,by omega,hm,fun j h1 h2=>by omega,by unfold scan;rw [hm]⟩
  | none =>
   have e:scan f z (k+1) m=scan f z k (m+1):=by rw [scan,hm]
   rcases scan_inv (f:=f) (z:=z) k (m+1) with ⟨i,r,h1,h2,h3,h4,h5⟩ | ⟨h1,h2⟩
   ·refine .inl ⟨i,r,by omega,by omega,h3,fun j hj1 hj2=>?_,e.trans h5⟩
    by_cases hj:j=m
    ·subst hj;exact hm
    ·exact h4 j (by omega) hj2
   ·refine .inr ⟨fun i hi1 hi2=>?_,e.trans h2⟩
    by_cases hj:i=m
    ·subst hj;exact hm
    ·exact h1 i (by omega) (by omega)
theorem scan_index {p:Nat→Bool}:∀ (n m:Nat),decide (scan (fun k=>cond (p k) (some (k:Int)) none) (-1) n m≥0)=scan (fun k=>cond (p k) (some true) none) false n m
 | 0,m=>rfl
 | n+1,m=>by
  unfold scan
  cases p m with
  | true=>simp
  | false=>exact scan_index n (m+1)
theorem scan_first {p:Nat→Bool} {i:Nat} (hi:p i=true):∀ (k m:Nat),m≤i→i < m+k→(scan (fun k=>cond (p k) (some (k:Int)) none) (-1) k m != (i:Int))=scan (fun k=>cond (p k) (some true) none) false (i - m) m
 | 0,m,h1,h2=>by omega
 | k+1,m,h1,h2=>by
  by_cases hm:m=i
  ·subst hm
   rw [Nat.sub_self]
   unfold scan
   rw [hi];simp
  ·obtain ⟨j,hj⟩:∃ j,i - m=j+1:=⟨i - m - 1,by omega⟩
   rw [hj]
   cases hp:p m with
   | true =>
    unfold scan
    simp only [hp,cond_true]
    have:(m:Int)≠i:=by omega
    simpa using this
   | false =>
    have e1:scan (fun k=>cond (p k) (some (k:Int)) none) (-1) (k+1) m=scan (fun k=>cond (p k) (some (k:Int)) none) (-1) k (m+1):=by rw [scan];simp only [hp,cond_false]
    have e2:scan (fun k=>cond (p k) (some true) none) false (j+1) m=scan (fun k=>cond (p k) (some true) none) false j (m+1):=by rw [scan];simp only [hp,cond_false]
    rw [e1,e2,scan_first hi k (m+1) (by omega) (by omega)]
    congr 1;omega
theorem bind_cond {α β:Type} (q:Bool) (a b:α) (f:α→Option β):(cond q (some a) (some b)).bind f=f (cond q a b):=by cases q<;>rfl
theorem cond_some {α:Type} (q:Bool) (a b:α):cond q (some a) (some b)=some (cond q a b):=by cases q<;>rfl
theorem getD_take {α:Type} (l:List α) (m k:Nat) (d:α) (h:k < m):((l.take m).drop 0).getD k d=l.getD k d:=by
 simp [List.getD,h]
theorem getD_mem {α:Type} (l:List α) (m:Nat) (d:α) (h:m < l.length):l.getD m d∈l:=by
 simp [List.getD,h]
theorem toNat_nat (m:Nat):((m:Int)).toNat=m:=rfl
theorem inb {m n:Nat} (h:m < n):0≤(m:Int)∧(m:Int) < ((n:Nat):Int):=⟨by omega,by omega⟩
theorem dec_lt {m n:Nat} (h:m < n):decide ((m:Int) < ((n:Nat):Int))=true:=by simp;omega
theorem dec_nlt {n:Nat}:decide ((n:Int) < ((n:Nat):Int))=false:=by simp
end Go.Den
set_option linter.unusedVariables false
namespace Go.Den
open Go.Ab
set_option maxRecDepth 100000
structure Mono (f:Int→Int):Prop where
 lt:∀ x y,f x < f y↔x < y
 z:f 0=0
theorem mapc {α β:Type} (c:Bool) (F:α→β) (a b:Option α):Option.map F (cond c a b)=cond c (Option.map F a) (Option.map F b):=by cases c<;>rfl
theorem mapi {α β:Type} (c:Prop) [Decidable c] (F:α→β) (a b:Option α):Option.map F (if c then a else b)=if c then Option.map F a else Option.map F b:=by split<;>rfl
theorem mapb {α β γ:Type} (x:Option α) (g:α→Option β) (F:β→γ):Option.map F (x.bind g)=x.bind (fun a=>Option.map F (g a)):=by cases x<;>rfl
theorem bmap {α β γ:Type} (x:Option α) (F:α→β) (g:β→Option γ):(Option.map F x).bind g=x.bind (fun a=>g (F a)):=by cases x<;>rfl
theorem gdm {f:Int→Int} (h:Mono f) (l:List Int) (i:Nat):(l.map f).getD i 0=f (l.getD i 0):=by
 rw [List.getD_eq_getElem?_getD,List.getD_eq_getElem?_getD,List.getElem?_map]
 cases l[i]? with
 | none=>exact h.z.symm
 | some v=>rfl
theorem stm {f:Int→Int} (l:List Int) (i:Nat) (v:Int):(l.map f).set i (f v)=(l.set i v).map f:=List.map_set.symm
theorem lsm {f:Int→Int} (h:Mono f) (N:Nat) (x y:Int):g_cmp_Less_int N (f x) (f y)=g_cmp_Less_int N x y:=by
 unfold g_cmp_Less_int g_cmp_isNaN_int
 simp only [bne_self_eq_false,Option.bind_some,cond_false]
 congr 1
 by_cases hxy:x < y
 ·rw [decide_eq_true hxy,decide_eq_true ((h.lt x y).2 hxy)]
 ·rw [decide_eq_false hxy,decide_eq_false (fun hq=>hxy ((h.lt x y).1 hq))]
theorem m_slices_insertionSortOrdered_int_L2 {f:Int→Int} (h:Mono f) (N:Nat) (a:Int) (b:Int) (i:Int) {K K':(List Int)→Int→Option ((List Int))} (hK:∀ (y0:(List Int)) (y1:Int),K' (y0.map f) y1=(K y0 y1).map (List.map f)):∀ (fuel:Nat) (cap03:(List Int)) (j:Int),g_slices_insertionSortOrdered_int_L2 N a b i K' fuel (cap03.map f) j=(g_slices_insertionSortOrdered_int_L2 N a b i K fuel cap03 j).map (List.map f):=by
 intro fuel
 induction fuel with
 | zero=>intros;rfl
 | succ fuel ih =>
  intro cap03 j
  simp only [g_slices_insertionSortOrdered_int_L2,gdm h,stm,lsm h,List.length_map,mapc,mapi,mapb,bmap,Option.map_some,Option.map_none,hK,ih]
theorem m_slices_insertionSortOrdered_int_L1 {f:Int→Int} (h:Mono f) (N:Nat) (a:Int) (b:Int):∀ (fuel:Nat) (cap02:(List Int)) (i:Int),g_slices_insertionSortOrdered_int_L1 N a b fuel (cap02.map f) i=(g_slices_insertionSortOrdered_int_L1 N a b fuel cap02 i).map (List.map f):=by
 intro fuel
 induction fuel with
 | zero=>intros;rfl
 | succ fuel ih =>
  intro cap02 i
  simp only [g_slices_insertionSortOrdered_int_L1,gdm h,stm,lsm h,List.length_map,mapc,mapi,mapb,bmap,Option.map_some,Option.map_none,(m_slices_insertionSortOrdered_int_L2 h N (hK:=ih)),ih]
theorem m_slices_insertionSortOrdered_int {f:Int→Int} (h:Mono f) (N:Nat) (a:Int) (b:Int) (cap0:List Int):g_slices_insertionSortOrdered_int N a b (cap0.map f)=(g_slices_insertionSortOrdered_int N a b cap0).map (List.map f):=by
 simp only [g_slices_insertionSortOrdered_int,gdm h,stm,lsm h,List.length_map,mapc,mapi,mapb,bmap,Option.map_some,Option.map_none,m_slices_insertionSortOrdered_int_L1 h N]
theorem m_slices_siftDownOrdered_int_J2 {f:Int→Int} (h:Mono f) (N:Nat) (hi:Int) (first:Int) (cap02:List Int) (root:Int) {K K':(List Int)→Int→Option ((List Int))} (hK:∀ (y0:(List Int)) (y1:Int),K' (y0.map f) y1=(K y0 y1).map (List.map f)) (child:Int):g_slices_siftDownOrdered_int_J2 N hi first (cap02.map f) root K' child=(g_slices_siftDownOrdered_int_J2 N hi first cap02 root K child).map (List.map f):=by
 simp only [g_slices_siftDownOrdered_int_J2,gdm h,stm,lsm h,List.length_map,mapc,mapi,mapb,bmap,Option.map_some,Option.map_none,hK]
theorem m_slices_siftDownOrdered_int_L1 {f:Int→Int} (h:Mono f) (N:Nat) (hi:Int) (first:Int):∀ (fuel:Nat) (cap02:(List Int)) (root:Int),g_slices_siftDownOrdered_int_L1 N hi first fuel (cap02.map f) root=(g_slices_siftDownOrdered_int_L1 N hi first fuel cap02 root).map (List.map f):=by
 intro fuel
 induction fuel with
 | zero=>intros;rfl
 | succ fuel ih =>
  intro cap02 root
  simp only [g_slices_siftDownOrdered_int_L1,gdm h,stm,lsm h,List.length_map,mapc,mapi,mapb,bmap,Option.map_some,Option.map_none,(m_slices_siftDownOrdered_int_J2 h N (hK:=ih)),ih]
theorem m_slices_siftDownOrdered_int {f:Int→Int} (h:Mono f) (N:Nat) (lo:Int) (hi:Int) (first:Int) (cap0:List Int):g_slices_siftDownOrdered_int N lo hi first (cap0.map f)=(g_slices_siftDownOrdered_int N lo hi first cap0).map (List.map f):=by
 simp only [g_slices_siftDownOrdered_int,gdm h,stm,lsm h,List.length_map,mapc,mapi,mapb,bmap,Option.map_some,Option.map_none,m_slices_siftDownOrdered_int_L1 h N]
theorem m_slices_heapSortOrdered_int_L2 {f:Int→Int} (h:Mono f) (N:Nat) (a:Int):∀ (fuel:Nat) (cap03:(List Int)) (i2:Int),g_slices_heapSortOrdered_int_L2 N a fuel (cap03.map f) i2=(g_slices_heapSortOrdered_int_L2 N a fuel cap03 i2).map (List.map f):=by
 intro fuel
 induction fuel with
 | zero=>intros;rfl
 | succ fuel ih =>
  intro cap03 i2
  simp only [g_slices_heapSortOrdered_int_L2,gdm h,stm,lsm h,List.length_map,mapc,mapi,mapb,bmap,Option.map_some,Option.map_none,m_slices_siftDownOrdered_int h N,ih]
theorem m_slices_heapSortOrdered_int_L1 {f:Int→Int} (h:Mono f) (N:Nat) (a:Int) (b:Int):∀ (fuel:Nat) (cap02:(List Int)) (i:Int),g_slices_heapSortOrdered_int_L1 N a b fuel (cap02.map f) i=(g_slices_heapSortOrdered_int_L1 N a b fuel cap02 i).map (List.map f):=by
 intro fuel
 induction fuel with
 | zero=>intros;rfl
 | succ fuel ih =>
  intro cap02 i
  simp only [g_slices_heapSortOrdered_int_L1,gdm h,stm,lsm h,List.length_map,mapc,mapi,mapb,bmap,Option.map_some,Option.map_none,m_slices_siftDownOrdered_int h N,m_slices_heapSortOrdered_int_L2 h N,ih]
theorem m_slices_heapSortOrdered_int {f:Int→Int} (h:Mono f) (N:Nat) (a:Int) (b:Int) (cap0:List Int):g_slices_heapSortOrdered_int N a b (cap0.map f)=(g_slices_heapSortOrdered_int N a b cap0).map (List.map f):=by
 simp only [g_slices_heapSortOrdered_int,gdm h,stm,lsm h,List.length_map,mapc,mapi,mapb,bmap,Option.map_some,Option.map_none,m_slices_heapSortOrdered_int_L1 h N]
theorem m_slices_nextPowerOfTwo {f:Int→Int} (h:Mono f) (N:Nat) (length:Int):g_slices_nextPowerOfTwo N length=(g_slices_nextPowerOfTwo N length):=by
 simp only [g_slices_nextPowerOfTwo,gdm h,stm,lsm h,List.length_map,mapc,mapi,mapb,bmap,Option.map_some,Option.map_none]
theorem m_slices_xorshift_Next {f:Int→Int} (h:Mono f) (N:Nat) (cap0:Int):g_slices_xorshift_Next N cap0=(g_slices_xorshift_Next N cap0):=by
 simp only [g_slices_xorshift_Next,gdm h,stm,lsm h,List.length_map,mapc,mapi,mapb,bmap,Option.map_some,Option.map_none]
theorem m_slices_breakPatternsOrdered_int_J2 {f:Int→Int} (h:Mono f) (N:Nat) (a:Int) (b:Int) (rnextPowerOfT:Int) (cap02:List Int) (idx:Int) (rNext:Int×Int) {K K':(List Int)→Int→Int→Option ((List Int))} (hK:∀ (y0:(List Int)) (y1:Int) (y2:Int),K' (y0.map f) y1 y2=(K y0 y1 y2).map (List.map f)) (other:Int):g_slices_breakPatternsOrdered_int_J2 N a b rnextPowerOfT (cap02.map f) idx rNext K' other=(g_slices_breakPatternsOrdered_int_J2 N a b rnextPowerOfT cap02 idx rNext K other).map (List.map f):=by
 simp only [g_slices_breakPatternsOrdered_int_J2,gdm h,stm,lsm h,List.length_map,mapc,mapi,mapb,bmap,Option.map_some,Option.map_none,hK]
theorem m_slices_breakPatternsOrdered_int_L1 {f:Int→Int} (h:Mono f) (N:Nat) (a:Int) (b:Int) (rnextPowerOfT:Int):∀ (fuel:Nat) (cap02:(List Int)) (random:Int) (idx:Int),g_slices_breakPatternsOrdered_int_L1 N a b rnextPowerOfT fuel (cap02.map f) random idx=(g_slices_breakPatternsOrdered_int_L1 N a b rnextPowerOfT fuel cap02 random idx).map (List.map f):=by
 intro fuel
 induction fuel with
 | zero=>intros;rfl
 | succ fuel ih =>
  intro cap02 random idx
  simp only [g_slices_breakPatternsOrdered_int_L1,gdm h,stm,lsm h,List.length_map,mapc,mapi,mapb,bmap,Option.map_some,Option.map_none,m_slices_xorshift_Next h N,(m_slices_breakPatternsOrdered_int_J2 h N (hK:=ih)),ih]
theorem m_slices_breakPatternsOrdered_int {f:Int→Int} (h:Mono f) (N:Nat) (a:Int) (b:Int) (cap0:List Int):g_slices_breakPatternsOrdered_int N a b (cap0.map f)=(g_slices_breakPatternsOrdered_int N a b cap0).map (List.map f):=by
 simp only [g_slices_breakPatternsOrdered_int,gdm h,stm,lsm h,List.length_map,mapc,mapi,mapb,bmap,Option.map_some,Option.map_none,m_slices_nextPowerOfTwo h N,m_slices_breakPatternsOrdered_int_L1 h N]
theorem m_slices_order2Ordered_int {f:Int→Int} (h:Mono f) (N:Nat) (data:List Int) (a:Int) (b:Int) (cap0:Int):g_slices_order2Ordered_int N (data.map f) a b cap0=(g_slices_order2Ordered_int N data a b cap0):=by
 simp only [g_slices_order2Ordered_int,gdm h,stm,lsm h,List.length_map,mapc,mapi,mapb,bmap,Option.map_some,Option.map_none]
theorem m_slices_medianOrdered_int {f:Int→Int} (h:Mono f) (N:Nat) (data:List Int) (a:Int) (b:Int) (c:Int) (cap0:Int):g_slices_medianOrdered_int N (data.map f) a b c cap0=(g_slices_medianOrdered_int N data a b c cap0):=by
 simp only [g_slices_medianOrdered_int,gdm h,stm,lsm h,List.length_map,mapc,mapi,mapb,bmap,Option.map_some,Option.map_none,m_slices_order2Ordered_int h N]
theorem m_slices_medianAdjacentOrdered_int {f:Int→Int} (h:Mono f) (N:Nat) (data:List Int) (a:Int) (cap0:Int):g_slices_medianAdjacentOrdered_int N (data.map f) a cap0=(g_slices_medianAdjacentOrdered_int N data a cap0):=by
 simp only [g_slices_medianAdjacentOrdered_int,gdm h,stm,lsm h,List.length_map,mapc,mapi,mapb,bmap,Option.map_some,Option.map_none,m_slices_medianOrdered_int h N]
theorem m_slices_choosePivotOrdered_int_J2 {f:Int→Int} (h:Mono f) (N:Nat) (swaps2:Int) (j2:Int):g_slices_choosePivotOrdered_int_J2 N swaps2 j2=(g_slices_choosePivotOrdered_int_J2 N swaps2 j2):=by
 simp only [g_slices_choosePivotOrdered_int_J2,gdm h,stm,lsm h,List.length_map,mapc,mapi,mapb,bmap,Option.map_some,Option.map_none]
theorem m_slices_choosePivotOrdered_int_J1 {f:Int→Int} (h:Mono f) (N:Nat) (data:List Int) (swaps:Int) (i:Int) (j:Int) (k:Int):g_slices_choosePivotOrdered_int_J1 N (data.map f) swaps i j k=(g_slices_choosePivotOrdered_int_J1 N data swaps i j k):=by
 simp only [g_slices_choosePivotOrdered_int_J1,gdm h,stm,lsm h,List.length_map,mapc,mapi,mapb,bmap,Option.map_some,Option.map_none,m_slices_medianOrdered_int h N,m_slices_choosePivotOrdered_int_J2 h N]
theorem m_slices_choosePivotOrdered_int {f:Int→Int} (h:Mono f) (N:Nat) (data:List Int) (a:Int) (b:Int):g_slices_choosePivotOrdered_int N (data.map f) a b=(g_slices_choosePivotOrdered_int N data a b):=by
 simp only [g_slices_choosePivotOrdered_int,gdm h,stm,lsm h,List.length_map,mapc,mapi,mapb,bmap,Option.map_some,Option.map_none,m_slices_medianAdjacentOrdered_int h N,m_slices_choosePivotOrdered_int_J2 h N,m_slices_choosePivotOrdered_int_J1 h N]
theorem m_slices_reverseRangeOrdered_int_L1 {f:Int→Int} (h:Mono f) (N:Nat)  : ∀ (fuel:Nat) (cap02:(List Int)) (i:Int) (j:Int),g_slices_reverseRangeOrdered_int_L1 N fuel (cap02.map f) i j=(g_slices_reverseRangeOrdered_int_L1 N fuel cap02 i j).map (List.map f):=by
 intro fuel
 induction fuel with
 | zero=>intros;rfl
 | succ fuel ih =>
  intro cap02 i j
  simp only [g_slices_reverseRangeOrdered_int_L1,gdm h,stm,lsm h,List.length_map,mapc,mapi,mapb,bmap,Option.map_some,Option.map_none,ih]
theorem m_slices_reverseRangeOrdered_int {f:Int→Int} (h:Mono f) (N:Nat) (a:Int) (b:Int) (cap0:List Int):g_slices_reverseRangeOrdered_int N a b (cap0.map f)=(g_slices_reverseRangeOrdered_int N a b cap0).map (List.map f):=by
 simp only [g_slices_reverseRangeOrdered_int,gdm h,stm,lsm h,List.length_map,mapc,mapi,mapb,bmap,Option.map_some,Option.map_none,m_slices_reverseRangeOrdered_int_L1 h N]
theorem m_slices_partialInsertionSortOrdered_int_J6 {f:Int→Int} (h:Mono f) (N:Nat) (a:Int) (b:Int) (j:Int) (i2:Int) {K K':(List Int)→Int→Int→Option (Bool×(List Int))} (hK:∀ (y0:(List Int)) (y1:Int) (y2:Int),K' (y0.map f) y1 y2=(K y0 y1 y2).map (fun r:Bool×List Int=>(r.1,r.2.map f))) (cap06:List Int):g_slices_partialInsertionSortOrdered_int_J6 N a b j i2 K' (cap06.map f)=(g_slices_partialInsertionSortOrdered_int_J6 N a b j i2 K cap06).map (fun r:Bool×List Int=>(r.1,r.2.map f)):=by
 simp only [g_slices_partialInsertionSortOrdered_int_J6,gdm h,stm,lsm h,List.length_map,mapc,mapi,mapb,bmap,Option.map_some,Option.map_none,hK]
theorem m_slices_partialInsertionSortOrdered_int_L5 {f:Int→Int} (h:Mono f) (N:Nat) (a:Int) (b:Int) (j:Int) (i2:Int) {K K':(List Int)→Int→Int→Option (Bool×(List Int))} (hK:∀ (y0:(List Int)) (y1:Int) (y2:Int),K' (y0.map f) y1 y2=(K y0 y1 y2).map (fun r:Bool×List Int=>(r.1,r.2.map f))):∀ (fuel:Nat) (cap05:(List Int)) (j3:Int),g_slices_partialInsertionSortOrdered_int_L5 N a b j i2 K' fuel (cap05.map f) j3=(g_slices_partialInsertionSortOrdered_int_L5 N a b j i2 K fuel cap05 j3).map (fun r:Bool×List Int=>(r.1,r.2.map f)):=by
 intro fuel
 induction fuel with
 | zero=>intros;rfl
 | succ fuel ih =>
  intro cap05 j3
  simp only [g_slices_partialInsertionSortOrdered_int_L5,gdm h,stm,lsm h,List.length_map,mapc,mapi,mapb,bmap,Option.map_some,Option.map_none,hK,(m_slices_partialInsertionSortOrdered_int_J6 h N (hK:=hK)),ih]
theorem m_slices_partialInsertionSortOrdered_int_J4 {f:Int→Int} (h:Mono f) (N:Nat) (a:Int) (b:Int) (j:Int) (i2:Int) {K K':(List Int)→Int→Int→Option (Bool×(List Int))} (hK:∀ (y0:(List Int)) (y1:Int) (y2:Int),K' (y0.map f) y1 y2=(K y0 y1 y2).map (fun r:Bool×List Int=>(r.1,r.2.map f))) (cap04:List Int):g_slices_partialInsertionSortOrdered_int_J4 N a b j i2 K' (cap04.map f)=(g_slices_partialInsertionSortOrdered_int_J4 N a b j i2 K cap04).map (fun r:Bool×List Int=>(r.1,r.2.map f)):=by
 simp only [g_slices_partialInsertionSortOrdered_int_J4,gdm h,stm,lsm h,List.length_map,mapc,mapi,mapb,bmap,Option.map_some,Option.map_none,hK,(m_slices_partialInsertionSortOrdered_int_J6 h N (hK:=hK)),(m_slices_partialInsertionSortOrdered_int_L5 h N (hK:=hK))]
theorem m_slices_partialInsertionSortOrdered_int_L3 {f:Int→Int} (h:Mono f) (N:Nat) (a:Int) (b:Int) (j:Int) (i2:Int) {K K':(List Int)→Int→Int→Option (Bool×(List Int))} (hK:∀ (y0:(List Int)) (y1:Int) (y2:Int),K' (y0.map f) y1 y2=(K y0 y1 y2).map (fun r:Bool×List Int=>(r.1,r.2.map f))):∀ (fuel:Nat) (cap03:(List Int)) (j2:Int),g_slices_partialInsertionSortOrdered_int_L3 N a b j i2 K' fuel (cap03.map f) j2=(g_slices_partialInsertionSortOrdered_int_L3 N a b j i2 K fuel cap03 j2).map (fun r:Bool×List Int=>(r.1,r.2.map f)):=by
 intro fuel
 induction fuel with
 | zero=>intros;rfl
 | succ fuel ih =>
  intro cap03 j2
  simp only [g_slices_partialInsertionSortOrdered_int_L3,gdm h,stm,lsm h,List.length_map,mapc,mapi,mapb,bmap,Option.map_some,Option.map_none,hK,(m_slices_partialInsertionSortOrdered_int_J4 h N (hK:=hK)),ih]
theorem m_slices_partialInsertionSortOrdered_int_L2 {f:Int→Int} (h:Mono f) (N:Nat) (a:Int) (b:Int) (cap02:List Int) (j:Int) {K K':(List Int)→Int→Int→Option (Bool×(List Int))} (hK:∀ (y0:(List Int)) (y1:Int) (y2:Int),K' (y0.map f) y1 y2=(K y0 y1 y2).map (fun r:Bool×List Int=>(r.1,r.2.map f))):∀ (fuel:Nat) (i2:Int),g_slices_partialInsertionSortOrdered_int_L2 N a b (cap02.map f) j K' fuel i2=(g_slices_partialInsertionSortOrdered_int_L2 N a b cap02 j K fuel i2).map (fun r:Bool×List Int=>(r.1,r.2.map f)):=by
 intro fuel
 induction fuel with
 | zero=>intros;rfl
 | succ fuel ih =>
  intro i2
  simp only [g_slices_partialInsertionSortOrdered_int_L2,gdm h,stm,lsm h,List.length_map,mapc,mapi,mapb,bmap,Option.map_some,Option.map_none,hK,(m_slices_partialInsertionSortOrdered_int_J4 h N (hK:=hK)),(m_slices_partialInsertionSortOrdered_int_L3 h N (hK:=hK)),ih]
theorem m_slices_partialInsertionSortOrdered_int_L1 {f:Int→Int} (h:Mono f) (N:Nat) (a:Int) (b:Int):∀ (fuel:Nat) (cap02:(List Int)) (i:Int) (j:Int),g_slices_partialInsertionSortOrdered_int_L1 N a b fuel (cap02.map f) i j=(g_slices_partialInsertionSortOrdered_int_L1 N a b fuel cap02 i j).map (fun r:Bool×List Int=>(r.1,r.2.map f)):=by
 intro fuel
 induction fuel with
 | zero=>intros;rfl
 | succ fuel ih =>
  intro cap02 i j
  simp only [g_slices_partialInsertionSortOrdered_int_L1,gdm h,stm,lsm h,List.length_map,mapc,mapi,mapb,bmap,Option.map_some,Option.map_none,(m_slices_partialInsertionSortOrdered_int_L2 h N (hK:=ih)),ih]
theorem m_slices_partialInsertionSortOrdered_int {f:Int→Int} (h:Mono f) (N:Nat) (a:Int) (b:Int) (cap0:List Int):g_slices_partialInsertionSortOrdered_int N a b (cap0.map f)=(g_slices_partialInsertionSortOrdered_int N a b cap0).map (fun r:Bool×List Int=>(r.1,r.2.map f)):=by
 simp only [g_slices_partialInsertionSortOrdered_int,gdm h,stm,lsm h,List.length_map,mapc,mapi,mapb,bmap,Option.map_some,Option.map_none,m_slices_partialInsertionSortOrdered_int_L1 h N]
theorem m_slices_partitionEqualOrdered_int_L3 {f:Int→Int} (h:Mono f) (N:Nat) (a:Int) (cap02:List Int) (i2:Int) {K K':(List Int)→Int→Int→Option (Int×(List Int))} (hK:∀ (y0:(List Int)) (y1:Int) (y2:Int),K' (y0.map f) y1 y2=(K y0 y1 y2).map (fun r:Int×List Int=>(r.1,r.2.map f))):∀ (fuel:Nat) (j2:Int),g_slices_partitionEqualOrdered_int_L3 N a (cap02.map f) i2 K' fuel j2=(g_slices_partitionEqualOrdered_int_L3 N a cap02 i2 K fuel j2).map (fun r:Int×List Int=>(r.1,r.2.map f)):=by
 intro fuel
 induction fuel with
 | zero=>intros;rfl
 | succ fuel ih =>
  intro j2
  simp only [g_slices_partitionEqualOrdered_int_L3,gdm h,stm,lsm h,List.length_map,mapc,mapi,mapb,bmap,Option.map_some,Option.map_none,hK,ih]
theorem m_slices_partitionEqualOrdered_int_L2 {f:Int→Int} (h:Mono f) (N:Nat) (a:Int) (cap02:List Int) (j:Int) {K K':(List Int)→Int→Int→Option (Int×(List Int))} (hK:∀ (y0:(List Int)) (y1:Int) (y2:Int),K' (y0.map f) y1 y2=(K y0 y1 y2).map (fun r:Int×List Int=>(r.1,r.2.map f))):∀ (fuel:Nat) (i2:Int),g_slices_partitionEqualOrdered_int_L2 N a (cap02.map f) j K' fuel i2=(g_slices_partitionEqualOrdered_int_L2 N a cap02 j K fuel i2).map (fun r:Int×List Int=>(r.1,r.2.map f)):=by
 intro fuel
 induction fuel with
 | zero=>intros;rfl
 | succ fuel ih =>
  intro i2
  simp only [g_slices_partitionEqualOrdered_int_L2,gdm h,stm,lsm h,List.length_map,mapc,mapi,mapb,bmap,Option.map_some,Option.map_none,hK,(m_slices_partitionEqualOrdered_int_L3 h N (hK:=hK)),ih]
theorem m_slices_partitionEqualOrdered_int_L1 {f:Int→Int} (h:Mono f) (N:Nat) (a:Int):∀ (fuel:Nat) (cap02:(List Int)) (i:Int) (j:Int),g_slices_partitionEqualOrdered_int_L1 N a fuel (cap02.map f) i j=(g_slices_partitionEqualOrdered_int_L1 N a fuel cap02 i j).map (fun r:Int×List Int=>(r.1,r.2.map f)):=by
 intro fuel
 induction fuel with
 | zero=>intros;rfl
 | succ fuel ih =>
  intro cap02 i j
  simp only [g_slices_partitionEqualOrdered_int_L1,gdm h,stm,lsm h,List.length_map,mapc,mapi,mapb,bmap,Option.map_some,Option.map_none,(m_slices_partitionEqualOrdered_int_L2 h N (hK:=ih)),ih]
theorem m_slices_partitionEqualOrdered_int {f:Int→Int} (h:Mono f) (N:Nat) (a:Int) (b:Int) (pivot:Int) (cap0:List Int):g_slices_partitionEqualOrdered_int N a b pivot (cap0.map f)=(g_slices_partitionEqualOrdered_int N a b pivot cap0).map (fun r:Int×List Int=>(r.1,r.2.map f)):=by
 simp only [g_slices_partitionEqualOrdered_int,gdm h,stm,lsm h,List.length_map,mapc,mapi,mapb,bmap,Option.map_some,Option.map_none,m_slices_partitionEqualOrdered_int_L1 h N]
theorem m_slices_partitionOrdered_int_L5 {f:Int→Int} (h:Mono f) (N:Nat) (a:Int) (cap02:List Int) (i3:Int) {K K':(List Int)→Int→Int→Option (Int×Bool×(List Int))} (hK:∀ (y0:(List Int)) (y1:Int) (y2:Int),K' (y0.map f) y1 y2=(K y0 y1 y2).map (fun r:Int×Bool×List Int=>(r.1,r.2.1,r.2.2.map f))):∀ (fuel:Nat) (j3:Int),g_slices_partitionOrdered_int_L5 N a (cap02.map f) i3 K' fuel j3=(g_slices_partitionOrdered_int_L5 N a cap02 i3 K fuel j3).map (fun r:Int×Bool×List Int=>(r.1,r.2.1,r.2.2.map f)):=by
 intro fuel
 induction fuel with
 | zero=>intros;rfl
 | succ fuel ih =>
  intro j3
  simp only [g_slices_partitionOrdered_int_L5,gdm h,stm,lsm h,List.length_map,mapc,mapi,mapb,bmap,Option.map_some,Option.map_none,hK,ih]
theorem m_slices_partitionOrdered_int_L4 {f:Int→Int} (h:Mono f) (N:Nat) (a:Int) (cap02:List Int) (j2:Int) {K K':(List Int)→Int→Int→Option (Int×Bool×(List Int))} (hK:∀ (y0:(List Int)) (y1:Int) (y2:Int),K' (y0.map f) y1 y2=(K y0 y1 y2).map (fun r:Int×Bool×List Int=>(r.1,r.2.1,r.2.2.map f))):∀ (fuel:Nat) (i3:Int),g_slices_partitionOrdered_int_L4 N a (cap02.map f) j2 K' fuel i3=(g_slices_partitionOrdered_int_L4 N a cap02 j2 K fuel i3).map (fun r:Int×Bool×List Int=>(r.1,r.2.1,r.2.2.map f)):=by
 intro fuel
 induction fuel with
 | zero=>intros;rfl
 | succ fuel ih =>
  intro i3
  simp only [g_slices_partitionOrdered_int_L4,gdm h,stm,lsm h,List.length_map,mapc,mapi,mapb,bmap,Option.map_some,Option.map_none,hK,(m_slices_partitionOrdered_int_L5 h N (hK:=hK)),ih]
theorem m_slices_partitionOrdered_int_L3 {f:Int→Int} (h:Mono f) (N:Nat) (a:Int):∀ (fuel:Nat) (cap02:(List Int)) (i2:Int) (j2:Int),g_slices_partitionOrdered_int_L3 N a fuel (cap02.map f) i2 j2=(g_slices_partitionOrdered_int_L3 N a fuel cap02 i2 j2).map (fun r:Int×Bool×List Int=>(r.1,r.2.1,r.2.2.map f)):=by
 intro fuel
 induction fuel with
 | zero=>intros;rfl
 | succ fuel ih =>
  intro cap02 i2 j2
  simp only [g_slices_partitionOrdered_int_L3,gdm h,stm,lsm h,List.length_map,mapc,mapi,mapb,bmap,Option.map_some,Option.map_none,(m_slices_partitionOrdered_int_L4 h N (hK:=ih)),ih]
theorem m_slices_partitionOrdered_int_L2 {f:Int→Int} (h:Mono f) (N:Nat) (a:Int) (pivot:Int) (cap0:List Int) (i:Int):∀ (fuel:Nat) (j:Int),g_slices_partitionOrdered_int_L2 N a pivot (cap0.map f) i fuel j=(g_slices_partitionOrdered_int_L2 N a pivot cap0 i fuel j).map (fun r:Int×Bool×List Int=>(r.1,r.2.1,r.2.2.map f)):=by
 intro fuel
 induction fuel with
 | zero=>intros;rfl
 | succ fuel ih =>
  intro j
  simp only [g_slices_partitionOrdered_int_L2,gdm h,stm,lsm h,List.length_map,mapc,mapi,mapb,bmap,Option.map_some,Option.map_none,m_slices_partitionOrdered_int_L3 h N,ih]
theorem m_slices_partitionOrdered_int_L1 {f:Int→Int} (h:Mono f) (N:Nat) (a:Int) (b:Int) (pivot:Int) (cap0:List Int):∀ (fuel:Nat) (i:Int),g_slices_partitionOrdered_int_L1 N a b pivot (cap0.map f) fuel i=(g_slices_partitionOrdered_int_L1 N a b pivot cap0 fuel i).map (fun r:Int×Bool×List Int=>(r.1,r.2.1,r.2.2.map f)):=by
 intro fuel
 induction fuel with
 | zero=>intros;rfl
 | succ fuel ih =>
  intro i
  simp only [g_slices_partitionOrdered_int_L1,gdm h,stm,lsm h,List.length_map,mapc,mapi,mapb,bmap,Option.map_some,Option.map_none,m_slices_partitionOrdered_int_L2 h N,ih]
theorem m_slices_partitionOrdered_int {f:Int→Int} (h:Mono f) (N:Nat) (a:Int) (b:Int) (pivot:Int) (cap0:List Int):g_slices_partitionOrdered_int N a b pivot (cap0.map f)=(g_slices_partitionOrdered_int N a b pivot cap0).map (fun r:Int×Bool×List Int=>(r.1,r.2.1,r.2.2.map f)):=by
 simp only [g_slices_partitionOrdered_int,gdm h,stm,lsm h,List.length_map,mapc,mapi,mapb,bmap,Option.map_some,Option.map_none,m_slices_partitionOrdered_int_L1 h N]
theorem m_slices_pdqsortOrdered_int_J4 {f:Int→Int} (h:Mono f) (N:Nat) (a2:Int) (b2:Int) (wasBalanced:Bool) (wasPartitioned:Bool) (limit3:Int) (pivot:Int) {R R':Int→Int→Int→(List Int)→Option ((List Int))} (hR:∀ (y0:Int) (y1:Int) (y2:Int) (y3:(List Int)),R' y0 y1 y2 (y3.map f)=(R y0 y1 y2 y3).map (List.map f)) {K K':(List Int)→Int→Int→Int→Bool→Bool→Option ((List Int))} (hK:∀ (y0:(List Int)) (y1:Int) (y2:Int) (y3:Int) (y4:Bool) (y5:Bool),K' (y0.map f) y1 y2 y3 y4 y5=(K y0 y1 y2 y3 y4 y5).map (List.map f)) (cap05:List Int):g_slices_pdqsortOrdered_int_J4 N a2 b2 wasBalanced wasPartitioned limit3 pivot R' K' (cap05.map f)=(g_slices_pdqsortOrdered_int_J4 N a2 b2 wasBalanced wasPartitioned limit3 pivot R K cap05).map (List.map f):=by
 simp only [g_slices_pdqsortOrdered_int_J4,gdm h,stm,lsm h,List.length_map,mapc,mapi,mapb,bmap,Option.map_some,Option.map_none,hK,hR,m_slices_partitionEqualOrdered_int h N,m_slices_partitionOrdered_int h N]
theorem m_slices_pdqsortOrdered_int_J3 {f:Int→Int} (h:Mono f) (N:Nat) (a2:Int) (b2:Int) (wasBalanced:Bool) (wasPartitioned:Bool) (limit3:Int) {R R':Int→Int→Int→(List Int)→Option ((List Int))} (hR:∀ (y0:Int) (y1:Int) (y2:Int) (y3:(List Int)),R' y0 y1 y2 (y3.map f)=(R y0 y1 y2 y3).map (List.map f)) {K K':(List Int)→Int→Int→Int→Bool→Bool→Option ((List Int))} (hK:∀ (y0:(List Int)) (y1:Int) (y2:Int) (y3:Int) (y4:Bool) (y5:Bool),K' (y0.map f) y1 y2 y3 y4 y5=(K y0 y1 y2 y3 y4 y5).map (List.map f)) (cap04:List Int) (pivot:Int) (hint:Int):g_slices_pdqsortOrdered_int_J3 N a2 b2 wasBalanced wasPartitioned limit3 R' K' (cap04.map f) pivot hint=(g_slices_pdqsortOrdered_int_J3 N a2 b2 wasBalanced wasPartitioned limit3 R K cap04 pivot hint).map (List.map f):=by
 simp only [g_slices_pdqsortOrdered_int_J3,gdm h,stm,lsm h,List.length_map,mapc,mapi,mapb,bmap,Option.map_some,Option.map_none,hK,hR,m_slices_partialInsertionSortOrdered_int h N,(m_slices_pdqsortOrdered_int_J4 h N (hR:=hR) (hK:=hK))]
theorem m_slices_pdqsortOrdered_int_J2 {f:Int→Int} (h:Mono f) (N:Nat) (a2:Int) (b2:Int) (wasBalanced:Bool) (wasPartitioned:Bool) {R R':Int→Int→Int→(List Int)→Option ((List Int))} (hR:∀ (y0:Int) (y1:Int) (y2:Int) (y3:(List Int)),R' y0 y1 y2 (y3.map f)=(R y0 y1 y2 y3).map (List.map f)) {K K':(List Int)→Int→Int→Int→Bool→Bool→Option ((List Int))} (hK:∀ (y0:(List Int)) (y1:Int) (y2:Int) (y3:Int) (y4:Bool) (y5:Bool),K' (y0.map f) y1 y2 y3 y4 y5=(K y0 y1 y2 y3 y4 y5).map (List.map f)) (cap03:List Int) (limit3:Int):g_slices_pdqsortOrdered_int_J2 N a2 b2 wasBalanced wasPartitioned R' K' (cap03.map f) limit3=(g_slices_pdqsortOrdered_int_J2 N a2 b2 wasBalanced wasPartitioned R K cap03 limit3).map (List.map f):=by
 simp only [g_slices_pdqsortOrdered_int_J2,gdm h,stm,lsm h,List.length_map,mapc,mapi,mapb,bmap,Option.map_some,Option.map_none,hK,hR,m_slices_choosePivotOrdered_int h N,m_slices_reverseRangeOrdered_int h N,(m_slices_pdqsortOrdered_int_J3 h N (hR:=hR) (hK:=hK))]
theorem m_slices_pdqsortOrdered_int_L1 {f:Int→Int} (h:Mono f) (N:Nat) {R R':Int→Int→Int→(List Int)→Option ((List Int))} (hR:∀ (y0:Int) (y1:Int) (y2:Int) (y3:(List Int)),R' y0 y1 y2 (y3.map f)=(R y0 y1 y2 y3).map (List.map f)):∀ (fuel:Nat) (cap02:(List Int)) (a2:Int) (b2:Int) (limit2:Int) (wasBalanced:Bool) (wasPartitioned:Bool),g_slices_pdqsortOrdered_int_L1 N R' fuel (cap02.map f) a2 b2 limit2 wasBalanced wasPartitioned=(g_slices_pdqsortOrdered_int_L1 N R fuel cap02 a2 b2 limit2 wasBalanced wasPartitioned).map (List.map f):=by
 intro fuel
 induction fuel with
 | zero=>intros;rfl
 | succ fuel ih =>
  intro cap02 a2 b2 limit2 wasBalanced wasPartitioned
  simp only [g_slices_pdqsortOrdered_int_L1,gdm h,stm,lsm h,List.length_map,mapc,mapi,mapb,bmap,Option.map_some,Option.map_none,hR,m_slices_insertionSortOrdered_int h N,m_slices_heapSortOrdered_int h N,m_slices_breakPatternsOrdered_int h N,(m_slices_pdqsortOrdered_int_J2 h N (hR:=hR) (hK:=ih)),ih]
theorem m_slices_pdqsortOrdered_int {f:Int→Int} (h:Mono f) (N:Nat)  : ∀ (fuel:Nat) (a:Int) (b:Int) (limit:Int) (cap0:(List Int)),g_slices_pdqsortOrdered_int N fuel a b limit (cap0.map f)=(g_slices_pdqsortOrdered_int N fuel a b limit cap0).map (List.map f):=by
 intro fuel
 induction fuel with
 | zero=>intros;rfl
 | succ fuel ih =>
  intro a b limit cap0
  simp only [g_slices_pdqsortOrdered_int,gdm h,stm,lsm h,List.length_map,mapc,mapi,mapb,bmap,Option.map_some,Option.map_none,(m_slices_pdqsortOrdered_int_L1 h N (hR:=ih)),ih]
theorem m_slices_Sort_int_int {f:Int→Int} (h:Mono f) (N:Nat) (cap0:List Int):g_slices_Sort_int_int N (cap0.map f)=(g_slices_Sort_int_int N cap0).map (List.map f):=by
 simp only [g_slices_Sort_int_int,gdm h,stm,lsm h,List.length_map,mapc,mapi,mapb,bmap,Option.map_some,Option.map_none,m_slices_pdqsortOrdered_int h N]
def pat (b:Int) (n:Nat):List Int:=b :: (b+(n:Int)+1) :: (List.range n).map (fun i:Nat=>b+1+(i:Int))
def pas (b:Int) (n:Nat):List Int:=(List.range (n+2)).map (fun i:Nat=>b+(i:Int))
theorem srt0_0 (N:Nat):g_slices_Sort_int_int (N+300) (pat 0 0)=some (pas 0 0):=by kernel_rfl
theorem srt0_1 (N:Nat):g_slices_Sort_int_int (N+300) (pat 0 1)=some (pas 0 1):=by kernel_rfl
theorem srt0_2 (N:Nat):g_slices_Sort_int_int (N+300) (pat 0 2)=some (pas 0 2):=by kernel_rfl
theorem srt0_3 (N:Nat):g_slices_Sort_int_int (N+300) (pat 0 3)=some (pas 0 3):=by kernel_rfl
theorem srt0_4 (N:Nat):g_slices_Sort_int_int (N+300) (pat 0 4)=some (pas 0 4):=by kernel_rfl
theorem srt0_5 (N:Nat):g_slices_Sort_int_int (N+300) (pat 0 5)=some (pas 0 5):=by kernel_rfl
theorem srt0_6 (N:Nat):g_slices_Sort_int_int (N+300) (pat 0 6)=some (pas 0 6):=by kernel_rfl
theorem srt0_7 (N:Nat):g_slices_Sort_int_int (N+300) (pat 0 7)=some (pas 0 7):=by kernel_rfl
theorem srt0_8 (N:Nat):g_slices_Sort_int_int (N+300) (pat 0 8)=some (pas 0 8):=by kernel_rfl
theorem srt0_9 (N:Nat):g_slices_Sort_int_int (N+300) (pat 0 9)=some (pas 0 9):=by kernel_rfl
theorem srt0_10 (N:Nat):g_slices_Sort_int_int (N+300) (pat 0 10)=some (pas 0 10):=by kernel_rfl
theorem srt0_11 (N:Nat):g_slices_Sort_int_int (N+300) (pat 0 11)=some (pas 0 11):=by kernel_rfl
theorem srt0_12 (N:Nat):g_slices_Sort_int_int (N+300) (pat 0 12)=some (pas 0 12):=by kernel_rfl
theorem srt0_13 (N:Nat):g_slices_Sort_int_int (N+300) (pat 0 13)=some (pas 0 13):=by kernel_rfl
theorem srt0_14 (N:Nat):g_slices_Sort_int_int (N+300) (pat 0 14)=some (pas 0 14):=by kernel_rfl
theorem srt0_15 (N:Nat):g_slices_Sort_int_int (N+300) (pat 0 15)=some (pas 0 15):=by kernel_rfl
theorem srt0_16 (N:Nat):g_slices_Sort_int_int (N+300) (pat 0 16)=some (pas 0 16):=by kernel_rfl
theorem srt0_17 (N:Nat):g_slices_Sort_int_int (N+300) (pat 0 17)=some (pas 0 17):=by kernel_rfl
theorem srt0_18 (N:Nat):g_slices_Sort_int_int (N+300) (pat 0 18)=some (pas 0 18):=by kernel_rfl
theorem srt0_19 (N:Nat):g_slices_Sort_int_int (N+300) (pat 0 19)=some (pas 0 19):=by kernel_rfl
theorem srt0_20 (N:Nat):g_slices_Sort_int_int (N+300) (pat 0 20)=some (pas 0 20):=by kernel_rfl
theorem srt0_21 (N:Nat):g_slices_Sort_int_int (N+300) (pat 0 21)=some (pas 0 21):=by kernel_rfl
theorem srt0_22 (N:Nat):g_slices_Sort_int_int (N+300) (pat 0 22)=some (pas 0 22):=by kernel_rfl
theorem srt0_23 (N:Nat):g_slices_Sort_int_int (N+300) (pat 0 23)=some (pas 0 23):=by kernel_rfl
theorem srt0_24 (N:Nat):g_slices_Sort_int_int (N+300) (pat 0 24)=some (pas 0 24):=by kernel_rfl
theorem srt0_25 (N:Nat):g_slices_Sort_int_int (N+300) (pat 0 25)=some (pas 0 25):=by kernel_rfl
theorem srt0_26 (N:Nat):g_slices_Sort_int_int (N+300) (pat 0 26)=some (pas 0 26):=by kernel_rfl
theorem srt0_27 (N:Nat):g_slices_Sort_int_int (N+300) (pat 0 27)=some (pas 0 27):=by kernel_rfl
theorem srt0_28 (N:Nat):g_slices_Sort_int_int (N+300) (pat 0 28)=some (pas 0 28):=by kernel_rfl
theorem srt0_29 (N:Nat):g_slices_Sort_int_int (N+300) (pat 0 29)=some (pas 0 29):=by kernel_rfl
theorem srt0_30 (N:Nat):g_slices_Sort_int_int (N+300) (pat 0 30)=some (pas 0 30):=by kernel_rfl
theorem srt0_31 (N:Nat):g_slices_Sort_int_int (N+300) (pat 0 31)=some (pas 0 31):=by kernel_rfl
theorem srt0_32 (N:Nat):g_slices_Sort_int_int (N+300) (pat 0 32)=some (pas 0 32):=by kernel_rfl
theorem srt0_33 (N:Nat):g_slices_Sort_int_int (N+300) (pat 0 33)=some (pas 0 33):=by kernel_rfl
theorem srt0_34 (N:Nat):g_slices_Sort_int_int (N+300) (pat 0 34)=some (pas 0 34):=by kernel_rfl
theorem srt0_35 (N:Nat):g_slices_Sort_int_int (N+300) (pat 0 35)=some (pas 0 35):=by kernel_rfl
theorem srt0_36 (N:Nat):g_slices_Sort_int_int (N+300) (pat 0 36)=some (pas 0 36):=by kernel_rfl
theorem srt0_37 (N:Nat):g_slices_Sort_int_int (N+300) (pat 0 37)=some (pas 0 37):=by kernel_rfl
theorem srt0_38 (N:Nat):g_slices_Sort_int_int (N+300) (pat 0 38)=some (pas 0 38):=by kernel_rfl
theorem srt0_39 (N:Nat):g_slices_Sort_int_int (N+300) (pat 0 39)=some (pas 0 39):=by kernel_rfl
theorem srt0_40 (N:Nat):g_slices_Sort_int_int (N+300) (pat 0 40)=some (pas 0 40):=by kernel_rfl
theorem srt1_0 (N:Nat):g_slices_Sort_int_int (N+300) (pat 1 0)=some (pas 1 0):=by kernel_rfl
theorem srt1_1 (N:Nat):g_slices_Sort_int_int (N+300) (pat 1 1)=some (pas 1 1):=by kernel_rfl
theorem srt1_2 (N:Nat):g_slices_Sort_int_int (N+300) (pat 1 2)=some (pas 1 2):=by kernel_rfl
theorem srt1_3 (N:Nat):g_slices_Sort_int_int (N+300) (pat 1 3)=some (pas 1 3):=by kernel_rfl
theorem srt1_4 (N:Nat):g_slices_Sort_int_int (N+300) (pat 1 4)=some (pas 1 4):=by kernel_rfl
theorem srt1_5 (N:Nat):g_slices_Sort_int_int (N+300) (pat 1 5)=some (pas 1 5):=by kernel_rfl
theorem srt1_6 (N:Nat):g_slices_Sort_int_int (N+300) (pat 1 6)=some (pas 1 6):=by kernel_rfl
theorem srt1_7 (N:Nat):g_slices_Sort_int_int (N+300) (pat 1 7)=some (pas 1 7):=by kernel_rfl
theorem srt1_8 (N:Nat):g_slices_Sort_int_int (N+300) (pat 1 8)=some (pas 1 8):=by kernel_rfl
theorem srt1_9 (N:Nat):g_slices_Sort_int_int (N+300) (pat 1 9)=some (pas 1 9):=by kernel_rfl
theorem srt1_10 (N:Nat):g_slices_Sort_int_int (N+300) (pat 1 10)=some (pas 1 10):=by kernel_rfl
theorem srt1_11 (N:Nat):g_slices_Sort_int_int (N+300) (pat 1 11)=some (pas 1 11):=by kernel_rfl
theorem srt1_12 (N:Nat):g_slices_Sort_int_int (N+300) (pat 1 12)=some (pas 1 12):=by kernel_rfl
theorem srt1_13 (N:Nat):g_slices_Sort_int_int (N+300) (pat 1 13)=some (pas 1 13):=by kernel_rfl
theorem srt1_14 (N:Nat):g_slices_Sort_int_int (N+300) (pat 1 14)=some (pas 1 14):=by kernel_rfl
theorem srt1_15 (N:Nat):g_slices_Sort_int_int (N+300) (pat 1 15)=some (pas 1 15):=by kernel_rfl
theorem srt1_16 (N:Nat):g_slices_Sort_int_int (N+300) (pat 1 16)=some (pas 1 16):=by kernel_rfl
theorem srt1_17 (N:Nat):g_slices_Sort_int_int (N+300) (pat 1 17)=some (pas 1 17):=by kernel_rfl
theorem srt1_18 (N:Nat):g_slices_Sort_int_int (N+300) (pat 1 18)=some (pas 1 18):=by kernel_rfl
theorem srt1_19 (N:Nat):g_slices_Sort_int_int (N+300) (pat 1 19)=some (pas 1 19):=by kernel_rfl
theorem srt1_20 (N:Nat):g_slices_Sort_int_int (N+300) (pat 1 20)=some (pas 1 20):=by kernel_rfl
theorem srt1_21 (N:Nat):g_slices_Sort_int_int (N+300) (pat 1 21)=some (pas 1 21):=by kernel_rfl
theorem srt1_22 (N:Nat):g_slices_Sort_int_int (N+300) (pat 1 22)=some (pas 1 22):=by kernel_rfl
theorem srt1_23 (N:Nat):g_slices_Sort_int_int (N+300) (pat 1 23)=some (pas 1 23):=by kernel_rfl
theorem srt1_24 (N:Nat):g_slices_Sort_int_int (N+300) (pat 1 24)=some (pas 1 24):=by kernel_rfl
theorem srt1_25 (N:Nat):g_slices_Sort_int_int (N+300) (pat 1 25)=some (pas 1 25):=by kernel_rfl
theorem srt1_26 (N:Nat):g_slices_Sort_int_int (N+300) (pat 1 26)=some (pas 1 26):=by kernel_rfl
theorem srt1_27 (N:Nat):g_slices_Sort_int_int (N+300) (pat 1 27)=some (pas 1 27):=by kernel_rfl
theorem srt1_28 (N:Nat):g_slices_Sort_int_int (N+300) (pat 1 28)=some (pas 1 28):=by kernel_rfl
theorem srt1_29 (N:Nat):g_slices_Sort_int_int (N+300) (pat 1 29)=some (pas 1 29):=by kernel_rfl
theorem srt1_30 (N:Nat):g_slices_Sort_int_int (N+300) (pat 1 30)=some (pas 1 30):=by kernel_rfl
theorem srt1_31 (N:Nat):g_slices_Sort_int_int (N+300) (pat 1 31)=some (pas 1 31):=by kernel_rfl
theorem srt1_32 (N:Nat):g_slices_Sort_int_int (N+300) (pat 1 32)=some (pas 1 32):=by kernel_rfl
theorem srt1_33 (N:Nat):g_slices_Sort_int_int (N+300) (pat 1 33)=some (pas 1 33):=by kernel_rfl
theorem srt1_34 (N:Nat):g_slices_Sort_int_int (N+300) (pat 1 34)=some (pas 1 34):=by kernel_rfl
theorem srt1_35 (N:Nat):g_slices_Sort_int_int (N+300) (pat 1 35)=some (pas 1 35):=by kernel_rfl
theorem srt1_36 (N:Nat):g_slices_Sort_int_int (N+300) (pat 1 36)=some (pas 1 36):=by kernel_rfl
theorem srt1_37 (N:Nat):g_slices_Sort_int_int (N+300) (pat 1 37)=some (pas 1 37):=by kernel_rfl
theorem srt1_38 (N:Nat):g_slices_Sort_int_int (N+300) (pat 1 38)=some (pas 1 38):=by kernel_rfl
theorem srt1_39 (N:Nat):g_slices_Sort_int_int (N+300) (pat 1 39)=some (pas 1 39):=by kernel_rfl
theorem srt1_40 (N:Nat):g_slices_Sort_int_int (N+300) (pat 1 40)=some (pas 1 40):=by kernel_rfl
theorem srt0 (N:Nat):∀ n,n≤40→g_slices_Sort_int_int (N+300) (pat 0 n)=some (pas 0 n)
 | 0,_=>srt0_0 N
 | 1,_=>srt0_1 N
 | 2,_=>srt0_2 N
 | 3,_=>srt0_3 N
 | 4,_=>srt0_4 N
 | 5,_=>srt0_5 N
 | 6,_=>srt0_6 N
 | 7,_=>srt0_7 N
 | 8,_=>srt0_8 N
 | 9,_=>srt0_9 N
 | 10,_=>srt0_10 N
 | 11,_=>srt0_11 N
 | 12,_=>srt0_12 N
 | 13,_=>srt0_13 N
 | 14,_=>srt0_14 N
 | 15,_=>srt0_15 N
 | 16,_=>srt0_16 N
 | 17,_=>srt0_17 N
 | 18,_=>srt0_18 N
 | 19,_=>srt0_19 N
 | 20,_=>srt0_20 N
 | 21,_=>srt0_21 N
 | 22,_=>srt0_22 N
 | 23,_=>srt0_23 N
 | 24,_=>srt0_24 N
 | 25,_=>srt0_25 N
 | 26,_=>srt0_26 N
 | 27,_=>srt0_27 N
 | 28,_=>srt0_28 N
 | 29,_=>srt0_29 N
 | 30,_=>srt0_30 N
 | 31,_=>srt0_31 N
 | 32,_=>srt0_32 N
 | 33,_=>srt0_33 N
 | 34,_=>srt0_34 N
 | 35,_=>srt0_35 N
 | 36,_=>srt0_36 N
 | 37,_=>srt0_37 N
 | 38,_=>srt0_38 N
 | 39,_=>srt0_39 N
 | 40,_=>srt0_40 N
 | n+41,h=>absurd h (by omega)
theorem srt1 (N:Nat):∀ n,n≤40→g_slices_Sort_int_int (N+300) (pat 1 n)=some (pas 1 n)
 | 0,_=>srt1_0 N
 | 1,_=>srt1_1 N
 | 2,_=>srt1_2 N
 | 3,_=>srt1_3 N
 | 4,_=>srt1_4 N
 | 5,_=>srt1_5 N
 | 6,_=>srt1_6 N
 | 7,_=>srt1_7 N
 | 8,_=>srt1_8 N
 | 9,_=>srt1_9 N
 | 10,_=>srt1_10 N
 | 11,_=>srt1_11 N
 | 12,_=>srt1_12 N
 | 13,_=>srt1_13 N
 | 14,_=>srt1_14 N
 | 15,_=>srt1_15 N
 | 16,_=>srt1_16 N
 | 17,_=>srt1_17 N
 | 18,_=>srt1_18 N
 | 19,_=>srt1_19 N
 | 20,_=>srt1_20 N
 | 21,_=>srt1_21 N
 | 22,_=>srt1_22 N
 | 23,_=>srt1_23 N
 | 24,_=>srt1_24 N
 | 25,_=>srt1_25 N
 | 26,_=>srt1_26 N
 | 27,_=>srt1_27 N
 | 28,_=>srt1_28 N
 | 29,_=>srt1_29 N
 | 30,_=>srt1_30 N
 | 31,_=>srt1_31 N
 | 32,_=>srt1_32 N
 | 33,_=>srt1_33 N
 | 34,_=>srt1_34 N
 | 35,_=>srt1_35 N
 | 36,_=>srt1_36 N
 | 37,_=>srt1_37 N
 | 38,_=>srt1_38 N
 | 39,_=>srt1_39 N
 | 40,_=>srt1_40 N
 | n+41,h=>absurd h (by omega)
end Go.Den
namespace Go.Den
open Go.Ab
def nameBad (s:ByteArray) (m:Nat):Bool :=
 cond (!(cond (cond (decide (byteAt s m≥97)) (decide (byteAt s m≤122)) false) true (cond (decide (byteAt s m≥65)) (decide (byteAt s m≤90)) false))) (cond ((m:Int) == 0) true (!(cond (cond (decide (byteAt s m≥48)) (decide (byteAt s m≤57)) false) true (byteAt s m == 45)))) false
def nameOk (s:ByteArray):Bool :=
 cond (cond (streq s ByteArray.empty) true (decide (((s.size:Nat):Int) > 12))) false (scan (fun m=>cond (nameBad s m) (some false) none) true s.size 0)
theorem streq_empty (s:ByteArray):streq s ByteArray.empty=decide (((s.size:Nat):Int) < 1):=by
 rw [Bool.eq_iff_iff,streq_iff,decide_eq_true_eq]
 constructor
 ·rintro rfl;decide
 ·intro h
  have:s.size=0:=by omega
  cases s with | mk d => 
  have:d.size=0:=this
  simp [Array.size_eq_zero_iff.1 this];rfl
theorem nameBad_eq (s:ByteArray) (m:Nat):nameBad s m=cond (!(cond (cond (decide (byteAt s m≥97)) (decide (byteAt s m≤122)) false) true (cond (decide (byteAt s m≥65)) (decide (byteAt s m≤90)) false))) (cond ((m:Int) == 0) true (cond (byteAt s m != 45) (cond (decide (byteAt s m < 48)) true (decide (byteAt s m > 57))) false)) false:=by
 unfold nameBad
 generalize byteAt s m=b
 rw [Bool.eq_iff_iff]
 simp [Bool.cond_eq_ite]
 omega
end Go.Den
namespace Go.Den
open Go.Ab
theorem IsName_eq {N:Nat} (hN:12 < N) (s:ByteArray):g_b_IsName N s=some (nameOk s):=by
 unfold g_b_IsName nameOk
 rw [streq_empty]
 cases h:cond (decide (((s.size:Nat):Int) < 1)) true (decide (((s.size:Nat):Int) > 12))
 ·have hs:s.size≤12:=by
   cases h2:decide (((s.size:Nat):Int) < 1)<;>rw [h2] at h<;>simp at h;omega
  refine loop_scan0 (L:=fun fuel=>g_b_IsName_L1 N s fuel) _ _ (by omega) (fun fuel m hm=>?_) (fun fuel=>?_)
  ·simp only [g_b_IsName_L1,dec_lt hm,cond_true,if_pos (inb hm),w64_succ (show m < 9223372036854775807 by omega),toNat_nat]
   rw [← nameBad_eq]
   cases nameBad s m<;>rfl
  ·simp only [g_b_IsName_L1,dec_nlt,cond_false]
 ·rfl
end Go.Den
namespace Go.Den
open Go.Ab
def ins (n lo hi:Int):Bool:=cond (decide (n≥lo)) (decide (n≤hi)) false
theorem ins_iff {n lo hi:Int}:ins n lo hi=true↔lo≤n∧n≤hi:=by unfold ins;simp [Bool.cond_eq_ite]
theorem between_eq (N:Nat) (n lo hi:Int):g_w_between N n lo hi=some (ins n lo hi):=rfl
theorem inside_eq (N:Nat) (n lo hi:Int):g_r05_inside N n lo hi=some (ins n lo hi):=rfl
def ar (b:TBasin) (m:Nat):TArea:=b.f_Areas.getD m TArea.d
structure Valid (b:TBasin):Prop where
 len:1≤b.f_Areas.length∧b.f_Areas.length≤20
 frm:∀ m,m < b.f_Areas.length→-1000000≤(ar b m).f_From∧(ar b m).f_From≤1000000
 sz:∀ m,m < b.f_Areas.length→1≤(ar b m).f_Size∧(ar b m).f_Size≤1000000
 ord:∀ m,m+1 < b.f_Areas.length→(ar b m).f_From < (ar b (m+1)).f_From
 rim:(ar b (b.f_Areas.length - 1)).f_From < b.f_Rim∧b.f_Rim≤1000000
end Go.Den
namespace Go.Den
open Go.Ab
theorem half_eq {s:Int} (h1:0≤s) (h2:s≤4611686018427387904):w64 (shrI .u64 (IntKind.u64.wrap (w64 s)) 1)=s / 2:=by
 rw [w64_eq (n:=s) (by omega) (by omega)]
 have e:IntKind.u64.wrap s=s % 18446744073709551616:=rfl
 rw [e,Int.emod_eq_of_lt h1 (by omega)]
 have e2:shrI .u64 s 1=s.fdiv 2:=rfl
 rw [e2,Int.fdiv_eq_ediv_of_nonneg _ (by omega)]
 exact w64_eq (by omega) (by omega)
def mk (m:List TMark) (i:Nat):TMark:=m.getD i TMark.d
def seaStep (m:List TMark) (i:Nat):Option Int :=
 cond (!(ins (mk m i).f_Minute 0 1000000 && ins (mk m i).f_Level (-1000000) 1000000)) (some 2) (cond (decide (0 < i) && decide ((mk m i).f_Minute≤(mk m (i - 1)).f_Minute)) (some 10) none)
def seaCode (m:List TMark):Int:=cond (decide (((m.length:Nat):Int) > 400)) 8 (scan (seaStep m) 0 m.length 0)
theorem seaLoop {m:List TMark} (hl:m.length≤400) {i:Nat} (hi:i < m.length):seaStep m i=cond (cond (!ins (mk m i).f_Minute 0 1000000) true (!ins (mk m i).f_Level (-1000000) 1000000)) (some 2) (cond (cond (decide ((i:Int) > 0)) (decide ((mk m i).f_Minute≤(mk m ((w64 ((i:Int) - 1)).toNat)).f_Minute)) false) (some 10) none):=by
 unfold seaStep
 cases i with
 | zero=>cases ins (mk m 0).f_Minute 0 1000000<;>cases ins (mk m 0).f_Level (-1000000) 1000000<;>rfl
 | succ k =>
  have e:w64 (((k+1:Nat):Int) - 1)=(k:Int):=by rw [w64_eq (by omega) (by omega)];omega
  have e2:decide (((k+1:Nat):Int) > 0)=true:=by rw [decide_eq_true_eq];omega
  rw [e,e2,toNat_nat,Nat.add_sub_cancel,show decide (0 < k+1)=true by simp]
  cases ins (mk m (k+1)).f_Minute 0 1000000<;>cases ins (mk m (k+1)).f_Level (-1000000) 1000000<;>rfl
theorem prev_bd {m:List TMark} (hl:m.length≤400) {i:Nat} (hi:i < m.length):decide ((i:Int) > 0)=true→0≤w64 ((i:Int) - 1)∧w64 ((i:Int) - 1) < ((m.length:Nat):Int):=by
 intro h
 have:=of_decide_eq_true h
 rw [w64_eq (by omega) (by omega)];omega
theorem checkSea_eq {N:Nat} (hN:400 < N) (m:List TMark):g_w_CheckSea N m=some (seaCode m):=by
 unfold g_w_CheckSea seaCode
 cases h:decide (((m.length:Nat):Int) > 400)
 ·have hl:m.length≤400:=by simp at h;omega
  rw [cond_false,cond_false]
  refine loop_scan0 (L:=fun fuel=>g_w_CheckSea_L1 N m fuel) _ _ (by omega) (fun fuel i hi=>?_) (fun fuel=>?_)
  ·rw [seaLoop hl hi]
   simp only [g_w_CheckSea_L1,dec_lt hi,cond_true,if_pos (inb hi),toNat_nat,between_eq,Option.bind_some,if_pos (prev_bd hl hi),w64_succ (show i < 9223372036854775807 by omega)]
   unfold mk
   cases ins (m.getD i TMark.d).f_Minute 0 1000000
   ·rfl
   ·simp only [Bool.not_true,Bool.not_false,cond_true,cond_false,Option.bind_some]
    cases ins (m.getD i TMark.d).f_Level (-1000000) 1000000
    ·rfl
    ·simp only [Bool.not_true,cond_false]
     cases cond (decide ((i:Int) > 0)) (decide ((m.getD i TMark.d).f_Minute≤(m.getD (w64 ((i:Int) - 1)).toNat TMark.d).f_Minute)) false<;>rfl
  ·simp only [g_w_CheckSea_L1,dec_nlt,cond_false]
 ·rfl
theorem refSea_eq {N:Nat} (hN:400 < N) (m:List TMark):g_r05_CheckSea N m=some (seaCode m):=by
 unfold g_r05_CheckSea seaCode
 cases h:decide (((m.length:Nat):Int) > 400)
 ·have hl:m.length≤400:=by simp at h;omega
  rw [cond_false,cond_false]
  refine loop_scan0 (L:=fun fuel=>g_r05_CheckSea_L1 N m fuel) _ _ (by omega) (fun fuel i hi=>?_) (fun fuel=>?_)
  ·rw [seaLoop hl hi]
   simp only [g_r05_CheckSea_L1,dec_lt hi,cond_true,if_pos (inb hi),if_pos (fun _=>inb hi),toNat_nat,inside_eq,Option.bind_some,if_pos (prev_bd hl hi),w64_succ (show i < 9223372036854775807 by omega)]
   unfold mk
   cases ins (m.getD i TMark.d).f_Minute 0 1000000
   ·rfl
   ·simp only [Bool.not_true,Bool.not_false,cond_true,cond_false,Option.bind_some]
    cases ins (m.getD i TMark.d).f_Level (-1000000) 1000000
    ·rfl
    ·simp only [Bool.not_true,cond_false]
     cases cond (decide ((i:Int) > 0)) (decide ((m.getD i TMark.d).f_Minute≤(m.getD (w64 ((i:Int) - 1)).toNat TMark.d).f_Minute)) false<;>rfl
  ·simp only [g_r05_CheckSea_L1,dec_nlt,cond_false]
 ·rfl
structure SeaOk (m:List TMark):Prop where
 len:m.length≤400
 min:∀ i,i < m.length→0≤(mk m i).f_Minute∧(mk m i).f_Minute≤1000000
 lev:∀ i,i < m.length→-1000000≤(mk m i).f_Level∧(mk m i).f_Level≤1000000
 ord:∀ i,i+1 < m.length→(mk m i).f_Minute < (mk m (i+1)).f_Minute
theorem sea_of {m:List TMark} (h:seaCode m=0):SeaOk m:=by
 unfold seaCode at h
 cases hd:decide (((m.length:Nat):Int) > 400)<;>rw [hd] at h
 ·simp only [cond_false] at h
  rcases scan_inv (f:=seaStep m) (z:=0) m.length 0 with ⟨i,r,_,_,h3,_,h5⟩ | ⟨h1,_⟩
  ·rw [h] at h5
   subst h5
   unfold seaStep at h3
   generalize (!(ins (mk m i).f_Minute 0 1000000 && ins (mk m i).f_Level (-1000000) 1000000))=p at h3
   generalize (decide (0 < i) && decide ((mk m i).f_Minute≤(mk m (i - 1)).f_Minute))=q at h3
   cases p<;>cases q<;>simp at h3
  ·have hn:∀ i,i < m.length→(ins (mk m i).f_Minute 0 1000000 && ins (mk m i).f_Level (-1000000) 1000000)=true∧(decide (0 < i) && decide ((mk m i).f_Minute≤(mk m (i - 1)).f_Minute))=false:=by
    intro i hi
    have h3:=h1 i (Nat.zero_le _) (by omega)
    unfold seaStep at h3
    generalize (ins (mk m i).f_Minute 0 1000000 && ins (mk m i).f_Level (-1000000) 1000000)=p at h3 ⊢
    generalize (decide (0 < i) && decide ((mk m i).f_Minute≤(mk m (i - 1)).f_Minute))=q at h3 ⊢
    cases p<;>cases q<;>simp at h3 ⊢
   refine ⟨by have:=of_decide_eq_false hd;omega,fun i hi=>ins_iff.1 (Bool.and_eq_true_iff.1 (hn i hi).1).1,fun i hi=>ins_iff.1 (Bool.and_eq_true_iff.1 (hn i hi).1).2,fun i hi=>?_⟩
   have:=(hn (i+1) hi).2
   simp at this
   exact this
 ·cases h
theorem min_mono {m:List TMark} (v:SeaOk m) {i:Nat}:∀ j,i≤j→j < m.length→(mk m i).f_Minute≤(mk m j).f_Minute
 | 0,h,_=>by
  have:i=0:=by omega
  subst this;exact Int.le_refl _
 | j+1,h,hj=>by
  by_cases he:i=j+1
  ·subst he;exact Int.le_refl _
  ·have:=min_mono (i:=i) v j (by omega) (by omega)
   have:=v.ord j hj
   omega
structure Pos (m:List TMark) (t:Int) (p:Nat):Prop where
 le:p≤m.length
 lo:∀ j,j < p→(mk m j).f_Minute≤t
 hi:∀ j,p≤j→j < m.length→t < (mk m j).f_Minute
theorem search_eq {N:Nat} {m:List TMark} (v:SeaOk m) (hN:400 < N) (t:Int):∃ p:Nat,g_sort_Search N ((m.length:Nat):Int) m t=some (p:Int)∧Pos m t p:=by
 have hl:=v.len
 have key:∀ k fuel (i j:Nat),j - i=k→k < fuel→i≤j→j≤m.length→(∀ q,q < i→(mk m q).f_Minute≤t)→(∀ q,j≤q→q < m.length→t < (mk m q).f_Minute) →
   ∃ p:Nat,g_sort_Search_L1 N m t fuel (i:Int) (j:Int)=some (p:Int)∧Pos m t p:=by
  intro k
  induction k using Nat.strongRecOn with
  | ind k ih =>
   intro fuel i j hk hf hij hj h1 h2
   obtain ⟨f,rfl⟩:∃ f,fuel=f+1:=⟨fuel - 1,by omega⟩
   simp only [g_sort_Search_L1]
   by_cases hlt:i < j
   ·have hm:w64 (shrI .u64 (IntKind.u64.wrap (w64 ((i:Int)+(j:Int)))) 1)=(((i+j) / 2:Nat):Int):=by
     rw [half_eq (by omega) (by omega)];omega
    have hmid:(i+j) / 2 < m.length:=by omega
    rw [dec_lt hlt,cond_true]
    rw [hm]
    generalize hmm:(i+j) / 2=mid at hmid ⊢
    rw [show g_w_tide_1 N (mid:Int) m t=some (decide ((mk m mid).f_Minute > t)) by unfold g_w_tide_1;rw [if_pos (inb hmid)];rfl]
    rw [Option.bind_some]
    by_cases hc:(mk m mid).f_Minute > t
    ·rw [decide_eq_true hc,Bool.not_true,cond_false]
     exact ih (mid - i) (by omega) f i mid rfl (by omega) (by omega) (by omega) h1 (fun q hq hq2=>by have:=min_mono (i:=mid) v q hq hq2;omega)
    ·rw [decide_eq_false hc,Bool.not_false,cond_true,w64_succ (by omega)]
     exact ih (j - (mid+1)) (by omega) f (mid+1) j rfl (by omega) (by omega) hj (fun q hq=>by have:=min_mono (i:=q) v mid (by omega) hmid;omega) h2
   ·rw [show decide ((i:Int) < (j:Int))=false from decide_eq_false (by omega),cond_false]
    have:i=j:=by omega
    subst this
    exact ⟨i,rfl,hj,h1,h2⟩
 unfold g_sort_Search
 exact key m.length N 0 m.length (by omega) (by omega) (by omega) (Nat.le_refl _) (fun q hq=>absurd hq (Nat.not_lt_zero _)) (fun q hq hq2=>by omega)
theorem Pos.unique {m:List TMark} {t:Int} {p q:Nat} (h:Pos m t p) (k:Pos m t q):p=q:=by
 rcases Nat.lt_trichotomy p q with hl | hl | hl
 ·have h1:=k.lo p hl
  have h2:=h.hi p (Nat.le_refl _) (by have:=k.le;omega)
  omega
 ·exact hl
 ·have h1:=h.lo q hl
  have h2:=k.hi q (Nat.le_refl _) (by have:=h.le;omega)
  omega
theorem down_eq {a b:Int} (hb:0 < b) (h1:-1000000000000000000≤a) (h2:a≤1000000000000000000):cond (decide (a.tmod b < 0)) (w64 (w64 (a.tdiv b) - 1)) (w64 (a.tdiv b))=a / b:=by
 have hm:=Int.mul_tdiv_add_tmod a b
 have l1:=Int.tmod_lt_of_pos a hb
 have l2:=Int.lt_tmod_of_pos a hb
 have hn:=Int.natAbs_tdiv_le_natAbs a b
 by_cases hr:a.tmod b < 0
 ·have e:a / b=a.tdiv b - 1:=((Int.ediv_emod_unique (r:=a.tmod b+b) hb).2 ⟨by rw [Int.mul_sub,Int.mul_one];omega,by omega,by omega⟩).1
  rw [decide_eq_true hr,cond_true,w64_eq (n:=a.tdiv b) (by omega) (by omega),w64_eq (by omega) (by omega),e]
 ·have e:a / b=a.tdiv b:=((Int.ediv_emod_unique (r:=a.tmod b) hb).2 ⟨by omega,by omega,by omega⟩).1
  rw [decide_eq_false hr,cond_false,w64_eq (n:=a.tdiv b) (by omega) (by omega),e]
end Go.Den
namespace Go.Den
open Go.Ab
variable {m:List TMark}
def line (m:List TMark) (t:Int) (i:Nat):Int :=
 (mk m (i - 1)).f_Level+((mk m i).f_Level - (mk m (i - 1)).f_Level) * (t - (mk m (i - 1)).f_Minute) / ((mk m i).f_Minute - (mk m (i - 1)).f_Minute)
def seaAt (m:List TMark) (t:Int) (p:Nat):Int :=
 if p=0 then (mk m 0).f_Level else if p=m.length then (mk m (p - 1)).f_Level else line m t p
theorem prod_bd {x y X Y:Int} (h1:-X≤x) (h2:x≤X) (h3:0≤y) (h4:y≤Y):-(X * Y)≤x * y∧x * y≤X * Y:=by
 have hX:0≤X:=by omega
 constructor
 ·have:=Int.mul_le_mul (show -x≤X by omega) h4 h3 hX
  rw [Int.neg_mul] at this;omega
 ·exact Int.mul_le_mul h2 h4 h3 hX
theorem div_bd {a b A:Int} (hb:0 < b) (h1:-A≤a) (h2:a≤A):-A≤a / b∧a / b≤A:=by
 have hA:0≤A:=by omega
 constructor
 ·rw [Int.le_ediv_iff_mul_le hb]
  have:=Int.mul_le_mul_of_nonneg_left (show 1≤b by omega) hA
  rw [Int.neg_mul];omega
 ·have:a / b < A+1:=by
   rw [Int.ediv_lt_iff_lt_mul hb,Int.add_mul]
   have:=Int.mul_le_mul_of_nonneg_left (show 1≤b by omega) hA
   omega
  omega
theorem line_eq (v:SeaOk m) {t:Int} {i:Nat} (hi0:0 < i) (hi:i < m.length) (h1:(mk m (i - 1)).f_Minute≤t) (h2:t≤(mk m i).f_Minute) :
  w64 ((mk m i).f_Level - (mk m (i - 1)).f_Level)=(mk m i).f_Level - (mk m (i - 1)).f_Level∧w64 (t - (mk m (i - 1)).f_Minute)=t - (mk m (i - 1)).f_Minute ∧
  w64 ((mk m i).f_Minute - (mk m (i - 1)).f_Minute)=(mk m i).f_Minute - (mk m (i - 1)).f_Minute∧0 < (mk m i).f_Minute - (mk m (i - 1)).f_Minute ∧
  w64 (((mk m i).f_Level - (mk m (i - 1)).f_Level) * (t - (mk m (i - 1)).f_Minute))=((mk m i).f_Level - (mk m (i - 1)).f_Level) * (t - (mk m (i - 1)).f_Minute) ∧
  -1000000000000000000≤((mk m i).f_Level - (mk m (i - 1)).f_Level) * (t - (mk m (i - 1)).f_Minute)∧((mk m i).f_Level - (mk m (i - 1)).f_Level) * (t - (mk m (i - 1)).f_Minute)≤1000000000000000000 ∧
  w64 ((mk m (i - 1)).f_Level+((mk m i).f_Level - (mk m (i - 1)).f_Level) * (t - (mk m (i - 1)).f_Minute) / ((mk m i).f_Minute - (mk m (i - 1)).f_Minute))=line m t i:=by
 have a1:=v.min i hi
 have a2:=v.min (i - 1) (by omega)
 have a3:=v.lev i hi
 have a4:=v.lev (i - 1) (by omega)
 have a5:=v.ord (i - 1) (by omega)
 rw [show i - 1+1=i by omega] at a5
 have hp:=prod_bd (x:=(mk m i).f_Level - (mk m (i - 1)).f_Level) (y:=t - (mk m (i - 1)).f_Minute) (X:=2000000) (Y:=1000000) (by omega) (by omega) (by omega) (by omega)
 have hd:=div_bd (a:=((mk m i).f_Level - (mk m (i - 1)).f_Level) * (t - (mk m (i - 1)).f_Minute)) (b:=(mk m i).f_Minute - (mk m (i - 1)).f_Minute) (A:=2000000000000) (by omega) (by omega) (by omega)
 refine ⟨w64_eq (by omega) (by omega),w64_eq (by omega) (by omega),w64_eq (by omega) (by omega),by omega,w64_eq (by omega) (by omega),by omega,by omega,?_⟩
 unfold line
 exact w64_eq (by omega) (by omega)
theorem tide_eq {N:Nat} (hN:400 < N) (v:SeaOk m) (h0:0 < m.length) (t:Int):∃ p,Pos m t p∧g_w_tide N m t=some (seaAt m t p):=by
 obtain ⟨p,h1,hp⟩:=search_eq v hN t
 have hl:=v.len
 have hpl:=hp.le
 refine ⟨p,hp,?_⟩
 unfold g_w_tide seaAt
 rw [h1,Option.bind_some]
 by_cases hp0:p=0
 ·subst hp0
  rw [show (((0:Nat):Int) == 0)=true from rfl,cond_true,if_pos (show 0≤(0:Int)∧0 < ((m.length:Nat):Int) by omega),if_pos rfl];rfl
 ·have e0:((p:Int) == 0)=false:=by simpa using hp0
  have ep:w64 ((p:Int) - 1)=((p - 1:Nat):Int):=by rw [w64_eq (by omega) (by omega)];omega
  have hpb:0≤((p - 1:Nat):Int)∧((p - 1:Nat):Int) < ((m.length:Nat):Int):=by omega
  rw [e0,cond_false,ep,if_neg hp0]
  by_cases hpe:p=m.length
  ·have e1:((p:Int) == ((m.length:Nat):Int))=true:=by simp;omega
   rw [e1,cond_true,if_pos hpb,if_pos hpe];rfl
  ·have e1:((p:Int) == ((m.length:Nat):Int))=false:=by simp;omega
   have hpi:0≤(p:Int)∧(p:Int) < ((m.length:Nat):Int):=by omega
   obtain ⟨l1,l2,l3,l4,l5,l6,l7,l8⟩:=line_eq v (t:=t) (i:=p) (by omega) (by omega) (hp.lo _ (by omega)) (by have:=hp.hi p (Nat.le_refl _) (by omega);omega)
   rw [e1,cond_false,if_pos hpb,if_pos hpi,if_neg hpe]
   simp only [toNat_nat]
   change (if w64 ((mk m p).f_Minute - (mk m (p - 1)).f_Minute)≠0 then
    cond (decide ((w64 (w64 ((mk m p).f_Level - (mk m (p - 1)).f_Level) * w64 (t - (mk m (p - 1)).f_Minute))).tmod (w64 ((mk m p).f_Minute - (mk m (p - 1)).f_Minute)) < 0))
     (g_w_tide_J1 N m (p:Int) (w64 (w64 ((w64 (w64 ((mk m p).f_Level - (mk m (p - 1)).f_Level) * w64 (t - (mk m (p - 1)).f_Minute))).tdiv (w64 ((mk m p).f_Minute - (mk m (p - 1)).f_Minute))) - 1)))
     (g_w_tide_J1 N m (p:Int) (w64 ((w64 (w64 ((mk m p).f_Level - (mk m (p - 1)).f_Level) * w64 (t - (mk m (p - 1)).f_Minute))).tdiv (w64 ((mk m p).f_Minute - (mk m (p - 1)).f_Minute)))))
    else none)=_
   rw [l1,l2,l3,l5,if_pos (show _≠_ by omega)]
   have hd:=down_eq l4 l6 l7
   have push:∀ (q:Bool) (x y:Int),cond q (g_w_tide_J1 N m (p:Int) x) (g_w_tide_J1 N m (p:Int) y)=g_w_tide_J1 N m (p:Int) (cond q x y):=fun q x y=>by cases q<;>rfl
   rw [push,hd]
   unfold g_w_tide_J1
   rw [ep,toNat_nat]
   exact congrArg some l8
theorem line_end (v:SeaOk m) {i:Nat} (hi0:0 < i) (hi:i < m.length):line m (mk m i).f_Minute i=(mk m i).f_Level:=by
 have a5:=v.ord (i - 1) (by omega)
 rw [show i - 1+1=i by omega] at a5
 unfold line
 rw [Int.mul_ediv_cancel _ (by omega)];omega
theorem line_start {i:Nat} {t:Int} (h:t=(mk m (i - 1)).f_Minute):line m t i=(mk m (i - 1)).f_Level:=by
 unfold line
 rw [h,Int.sub_self,Int.mul_zero,Int.zero_ediv,Int.add_zero]
end Go.Den
namespace Go.Den
open Go.Ab
variable {m:List TMark}
theorem pos_ex (v:SeaOk m) (t:Int):∃ p,Pos m t p:=by
 obtain ⟨p,_,h⟩:=search_eq (N:=401) v (by omega) t
 exact ⟨p,h⟩
open Classical in
noncomputable def pos (m:List TMark) (t:Int):Nat:=if h:∃ p,Pos m t p then h.choose else 0
theorem pos_sp (v:SeaOk m) (t:Int):Pos m t (pos m t):=by
 unfold pos
 rw [dif_pos (pos_ex v t)]
 exact (pos_ex v t).choose_spec
noncomputable def tv (m:List TMark) (t:Int):Int:=seaAt m t (pos m t)
theorem tide_tv {N:Nat} (hN:400 < N) (v:SeaOk m) (h0:0 < m.length) (t:Int):g_w_tide N m t=some (tv m t):=by
 obtain ⟨p,hp,h⟩:=tide_eq hN v h0 t
 rw [h,hp.unique (pos_sp v t)];rfl
theorem tv_of (v:SeaOk m) {t:Int} {p:Nat} (h:Pos m t p):tv m t=seaAt m t p:=by
 unfold tv;rw [(pos_sp v t).unique h]
theorem tv_mark (v:SeaOk m) {i:Nat} (hi:i < m.length):tv m (mk m i).f_Minute=(mk m i).f_Level:=by
 have hp:Pos m (mk m i).f_Minute (i+1):=⟨hi,fun j hj=>min_mono v i (by omega) hi,fun j hj hj2=>by have:=min_mono (i:=i+1) v j hj hj2;have:=v.ord i (by omega);omega⟩
 rw [tv_of v hp]
 unfold seaAt
 rw [if_neg (by omega)]
 split
 ·rfl
 ·exact line_start rfl
theorem line_mono (v:SeaOk m) {i:Nat} (hi0:0 < i) (hi:i < m.length):(∀ s t,s≤t→line m s i≤line m t i)∨(∀ s t,s≤t→line m t i≤line m s i):=by
 have a5:=v.ord (i - 1) (by omega)
 rw [show i - 1+1=i by omega] at a5
 unfold line
 rcases Int.le_total 0 ((mk m i).f_Level - (mk m (i - 1)).f_Level) with h | h
 ·refine .inl fun s t hst=>?_
  have:=Int.ediv_le_ediv (a:=((mk m i).f_Level - (mk m (i - 1)).f_Level) * (s - (mk m (i - 1)).f_Minute)) (b:=((mk m i).f_Level - (mk m (i - 1)).f_Level) * (t - (mk m (i - 1)).f_Minute)) (c:=(mk m i).f_Minute - (mk m (i - 1)).f_Minute) (by omega) (Int.mul_le_mul_of_nonneg_left (by omega) h)
  omega
 ·refine .inr fun s t hst=>?_
  have:=Int.ediv_le_ediv (a:=((mk m i).f_Level - (mk m (i - 1)).f_Level) * (t - (mk m (i - 1)).f_Minute)) (b:=((mk m i).f_Level - (mk m (i - 1)).f_Level) * (s - (mk m (i - 1)).f_Minute)) (c:=(mk m i).f_Minute - (mk m (i - 1)).f_Minute) (by omega) (Int.mul_le_mul_of_nonpos_left h (by omega))
  omega
theorem tv_seg (v:SeaOk m) (h0:0 < m.length) {a b:Int} (hno:∀ i,i < m.length→¬ (a < (mk m i).f_Minute∧(mk m i).f_Minute < b)) :
  (∀ s t,a≤s→s≤t→t≤b→tv m s≤tv m t)∨(∀ s t,a≤s→s≤t→t≤b→tv m t≤tv m s):=by
 have hp:=pos_sp v a
 generalize pos m a=p at hp
 by_cases hpl:p=m.length
 ·have key:∀ t,a≤t→tv m t=(mk m (p - 1)).f_Level:=fun t ht=>by
   rw [tv_of v (p:=p) ⟨hp.le,fun j hj=>Int.le_trans (hp.lo j hj) ht,fun j hj hj2=>by omega⟩]
   unfold seaAt
   rw [if_neg (by omega),if_pos hpl]
  exact .inl fun s t h1 h2 h3=>by rw [key s h1,key t (by omega)];exact Int.le_refl _
 ·have hlt:p < m.length:=by have:=hp.le;omega
  have hb:b≤(mk m p).f_Minute:=by
   have:=hno p hlt
   have:=hp.hi p (Nat.le_refl _) hlt
   omega
  have hps:∀ t,a≤t→t < (mk m p).f_Minute→Pos m t p:=fun t h1 h2 =>
   ⟨hp.le,fun j hj=>Int.le_trans (hp.lo j hj) h1,fun j hj hj2=>by have:=min_mono (i:=p) v j hj hj2;omega⟩
  by_cases hp0:p=0
  ·have key:∀ t,a≤t→t≤b→tv m t=(mk m 0).f_Level:=fun t h1 h2=>by
    by_cases ht:t < (mk m p).f_Minute
    ·rw [tv_of v (hps t h1 ht)]
     unfold seaAt
     rw [if_pos hp0]
    ·have:t=(mk m p).f_Minute:=by omega
     rw [this,tv_mark v hlt,hp0]
   exact .inl fun s t h1 h2 h3=>by rw [key s h1 (by omega),key t (by omega) h3];exact Int.le_refl _
  ·have key:∀ t,a≤t→t≤b→tv m t=line m t p:=fun t h1 h2=>by
    by_cases ht:t < (mk m p).f_Minute
    ·rw [tv_of v (hps t h1 ht)]
     unfold seaAt
     rw [if_neg hp0,if_neg hpl]
    ·have:t=(mk m p).f_Minute:=by omega
     rw [this,tv_mark v hlt,line_end v (by omega) hlt]
   rcases line_mono v (i:=p) (by omega) hlt with h | h
   ·exact .inl fun s t h1 h2 h3=>by rw [key s h1 (by omega),key t (by omega) h3];exact h s t h2
   ·exact .inr fun s t h1 h2 h3=>by rw [key s h1 (by omega),key t (by omega) h3];exact h s t h2
end Go.Den
namespace Go.Den
open Go.Ab
def addI (out:List TS__2_int) (x y:Int):List TS__2_int :=
 if 0 < out.length∧x≤(out.getD (out.length - 1) TS__2_int.d).e1+1 then out.set (out.length - 1) ⟨(out.getD (out.length - 1) TS__2_int.d).e0,y⟩ else out ++ [⟨x,y⟩]
theorem last_get (l:List TS__2_int) (z:TS__2_int):(l ++ [z]).getD ((l ++ [z]).length - 1) TS__2_int.d=z:=by
 simp [List.getD_eq_getElem?_getD]
theorem last_set (l:List TS__2_int) (z w:TS__2_int):(l ++ [z]).set ((l ++ [z]).length - 1) w=l ++ [w]:=by
 simp [List.set_append]
theorem addI_nil (x y:Int):addI [] x y=[⟨x,y⟩]:=by
 unfold addI;rw [if_neg (by simp)];rfl
theorem addI_ext (l:List TS__2_int) {p q x:Int} (y:Int) (h:x≤q+1):addI (l ++ [⟨p,q⟩]) x y=l ++ [⟨p,y⟩]:=by
 unfold addI
 rw [last_get,last_set,if_pos ⟨by simp,h⟩]
theorem addI_new (l:List TS__2_int) {p q x:Int} (y:Int) (h:¬ x≤q+1):addI (l ++ [⟨p,q⟩]) x y=l ++ [⟨p,q⟩] ++ [⟨x,y⟩]:=by
 unfold addI
 rw [last_get,if_neg (fun hq=>h hq.2)]
theorem addI_len (out:List TS__2_int) (x y:Int):(addI out x y).length≤out.length+1:=by
 unfold addI;split<;>simp
def hs (H:Int→Bool) (a:Int):Nat→List TS__2_int
 | 0=>[]
 | n+1=>cond (H (a+(n:Int))) (addI (hs H a n) (a+(n:Int)) (a+(n:Int))) (hs H a n)
theorem hs_len (H:Int→Bool) (a:Int):∀ n,(hs H a n).length≤n
 | 0=>Nat.le_refl _
 | n+1=>by
  have:=hs_len H a n
  have h2:=addI_len (hs H a n) (a+(n:Int)) (a+(n:Int))
  unfold hs
  cases H (a+(n:Int))
  ·simp only [cond_false];omega
  ·simp only [cond_true];omega
structure Ends (H:Int→Bool) (a e:Int) (out:List TS__2_int):Prop where
 hi:H (e - 1)=true→a < e→∃ l p,out=l ++ [⟨p,e - 1⟩]
 lo:out=[]∨∃ l p q,out=l ++ [⟨p,q⟩]∧a≤q∧q < e∧(H (e - 1)=false→q < e - 1)
theorem hs_inv (H:Int→Bool) (a:Int):∀ n:Nat,Ends H a (a+(n:Int)) (hs H a n)
 | 0=>⟨fun _ h=>by omega,.inl rfl⟩
 | n+1=>by
  have ih:=hs_inv H a n
  have e:a+((n+1:Nat):Int) - 1=a+(n:Int):=by omega
  unfold hs
  cases hH:H (a+(n:Int))
  ·simp only [cond_false]
   refine ⟨fun h _=>?_,?_⟩
   ·rw [e,hH] at h;cases h
   ·rcases ih.lo with h | ⟨l,p,q,h1,h2,h3,h4⟩
    ·exact .inl h
    ·exact .inr ⟨l,p,q,h1,h2,by omega,fun _=>by omega⟩
  ·simp only [cond_true]
   have key:∃ l p,addI (hs H a n) (a+(n:Int)) (a+(n:Int))=l ++ [⟨p,a+(n:Int)⟩]:=by
    rcases ih.lo with h | ⟨l,p,q,h1,h2,h3,h4⟩
    ·rw [h,addI_nil];exact ⟨[],_,rfl⟩
    ·rw [h1]
     by_cases hc:a+(n:Int)≤q+1
     ·rw [addI_ext _ _ hc];exact ⟨l,p,rfl⟩
     ·rw [addI_new _ _ hc];exact ⟨_,_,rfl⟩
   obtain ⟨l,p,hk⟩:=key
   refine ⟨fun _ _=>⟨l,p,by rw [hk,e]⟩,.inr ⟨l,p,_,hk,by omega,by omega,fun h=>?_⟩⟩
   rw [e,hH] at h;cases h
theorem hs_low {H:Int→Bool} {a:Int} {n:Nat}:∀ k:Nat,(∀ t,a+(n:Int)≤t→t < a+(n:Int)+(k:Int)→H t=false)→hs H a (n+k)=hs H a n
 | 0,_=>rfl
 | k+1,h=>by
  rw [← Nat.add_assoc,hs,h (a+((n+k:Nat):Int)) (by omega) (by omega),cond_false]
  exact hs_low k fun t h1 h2=>h t h1 (by omega)
theorem hs_high {H:Int→Bool} {a:Int} {n:Nat} {l:List TS__2_int} {p:Int} (h0:hs H a n=l ++ [⟨p,a+(n:Int) - 1⟩]):∀ k:Nat,(∀ t,a+(n:Int)≤t→t < a+(n:Int)+(k:Int)→H t=true)→hs H a (n+k)=l ++ [⟨p,a+(n:Int)+(k:Int) - 1⟩]
 | 0,_=>by rw [Nat.add_zero,h0];simp
 | k+1,h=>by
  rw [← Nat.add_assoc,hs,h (a+((n+k:Nat):Int)) (by omega) (by omega),cond_true,hs_high h0 k fun t h1 h2=>h t h1 (by omega),addI_ext _ _ (by omega)]
  congr 3;omega
def cnt (a x:Int):Nat:=(x - a+1).toNat
variable {H:Int→Bool} {a x y:Int}
theorem seg_low (h1:a≤x) (h2:x≤y) (h:∀ t,x < t→t≤y→H t=false):hs H a (cnt a y)=hs H a (cnt a x):=by
 have e:cnt a y=cnt a x+(y - x).toNat:=by unfold cnt;omega
 rw [e]
 exact hs_low _ fun t h3 h4=>h t (by unfold cnt at h3;omega) (by unfold cnt at h4;omega)
theorem seg_end (h1:a≤x) (hx:H x=true):∃ l p,hs H a (cnt a x)=l ++ [⟨p,x⟩]:=by
 have e:a+(cnt a x:Int) - 1=x:=by unfold cnt;omega
 have:=(hs_inv H a (cnt a x)).hi (by rw [e];exact hx) (by unfold cnt;omega)
 rw [e] at this;exact this
theorem seg_high (h1:a≤x) (h2:x≤y) (hx:H x=true) (h:∀ t,x < t→t≤y→H t=true):hs H a (cnt a y)=addI (hs H a (cnt a x)) x y:=by
 obtain ⟨l,p,hl⟩:=seg_end h1 hx
 have e:cnt a y=cnt a x+(y - x).toNat:=by unfold cnt;omega
 have e2:a+(cnt a x:Int) - 1=x:=by unfold cnt;omega
 rw [e,hs_high (l:=l) (p:=p) (by rw [hl,e2]) _ fun t h3 h4=>h t (by unfold cnt at h3;omega) (by unfold cnt at h4;omega),hl,addI_ext _ _ (by omega)]
 congr 3;unfold cnt;omega
theorem seg_fall {z:Int} (h1:a≤x) (h2:x≤z) (h3:z≤y) (hx:H x=true) (h:∀ t,x < t→t≤z→H t=true) (h':∀ t,z < t→t≤y→H t=false) :
  hs H a (cnt a y)=addI (hs H a (cnt a x)) x z:=by
 rw [seg_low (x:=z) (by omega) h3 h',seg_high h1 h2 hx h]
theorem seg_rise {z:Int} (h1:a≤x) (h2:x < z) (h3:z≤y) (hx:H x=false) (h:∀ t,x < t→t < z→H t=false) (h':∀ t,z≤t→t≤y→H t=true) :
  hs H a (cnt a y)=addI (hs H a (cnt a x)) z y:=by
 have e:a+(cnt a x:Int) - 1=x:=by unfold cnt;omega
 have hz:hs H a (cnt a z)=addI (hs H a (cnt a x)) z z:=by
  have e1:cnt a z=cnt a (z - 1)+1:=by unfold cnt;omega
  have e2:a+(cnt a (z - 1):Int)=z:=by unfold cnt;omega
  rw [e1,hs,e2,h' z (by omega) h3,cond_true,seg_low h1 (show x≤z - 1 by omega) fun t h4 h5=>h t h4 (by omega)]
 rw [seg_high (x:=z) (by omega) h3 (h' z (by omega) h3) fun t h4 h5=>h' t (by omega) h5,hz]
 rcases (hs_inv H a (cnt a x)).lo with hl | ⟨l,p,q,hl,_,_,hq⟩
 ·rw [hl,addI_nil,addI_nil]
  exact addI_ext [] _ (show z≤z+1 by omega)
 ·have:=hq (by rw [e];exact hx)
  have hn:¬ z≤q+1:=by omega
  rw [hl,addI_new _ _ hn,addI_new _ _ hn,addI_ext _ _ (show z≤z+1 by omega)]
end Go.Den
namespace Go.Den
open Go.Ab
theorem bsearch {L:Nat→Int→Int→Option Int} {P:Nat→Bool} {n:Nat} (hn:n≤4000000000000000000)
  (hL:∀ (fuel i j:Nat),i < j→j≤n→L (fuel+1) (i:Int) (j:Int)=cond (!(P ((i+j) / 2))) (L fuel (((i+j) / 2+1:Nat):Int) (j:Int)) (L fuel (i:Int) (((i+j) / 2:Nat):Int)))
  (hE:∀ fuel i:Nat,L (fuel+1) (i:Int) (i:Int)=some (i:Int))
  (mono:∀ q r,q≤r→r < n→P q=true→P r=true) {fuel:Nat} (hf:n < fuel) :
  ∃ p,p≤n∧L fuel 0 (n:Int)=some (p:Int)∧(∀ q,q < p→P q=false)∧(∀ q,p≤q→q < n→P q=true):=by
 have key:∀ k fuel (i j:Nat),j - i=k→k < fuel→i≤j→j≤n→(∀ q,q < i→P q=false)→(∀ q,j≤q→q < n→P q=true) →
   ∃ p,p≤n∧L fuel (i:Int) (j:Int)=some (p:Int)∧(∀ q,q < p→P q=false)∧(∀ q,p≤q→q < n→P q=true):=by
  intro k
  induction k using Nat.strongRecOn with
  | ind k ih =>
   intro fuel i j hk hf hij hj h1 h2
   obtain ⟨f,rfl⟩:∃ f,fuel=f+1:=⟨fuel - 1,by omega⟩
   by_cases hlt:i < j
   ·rw [hL f i j hlt hj]
    cases hc:P ((i+j) / 2)
    ·rw [Bool.not_false,cond_true]
     exact ih (j - ((i+j) / 2+1)) (by omega) f _ j rfl (by omega) (by omega) hj (fun q hq=>by
      cases hq2:P q
      ·rfl
      ·have:=mono q ((i+j) / 2) (by omega) (by omega) hq2
       rw [hc] at this;cases this) h2
    ·rw [Bool.not_true,cond_false]
     exact ih ((i+j) / 2 - i) (by omega) f i _ rfl (by omega) (by omega) (by omega) h1 (fun q hq hq2=>mono _ q hq hq2 hc)
   ·have:i=j:=by omega
    subst this
    exact ⟨i,hj,hE f i,h1,h2⟩
 exact key n fuel 0 n (by omega) (by omega) (by omega) (Nat.le_refl _) (fun q hq=>absurd hq (Nat.not_lt_zero _)) (fun q hq hq2=>by omega)
variable {m:List TMark} {level:Int}
noncomputable def hig (m:List TMark) (level t:Int):Bool:=decide (tv m t≥level)
theorem above1_eq {N:Nat} (hN:400 < N) (v:SeaOk m) (h0:0 < m.length) (t:Int):g_w_Above_1 N t m level=some (hig m level t):=by
 unfold g_w_Above_1
 rw [tide_tv hN v h0];rfl
def OutOk (out:List TS__2_int):Prop:=out.length≤2000000∧(out=[]∨∃ l p q,out=l ++ [⟨p,q⟩]∧0≤q∧q≤2000000)
theorem above2_eq {N:Nat} {out:List TS__2_int} (ho:OutOk out) (x y:Int):g_w_Above_2 N x y out=some (addI out x y):=by
 obtain ⟨hl,ho⟩:=ho
 unfold g_w_Above_2
 rcases ho with h | ⟨l,p,q,h,h1,h2⟩
 ·subst h
  rw [addI_nil]
  rw [if_pos (by intro h;simp at h)]
  simp
 ·have hpos:0 < out.length:=by rw [h];simp
  have e1:w64 (((out.length:Nat):Int) - 1)=((out.length - 1:Nat):Int):=by rw [w64_eq (by omega) (by omega)];omega
  have e2:out.getD (out.length - 1) TS__2_int.d=⟨p,q⟩:=by rw [h];exact last_get l _
  rw [e1,if_pos (fun _=>inb (by omega)),decide_eq_true (show ((out.length:Nat):Int) > 0 by omega),cond_true,toNat_nat,e2,if_pos (inb (by omega)),if_pos (by omega)]
  rw [w64_eq (n:=q+1) (by omega) (by omega)]
  unfold addI
  rw [e2]
  by_cases hc:x≤q+1
  ·rw [decide_eq_true hc,cond_true,if_pos ⟨hpos,hc⟩]
  ·rw [decide_eq_false hc,cond_false,if_neg (fun h=>hc h.2)]
theorem search2_eq {N n:Nat} (hN:400 < N) (hNn:n < N) (v:SeaOk m) (h0:0 < m.length) {x:Int} (hx:0≤x) (hx2:x+(n:Int)≤2000000)
  (mono:∀ q r:Nat,q≤r→r < n→hig m level (x+(q:Int))=false→hig m level (x+(r:Int))=false) :
  ∃ p,p≤n∧g_sort_Search_v2 N (n:Int) m level x=some (p:Int)∧(∀ q:Nat,q < p→hig m level (x+(q:Int))=true)∧(∀ q:Nat,p≤q→q < n→hig m level (x+(q:Int))=false):=by
 have h:=bsearch (L:=g_sort_Search_v2_L1 N m level x) (P:=fun q=>!(hig m level (x+(q:Int)))) (n:=n) (by omega) (fun fuel i j hij hj=>by
   have hm:w64 (shrI .u64 (IntKind.u64.wrap (w64 ((i:Int)+(j:Int)))) 1)=(((i+j) / 2:Nat):Int):=by
    rw [half_eq (by omega) (by omega)];omega
   have hmid:(i+j) / 2 < n:=by omega
   simp only [g_sort_Search_v2_L1]
   rw [dec_lt hij,cond_true,hm]
   generalize (i+j) / 2=mid at hmid ⊢
   unfold g_w_Above_3
   rw [w64_eq (n:=x+(mid:Int)) (by omega) (by omega),above1_eq hN v h0,Option.bind_some,Option.bind_some,w64_succ (by omega)])
  (fun fuel i=>by simp only [g_sort_Search_v2_L1,dec_nlt,cond_false])
  (fun q r h1 h2 h3=>by
   have h3':hig m level (x+(q:Int))=false:=by simpa using h3
   show (!(hig m level (x+(r:Int))))=true
   rw [mono q r h1 h2 h3'];rfl) hNn
 obtain ⟨p,h1,h2,h3,h4⟩:=h
 exact ⟨p,h1,h2,fun q hq=>by simpa using h3 q hq,fun q hq hq2=>by simpa using h4 q hq hq2⟩
theorem search3_eq {N n:Nat} (hN:400 < N) (hNn:n < N) (v:SeaOk m) (h0:0 < m.length) {x:Int} (hx:0≤x) (hx2:x+(n:Int)≤2000000)
  (mono:∀ q r:Nat,q≤r→r < n→hig m level (x+(q:Int))=true→hig m level (x+(r:Int))=true) :
  ∃ p,p≤n∧g_sort_Search_v3 N (n:Int) m level x=some (p:Int)∧(∀ q:Nat,q < p→hig m level (x+(q:Int))=false)∧(∀ q:Nat,p≤q→q < n→hig m level (x+(q:Int))=true):=by
 refine bsearch (L:=g_sort_Search_v3_L1 N m level x) (P:=fun q=>hig m level (x+(q:Int))) (n:=n) (by omega) (fun fuel i j hij hj=>?_)
  (fun fuel i=>by simp only [g_sort_Search_v3_L1,dec_nlt,cond_false])
  (fun q r h1 h2 h3=>mono q r h1 h2 h3) hNn
 have hm:w64 (shrI .u64 (IntKind.u64.wrap (w64 ((i:Int)+(j:Int)))) 1)=(((i+j) / 2:Nat):Int):=by
  rw [half_eq (by omega) (by omega)];omega
 have hmid:(i+j) / 2 < n:=by omega
 simp only [g_sort_Search_v3_L1]
 rw [dec_lt hij,cond_true,hm]
 generalize (i+j) / 2=mid at hmid ⊢
 unfold g_w_Above_4
 rw [w64_eq (n:=x+(mid:Int)) (by omega) (by omega),above1_eq hN v h0,Option.bind_some,Option.bind_some,w64_succ (by omega)]
structure Seg (m:List TMark) (x y:Int):Prop where
 x0:0≤x
 le:x≤y
 hi:y≤1000000
 no:∀ i,i < m.length→¬ (x < (mk m i).f_Minute∧(mk m i).f_Minute < y)
theorem seg_step {N:Nat} (hN:1000001 < N) (v:SeaOk m) (h0:0 < m.length) {c:List Int} {i:Nat} (hi:i+1 < c.length) (hc:c.length≤1000) {a:Int} (ha:a≤c.getD i 0)
  (s:Seg m (c.getD i 0) (c.getD (i+1) 0)) {out:List TS__2_int} (ho:OutOk out)
  (h1:hig m level (c.getD i 0)=false→out=hs (hig m level) a (cnt a (c.getD i 0)))
  (h2:hig m level (c.getD i 0)=true→∀ z,addI out (c.getD i 0) z=addI (hs (hig m level) a (cnt a (c.getD i 0))) (c.getD i 0) z) (fuel:Nat) :
  g_w_Above_L3 N m level c (fuel+1) out (i:Int)=g_w_Above_L3 N m level c fuel (hs (hig m level) a (cnt a (c.getD (i+1) 0))) ((i+1:Nat):Int):=by
 have a1:∀ t,g_w_Above_1 N t m level=some (hig m level t):=fun t=>above1_eq (by omega) v h0 t
 have a2:=fun x y=>above2_eq (N:=N) ho x y
 have e1:addz 1 i=i+1:=by rw [addz_eq];omega
 simp only [g_w_Above_L3,dec_lt (show i < c.length - 1 by omega),cond_true,if_pos (inb (show i < c.length - 1 by omega)),if_pos (show 1≤c.length∧c.length≤c.length by omega),if_pos (inb (show i < c.length by omega)),
  toNat_nat,e1,a1,a2,Option.bind_some,g_w_Above_J4,w64_succ (show i < 9223372036854775807 by omega)]
 generalize c.getD i 0=x at *
 generalize c.getD (i+1) 0=y at *
 have hx0:=s.x0
 have hxy:=s.le
 have hy:=s.hi
 have hseg:=tv_seg v h0 s.no
 have mk1:∀ {t:Int},hig m level t=true↔level≤tv m t:=fun {t}=>by unfold hig;rw [decide_eq_true_iff]
 have mk0:∀ {t:Int},hig m level t=false↔tv m t < level:=fun {t}=>by unfold hig;rw [decide_eq_false_iff_not];omega
 have hn:w64 (y - x)=(((y - x).toNat:Nat):Int):=by rw [w64_eq (by omega) (by omega)];omega
 cases hx:hig m level x
 ·simp only [cond_false,Option.bind_some]
  cases hyy:hig m level y
  ·simp only [cond_false]
   rw [h1 hx,seg_low ha hxy]
   intro t h3 h4
   rw [mk0] at hx hyy ⊢
   rcases hseg with hs | hs
   ·have:=hs t y (by omega) h4 (Int.le_refl _);omega
   ·have:=hs x t (Int.le_refl _) (by omega) h4;omega
  ·simp only [cond_true]
   have hup:∀ s t,x≤s→s≤t→t≤y→tv m s≤tv m t:=by
    rcases hseg with hs | hs
    ·exact hs
    ·rw [mk0] at hx;rw [mk1] at hyy
     have:=hs x y (Int.le_refl _) hxy (Int.le_refl _);omega
   obtain ⟨p,hp1,hp2,hp3,hp4⟩:=search3_eq (N:=N) (n:=(y - x).toNat) (level:=level) (by omega) (by omega) v h0 hx0 (by omega) (fun q r h3 h4 h5=>by
    rw [mk1] at h5 ⊢
    have:=hup (x+(q:Int)) (x+(r:Int)) (by omega) (by omega) (by omega);omega)
   rw [hn,hp2,Option.bind_some,w64_eq (n:=x+(p:Int)) (by omega) (by omega),h1 hx]
   have hpp:0 < p∨x=y:=by
    rcases Nat.eq_zero_or_pos p with h | h
    ·by_cases hxy2:x=y
     ·exact .inr hxy2
     ·have:=hp4 0 (by omega) (by omega)
      rw [show x+((0:Nat):Int)=x by omega,hx] at this;cases this
    ·exact .inl h
   rcases hpp with hpp | hpp
   ·rw [seg_rise (y:=y) ha (show x < x+(p:Int) by omega) (by omega) hx (fun t h3 h4=>by
      have:=hp3 (t - x).toNat (by omega)
      rwa [show x+(((t - x).toNat:Nat):Int)=t by omega] at this) (fun t h3 h4=>by
      by_cases ht:t=y
      ·rw [ht];exact hyy
      ·have:=hp4 (t - x).toNat (by omega) (by omega)
       rwa [show x+(((t - x).toNat:Nat):Int)=t by omega] at this)]
   ·rw [hpp,hyy] at hx;cases hx
 ·simp only [cond_true,Option.bind_some]
  cases hyy:hig m level y
  ·simp only [cond_false]
   have hdn:∀ s t,x≤s→s≤t→t≤y→tv m t≤tv m s:=by
    rcases hseg with hs | hs
    ·rw [mk1] at hx;rw [mk0] at hyy
     have:=hs x y (Int.le_refl _) hxy (Int.le_refl _);omega
    ·exact hs
   obtain ⟨p,hp1,hp2,hp3,hp4⟩:=search2_eq (N:=N) (n:=(y - x).toNat) (level:=level) (by omega) (by omega) v h0 hx0 (by omega) (fun q r h3 h4 h5=>by
    rw [mk0] at h5 ⊢
    have:=hdn (x+(q:Int)) (x+(r:Int)) (by omega) (by omega) (by omega);omega)
   have hpp:0 < p:=by
    rcases Nat.eq_zero_or_pos p with h | h
    ·by_cases hxy2:x=y
     ·rw [hxy2,hyy] at hx;cases hx
     ·have:=hp4 0 (by omega) (by omega)
      rw [show x+((0:Nat):Int)=x by omega,hx] at this;cases this
    ·exact h
   rw [hn,hp2,Option.bind_some,w64_eq (n:=x - 1) (by omega) (by omega),w64_eq (n:=x - 1+(p:Int)) (by omega) (by omega),h2 hx]
   rw [seg_fall (y:=y) ha (show x≤x - 1+(p:Int) by omega) (by omega) hx (fun t h3 h4=>by
      have:=hp3 (t - x).toNat (by omega)
      rwa [show x+(((t - x).toNat:Nat):Int)=t by omega] at this) (fun t h3 h4=>by
      by_cases ht:t=y
      ·rw [ht];exact hyy
      ·have:=hp4 (t - x).toNat (by omega) (by omega)
       rwa [show x+(((t - x).toNat:Nat):Int)=t by omega] at this)]
  ·simp only [cond_true]
   rw [h2 hx,seg_high ha hxy hx]
   intro t h3 h4
   rw [mk1] at hx hyy ⊢
   rcases hseg with hs | hs
   ·have:=hs x t (Int.le_refl _) (by omega) h4;omega
   ·have:=hs t y (by omega) h4 (Int.le_refl _);omega
end Go.Den
namespace Go.Den
open Go.Ab
def fm (e:List Int) (x:Int):Int:=if x < 0 then x else if x.toNat < e.length then e.getD x.toNat 0 else e.getD (e.length - 1) 0+(x - (e.length:Int)+1)
def Grow (e:List Int):Prop:=∀ i j,i < j→j < e.length→e.getD i 0 < e.getD j 0
theorem Grow.le {e:List Int} (h:Grow e) {i j:Nat} (hij:i≤j) (hj:j < e.length):e.getD i 0≤e.getD j 0:=by
 by_cases hq:i=j
 ·subst hq;exact Int.le_refl _
 ·exact Int.le_of_lt (h i j (by omega) hj)
theorem fm_mono {e:List Int} (h:Grow e) (hl:0 < e.length) (h0:e.getD 0 0=0):Mono (fm e):=by
 have up:∀ x y,x < y→fm e x < fm e y:=by
  intro x y hxy
  unfold fm
  by_cases hx:x < 0
  ·rw [if_pos hx]
   by_cases hy:y < 0
   ·rw [if_pos hy];exact hxy
   ·rw [if_neg hy]
    split
    ·rename_i hyl
     have:=h.le (Nat.zero_le _) hyl
     omega
    ·have:=h.le (Nat.zero_le (e.length - 1)) (by omega)
     omega
  ·rw [if_neg hx,if_neg (show ¬ y < 0 by omega)]
   by_cases hyl:y.toNat < e.length
   ·rw [if_pos hyl,if_pos (by omega)]
    exact h _ _ (by omega) hyl
   ·rw [if_neg hyl]
    by_cases hxl:x.toNat < e.length
    ·rw [if_pos hxl]
     have:=h.le (show x.toNat≤e.length - 1 by omega) (by omega)
     omega
    ·rw [if_neg hxl];omega
 refine ⟨fun x y=>⟨fun hq=>?_,up x y⟩,?_⟩
 ·rcases Int.lt_trichotomy x y with h1 | h1 | h1
  ·exact h1
  ·subst h1;omega
  ·have:=up y x h1;omega
 ·unfold fm
  rw [if_neg (by omega),if_pos (by simpa using hl)]
  exact h0
theorem fm_at {e:List Int} {i:Nat} (h:i < e.length):fm e (i:Int)=e.getD i 0:=by
 unfold fm
 rw [if_neg (by omega),if_pos (by simpa using h)];rfl
theorem range_getD (l:List Int):(List.range l.length).map (fun i=>l.getD i 0)=l:=by
 apply List.ext_getElem
 ·simp
 ·intro i h1 h2
  simp [List.getD_eq_getElem?_getD,h2]
theorem map_ext {β:Type} (f g:Nat→β) (n:Nat) (h:∀ i,i < n→f i=g i):(List.range n).map f=(List.range n).map g:=by
 apply List.map_congr_left
 intro i hi
 exact h i (List.mem_range.1 hi)
theorem sort_pat {N:Nat} {f:Int→Int} (hf:Mono f) {b:Int} (hb:b=0∨b=1) {S:List Int} {x y:Int} {xs:List Int} (hS:S=x :: (xs ++ [y])) (hx:xs.length≤40) (h:∀ i:Nat,i < S.length→f (b+(i:Int))=S.getD i 0) :
  g_slices_Sort_int_int (N+300) (x :: y :: xs)=some S:=by
 have hl:S.length=xs.length+2:=by rw [hS];simp
 have hp:(pat b xs.length).map f=x :: y :: xs:=by
  unfold pat
  have e1:f b=x:=by have:=h 0 (by omega);rw [hS] at this;simpa using this
  have e2:f (b+(xs.length:Int)+1)=y:=by
   have:=h (xs.length+1) (by omega)
   rw [show b+((xs.length+1:Nat):Int)=b+(xs.length:Int)+1 by omega] at this
   rw [this,hS];simp [List.getD_eq_getElem?_getD]
  rw [List.map_cons,List.map_cons,List.map_map,e1,e2]
  congr 2
  refine (map_ext _ (fun i=>xs.getD i 0) _ fun i hi=>?_).trans (range_getD xs)
  have:=h (i+1) (by omega)
  show f (b+1+(i:Int))=_
  rw [show b+1+(i:Int)=b+((i+1:Nat):Int) by omega,this,hS]
  simp [List.getD_eq_getElem?_getD,List.getElem?_append_left hi]
 have hq:(pas b xs.length).map f=S:=by
  unfold pas
  rw [List.map_map,← hl]
  exact (map_ext _ (fun i=>S.getD i 0) _ fun i hi=>h i hi).trans (range_getD S)
 rw [← hp,m_slices_Sort_int_int hf]
 rcases hb with rfl | rfl
 ·rw [srt0 N _ hx,Option.map_some,hq]
 ·rw [srt1 N _ hx,Option.map_some,hq]
theorem sort_grow {N:Nat} {S:List Int} {x y:Int} {xs:List Int} (hS:S=x :: (xs ++ [y])) (hx:xs.length≤40) (h:Grow S) (h0:0≤x):g_slices_Sort_int_int (N+300) (x :: y :: xs)=some S:=by
 have hl:S.length=xs.length+2:=by rw [hS];simp
 have hx0:S.getD 0 0=x:=by rw [hS];rfl
 by_cases hz:x=0
 ·refine sort_pat (fm_mono h (by omega) (by rw [hx0,hz])) (b:=0) (.inl rfl) hS hx fun i hi=>?_
  rw [Int.zero_add,fm_at hi]
 ·have hg:Grow (0 :: S):=fun i j hij hj=>by
   obtain ⟨q,rfl⟩:∃ q,j=q+1:=⟨j - 1,by omega⟩
   have hq:q < S.length:=by simpa using hj
   cases i with
   | zero=>have:=h.le (Nat.zero_le q) hq;simp only [List.getD_cons_zero,List.getD_cons_succ];omega
   | succ i=>simp only [List.getD_cons_succ];exact h i q (by omega) hq
  refine sort_pat (fm_mono hg (by simp) rfl) (b:=1) (.inr rfl) hS hx fun i hi=>?_
  rw [show (1:Int)+(i:Int)=((i+1:Nat):Int) by omega,fm_at (by simpa using hi)];simp
theorem srtA (N:Nat):g_slices_Sort_int_int (N+300) [0,0]=some [0,0]:=by kernel_rfl
theorem srtB (N:Nat):g_slices_Sort_int_int (N+300) [1,1]=some [1,1]:=by kernel_rfl
theorem sort_same {N:Nat} {x:Int} (h0:0≤x):g_slices_Sort_int_int (N+300) [x,x]=some [x,x]:=by
 by_cases hz:x=0
 ·subst hz;exact srtA N
 ·have hg:Grow [0,x]:=fun i j hij hj=>by
   have:j=1:=by simp at hj;omega
   have:i=0:=by omega
   subst this;subst j
   show (0:Int) < x
   omega
  have hf:=fm_mono hg (by simp) rfl
  have e:fm [0,x] 1=x:=fm_at (i:=1) (by simp)
  have:=m_slices_Sort_int_int hf (N+300) [1,1]
  rw [srtB] at this
  simpa [e] using this
variable {m:List TMark} {level:Int}
def insd (m:List TMark) (x y:Int):Nat→Nat→List Int
 | 0,_=>[]
 | k+1,i=>cond (cond (decide ((mk m i).f_Minute > x)) (decide ((mk m i).f_Minute < y)) false) ((mk m i).f_Minute :: insd m x y k (i+1)) (insd m x y k (i+1))
theorem insd_mem {x y t:Int}:∀ k i,t∈insd m x y k i↔∃ j,i≤j∧j < i+k∧t=(mk m j).f_Minute∧x < t∧t < y
 | 0,i=>by
  unfold insd
  simp only [List.not_mem_nil,false_iff]
  rintro ⟨j,h1,h2,_⟩;omega
 | k+1,i=>by
  have ih:=insd_mem (x:=x) (y:=y) (t:=t) k (i+1)
  unfold insd
  have hc:cond (decide ((mk m i).f_Minute > x)) (decide ((mk m i).f_Minute < y)) false=true↔x < (mk m i).f_Minute∧(mk m i).f_Minute < y:=by
   by_cases h1:(mk m i).f_Minute > x
   ·rw [decide_eq_true h1,cond_true,decide_eq_true_iff];constructor
    ·intro h;exact ⟨h1,h⟩
    ·intro h;exact h.2
   ·rw [decide_eq_false h1,cond_false];constructor
    ·intro h;cases h
    ·intro h;exact absurd h.1 h1
  cases hq:cond (decide ((mk m i).f_Minute > x)) (decide ((mk m i).f_Minute < y)) false
  ·have hno:¬ (x < (mk m i).f_Minute∧(mk m i).f_Minute < y):=fun h=>by rw [hc.2 h] at hq;cases hq
   rw [cond_false,ih]
   constructor
   ·rintro ⟨j,h1,h2,h3⟩;exact ⟨j,by omega,by omega,h3⟩
   ·rintro ⟨j,h1,h2,h3,h4⟩
    refine ⟨j,?_,by omega,h3,h4⟩
    by_cases hj:j=i
    ·subst hj;rw [h3] at h4;exact absurd h4 hno
    ·omega
  ·have hy:=hc.1 hq
   rw [cond_true,List.mem_cons,ih]
   constructor
   ·rintro (h | ⟨j,h1,h2,h3⟩)
    ·exact ⟨i,Nat.le_refl _,by omega,h,by rw [h];exact hy⟩
    ·exact ⟨j,by omega,by omega,h3⟩
   ·rintro ⟨j,h1,h2,h3,h4⟩
    by_cases hj:j=i
    ·subst hj;exact .inl h3
    ·exact .inr ⟨j,by omega,by omega,h3,h4⟩
theorem insd_len {x y:Int}:∀ k i,(insd m x y k i).length≤k
 | 0,_=>Nat.le_refl _
 | k+1,i=>by
  have:=insd_len (x:=x) (y:=y) k (i+1)
  unfold insd
  cases cond (decide ((mk m i).f_Minute > x)) (decide ((mk m i).f_Minute < y)) false
  ·simp only [cond_false];omega
  ·simp only [cond_true,List.length_cons];omega
theorem insd_pw (v:SeaOk m) {x y:Int}:∀ k i,i+k≤m.length→(insd m x y k i).Pairwise (· < ·)
 | 0,_,_=>List.Pairwise.nil
 | k+1,i,h=>by
  have ih:=insd_pw v (x:=x) (y:=y) k (i+1) (by omega)
  unfold insd
  cases cond (decide ((mk m i).f_Minute > x)) (decide ((mk m i).f_Minute < y)) false
  ·exact ih
  ·rw [cond_true]
   refine List.Pairwise.cons (fun t ht=>?_) ih
   obtain ⟨j,h1,h2,h3,_⟩:=(insd_mem k (i+1)).1 ht
   have:=min_mono (i:=i+1) v j h1 (by omega)
   have:=v.ord i (by omega)
   omega
theorem grow_of {l:List Int} (h:l.Pairwise (· < ·)):Grow l:=fun i j hij hj=>by
 have:=List.pairwise_iff_getElem.1 h i j (by omega) hj hij
 simpa [List.getD_eq_getElem?_getD,hj,show i < l.length by omega] using this
structure Cor (m:List TMark) (x y:Int) (c:List Int):Prop where
 len:2≤c.length
 most:c.length≤1000
 fst:c.getD 0 0=x
 lst:c.getD (c.length - 1) 0=y
 seg:∀ i,i+1 < c.length→Seg m (c.getD i 0) (c.getD (i+1) 0)∧x≤c.getD i 0∧c.getD (i+1) 0≤y
theorem corners {N:Nat} (v:SeaOk m) (hm:m.length≤40) {x y:Int} (h0:0≤x) (hxy:x≤y) (hy:y≤1000000) :
  ∃ c,g_slices_Sort_int_int (N+300) (x :: y :: insd m x y m.length 0)=some c∧c.length=(insd m x y m.length 0).length+2∧Cor m x y c:=by
 have hlen:=insd_len (m:=m) (x:=x) (y:=y) m.length 0
 by_cases he:x=y
 ·subst he
  have hn:insd m x x m.length 0=[]:=by
   apply List.eq_nil_iff_forall_not_mem.2
   intro t ht
   obtain ⟨j,h1,h2,h3,h4,h5⟩:=(insd_mem _ _).1 ht
   omega
  rw [hn]
  refine ⟨[x,x],sort_same h0,rfl,⟨by simp,by simp,rfl,rfl,fun i hi=>?_⟩⟩
  have:i=0:=by simp at hi;omega
  subst this
  exact ⟨⟨h0,Int.le_refl _,hy,fun i hi h=>by have h1:=h.1;have h2:=h.2;simp at h1 h2;omega⟩,Int.le_refl _,Int.le_refl _⟩
 ·have hpw:=insd_pw v (x:=x) (y:=y) m.length 0 (by omega)
  have hmem:∀ t,t∈insd m x y m.length 0↔∃ j,0≤j∧j < 0+m.length∧t=(mk m j).f_Minute∧x < t∧t < y:=fun t=>insd_mem _ _
  generalize insd m x y m.length 0=xs at hpw hmem hlen ⊢
  have hg:Grow (x :: (xs ++ [y])):=by
   apply grow_of
   refine List.Pairwise.cons (fun t ht=>?_) (List.pairwise_append.2 ⟨hpw,List.pairwise_singleton _ _,fun t ht u hu=>?_⟩)
   ·rcases List.mem_append.1 ht with h | h
    ·obtain ⟨_,_,_,_,h4,_⟩:=(hmem t).1 h;exact h4
    ·rw [List.mem_singleton.1 h];omega
   ·obtain ⟨_,_,_,_,_,h4⟩:=(hmem t).1 ht
    rw [List.mem_singleton.1 hu];exact h4
  refine ⟨x :: (xs ++ [y]),sort_grow rfl (by omega) hg h0,by simp,?_⟩
  have hl:(x :: (xs ++ [y])).length=xs.length+2:=by simp
  have hf:(x :: (xs ++ [y])).getD 0 0=x:=rfl
  have hls:(x :: (xs ++ [y])).getD ((x :: (xs ++ [y])).length - 1) 0=y:=by simp [List.getD_eq_getElem?_getD]
  have hin:∀ t,t∈xs→∃ k,k < (x :: (xs ++ [y])).length∧(x :: (xs ++ [y])).getD k 0=t:=fun t ht=>by
   obtain ⟨k,hk,h⟩:=List.mem_iff_getElem.1 ht
   refine ⟨k+1,by simp;omega,?_⟩
   simp [List.getD_eq_getElem?_getD,List.getElem?_append_left hk,h,hk]
  generalize x :: (xs ++ [y])=c at hg hl hf hls hin ⊢
  refine ⟨by omega,by omega,hf,hls,fun i hi=>?_⟩
  have b1:=hg.le (Nat.zero_le i) (show i < c.length by omega)
  have b2:=hg.le (show i+1≤c.length - 1 by omega) (by omega)
  rw [hf] at b1
  rw [hls] at b2
  refine ⟨⟨by omega,Int.le_of_lt (hg i (i+1) (by omega) hi),by omega,fun j hj h=>?_⟩,b1,b2⟩
  obtain ⟨k,hk,hkt⟩:=hin _ ((hmem _).2 ⟨j,Nat.zero_le _,by omega,rfl,by omega,by omega⟩)
  rcases Nat.lt_or_ge i k with h3 | h3
  ·have:=hg.le (show i+1≤k by omega) hk;omega
  ·have:=hg.le h3 (show i < c.length by omega);omega
theorem outOk_hs {a b:Int} (ha:0≤a) (hb:b≤1000000) (hab:a≤b):OutOk (hs (hig m level) a (cnt a b)):=by
 have h1:=hs_len (hig m level) a (cnt a b)
 have hc:a+(cnt a b:Int)=b+1:=by unfold cnt;omega
 refine ⟨by omega,?_⟩
 rcases (hs_inv (hig m level) a (cnt a b)).lo with h | ⟨l,p,q,h,h2,h3,_⟩
 ·exact .inl h
 ·exact .inr ⟨l,p,q,h,by omega,by omega⟩
theorem L3_all {N:Nat} (hN:1000001 < N) (v:SeaOk m) (h0:0 < m.length) {c:List Int} {a b:Int} (C:Cor m a b c) :
  g_w_Above_L3 N m level c N [] 0=some (hs (hig m level) a (cnt a b),0):=by
 have hlen:=C.len
 have hmost:=C.most
 have key:∀ d i fuel,i+1+d=c.length→d < fuel→g_w_Above_L3 N m level c fuel (hs (hig m level) a (cnt a (c.getD i 0))) (i:Int)=some (hs (hig m level) a (cnt a b),0):=by
  intro d
  induction d with
  | zero =>
   intro i fuel h hf
   obtain ⟨f,rfl⟩:∃ f,fuel=f+1:=⟨fuel - 1,by omega⟩
   have:i=c.length - 1:=by omega
   subst this
   simp only [g_w_Above_L3,dec_nlt,cond_false]
   rw [C.lst]
  | succ d ih =>
   intro i fuel h hf
   obtain ⟨f,rfl⟩:∃ f,fuel=f+1:=⟨fuel - 1,by omega⟩
   obtain ⟨s,s1,s2⟩:=C.seg i (by omega)
   have:=s.x0;have:=s.hi;have:=s.le
   have ha:0≤a:=by have h9:=(C.seg 0 (by omega)).1.x0;rw [C.fst] at h9;exact h9
   rw [seg_step hN v h0 (by omega) hmost s1 s (outOk_hs ha (by omega) s1) (fun _=>rfl) (fun _ _=>rfl)]
   exact ih (i+1) f (by omega) (by omega)
 obtain ⟨f,rfl⟩:∃ f,N=f+1:=⟨N - 1,by omega⟩
 obtain ⟨s,s1,s2⟩:=C.seg 0 (by omega)
 have e1:cnt a a=1:=by unfold cnt;omega
 have e2:a+((0:Nat):Int)=a:=by omega
 have:=seg_step (level:=level) hN v h0 (i:=0) (by omega) hmost s1 s (out:=[]) ⟨by simp,.inl rfl⟩ (fun h=>by
  rw [C.fst] at h ⊢
  rw [e1,hs,e2,h,cond_false];rfl) (fun h z=>by
  rw [C.fst] at h ⊢
  rw [e1,hs,e2,h,cond_true,hs,addI_nil,addI_nil]
  exact (addI_ext [] z (by omega)).symm) f
 exact this.trans (key (c.length - 2) 1 f (by omega) (by omega))
theorem L1_all {N:Nat} (hl:m.length≤400) (x y:Int) (F:List Int→Option (List TS__2_int×Int)) (hF:∀ fuel c,g_w_Above_L1 N m level x y (fuel+1) c ((m.length:Nat):Int)=F c) :
  ∀ d i fuel (c:List Int),i+d=m.length→d < fuel→c.length≤i+2→g_w_Above_L1 N m level x y fuel c (i:Int)=F (c ++ insd m x y d i):=by
 intro d
 induction d with
 | zero =>
  intro i fuel c h hf hc
  obtain ⟨f,rfl⟩:∃ f,fuel=f+1:=⟨fuel - 1,by omega⟩
  have:i=m.length:=by omega
  subst this
  rw [hF,insd,List.append_nil]
 | succ d ih =>
  intro i fuel c h hf hc
  obtain ⟨f,rfl⟩:∃ f,fuel=f+1:=⟨fuel - 1,by omega⟩
  have hi:i < m.length:=by omega
  simp only [g_w_Above_L1,dec_lt hi,cond_true,if_pos (inb hi),toNat_nat,g_w_Above_J2,w64_succ (show i < 9223372036854775807 by omega)]
  rw [if_pos (by omega),insd]
  unfold mk
  cases cond (decide ((m.getD i TMark.d).f_Minute > x)) (decide ((m.getD i TMark.d).f_Minute < y)) false
  ·simp only [cond_false]
   exact ih (i+1) f c (by omega) (by omega) (by omega)
  ·simp only [cond_true]
   rw [ih (i+1) f _ (by omega) (by omega) (by simp;omega),List.append_assoc];rfl
noncomputable def aboveR (m:List TMark) (level x y:Int):List TS__2_int×Int :=
 cond (seaCode m != 0) ([],seaCode m) (cond (cond (cond (!ins level (-1000000) 1000000) true (!ins x 0 y)) true (decide (y > 1000000))) ([],2)
  (cond (((m.length:Nat):Int) == 0) ([],29) (hs (hig m level) x (cnt x y),0)))
theorem above_eq {N:Nat} (hN:1000301 < N) (hm:m.length≤40∨seaCode m≠0) (x y:Int):g_w_Above N m level x y=some (aboveR m level x y):=by
 unfold g_w_Above aboveR
 rw [checkSea_eq (by omega)]
 simp only [Option.bind_some,between_eq]
 cases hs:seaCode m != 0
 ·have hs0:seaCode m=0:=by simpa using hs
  have v:=sea_of hs0
  have hm:m.length≤40:=hm.resolve_right (fun h=>h hs0)
  simp only [cond_false]
  have hp:((cond (!(!ins level (-1000000) 1000000)) (some (ins x 0 y)) (some false)).bind fun q=>cond (cond (cond (!ins level (-1000000) 1000000) true (!q)) true (decide (y > 1000000))) (some (([]:List TS__2_int),(2:Int)))
    (cond (((m.length:Nat):Int) == 0) (some (([]:List TS__2_int),(29:Int))) (g_w_Above_L1 N m level x y N [x,y] 0))) =
    cond (cond (cond (!ins level (-1000000) 1000000) true (!ins x 0 y)) true (decide (y > 1000000))) (some (([]:List TS__2_int),(2:Int)))
    (cond (((m.length:Nat):Int) == 0) (some (([]:List TS__2_int),(29:Int))) (g_w_Above_L1 N m level x y N [x,y] 0)):=by
   cases ins level (-1000000) 1000000
   ·rfl
   ·simp only [Bool.not_true,Bool.not_false,cond_true,cond_false,Option.bind_some]
  rw [hp]
  cases hq:cond (cond (!ins level (-1000000) 1000000) true (!ins x 0 y)) true (decide (y > 1000000))
  ·simp only [cond_false]
   cases h0:((m.length:Nat):Int) == 0
   ·simp only [cond_false]
    have h0:0 < m.length:=by
     have:((m.length:Nat):Int)≠0:=by simpa using h0
     omega
    have hb:0≤x∧x≤y∧y≤1000000:=by
     cases h1:ins x 0 y
     ·rw [h1] at hq;cases ins level (-1000000) 1000000<;>simp at hq
     ·cases h2:decide (y > 1000000)
      ·have:=ins_iff.1 h1
       have:=of_decide_eq_false h2
       omega
      ·rw [h2] at hq
       cases (cond (!ins level (-1000000) 1000000) true (!ins x 0 y))<;>simp at hq
    obtain ⟨c,hc1,hc2,hc3⟩:=corners (N:=N - 300) v hm hb.1 hb.2.1 hb.2.2
    rw [show N - 300+300=N by omega] at hc1
    have:=L1_all (N:=N) (level:=level) v.len x y (fun c=>(g_slices_Sort_int_int N c).bind fun rSort=>if rSort.length=c.length then if 1≤rSort.length∧rSort.length≤rSort.length then g_w_Above_L3 N m level rSort N [] 0 else none else none)
     (fun fuel c=>by simp only [g_w_Above_L1,dec_nlt,cond_false]) m.length 0 N [x,y] (by omega) (by omega) (by simp)
    refine this.trans ?_
    show ((g_slices_Sort_int_int N (x :: y :: insd m x y m.length 0)).bind _)=_
    rw [hc1,Option.bind_some,if_pos (by rw [hc2];simp),if_pos (by have:=hc3.len;omega)]
    exact L3_all (by omega) v h0 hc3
   ·rfl
  ·rfl
 ·rfl
end Go.Den
namespace Go.Den
open Go.Ab
theorem inside6_eq (N:Nat) (n lo hi:Int):g_r06_inside N n lo hi=some (ins n lo hi):=rfl
theorem outside_eq (N:Nat) (n lo hi:Int):g_berth_outside N n lo hi=some (!ins n lo hi):=by
 unfold g_berth_outside ins
 congr 1
 rw [Bool.eq_iff_iff];simp [Bool.cond_eq_ite]
theorem named_eq {N:Nat} (hN:12 < N) (s:ByteArray):g_berth_named N s=some (nameOk s):=by
 unfold g_berth_named nameOk
 cases h:cond (streq s ByteArray.empty) true (decide (((s.size:Nat):Int) > 12))
 ·have hs:s.size≤12:=by
   cases h2:streq s ByteArray.empty<;>rw [h2] at h<;>simp at h;omega
  refine loop_scan0 (L:=fun fuel=>g_berth_named_L1 N s fuel) _ _ (by omega) (fun fuel m hm=>?_) (fun fuel=>?_)
  ·simp only [g_berth_named_L1,dec_lt hm,cond_true,if_pos (inb hm),w64_succ (show m < 9223372036854775807 by omega),toNat_nat]
   show cond (nameBad s m) _ _=_
   cases nameBad s m<;>rfl
  ·simp only [g_berth_named_L1,dec_nlt,cond_false]
 ·rfl
end Go.Den
namespace Go.Den
open Go.Ab
def dockCode (x:TDock):Int:=cond (ins x.fLn 1 1000000 && ins x.f_Width 1 1000000 && ins x.f_Sill (-1000000) 1000000 && ins x.f_Floor (-1000000) 1000000 && ins x.f_Gap 0 1000000) 0 2
theorem dockCheck_eq (N:Nat) (x:TDock):g_berth_CheckDocks_2 N x=some (dockCode x):=by
 unfold g_berth_CheckDocks_2 dockCode
 simp only [outside_eq,g_berth_ranged]
 generalize ins x.fLn 1 1000000=b0,ins x.f_Width 1 1000000=b1,ins x.f_Sill (-1000000) 1000000=b2,ins x.f_Floor (-1000000) 1000000=b3,ins x.f_Gap 0 1000000=b4
 cases b0<;>cases b1<;>cases b2<;>cases b3<;>cases b4<;>rfl
def dupDock (l:List TDock) (m:Nat):Bool:=scan (fun k=>cond (streq (l.getD k TDock.d).f_Name (l.getD m TDock.d).f_Name) (some true) none) false m 0
def stepDock (l:List TDock) (m:Nat):Option Int :=
 cond (!nameOk (l.getD m TDock.d).f_Name) (some 4) (cond (dupDock l m) (some 5) (cond (dockCode (l.getD m TDock.d) != 0) (some (dockCode (l.getD m TDock.d))) none))
def docksCode (l:List TDock):Int:=cond (decide (((l.length:Nat):Int) > 4)) 8 (scan (stepDock l) 0 l.length 0)
theorem contains_dock {N:Nat} (l:List TDock) (m:Nat) (hm:m < l.length) (hN:l.length < N) (hl:l.length≤4):g_slices_ContainsFunc_api_Dock_api_Dock N ((l.take m).drop 0) (l.getD m TDock.d)=some (dupDock l m):=by
 have hlen:((l.take m).drop 0).length=m:=by simp;omega
 have e:g_slices_IndexFunc_api_Dock_api_Dock N ((l.take m).drop 0) (l.getD m TDock.d)=some (scan (fun k=>cond (streq (l.getD k TDock.d).f_Name (l.getD m TDock.d).f_Name) (some (k:Int)) none) (-1) m 0):=by
  unfold g_slices_IndexFunc_api_Dock_api_Dock
  refine loop_scan0 (L:=fun fuel=>g_slices_IndexFunc_api_Dock_api_Dock_L1 N ((l.take m).drop 0) (l.getD m TDock.d) fuel) _ _ (by omega) (fun fuel k hk=>?_) (fun fuel=>?_)
  ·simp only [g_slices_IndexFunc_api_Dock_api_Dock_L1,hlen,dec_lt hk,cond_true,if_pos (inb hk),w64_succ (show k < 9223372036854775807 by omega),toNat_nat,getD_take l m k _ hk,g_berth_check_Dock_1,g_berth_CheckDocks_1,Option.bind_some]
   cases streq (l.getD k TDock.d).f_Name (l.getD m TDock.d).f_Name<;>rfl
  ·simp only [g_slices_IndexFunc_api_Dock_api_Dock_L1,hlen,dec_nlt,cond_false]
 unfold g_slices_ContainsFunc_api_Dock_api_Dock
 rw [e,Option.bind_some,scan_index]
 rfl
theorem checkDocks_eq {N:Nat} (hN:13 < N) (l:List TDock):g_berth_CheckDocks N l=some (docksCode l):=by
 unfold g_berth_CheckDocks g_berth_check_Dock docksCode
 cases h:decide (((l.length:Nat):Int) > 4)
 ·have hl:l.length≤4:=by simp at h;omega
  have e:g_berth_check_Dock_L1 N l N 0=some (scan (stepDock l) 0 l.length 0):=by
   refine loop_scan0 (L:=fun fuel=>g_berth_check_Dock_L1 N l fuel) _ _ (by omega) (fun fuel m hm=>?_) (fun fuel=>?_)
   ·simp only [g_berth_check_Dock_L1,dec_lt hm,cond_true,if_pos (inb hm),w64_succ (show m < 9223372036854775807 by omega),toNat_nat,g_berth_CheckDocks_1,Option.bind_some,named_eq (show 12 < N by omega),contains_dock l m hm (show l.length < N by omega) hl,dockCheck_eq,
     if_pos (show 0≤m∧m≤l.length from ⟨Nat.zero_le _,by omega⟩),if_pos (show 0≤(m:Int) from Int.natCast_nonneg _)]
    unfold stepDock
    cases nameOk (l.getD m TDock.d).f_Name<;>cases dupDock l m<;>cases (dockCode (l.getD m TDock.d) != 0)<;>rfl
   ·simp only [g_berth_check_Dock_L1,dec_nlt,cond_false]
  rw [cond_false,cond_false,e];rfl
 ·rfl
theorem dockOf_eq {N:Nat} (l:List TDock) (s:ByteArray) (hN:l.length < N) (hl:l.length < 9223372036854775807):g_r06_DockOf N l s=some (scan (fun k=>cond (streq (l.getD k TDock.d).f_Name s) (some (k:Int)) none) (-1) l.length 0):=by
 unfold g_r06_DockOf
 refine loop_scan0 (L:=fun fuel=>g_r06_DockOf_L1 N l s fuel) _ _ hN (fun fuel m hm=>?_) (fun fuel=>?_)
 ·simp only [g_r06_DockOf_L1,dec_lt hm,cond_true,if_pos (inb hm),w64_succ (show m < 9223372036854775807 by omega),toNat_nat]
  cases streq (l.getD m TDock.d).f_Name s<;>rfl
 ·simp only [g_r06_DockOf_L1,dec_nlt,cond_false]
theorem refDocks_eq {N:Nat} (hN:13 < N) (l:List TDock):g_r06_CheckDocks N l=some (docksCode l):=by
 unfold g_r06_CheckDocks docksCode
 cases h:decide (((l.length:Nat):Int) > 4)
 ·have hl:l.length≤4:=by simp at h;omega
  rw [cond_false,cond_false]
  refine loop_scan0 (L:=fun fuel=>g_r06_CheckDocks_L1 N l fuel) _ _ (by omega) (fun fuel m hm=>?_) (fun fuel=>?_)
  ·have hd:(scan (fun k=>cond (streq (l.getD k TDock.d).f_Name (l.getD m TDock.d).f_Name) (some (k:Int)) none) (-1) l.length 0 != (m:Int))=dupDock l m :=
    scan_first (p:=fun k=>streq (l.getD k TDock.d).f_Name (l.getD m TDock.d).f_Name) (streq_iff.2 rfl) l.length 0 (Nat.zero_le _) (by omega)
   simp only [g_r06_CheckDocks_L1,dec_lt hm,cond_true,if_pos (inb hm),toNat_nat,IsName_eq (show 12 < N by omega),Option.bind_some,dockOf_eq l _ (show l.length < N by omega) (by omega),w64_succ (show m < 9223372036854775807 by omega),hd,if_pos (fun _=>inb hm),inside6_eq]
   unfold stepDock
   cases nameOk (l.getD m TDock.d).f_Name
   ·rfl
   ·cases dupDock l m
    ·simp only [Bool.not_true,cond_false]
     unfold dockCode
     generalize ins (l.getD m TDock.d).fLn 1 1000000=b0,ins (l.getD m TDock.d).f_Width 1 1000000=b1,ins (l.getD m TDock.d).f_Sill (-1000000) 1000000=b2,ins (l.getD m TDock.d).f_Floor (-1000000) 1000000=b3,ins (l.getD m TDock.d).f_Gap 0 1000000=b4
     cases b0<;>cases b1<;>cases b2<;>cases b3<;>cases b4<;>rfl
    ·rfl
  ·simp only [g_r06_CheckDocks_L1,dec_nlt,cond_false]
 ·rfl
def callCode (x:TCall):Int:=cond (ins x.fLn 1 1000000 && ins x.f_Beam 1 1000000 && ins x.f_Draught 0 1000000 && ins x.f_Under 0 1000000 && ins x.f_Arrive 0 400 && ins x.f_Due 0 400 && ins x.f_Work 1 1000 && ins x.f_Late 0 1000000000) 0 2
theorem callCheck_eq (N:Nat) (x:TCall):g_berth_CheckCalls_2 N x=some (callCode x):=by
 unfold g_berth_CheckCalls_2 callCode
 simp only [outside_eq,g_berth_ranged]
 generalize ins x.fLn 1 1000000=b0,ins x.f_Beam 1 1000000=b1,ins x.f_Draught 0 1000000=b2,ins x.f_Under 0 1000000=b3,ins x.f_Arrive 0 400=b4,ins x.f_Due 0 400=b5,ins x.f_Work 1 1000=b6,ins x.f_Late 0 1000000000=b7
 cases b0<;>cases b1<;>cases b2<;>cases b3<;>cases b4<;>cases b5<;>cases b6<;>cases b7<;>rfl
def dupCall (l:List TCall) (m:Nat):Bool:=scan (fun k=>cond (streq (l.getD k TCall.d).f_Name (l.getD m TCall.d).f_Name) (some true) none) false m 0
def stepCall (l:List TCall) (m:Nat):Option Int :=
 cond (!nameOk (l.getD m TCall.d).f_Name) (some 4) (cond (dupCall l m) (some 5) (cond (callCode (l.getD m TCall.d) != 0) (some (callCode (l.getD m TCall.d))) none))
def callsCode (l:List TCall):Int:=cond (decide (((l.length:Nat):Int) > 8)) 8 (scan (stepCall l) 0 l.length 0)
theorem contains_call {N:Nat} (l:List TCall) (m:Nat) (hm:m < l.length) (hN:l.length < N) (hl:l.length≤8):g_slices_ContainsFunc_api_Call_api_Call N ((l.take m).drop 0) (l.getD m TCall.d)=some (dupCall l m):=by
 have hlen:((l.take m).drop 0).length=m:=by simp;omega
 have e:g_slices_IndexFunc_api_Call_api_Call N ((l.take m).drop 0) (l.getD m TCall.d)=some (scan (fun k=>cond (streq (l.getD k TCall.d).f_Name (l.getD m TCall.d).f_Name) (some (k:Int)) none) (-1) m 0):=by
  unfold g_slices_IndexFunc_api_Call_api_Call
  refine loop_scan0 (L:=fun fuel=>g_slices_IndexFunc_api_Call_api_Call_L1 N ((l.take m).drop 0) (l.getD m TCall.d) fuel) _ _ (by omega) (fun fuel k hk=>?_) (fun fuel=>?_)
  ·simp only [g_slices_IndexFunc_api_Call_api_Call_L1,hlen,dec_lt hk,cond_true,if_pos (inb hk),w64_succ (show k < 9223372036854775807 by omega),toNat_nat,getD_take l m k _ hk,g_berth_check_Call_1,g_berth_CheckCalls_1,Option.bind_some]
   cases streq (l.getD k TCall.d).f_Name (l.getD m TCall.d).f_Name<;>rfl
  ·simp only [g_slices_IndexFunc_api_Call_api_Call_L1,hlen,dec_nlt,cond_false]
 unfold g_slices_ContainsFunc_api_Call_api_Call
 rw [e,Option.bind_some,scan_index]
 rfl
theorem checkCalls_eq {N:Nat} (hN:13 < N) (l:List TCall):g_berth_CheckCalls N l=some (callsCode l):=by
 unfold g_berth_CheckCalls g_berth_check_Call callsCode
 cases h:decide (((l.length:Nat):Int) > 8)
 ·have hl:l.length≤8:=by simp at h;omega
  have e:g_berth_check_Call_L1 N l N 0=some (scan (stepCall l) 0 l.length 0):=by
   refine loop_scan0 (L:=fun fuel=>g_berth_check_Call_L1 N l fuel) _ _ (by omega) (fun fuel m hm=>?_) (fun fuel=>?_)
   ·simp only [g_berth_check_Call_L1,dec_lt hm,cond_true,if_pos (inb hm),w64_succ (show m < 9223372036854775807 by omega),toNat_nat,g_berth_CheckCalls_1,Option.bind_some,named_eq (show 12 < N by omega),contains_call l m hm (show l.length < N by omega) hl,callCheck_eq,
     if_pos (show 0≤m∧m≤l.length from ⟨Nat.zero_le _,by omega⟩),if_pos (show 0≤(m:Int) from Int.natCast_nonneg _)]
    unfold stepCall
    cases nameOk (l.getD m TCall.d).f_Name<;>cases dupCall l m<;>cases (callCode (l.getD m TCall.d) != 0)<;>rfl
   ·simp only [g_berth_check_Call_L1,dec_nlt,cond_false]
  rw [cond_false,cond_false,e];rfl
 ·rfl
theorem callOf_eq {N:Nat} (l:List TCall) (s:ByteArray) (hN:l.length < N) (hl:l.length < 9223372036854775807):g_r06_CallOf N l s=some (scan (fun k=>cond (streq (l.getD k TCall.d).f_Name s) (some (k:Int)) none) (-1) l.length 0):=by
 unfold g_r06_CallOf
 refine loop_scan0 (L:=fun fuel=>g_r06_CallOf_L1 N l s fuel) _ _ hN (fun fuel m hm=>?_) (fun fuel=>?_)
 ·simp only [g_r06_CallOf_L1,dec_lt hm,cond_true,if_pos (inb hm),w64_succ (show m < 9223372036854775807 by omega),toNat_nat]
  cases streq (l.getD m TCall.d).f_Name s<;>rfl
 ·simp only [g_r06_CallOf_L1,dec_nlt,cond_false]
theorem refCalls_eq {N:Nat} (hN:13 < N) (l:List TCall):g_r06_CheckCalls N l=some (callsCode l):=by
 unfold g_r06_CheckCalls callsCode
 cases h:decide (((l.length:Nat):Int) > 8)
 ·have hl:l.length≤8:=by simp at h;omega
  rw [cond_false,cond_false]
  refine loop_scan0 (L:=fun fuel=>g_r06_CheckCalls_L1 N l fuel) _ _ (by omega) (fun fuel m hm=>?_) (fun fuel=>?_)
  ·have hd:(scan (fun k=>cond (streq (l.getD k TCall.d).f_Name (l.getD m TCall.d).f_Name) (some (k:Int)) none) (-1) l.length 0 != (m:Int))=dupCall l m :=
    scan_first (p:=fun k=>streq (l.getD k TCall.d).f_Name (l.getD m TCall.d).f_Name) (streq_iff.2 rfl) l.length 0 (Nat.zero_le _) (by omega)
   simp only [g_r06_CheckCalls_L1,dec_lt hm,cond_true,if_pos (inb hm),toNat_nat,IsName_eq (show 12 < N by omega),Option.bind_some,callOf_eq l _ (show l.length < N by omega) (by omega),w64_succ (show m < 9223372036854775807 by omega),hd,if_pos (fun _=>inb hm),inside6_eq]
   unfold stepCall
   cases nameOk (l.getD m TCall.d).f_Name
   ·rfl
   ·cases dupCall l m
    ·simp only [Bool.not_true,cond_false]
     unfold callCode
     generalize ins (l.getD m TCall.d).fLn 1 1000000=b0,ins (l.getD m TCall.d).f_Beam 1 1000000=b1,ins (l.getD m TCall.d).f_Draught 0 1000000=b2,ins (l.getD m TCall.d).f_Under 0 1000000=b3,ins (l.getD m TCall.d).f_Arrive 0 400=b4,ins (l.getD m TCall.d).f_Due 0 400=b5,ins (l.getD m TCall.d).f_Work 1 1000=b6,ins (l.getD m TCall.d).f_Late 0 1000000000=b7
     cases b0<;>cases b1<;>cases b2<;>cases b3<;>cases b4<;>cases b5<;>cases b6<;>cases b7<;>rfl
    ·rfl
  ·simp only [g_r06_CheckCalls_L1,dec_nlt,cond_false]
 ·rfl
end Go.Den
namespace Go.Den
open Go.Ab
def bothCode (d:TDock) (c:List TCall):Int:=cond (docksCode [d] != 0) (docksCode [d]) (callsCode c)
theorem both_eq {N:Nat} (hN:13 < N) (d:TDock) (c:List TCall):g_berth_both N d c=some (bothCode d c):=by
 unfold g_berth_both bothCode
 rw [checkDocks_eq hN,checkCalls_eq hN]
 simp only [Option.bind_some,cond_some]
def fitsV (d:TDock) (c:TCall):Bool:=cond (decide ((w64 (c.fLn+(w64 (2 * d.f_Gap))))≤d.fLn)) (decide ((w64 (c.f_Beam+(w64 (2 * d.f_Gap))))≤d.f_Width)) false
theorem docks_one (x:TDock) (h:nameOk x.f_Name=true):docksCode [x]=dockCode x:=by
 unfold docksCode
 simp only [List.length_singleton,scan,stepDock,List.getD_cons_zero,h]
 rw [show dupDock [x] 0=false from rfl]
 simp only [Bool.not_true,cond_false]
 by_cases hz:dockCode x=0
 ·rw [hz];rfl
 ·have:(dockCode x != 0)=true:=by simpa using hz
  rw [this];rfl
theorem calls_one (x:TCall) (h:nameOk x.f_Name=true):callsCode [x]=callCode x:=by
 unfold callsCode
 simp only [List.length_singleton,scan,stepCall,List.getD_cons_zero,h]
 rw [show dupCall [x] 0=false from rfl]
 simp only [Bool.not_true,cond_false]
 by_cases hz:callCode x=0
 ·rw [hz];rfl
 ·have:(callCode x != 0)=true:=by simpa using hz
  rw [this];rfl
theorem Names_total {N:Nat} (d:List TDock) (c:List TCall) (hN:13 < N):∃ b,g_w06_Names N d c=some b:=by
 unfold g_w06_Names
 cases h:cond (decide (((d.length:Nat):Int) > 6)) true (decide (((c.length:Nat):Int) > 10))
 ·have hl:d.length≤6∧c.length≤10:=by
   cases h2:decide (((d.length:Nat):Int) > 6)<;>rw [h2] at h<;>simp at h h2;omega
  have e2:g_w06_Names_L2 N c N 0=some (scan (fun m=>cond (decide ((((c.getD m TCall.d).f_Name.size:Nat):Int) > 40)) (some false) none) true c.length 0):=by
   refine loop_scan0 (L:=fun fuel=>g_w06_Names_L2 N c fuel) _ _ (by omega) (fun fuel m hm=>?_) (fun fuel=>?_)
   ·simp only [g_w06_Names_L2,dec_lt hm,cond_true,if_pos (inb hm),w64_succ (show m < 9223372036854775807 by omega),toNat_nat]
    cases decide ((((c.getD m TCall.d).f_Name.size:Nat):Int) > 40)<;>rfl
   ·simp only [g_w06_Names_L2,dec_nlt,cond_false]
  refine ⟨scan (fun m=>cond (decide ((((d.getD m TDock.d).f_Name.size:Nat):Int) > 40)) (some false) none) (scan (fun m=>cond (decide ((((c.getD m TCall.d).f_Name.size:Nat):Int) > 40)) (some false) none) true c.length 0) d.length 0,?_⟩
  rw [cond_false]
  refine loop_scan0 (L:=fun fuel=>g_w06_Names_L1 N d c fuel) _ _ (by omega) (fun fuel m hm=>?_) (fun fuel=>?_)
  ·simp only [g_w06_Names_L1,dec_lt hm,cond_true,if_pos (inb hm),w64_succ (show m < 9223372036854775807 by omega),toNat_nat]
   cases decide ((((d.getD m TDock.d).f_Name.size:Nat):Int) > 40)<;>rfl
  ·simp only [g_w06_Names_L1,dec_nlt,cond_false,e2]
 ·exact ⟨false,rfl⟩
end Go.Den
namespace Go.Den
open Go.Ab
structure Ivs (P:List TS__2_int) (a b:Int):Prop where
 ord:P.Pairwise (fun u w=>u.e1 < w.e0)
 mem:∀ u,u∈P→a≤u.e0∧u.e0≤u.e1∧u.e1≤b
theorem hs_good (H:Int→Bool) (a:Int):∀ n:Nat,Ivs (hs H a n) a (a+(n:Int) - 1)
 | 0=>⟨List.Pairwise.nil,fun u h=>by cases h⟩
 | n+1=>by
  have ih:=hs_good H a n
  have inv:=hs_inv H a n
  unfold hs
  cases H (a+(n:Int))
  ·simp only [cond_false]
   exact ⟨ih.ord,fun u hu=>by have:=ih.mem u hu;omega⟩
  ·simp only [cond_true]
   rcases inv.lo with h | ⟨l,p,q,h,h1,h2,_⟩
   ·rw [h,addI_nil]
    refine ⟨List.pairwise_singleton _ _,fun u hu=>?_⟩
    rw [List.mem_singleton.1 hu]
    show a≤a+(n:Int)∧a+(n:Int)≤a+(n:Int)∧a+(n:Int)≤_
    omega
   ·rw [h] at ih ⊢
    have hp:=ih.mem ⟨p,q⟩ (by simp)
    have hp1:a≤p:=hp.1
    have hp2:p≤q:=hp.2.1
    have ho:=List.pairwise_append.1 ih.ord
    by_cases hc:a+(n:Int)≤q+1
    ·rw [addI_ext _ _ hc]
     refine ⟨List.pairwise_append.2 ⟨ho.1,List.pairwise_singleton _ _,fun u hu w hw=>?_⟩,fun u hu=>?_⟩
     ·have:=ho.2.2 u hu ⟨p,q⟩ (by simp)
      rw [List.mem_singleton.1 hw];exact this
     ·rcases List.mem_append.1 hu with hu | hu
      ·have:=ih.mem u (List.mem_append_left _ hu);omega
      ·rw [List.mem_singleton.1 hu]
       show a≤p∧p≤a+(n:Int)∧a+(n:Int)≤_
       omega
    ·rw [addI_new _ _ hc]
     refine ⟨List.pairwise_append.2 ⟨ih.ord,List.pairwise_singleton _ _,fun u hu w hw=>?_⟩,fun u hu=>?_⟩
     ·have:=ih.mem u hu
      rw [List.mem_singleton.1 hw]
      show u.e1 < a+(n:Int)
      omega
     ·rcases List.mem_append.1 hu with hu | hu
      ·have:=ih.mem u hu;omega
      ·rw [List.mem_singleton.1 hu]
       show a≤a+(n:Int)∧a+(n:Int)≤a+(n:Int)∧a+(n:Int)≤_
       omega
def okd (u:TS__2_int) (d:Nat):Bool :=
 decide ((if (d:Int) * 1440+1439 < u.e1 then (d:Int) * 1440+1439 else u.e1) - (if (d:Int) * 1440 > u.e0 then (d:Int) * 1440 else u.e0)+1≥30)
theorem okd_bd {u:TS__2_int} {d:Nat} (h:okd u d=true):(d:Int) * 1440≤u.e1∧u.e0≤(d:Int) * 1440+1439:=by
 have:=of_decide_eq_true h
 split at this<;>split at this<;>omega
def dayL (Q:Nat→Bool):Nat→List Int
 | 0=>[]
 | n+1=>cond (Q n) (dayL Q n ++ [(n:Int)]) (dayL Q n)
theorem dayL_len (Q:Nat→Bool):∀ n,(dayL Q n).length≤n
 | 0=>Nat.le_refl _
 | n+1=>by
  have:=dayL_len Q n
  unfold dayL
  cases Q n
  ·simp only [cond_false];omega
  ·simp only [cond_true,List.length_append,List.length_singleton];omega
theorem dayL_congr {Q R:Nat→Bool}:∀ n,(∀ d,d < n→Q d=R d)→dayL Q n=dayL R n
 | 0,_=>rfl
 | n+1,h=>by
  unfold dayL
  rw [h n (by omega),dayL_congr n fun d hd=>h d (by omega)]
theorem dayL_cut {Q:Nat→Bool} {k:Nat}:∀ n,k≤n→(∀ d,k≤d→d < n→Q d=false)→dayL Q n=dayL Q k
 | 0,h,_=>by
  have:k=0:=by omega
  subst this;rfl
 | n+1,h,hq=>by
  by_cases hk:k=n+1
  ·rw [hk]
  ·rw [dayL,hq n (by omega) (by omega),cond_false]
   exact dayL_cut n (by omega) fun d h1 h2=>hq d h1 (by omega)
theorem dayL_lt (Q:Nat→Bool):∀ n,∀ t,t∈dayL Q n→t < (n:Int)
 | 0,_,h=>by cases h
 | n+1,t,h=>by
  unfold dayL at h
  cases hq:Q n<;>rw [hq] at h
  ·have:=dayL_lt Q n t h;omega
  ·rcases List.mem_append.1 h with h | h
   ·have:=dayL_lt Q n t h;omega
   ·rw [List.mem_singleton.1 h];omega
theorem list_end (l:List Int):l=[]∨∃ a b,l=a ++ [b]:=by
 rcases List.eq_nil_or_concat l with h | ⟨a,b,h⟩
 ·exact .inl h
 ·exact .inr ⟨a,b,by simpa using h⟩
theorem take_succ_getD {α:Type} (l:List α) (x:Nat) (d:α) (h:x < l.length):l.take (x+1)=l.take x ++ [l.getD x d]:=by
 rw [List.take_add_one]
 simp [List.getD_eq_getElem?_getD,h]
def anyT (P:List TS__2_int) (x d:Nat):Bool:=(P.take x).any (fun u=>okd u d)
theorem anyT_succ {P:List TS__2_int} {x:Nat} (h:x < P.length) (d:Nat):anyT P (x+1) d=(anyT P x d || okd (P.getD x TS__2_int.d) d):=by
 unfold anyT
 rw [take_succ_getD P x TS__2_int.d h,List.any_append];simp
theorem anyT_bd {P:List TS__2_int} {a b:Int} (I:Ivs P a b) {x d:Nat} (hx:x < P.length) (h:anyT P x d=true):(d:Int) * 1440 < (P.getD x TS__2_int.d).e0:=by
 unfold anyT at h
 obtain ⟨u,hu,ho⟩:=List.any_eq_true.1 h
 obtain ⟨y,hy,rfl⟩:=List.mem_iff_getElem.1 hu
 have hy2:y < x:=by simp at hy;omega
 have:=List.pairwise_iff_getElem.1 I.ord y x (by omega) hx hy2
 have h1:=(okd_bd ho).1
 rw [List.getElem_take] at h1
 have e:P.getD x TS__2_int.d=P[x]:=by simp [List.getD_eq_getElem?_getD,hx]
 rw [e];omega
theorem last_ok {q:Bool} {O:List Int} (h:O.length≤2000000):(q && (q && (!(((O.length:Nat):Int) == 0))))=true→0≤(w64 (((O.length:Nat):Int) - 1))∧(w64 (((O.length:Nat):Int) - 1)) < ((O.length:Nat):Int):=by
 intro hq
 have h0:(((O.length:Nat):Int) == 0)=false:=by
  cases q
  ·cases hq
  ·simpa using hq
 have h1:((O.length:Nat):Int)≠0:=by simpa using h0
 rw [w64_eq (by omega) (by omega)]
 omega
theorem last_dec {O L:List Int} {k:Int} {a:Bool} (hO:O=cond a (L ++ [k]) L) (hlt:∀ t,t∈L→t < k) (hl:L.length≤1000) :
  cond (((O.length:Nat):Int) == 0) true (decide (O.getD ((w64 (((O.length:Nat):Int) - 1)).toNat) 0 < k))=!a:=by
 rcases list_end O with h | ⟨l,z,h⟩
 ·rw [h]
  cases a
  ·rfl
  ·rw [h] at hO;simp at hO
 ·have hlen:O.length≤1001:=by
   rw [hO];cases a
   ·simp only [cond_false];omega
   ·simp only [cond_true,List.length_append,List.length_singleton];omega
  have hpos:0 < O.length:=by rw [h];simp
  have e1:w64 (((O.length:Nat):Int) - 1)=((O.length - 1:Nat):Int):=by rw [w64_eq (by omega) (by omega)];omega
  have e2:O.getD (O.length - 1) 0=z:=by rw [h];simp [List.getD_eq_getElem?_getD]
  have e3:(((O.length:Nat):Int) == 0)=false:=by rw [beq_eq_false_iff_ne];omega
  rw [e1,e3,cond_false,toNat_nat,e2]
  cases a
  ·rw [cond_false] at hO
   have:=hlt z (by rw [← hO,h];simp)
   rw [decide_eq_true this];rfl
  ·rw [cond_true,h] at hO
   have:=List.append_inj_right' hO rfl
   have hz:z=k:=by simpa using this
   rw [hz,decide_eq_false (Int.lt_irrefl _)];rfl
theorem days_eq {N:Nat} (hN:2000 < N) {P:List TS__2_int} (hl:P.length < N) (hl2:P.length≤2000000) {b:Int} (I:Ivs P 0 b) (hb:b≤1000000):g_berth_days_L1 N P N [] 0=some (dayL (anyT P P.length) 1000):=by
 have inner:∀ (x:Nat) (hx:x < P.length) (K:List Int→Int→Option (List Int)) (r:List Int→Option (List Int)) (_:∀ out,K out ((x+1:Nat):Int)=r out) (k g fuel:Nat),
   (P.getD x TS__2_int.d).e0≤(k:Int) * 1440+1439→k+g=900→g < fuel →
   g_berth_days_L2 N P (x:Int) K fuel (dayL (fun d=>anyT P x d || (decide (d < k) && okd (P.getD x TS__2_int.d) d)) 1000) (k:Int)=r (dayL (anyT P (x+1)) 1000):=by
  intro x hx K r hr k g
  have hu:=I.mem _ (getD_mem P x TS__2_int.d hx)
  have hprev:=fun d h=>anyT_bd I (x:=x) (d:=d) hx h
  have hsucc:=anyT_succ hx
  generalize hue:P.getD x TS__2_int.d=u at hu hprev hsucc ⊢
  induction g generalizing k with
  | zero =>
   intro fuel h1 h2 h3
   obtain ⟨f,rfl⟩:∃ f,fuel=f+1:=⟨fuel - 1,by omega⟩
   simp only [g_berth_days_L2,toNat_nat,hue]
   rw [w64_eq (n:=(k:Int) * 1440) (by omega) (by omega),decide_eq_false (by omega),cond_false,w64_succ (by omega),hr]
   congr 1
   refine dayL_congr _ fun d hd=>?_
   rw [hsucc]
   cases ho:okd u d
   ·simp
   ·have:=(okd_bd ho).1
    rw [decide_eq_true (by omega)];simp
  | succ g ih =>
   intro fuel h1 h2 h3
   obtain ⟨f,rfl⟩:∃ f,fuel=f+1:=⟨fuel - 1,by omega⟩
   simp only [g_berth_days_L2,toNat_nat,hue,g_berth_days_J3]
   rw [w64_eq (n:=(k:Int) * 1440) (by omega) (by omega),w64_eq (n:=(k:Int) * 1440+1440) (by omega) (by omega),w64_eq (n:=(k:Int) * 1440+1440 - 1) (by omega) (by omega)]
   by_cases hk:(k:Int) * 1440≤u.e1
   ·rw [decide_eq_true hk,cond_true]
    have hm1:(if (k:Int) * 1440+1440 - 1 < u.e1 then (k:Int) * 1440+1440 - 1 else u.e1)=(if (k:Int) * 1440+1439 < u.e1 then (k:Int) * 1440+1439 else u.e1):=by
     split<;>split<;>omega
    rw [hm1]
    have hw:w64 (w64 ((if (k:Int) * 1440+1439 < u.e1 then (k:Int) * 1440+1439 else u.e1) - (if (k:Int) * 1440 > u.e0 then (k:Int) * 1440 else u.e0))+1)=(if (k:Int) * 1440+1439 < u.e1 then (k:Int) * 1440+1439 else u.e1) - (if (k:Int) * 1440 > u.e0 then (k:Int) * 1440 else u.e0)+1:=by
     rw [w64_eq (n:=_ - _) (by split<;>split<;>omega) (by split<;>split<;>omega),w64_eq (by split<;>split<;>omega) (by split<;>split<;>omega)]
    rw [hw]
    have hOl:=dayL_len (fun d=>anyT P x d || (decide (d < k) && okd u d)) 1000
    rw [if_pos (last_ok (by omega))]
    have hstep:=ih (k+1) f (by omega) (by omega) (by omega)
    -- the list so far
    have hq:∀ d,k < d→(anyT P x d || (decide (d < k) && okd u d))=false:=fun d hd=>by
     rw [decide_eq_false (by omega),Bool.false_and,Bool.or_false]
     cases ha:anyT P x d
     ·rfl
     ·have:=hprev d ha;omega
    have hq':∀ d,k < d→(anyT P x d || (decide (d < k+1) && okd u d))=false:=fun d hd=>by
     rw [decide_eq_false (by omega),Bool.false_and,Bool.or_false]
     cases ha:anyT P x d
     ·rfl
     ·have:=hprev d ha;omega
    have eL:dayL (fun d=>anyT P x d || (decide (d < k) && okd u d)) 1000=cond (anyT P x k) (dayL (fun d=>anyT P x d || (decide (d < k) && okd u d)) k ++ [(k:Int)]) (dayL (fun d=>anyT P x d || (decide (d < k) && okd u d)) k):=by
     rw [dayL_cut (k:=k+1) 1000 (by omega) (fun d h4 h5=>hq d (by omega)),dayL,decide_eq_false (Nat.lt_irrefl k),Bool.false_and,Bool.or_false]
    have eR:dayL (fun d=>anyT P x d || (decide (d < k+1) && okd u d)) 1000=cond (anyT P x k || okd u k) (dayL (fun d=>anyT P x d || (decide (d < k) && okd u d)) k ++ [(k:Int)]) (dayL (fun d=>anyT P x d || (decide (d < k) && okd u d)) k):=by
     rw [dayL_cut (k:=k+1) 1000 (by omega) (fun d h4 h5=>hq' d (by omega)),dayL,decide_eq_true (show k < k+1 by omega),Bool.true_and,
      dayL_congr (Q:=fun d=>anyT P x d || (decide (d < k+1) && okd u d)) (R:=fun d=>anyT P x d || (decide (d < k) && okd u d)) k fun d hd=>by
       show (anyT P x d || (decide (d < k+1) && okd u d))=(anyT P x d || (decide (d < k) && okd u d))
       rw [decide_eq_true (show d < k+1 by omega),decide_eq_true hd]]
    have hlt:=dayL_lt (fun d=>anyT P x d || (decide (d < k) && okd u d)) k
    have hln:=dayL_len (fun d=>anyT P x d || (decide (d < k) && okd u d)) k
    rw [last_dec eL hlt (by omega)]
    change cond (cond (okd u k) _ false) _ _=_
    rw [eR] at hstep
    rw [eL]
    generalize dayL (fun d=>anyT P x d || (decide (d < k) && okd u d)) k=L at hlt hln hstep ⊢
    rw [w64_succ (show k < 9223372036854775807 by omega)]
    cases hok:okd u k
    ·rw [hok,Bool.or_false] at hstep
     simp only [cond_false]
     exact hstep
    ·rw [hok,Bool.or_true,cond_true] at hstep
     simp only [cond_true]
     cases ha:anyT P x k
     ·simp only [cond_false,Bool.not_false,cond_true]
      rw [if_pos (by omega)]
      exact hstep
     ·simp only [cond_true,Bool.not_true,cond_false]
      exact hstep
   ·rw [decide_eq_false hk,cond_false,w64_succ (by omega),hr]
    congr 1
    refine dayL_congr _ fun d hd=>?_
    rw [hsucc]
    cases ho:okd u d
    ·simp
    ·have:=(okd_bd ho).1
     rw [decide_eq_true (by omega)];simp
 have outer:∀ g x fuel,x+g=P.length→g < fuel→g_berth_days_L1 N P fuel (dayL (anyT P x) 1000) (x:Int)=some (dayL (anyT P P.length) 1000):=by
  intro g
  induction g with
  | zero =>
   intro x fuel h hf
   obtain ⟨f,rfl⟩:∃ f,fuel=f+1:=⟨fuel - 1,by omega⟩
   have:x=P.length:=by omega
   subst this
   simp only [g_berth_days_L1,dec_nlt,cond_false]
  | succ g ih =>
   intro x fuel h hf
   obtain ⟨f,rfl⟩:∃ f,fuel=f+1:=⟨fuel - 1,by omega⟩
   have hx:x < P.length:=by omega
   have hu:=I.mem _ (getD_mem P x TS__2_int.d hx)
   simp only [g_berth_days_L1,dec_lt hx,cond_true,if_pos (inb hx),toNat_nat]
   have ek:w64 ((P.getD x TS__2_int.d).e0.tdiv 1440)=(((P.getD x TS__2_int.d).e0 / 1440).toNat:Int):=by
    rw [Int.tdiv_eq_ediv_of_nonneg hu.1,w64_eq (by omega) (by omega)];omega
   rw [ek]
   have hin:=inner x hx (g_berth_days_L1 N P f) (fun out=>g_berth_days_L1 N P f out ((x+1:Nat):Int)) (fun _=>rfl) ((P.getD x TS__2_int.d).e0 / 1440).toNat (900 - ((P.getD x TS__2_int.d).e0 / 1440).toNat) N (by omega) (by omega) (by omega)
   have e0:dayL (anyT P x) 1000=dayL (fun d=>anyT P x d || (decide (d < ((P.getD x TS__2_int.d).e0 / 1440).toNat) && okd (P.getD x TS__2_int.d) d)) 1000:=by
    refine dayL_congr _ fun d hd=>?_
    cases ho:okd (P.getD x TS__2_int.d) d
    ·simp
    ·have:=(okd_bd ho).2
     rw [decide_eq_false (by omega)];simp
   rw [e0,hin]
   exact ih (x+1) f (by omega) (by omega)
 have e:dayL (anyT P 0) 1000=[]:=by
  have:∀ n,dayL (anyT P 0) n=[]:=by
   intro n
   induction n with
   | zero=>rfl
   | succ n ih=>rw [dayL,show anyT P 0 n=false from rfl,cond_false,ih]
  exact this 1000
 have:=outer P.length 0 N (by omega) hl
 rwa [e] at this
end Go.Den
namespace Go.Den
open Go.Ab
def tidesCode (sea:List TMark):Int:=cond (seaCode sea != 0) (seaCode sea) (cond (((sea.length:Nat):Int) == 0) 29 0)
theorem tides_eq {N:Nat} (hN:400 < N) (sea:List TMark):g_berth_tides N sea=some (tidesCode sea):=by
 unfold g_berth_tides tidesCode
 rw [checkSea_eq hN]
 simp only [Option.bind_some,cond_some]
theorem tides_of {sea:List TMark} (h:tidesCode sea=0):SeaOk sea∧0 < sea.length:=by
 unfold tidesCode at h
 cases h1:seaCode sea != 0<;>rw [h1] at h
 ·rw [cond_false] at h
  refine ⟨sea_of (by simpa using h1),?_⟩
  cases h2:((sea.length:Nat):Int) == 0<;>rw [h2] at h
  ·have:((sea.length:Nat):Int)≠0:=by simpa using h2
   omega
  ·cases h
 ·rw [cond_true] at h
  rw [h] at h1;cases h1
def lastM (sea:List TMark):Int:=(sea.getD (sea.length - 1) TMark.d).f_Minute
noncomputable def passR (d:TDock) (c:TCall) (sea:List TMark):List TS__2_int :=
 cond (decide ((w64 ((w64 (d.f_Sill+c.f_Draught))+c.f_Under)) > 1000000)) [] (aboveR sea (w64 ((w64 (d.f_Sill+c.f_Draught))+c.f_Under)) 0 (lastM sea)).1
theorem passages_eq {N:Nat} (hN:1000301 < N) (d:TDock) (c:TCall) {sea:List TMark} (h0:0 < sea.length) (hl:sea.length≤40):g_berth_passages N d c sea=some (passR d c sea):=by
 have e1:w64 (((sea.length:Nat):Int) - 1)=((sea.length - 1:Nat):Int):=by rw [w64_eq (by omega) (by omega)];omega
 unfold g_berth_passages passR
 rw [e1,if_pos (inb (by omega)),toNat_nat,above_eq hN (.inl hl)]
 simp only [Option.bind_some,cond_some];rfl
theorem ivs_nil (a b:Int):Ivs [] a b:=⟨List.Pairwise.nil,fun u h=>by cases h⟩
theorem passR_ok (d:TDock) (c:TCall) {sea:List TMark} (v:SeaOk sea) (h0:0 < sea.length):Ivs (passR d c sea) 0 (lastM sea)∧(passR d c sea).length≤1000001:=by
 have hb:=v.min (sea.length - 1) (by omega)
 have hlast:lastM sea=(mk sea (sea.length - 1)).f_Minute:=rfl
 rw [← hlast] at hb
 unfold passR
 cases decide ((w64 ((w64 (d.f_Sill+c.f_Draught))+c.f_Under)) > 1000000)
 ·rw [cond_false]
  unfold aboveR
  cases seaCode sea != 0
  ·rw [cond_false]
   cases (cond (cond (!ins (w64 ((w64 (d.f_Sill+c.f_Draught))+c.f_Under)) (-1000000) 1000000) true (!ins 0 0 (lastM sea))) true (decide (lastM sea > 1000000)))
   ·rw [cond_false]
    cases ((sea.length:Nat):Int) == 0
    ·rw [cond_false]
     have hg:=hs_good (hig sea (w64 ((w64 (d.f_Sill+c.f_Draught))+c.f_Under))) 0 (cnt 0 (lastM sea))
     have hn:=hs_len (hig sea (w64 ((w64 (d.f_Sill+c.f_Draught))+c.f_Under))) 0 (cnt 0 (lastM sea))
     have hc:0+(cnt 0 (lastM sea):Int) - 1=lastM sea:=by unfold cnt;omega
     rw [hc] at hg
     exact ⟨hg,Nat.le_trans hn (by omega)⟩
    ·exact ⟨ivs_nil _ _,by simp⟩
   ·exact ⟨ivs_nil _ _,by simp⟩
  ·exact ⟨ivs_nil _ _,by simp⟩
 ·exact ⟨ivs_nil _ _,by simp⟩
noncomputable def daysR (d:TDock) (c:TCall) (sea:List TMark):List Int:=dayL (anyT (passR d c sea) (passR d c sea).length) 1000
theorem berthDays_eq {N:Nat} (hN:1000301 < N) (d:TDock) (c:TCall) {sea:List TMark} (v:SeaOk sea) (h0:0 < sea.length) (hl:sea.length≤40):g_berth_days N d c sea=some (daysR d c sea):=by
 obtain ⟨I,hp⟩:=passR_ok d c v h0
 unfold g_berth_days daysR
 rw [passages_eq hN d c h0 hl,Option.bind_some]
 exact days_eq (by omega) (by omega) (by omega) I (v.min (sea.length - 1) (by omega)).2
end Go.Den
namespace Go.Den
open Go.Ab
theorem ix_bd {p:Nat→Bool} (n:Nat):scan (fun k=>cond (p k) (some (k:Int)) none) (-1) n 0 = -1∨∃ k,k < n∧scan (fun k=>cond (p k) (some (k:Int)) none) (-1) n 0=(k:Int):=by
 rcases scan_inv (f:=fun k=>cond (p k) (some (k:Int)) none) (z:=(-1:Int)) n 0 with ⟨i,r,_,h2,h3,_,h5⟩ | ⟨_,h2⟩
 ·right
  refine ⟨i,by omega,?_⟩
  rw [h5]
  cases hp:p i<;>rw [hp] at h3
  ·cases h3
  ·simpa using h3.symm
 ·exact .inl h2
def cIx (c:List TCall) (n:ByteArray):Int:=scan (fun k=>cond (streq (c.getD k TCall.d).f_Name n) (some (k:Int)) none) (-1) c.length 0
def dIx (d:List TDock) (n:ByteArray):Int:=scan (fun k=>cond (streq (d.getD k TDock.d).f_Name n) (some (k:Int)) none) (-1) d.length 0
theorem cIx_bd {c:List TCall} {n:ByteArray} (h:0≤cIx c n):cIx c n < ((c.length:Nat):Int):=by
 unfold cIx at *
 rcases ix_bd (p:=fun k=>streq (c.getD k TCall.d).f_Name n) c.length with h1 | ⟨k,h1,h2⟩
 ·rw [h1] at h;omega
 ·rw [h2];omega
theorem dIx_bd {d:List TDock} {n:ByteArray} (h:0≤dIx d n):dIx d n < ((d.length:Nat):Int):=by
 unfold dIx at *
 rcases ix_bd (p:=fun k=>streq (d.getD k TDock.d).f_Name n) d.length with h1 | ⟨k,h1,h2⟩
 ·rw [h1] at h;omega
 ·rw [h2];omega
theorem called6_eq {N:Nat} {c:List TCall} (hl:c.length≤8) (hN:13 < N) (n:ByteArray):g_berth_called N c n=some (cIx c n):=by
 unfold g_berth_called g_slices_IndexFunc_api_Call_api_Call_v2 cIx
 rw [loop_scan0 (L:=fun fuel=>g_slices_IndexFunc_api_Call_api_Call_v2_L1 N c n fuel) (fun k=>cond (streq (c.getD k TCall.d).f_Name n) (some (k:Int)) none) (-1) (show c.length < N by omega) (fun fuel k hk=>?_) (fun fuel=>?_)]
 ·rfl
 ·simp only [g_slices_IndexFunc_api_Call_api_Call_v2_L1,dec_lt hk,cond_true,if_pos (inb hk),w64_succ (show k < 9223372036854775807 by omega),toNat_nat,g_berth_called_1,Option.bind_some]
  cases streq (c.getD k TCall.d).f_Name n<;>rfl
 ·simp only [g_slices_IndexFunc_api_Call_api_Call_v2_L1,dec_nlt,cond_false]
def sAt (s:List TStay) (i:Nat):TStay:=s.getD i TStay.d
def memB (l:List Int) (v:Int):Bool:=scan (fun k=>cond (l.getD k 0 == v) (some true) none) false l.length 0
theorem containsInt_eq {N:Nat} {l:List Int} (hl:l.length≤1000) (hN:1000 < N) (v:Int):g_slices_Contains_int_int N l v=some (memB l v):=by
 have e:g_slices_Index_int_int N l v=some (scan (fun k=>cond (l.getD k 0 == v) (some (k:Int)) none) (-1) l.length 0):=by
  unfold g_slices_Index_int_int
  refine loop_scan0 (L:=fun fuel=>g_slices_Index_int_int_L1 N l v fuel) _ _ (by omega) (fun fuel k hk=>?_) (fun fuel=>?_)
  ·simp only [g_slices_Index_int_int_L1,dec_lt hk,cond_true,if_pos (inb hk),w64_succ (show k < 9223372036854775807 by omega),toNat_nat]
   rw [show (v == l.getD k 0)=(l.getD k 0 == v) from Bool.beq_comm]
   cases l.getD k 0 == v<;>rfl
  ·simp only [g_slices_Index_int_int_L1,dec_nlt,cond_false]
 unfold g_slices_Contains_int_int memB
 rw [e,Option.bind_some,scan_index]
def yardCode (y:TYard):Int :=
 cond (docksCode y.f_Docks != 0) (docksCode y.f_Docks) (cond (callsCode y.f_Calls != 0) (callsCode y.f_Calls) (cond (tidesCode y.f_Sea != 0) (tidesCode y.f_Sea) (cond (!ins y.f_Last 0 400) 2 0)))
theorem checkYard_eq {N:Nat} (hN:400 < N) (y:TYard):g_berth_checkYard N y=some (yardCode y):=by
 unfold g_berth_checkYard yardCode
 rw [checkDocks_eq (by omega),checkCalls_eq (by omega),tides_eq hN]
 simp only [Option.bind_some,outside_eq,g_berth_ranged,cond_some]
theorem refYard_eq {N:Nat} (hN:400 < N) (y:TYard):g_r06_CheckYard N y=some (yardCode y):=by
 unfold g_r06_CheckYard yardCode tidesCode
 rw [refDocks_eq (by omega),refCalls_eq (by omega),refSea_eq hN]
 simp only [Option.bind_some,inside6_eq,cond_some]
 congr 1
 cases docksCode y.f_Docks != 0
 ·cases callsCode y.f_Calls != 0
  ·simp only [cond_false]
   cases hs:seaCode y.f_Sea != 0
   ·simp only [cond_false]
    cases ((y.f_Sea.length:Nat):Int) == 0<;>rfl
   ·simp only [cond_true,hs]
  ·rfl
 ·rfl
theorem calls_all {l:List TCall} (h:callsCode l=0):l.length≤8∧∀ i,i < l.length→callCode (l.getD i TCall.d)=0:=by
 unfold callsCode at h
 cases hd:decide (((l.length:Nat):Int) > 8)<;>rw [hd] at h
 ·simp only [cond_false] at h
  refine ⟨by have:=of_decide_eq_false hd;omega,?_⟩
  rcases scan_inv (f:=stepCall l) (z:=0) l.length 0 with ⟨i,r,_,_,h3,_,h5⟩ | ⟨h1,_⟩
  ·rw [h] at h5
   subst h5
   unfold stepCall at h3
   generalize nameOk (l.getD i TCall.d).f_Name=b1,dupCall l i=b2 at h3
   generalize callCode (l.getD i TCall.d)=r at h3
   by_cases hz:r=0
   ·subst hz;cases b1<;>cases b2<;>exact absurd h3 (by decide)
   ·have hz2:(r != 0)=true:=by simpa using hz
    rw [hz2] at h3
    cases b1<;>cases b2
    ·exact absurd (show (some 4:Option Int)=some 0 from h3) (by decide)
    ·exact absurd (show (some 4:Option Int)=some 0 from h3) (by decide)
    ·exact absurd (Option.some.inj h3) hz
    ·exact absurd (show (some 5:Option Int)=some 0 from h3) (by decide)
  ·intro i hi
   have h3:=h1 i (Nat.zero_le _) (by omega)
   unfold stepCall at h3
   generalize nameOk (l.getD i TCall.d).f_Name=b1,dupCall l i=b2 at h3
   by_cases hz:callCode (l.getD i TCall.d)=0
   ·exact hz
   ·have hz2:(callCode (l.getD i TCall.d) != 0)=true:=by simpa using hz
    rw [hz2] at h3
    cases b1<;>cases b2<;>cases h3
 ·cases h
theorem call_of {x:TCall} (h:callCode x=0):0≤x.f_Arrive∧x.f_Arrive≤400∧1≤x.f_Work∧x.f_Work≤1000:=by
 unfold callCode at h
 cases h1:ins x.f_Arrive 0 400
 ·rw [h1] at h;simp at h
 ·cases h2:ins x.f_Work 1 1000
  ·rw [h2] at h;simp at h
  ·have:=ins_iff.1 h1;have:=ins_iff.1 h2;omega
structure YardOk (y:TYard):Prop where
 docks:y.f_Docks.length≤4
 calls:y.f_Calls.length≤8
 call:∀ i,i < y.f_Calls.length→callCode (y.f_Calls.getD i TCall.d)=0
 sea:SeaOk y.f_Sea
 some:0 < y.f_Sea.length
 last:0≤y.f_Last∧y.f_Last≤400
theorem yard_of {y:TYard} (h:yardCode y=0):YardOk y:=by
 unfold yardCode at h
 cases h1:docksCode y.f_Docks != 0<;>rw [h1] at h
 ·rw [cond_false] at h
  cases h2:callsCode y.f_Calls != 0<;>rw [h2] at h
  ·rw [cond_false] at h
   cases h3:tidesCode y.f_Sea != 0<;>rw [h3] at h
   ·rw [cond_false] at h
    cases h4:ins y.f_Last 0 400<;>rw [h4] at h
    ·cases h
    ·obtain ⟨c1,c2⟩:=calls_all (l:=y.f_Calls) (by simpa using h2)
     obtain ⟨t1,t2⟩:=tides_of (sea:=y.f_Sea) (by simpa using h3)
     refine ⟨?_,c1,c2,t1,t2,ins_iff.1 h4⟩
     have hd:docksCode y.f_Docks=0:=by simpa using h1
     unfold docksCode at hd
     by_cases hq:((y.f_Docks.length:Nat):Int) > 4
     ·rw [decide_eq_true hq] at hd;cases hd
     ·omega
   ·rw [cond_true] at h;rw [h] at h3;cases h3
  ·rw [cond_true] at h;rw [h] at h2;cases h2
 ·rw [cond_true] at h;rw [h] at h1;cases h1
def cOf (y:TYard) (t:TStay):TCall:=y.f_Calls.getD (cIx y.f_Calls t.f_Call).toNat TCall.d
def dOf (y:TYard) (t:TStay):TDock:=y.f_Docks.getD (dIx y.f_Docks t.f_Dock).toNat TDock.d
noncomputable def stayOwn (y:TYard) (t:TStay):Option Int :=
 cond (!fitsV (dOf y t) (cOf y t)) (some 16) (cond (decide (t.f_Day < (cOf y t).f_Arrive)) (some 18) (cond (decide (t.f_Day > y.f_Last - (cOf y t).f_Work)) (some 2)
  (cond (!(memB (daysR (dOf y t) (cOf y t) y.f_Sea) t.f_Day && memB (daysR (dOf y t) (cOf y t) y.f_Sea) (t.f_Day+(cOf y t).f_Work))) (some 29) none)))
theorem cOf_ok {y:TYard} (v:YardOk y) {t:TStay} (h:0≤cIx y.f_Calls t.f_Call):callCode (cOf y t)=0:=by
 have:=cIx_bd h
 exact v.call _ (by omega)
def ovB (y:TYard) (a b:TStay):Bool :=
 cond (cond (streq a.f_Dock b.f_Dock) (decide (a.f_Day < (w64 (b.f_Day+(cOf y b).f_Work)))) false) (decide (b.f_Day < (w64 (a.f_Day+(cOf y a).f_Work)))) false
theorem overlap_eq {N:Nat} (hN:13 < N) {y:TYard} (hl:y.f_Calls.length≤8) {a b:TStay} (ha:0≤cIx y.f_Calls a.f_Call) (hb:0≤cIx y.f_Calls b.f_Call):g_berth_overlap N y a b=some (ovB y a b):=by
 have ha2:=cIx_bd ha
 have hb2:=cIx_bd hb
 unfold g_berth_overlap ovB cOf
 rw [called6_eq hl hN,called6_eq hl hN]
 cases streq a.f_Dock b.f_Dock
 ·rfl
 ·simp only [cond_true,Option.bind_some]
  rw [if_pos (fun _=>⟨hb,hb2⟩)]
  cases hd:decide (a.f_Day < (w64 (b.f_Day+(y.f_Calls.getD (cIx y.f_Calls b.f_Call).toNat TCall.d).f_Work)))
  ·rfl
  ·simp only [cond_true,Option.bind_some]
   rw [if_pos (fun _=>⟨ha,ha2⟩)]
end Go.Den
namespace Go.Den
open Go.Ab
def lateV (c:TCall) (d:Int):Int:=c.f_Late * (if d+c.f_Work - c.f_Due > 0 then d+c.f_Work - c.f_Due else 0)
theorem call_more {x:TCall} (h:callCode x=0):0≤x.f_Due∧x.f_Due≤400∧0≤x.f_Late∧x.f_Late≤1000000000:=by
 unfold callCode at h
 cases h1:ins x.f_Due 0 400
 ·rw [h1] at h;simp at h
 ·cases h2:ins x.f_Late 0 1000000000
  ·rw [h2] at h;simp at h
  ·have:=ins_iff.1 h1;have:=ins_iff.1 h2;omega
theorem late_bd {c:TCall} (hc:callCode c=0) {d:Int} (h1:d≤1000):0≤lateV c d∧lateV c d≤2000000000000:=by
 have a:=call_of hc
 have b:=call_more hc
 unfold lateV
 generalize hz:(if d+c.f_Work - c.f_Due > 0 then d+c.f_Work - c.f_Due else 0)=z
 have hz1:0≤z∧z≤2000:=by rw [← hz];split<;>omega
 refine ⟨Int.mul_nonneg b.2.2.1 hz1.1,?_⟩
 have:=Int.mul_le_mul b.2.2.2 hz1.2 hz1.1 (by omega)
 omega
theorem late_mono {c:TCall} (hc:callCode c=0) {d e:Int} (h:d≤e):lateV c d≤lateV c e:=by
 have b:=call_more hc
 unfold lateV
 refine Int.mul_le_mul_of_nonneg_left ?_ b.2.2.1
 split<;>split<;>omega
theorem late_w {c:TCall} (hc:callCode c=0) {d:Int} (h0:0≤d) (h1:d≤1000):w64 (c.f_Late * (if (w64 ((w64 (d+c.f_Work)) - c.f_Due)) > 0 then (w64 ((w64 (d+c.f_Work)) - c.f_Due)) else 0))=lateV c d:=by
 have a:=call_of hc
 have b:=call_more hc
 have l:=late_bd hc h1
 rw [w64_eq (n:=d+c.f_Work) (by omega) (by omega),w64_eq (n:=d+c.f_Work - c.f_Due) (by omega) (by omega)]
 exact w64_eq (n:=lateV c d) (by omega) (by omega)
theorem late_eq {N:Nat} {c:TCall} (hc:callCode c=0) {d:Int} (h0:0≤d) (h1:d≤1000):g_berth_late N c d=some (lateV c d):=congrArg some (late_w hc h0 h1)
noncomputable def mayD (y:TYard) (c:TCall) (d:TDock) (k:Int):Bool:=decide (k≥c.f_Arrive) && (decide (k+c.f_Work≤y.f_Last) && memB (daysR d c y.f_Sea) (k+c.f_Work))
noncomputable def possV (y:TYard) (c:TCall) (d:TDock):List Int:=cond (fitsV d c) ((daysR d c y.f_Sea).filter (mayD y c d)) []
theorem dayL_mem {Q:Nat→Bool}:∀ n t,t∈dayL Q n↔∃ k:Nat,k < n∧Q k=true∧t=(k:Int)
 | 0,t=>by unfold dayL;simp
 | n+1,t=>by
  have ih:=dayL_mem (Q:=Q) n t
  unfold dayL
  cases h:Q n
  ·rw [cond_false,ih]
   constructor
   ·rintro ⟨k,h1,h2⟩;exact ⟨k,by omega,h2⟩
   ·rintro ⟨k,h1,h2,h3⟩
    refine ⟨k,?_,h2,h3⟩
    by_cases e:k=n
    ·subst e;rw [h] at h2;cases h2
    ·omega
  ·rw [cond_true,List.mem_append,ih,List.mem_singleton]
   constructor
   ·rintro (⟨k,h1,h2⟩ | h1)
    ·exact ⟨k,by omega,h2⟩
    ·exact ⟨n,by omega,h,h1⟩
   ·rintro ⟨k,h1,h2,h3⟩
    by_cases e:k=n
    ·exact .inr (e ▸ h3)
    ·exact .inl ⟨k,by omega,h2,h3⟩
theorem dayL_up {Q:Nat→Bool}:∀ n,(dayL Q n).Pairwise (· < ·)
 | 0=>List.Pairwise.nil
 | n+1=>by
  unfold dayL
  cases Q n
  ·exact dayL_up n
  ·rw [cond_true,List.pairwise_append]
   refine ⟨dayL_up n,List.pairwise_singleton _ _,fun a ha b hb=>?_⟩
   rw [List.mem_singleton.1 hb]
   exact dayL_lt _ n a ha
theorem days_bd {d:TDock} {c:TCall} {sea:List TMark} {k:Int} (h:k∈daysR d c sea):0≤k∧k≤1000:=by
 obtain ⟨n,h1,_,h3⟩:=(dayL_mem _ k).1 h
 omega
theorem poss_mem {y:TYard} {c:TCall} {d:TDock} {k:Int}:k∈possV y c d↔fitsV d c=true∧k∈daysR d c y.f_Sea∧mayD y c d k=true:=by
 unfold possV
 cases fitsV d c
 ·simp
 ·rw [cond_true,List.mem_filter];simp
theorem poss_up (y:TYard) (c:TCall) (d:TDock):(possV y c d).Pairwise (· < ·):=by
 unfold possV
 cases fitsV d c
 ·exact List.Pairwise.nil
 ·exact (dayL_up _).filter _
theorem poss_len (y:TYard) (c:TCall) (d:TDock):(possV y c d).length≤1000:=by
 unfold possV
 cases fitsV d c
 ·exact Nat.zero_le _
 ·exact Nat.le_trans (List.length_filter_le _ _) (dayL_len _ 1000)
theorem poss_bd {y:TYard} {c:TCall} {d:TDock} {k:Int} (h:k∈possV y c d):0≤k∧k≤1000:=days_bd (poss_mem.1 h).2.1
theorem loop_filter {β R:Type} {B0:Nat} {L:Nat→List β→Int→R} {p:Nat→Bool} {g:Nat→β} {z:List β→R} {n:Nat}
  (hstep:∀ fuel out m,m < n→out.length≤B0+m→L (fuel+1) out (m:Int)=L fuel (cond (p m) (out ++ [g m]) out) ((m+1:Nat):Int))
  (hend:∀ fuel out,L (fuel+1) out (n:Int)=z out) :
  ∀ k m fuel out,m+k=n→k < fuel→out.length≤B0+m→L fuel out (m:Int)=z (out ++ ((List.range' m k).filter p).map g)
 | 0,m,fuel,out,h,hf,_=>by
  obtain ⟨f,rfl⟩:∃ f,fuel=f+1:=⟨fuel - 1,by omega⟩
  have:m=n:=by omega
  subst this;rw [hend];simp
 | k+1,m,fuel,out,h,hf,ho=>by
  obtain ⟨f,rfl⟩:∃ f,fuel=f+1:=⟨fuel - 1,by omega⟩
  rw [hstep f out m (by omega) ho,loop_filter hstep hend k (m+1) f _ (by omega) (by omega) (by cases p m<;>simp<;>omega)]
  rw [List.range'_succ,List.filter_cons]
  cases p m
  ·rfl
  ·simp
theorem range_filter {α:Type} (d:α) (p:α→Bool):∀ (l:List α) (i:Nat) (a:List α),a.length=i→((List.range' i l.length).filter (fun k=>p ((a ++ l).getD k d))).map (fun k=>(a ++ l).getD k d)=l.filter p
 | [],i,a,_=>rfl
 | x :: l,i,a,h=>by
  have e:(a ++ x :: l).getD i d=x:=by subst h;simp [List.getD]
  have e2:a ++ x :: l=(a ++ [x]) ++ l:=by simp
  have ih:=range_filter d p l (i+1) (a ++ [x]) (by simp [h])
  rw [← e2] at ih
  rw [List.length_cons,List.range'_succ,List.filter_cons,e,List.filter_cons]
  cases p x
  ·exact ih
  ·simp only [if_true,List.map_cons,e,ih]
theorem range_filter0 {α:Type} (d:α) (p:α→Bool) (l:List α):((List.range' 0 l.length).filter (fun k=>p (l.getD k d))).map (fun k=>l.getD k d)=l.filter p:=range_filter d p l 0 [] rfl
section
variable {N:Nat} {y:TYard} (v:YardOk y) (hl:y.f_Sea.length≤40) (hN:1000301 < N)
include v hl hN
theorem possible_eq {c:TCall} (hc:callCode c=0) (d:TDock):g_berth_possible N y c d=some (possV y c d):=by
 have a:=call_of hc
 unfold g_berth_possible possV
 rw [show g_berth_fits N d c=some (fitsV d c) from rfl]
 cases fitsV d c
 ·rfl
 ·simp only [Option.bind_some,Bool.not_true,cond_false,cond_true,berthDays_eq hN d c v.sea v.some hl]
  have hdl:(daysR d c y.f_Sea).length≤1000:=dayL_len _ 1000
  have hbd:∀ k,k < (daysR d c y.f_Sea).length→0≤(daysR d c y.f_Sea).getD k 0∧(daysR d c y.f_Sea).getD k 0≤1000:=fun k hk=>days_bd (getD_mem _ k 0 hk)
  rw [← range_filter0 0 (mayD y c d)]
  generalize hD:daysR d c y.f_Sea=D at hdl hbd ⊢
  refine (loop_filter (L:=fun fuel out x=>g_berth_possible_L1 N y c D fuel out x) (p:=fun k=>mayD y c d (D.getD k 0)) (g:=fun k=>D.getD k 0) (z:=fun out=>some out) (B0:=0) (n:=D.length) (fun fuel out m hm ho=>?_) (fun fuel out=>?_) D.length 0 N [] (by omega) (by omega) (by simp)).trans (by rw [List.nil_append])
  ·have b:=hbd m hm
   simp only [g_berth_possible_L1,dec_lt hm,cond_true,if_pos (inb hm),toNat_nat]
   unfold mayD
   simp only [hD,w64_eq (n:=D.getD m 0+c.f_Work) (by omega) (by omega),containsInt_eq hdl (show 1000 < N by omega),if_pos (show (out.length+1) * 8≤140737488355328 by omega),g_berth_possible_J2,w64_succ (show m < 9223372036854775807 by omega)]
   cases decide (D.getD m 0≥c.f_Arrive)<;>cases decide (D.getD m 0+c.f_Work≤y.f_Last)<;>cases memB D (D.getD m 0+c.f_Work)<;>rfl
  ·simp only [g_berth_possible_L1,dec_nlt,cond_false]
def stayOf (c:TCall) (d:TDock) (k:Int):TStay:=⟨c.f_Name,d.f_Name,k⟩
noncomputable def dockOpt (y:TYard) (c:TCall) (d:TDock):List TStay:=(possV y c d).map (stayOf c d)
noncomputable def optV (y:TYard) (c:TCall):List TStay:=y.f_Docks.flatMap (dockOpt y c)
omit v hl hN in
theorem dockOpt_len (c:TCall) (d:TDock):(dockOpt y c d).length≤1000:=by
 unfold dockOpt
 rw [List.length_map]
 exact poss_len y c d
end
end Go.Den
namespace Go.Den
open Go.Ab
def priceV (y:TYard) (t:TStay):Int:=lateV (cOf y t) t.f_Day
def costV (y:TYard):List TStay→Int
 | []=>0
 | t :: l=>priceV y t+costV y l
theorem costV_app (y:TYard):∀ a b,costV y (a ++ b)=costV y a+costV y b
 | [],b=>by simp [costV]
 | t :: a,b=>by
  have:=costV_app y a b
  simp only [List.cons_append,costV,this];omega
def StayOk (y:TYard) (t:TStay):Prop:=0≤cIx y.f_Calls t.f_Call∧0≤t.f_Day∧t.f_Day≤1000
theorem price_bd {y:TYard} (v:YardOk y) {t:TStay} (h:StayOk y t):0≤priceV y t∧priceV y t≤2000000000000:=late_bd (cOf_ok v h.1) h.2.2
theorem costV_bd {y:TYard} (v:YardOk y):∀ s:List TStay,(∀ t,t∈s→StayOk y t)→0≤costV y s∧costV y s≤2000000000000 * (s.length:Int)
 | [],_=>by simp [costV]
 | t :: s,h=>by
  have a:=price_bd v (h t (.head _))
  have b:=costV_bd v s fun u hu=>h u (.tail _ hu)
  simp only [costV,List.length_cons]
  omega
abbrev Leaf:=Int×List TStay
def leaves (y:TYard):List (List TStay)→List TStay→Int→List Leaf
 | [],s,c=>[(c,s)]
 | O :: R,s,c=>O.flatMap fun x=>cond (s.any fun z=>ovB y z x) [] (leaves y R (s ++ [x]) (c+priceV y x))
def stp (q p:Leaf):Leaf:=if q.1 < 0∨p.1 < q.1 then p else q
def pick (q:Leaf) (l:List Leaf):Leaf:=l.foldl stp q
theorem pick_app (q:Leaf) (a b:List Leaf):pick q (a ++ b)=pick (pick q a) b:=List.foldl_append
theorem pick_nil (q:Leaf):pick q []=q:=rfl
theorem pick_skip:∀ (l:List Leaf) {q:Leaf},0≤q.1→(∀ p,p∈l→q.1≤p.1)→pick q l=q
 | [],_,_,_=>rfl
 | p :: l,q,h0,h=>by
  have hp:=h p (.head _)
  have e:stp q p=q:=if_neg (by omega)
  show pick (stp q p) l=q
  rw [e]
  exact pick_skip l h0 fun r hr=>h r (.tail _ hr)
theorem pick_two:∀ (l:List Leaf) (m:Int),(∀ p,p∈l→0≤p.1)→(∀ a,pick (m,a) l=(m,a))∨∃ p,p∈l∧0≤p.1∧(m < 0∨p.1 < m)∧∀ a,pick (m,a) l=p
 | [],m,_=>.inl fun _=>rfl
 | p :: l,m,h=>by
  have hp:=h p (.head _)
  by_cases hs:m < 0∨p.1 < m
  ·right
   have e:∀ a,pick (m,a) (p :: l)=pick p l:=fun a=>congrArg (fun z=>pick z l) (if_pos hs)
   rcases pick_two l p.1 (fun r hr=>h r (.tail _ hr)) with h1 | ⟨r,h1,h2,h3,h4⟩
   ·exact ⟨p,.head _,hp,hs,fun a=>(e a).trans (h1 p.2)⟩
   ·exact ⟨r,.tail _ h1,h2,by omega,fun a=>(e a).trans (h4 p.2)⟩
  ·have e:∀ a,pick (m,a) (p :: l)=pick (m,a) l:=fun a=>congrArg (fun z=>pick z l) (if_neg hs)
   rcases pick_two l m (fun r hr=>h r (.tail _ hr)) with h1 | ⟨r,h1,h2,h3,h4⟩
   ·exact .inl fun a=>(e a).trans (h1 a)
   ·exact .inr ⟨r,.tail _ h1,h2,h3,fun a=>(e a).trans (h4 a)⟩
theorem pick_le:∀ (l:List Leaf) (q:Leaf),(∀ p,p∈l→0≤p.1)→∀ p,p∈l→0≤(pick q l).1∧(pick q l).1≤p.1
 | [],_,_,p,h=>by cases h
 | a :: l,q,h0,p,h=>by
  have key:∀ (l:List Leaf) (q:Leaf),(∀ p,p∈l→0≤p.1)→0≤q.1→0≤(pick q l).1∧(pick q l).1≤q.1:=by
   intro l
   induction l with
   | nil=>exact fun q _ h=>⟨h,Int.le_refl _⟩
   | cons b l ih =>
    intro q h1 h2
    have hb:=h1 b (.head _)
    have:=ih (stp q b) (fun r hr=>h1 r (.tail _ hr)) (by unfold stp;split<;>assumption)
    have hs:(stp q b).1≤q.1:=by unfold stp;split<;>omega
    exact ⟨this.1,Int.le_trans this.2 hs⟩
  have ha:=h0 a (.head _)
  rcases List.mem_cons.1 h with e | h1
  ·subst e
   have hs:0≤(stp q p).1∧(stp q p).1≤p.1:=by unfold stp;split<;>omega
   have:=key l (stp q p) (fun r hr=>h0 r (.tail _ hr)) hs.1
   exact ⟨this.1,Int.le_trans this.2 hs.2⟩
  ·exact pick_le l (stp q a) (fun r hr=>h0 r (.tail _ hr)) p h1
def LB (y:TYard):List (List TStay)→Int→Prop
 | [],l=>l≤0
 | O :: R,l=>∃ a b,l≤a+b∧(∀ x,x∈O→a≤priceV y x)∧LB y R b
theorem leaves_ge (y:TYard):∀ (R:List (List TStay)) (s:List TStay) (c l:Int),LB y R l→∀ p,p∈leaves y R s c→c+l≤p.1
 | [],s,c,l,h,p,hp=>by
  have h:l≤0:=h
  have:=List.mem_singleton.1 hp
  subst this
  show c+l≤c
  omega
 | O :: R,s,c,l,⟨a,b,h1,h2,h3⟩,p,hp=>by
  obtain ⟨x,hx,hp⟩:=List.mem_flatMap.1 hp
  cases ho:s.any fun z=>ovB y z x
  ·rw [ho] at hp
   have:=leaves_ge y R (s ++ [x]) (c+priceV y x) b h3 p hp
   have:=h2 x hx
   omega
  ·rw [ho] at hp;cases hp
theorem leaves_len (y:TYard):∀ (R:List (List TStay)) (s:List TStay) (c:Int),∀ p,p∈leaves y R s c→p.2.length=s.length+R.length
 | [],s,c,p,hp=>by rw [List.mem_singleton.1 hp];rfl
 | O :: R,s,c,p,hp=>by
  obtain ⟨x,hx,hp⟩:=List.mem_flatMap.1 hp
  cases ho:s.any fun z=>ovB y z x
  ·rw [ho] at hp
   have:=leaves_len y R (s ++ [x]) (c+priceV y x) p hp
   simp only [List.length_append,List.length_cons,List.length_nil] at this ⊢
   omega
  ·rw [ho] at hp;cases hp
theorem lb_zero {y:TYard} (v:YardOk y):∀ R:List (List TStay),(∀ O,O∈R→∀ t,t∈O→StayOk y t)→LB y R 0
 | [],_=>Int.le_refl _
 | O :: R,h=>⟨0,0,by omega,fun x hx=>(price_bd v (h O (.head _) x hx)).1,lb_zero v R fun P hP=>h P (.tail _ hP)⟩
theorem leaves_pos {y:TYard} (v:YardOk y) {R:List (List TStay)} {s:List TStay} {c:Int} (h:∀ O,O∈R→∀ t,t∈O→StayOk y t) (hc:0≤c):∀ p,p∈leaves y R s c→0≤p.1:=fun p hp=>by
 have:=leaves_ge y R s c 0 (lb_zero v R h) p hp
 omega
theorem cons_drop {α:Type} {l:List α} {i:Nat} (d:α) (h:i < l.length):l.drop i=l.getD i d :: l.drop (i+1):=by rw [List.drop_eq_getElem_cons h];simp [List.getD,h]
section
variable {N:Nat} {y:TYard} (v:YardOk y) (hN:1000301 < N)
include v hN
end
section
variable {N:Nat} {y:TYard} (v:YardOk y) (hN:1000301 < N) {A:List (List TStay)} (hA:∀ O,O∈A→(∀ t,t∈O→StayOk y t)∧O.length≤4000) (hAl:A.length=y.f_Calls.length)
include v hN hA hAl
end
end Go.Den
namespace Go.Den
open Go.Ab
theorem scan_anyL {α:Type} (p:α→Bool) (d:α) (l:List α):∀ k m,m+k=l.length→scan (fun k=>cond (p (l.getD k d)) (some true) none) false k m=(l.drop m).any p
 | 0,m,h=>by
  have:m=l.length:=by omega
  subst this;rw [List.drop_length];rfl
 | k+1,m,h=>by
  have hm:m < l.length:=by omega
  rw [cons_drop d hm,List.any_cons]
  unfold scan
  cases hp:p (l.getD m d)
  ·simp only [cond_false,Bool.false_or]
   exact scan_anyL p d l k (m+1) (by omega)
  ·simp
theorem ovB_comm (y:TYard) (a b:TStay):ovB y a b=ovB y b a:=by
 unfold ovB
 rw [streq_comm]
 cases streq b.f_Dock a.f_Dock
 ·rfl
 ·simp only [cond_true]
  cases decide (a.f_Day < w64 (b.f_Day+(cOf y b).f_Work))<;>cases decide (b.f_Day < w64 (a.f_Day+(cOf y a).f_Work))<;>rfl
theorem leaves_app (y:TYard) (a b:List TStay) (R:List (List TStay)) (s:List TStay) (c:Int):leaves y ((a ++ b) :: R) s c=leaves y (a :: R) s c ++ leaves y (b :: R) s c:=List.flatMap_append
def fl (q:Leaf):Bool:=decide (0≤q.1)
def cs (q:Leaf):Int:=if 0≤q.1 then q.1 else 0
def QOk (m:Nat) (q:Leaf):Prop:=(0≤q.1∧q.2.length=m)∨(q.1 < 0∧q.2=[])
theorem pickQ_ok {m:Nat}:∀ (l:List Leaf) {q:Leaf},QOk m q→(∀ p,p∈l→0≤p.1∧p.2.length=m)→QOk m (pick q l)
 | [],_,h,_=>h
 | p :: l,q,h,hl=>by
  refine pickQ_ok l (q:=stp q p) ?_ fun r hr=>hl r (.tail _ hr)
  unfold stp
  split
  ·exact .inl (hl p (.head _))
  ·exact h
noncomputable def outS (y:TYard) (days:List (List (List Int))) (rest:List Int) (s:List TStay) (q:Leaf):Tberth_search:=⟨y,days,rest,s,(fl q,q.2),cs q⟩
noncomputable def optA (y:TYard):List (List TStay):=y.f_Calls.map (optV y)
noncomputable def rowD (y:TYard) (i:Nat):List (List Int):=y.f_Docks.map (possV y (y.f_Calls.getD i TCall.d))
def NmOk (y:TYard):Prop:=∀ i,i < y.f_Calls.length→cIx y.f_Calls (y.f_Calls.getD i TCall.d).f_Name=(i:Int)
theorem opt_get {y:TYard} {i:Nat} (h:i < y.f_Calls.length):(optA y).getD i []=optV y (y.f_Calls.getD i TCall.d):=by
 unfold optA;simp [List.getD,h]
theorem opt_cons {y:TYard} {i:Nat} (h:i < y.f_Calls.length):(optA y).drop i=optV y (y.f_Calls.getD i TCall.d) :: (optA y).drop (i+1):=by
 rw [cons_drop [] (by unfold optA;simpa using h),opt_get h]
theorem cOf_at {y:TYard} (hn:NmOk y) {i:Nat} (h:i < y.f_Calls.length) (d:TDock) (k:Int):cOf y (stayOf (y.f_Calls.getD i TCall.d) d k)=y.f_Calls.getD i TCall.d:=by
 show y.f_Calls.getD (cIx y.f_Calls (y.f_Calls.getD i TCall.d).f_Name).toNat TCall.d=_
 rw [hn i h];rfl
theorem opt_mem {y:TYard} {c:TCall} {t:TStay}:t∈optV y c↔∃ d,d∈y.f_Docks∧∃ k,k∈possV y c d∧t=stayOf c d k:=by
 unfold optV
 rw [List.mem_flatMap]
 constructor
 ·rintro ⟨d,h1,h2⟩
  obtain ⟨k,h3,h4⟩:=List.mem_map.1 h2
  exact ⟨d,h1,k,h3,h4.symm⟩
 ·rintro ⟨d,h1,k,h3,h4⟩
  exact ⟨d,h1,List.mem_map.2 ⟨k,h3,h4.symm⟩⟩
theorem stayOf_ok {y:TYard} (hn:NmOk y) {i:Nat} (h:i < y.f_Calls.length) {d:TDock} {k:Int} (hk:k∈possV y (y.f_Calls.getD i TCall.d) d):StayOk y (stayOf (y.f_Calls.getD i TCall.d) d k):=by
 refine ⟨?_,poss_bd hk⟩
 show 0≤cIx y.f_Calls (y.f_Calls.getD i TCall.d).f_Name
 rw [hn i h];omega
theorem opt_ok {y:TYard} (hn:NmOk y) {i:Nat} (h:i < y.f_Calls.length) {t:TStay} (ht:t∈optV y (y.f_Calls.getD i TCall.d)):StayOk y t:=by
 obtain ⟨d,_,k,h2,rfl⟩:=opt_mem.1 ht
 exact stayOf_ok hn h h2
theorem optA_ok {y:TYard} (v:YardOk y) (hn:NmOk y):∀ O,O∈optA y→(∀ t,t∈O→StayOk y t)∧O.length≤4000:=fun O hO=>by
 unfold optA at hO
 obtain ⟨c,hc,rfl⟩:=List.mem_map.1 hO
 obtain ⟨i,hi,rfl⟩:=List.getElem_of_mem hc
 have e:y.f_Calls[i]=y.f_Calls.getD i TCall.d:=by simp [List.getD,hi]
 rw [e]
 refine ⟨fun t ht=>opt_ok hn hi ht,?_⟩
 have key:∀ (l:List TDock) (c:TCall),(l.flatMap (dockOpt y c)).length≤1000 * l.length:=by
  intro l c
  induction l with
  | nil=>simp
  | cons d l ih=>have:=dockOpt_len (y:=y) c d;simp only [List.flatMap_cons,List.length_append,List.length_cons];omega
 have:=key y.f_Docks (y.f_Calls.getD i TCall.d)
 have:=v.docks
 unfold optV
 omega
section
variable {N:Nat} {y:TYard} (v:YardOk y) (hN:1000301 < N)
include v hN
theorem walkAny_eq {s:List TStay} (hs:∀ t,t∈s→StayOk y t) (hs8:s.length≤8) {x:TStay} (hx:StayOk y x) (f:Bool) (c:Int) (days:List (List (List Int))) (rest:List Int) (b:List TStay) :
  g_slices_ContainsFunc_api_Stay_api_Stay N y.f_Docks y.f_Calls y.f_Sea y.f_Last f c days rest s b x=some (s.any fun z=>ovB y z x):=by
 have e:g_slices_IndexFunc_api_Stay_api_Stay N y.f_Docks y.f_Calls y.f_Sea y.f_Last f c days rest s b x=some (scan (fun k=>cond (ovB y (s.getD k TStay.d) x) (some (k:Int)) none) (-1) s.length 0):=by
  unfold g_slices_IndexFunc_api_Stay_api_Stay
  refine loop_scan0 (L:=fun fuel=>g_slices_IndexFunc_api_Stay_api_Stay_L1 N y.f_Docks y.f_Calls y.f_Sea y.f_Last f c days rest s b x fuel) _ _ (by omega) (fun fuel k hk=>?_) (fun fuel=>?_)
  ·simp only [g_slices_IndexFunc_api_Stay_api_Stay_L1,dec_lt hk,cond_true,if_pos (inb hk),toNat_nat,g_berth_search_walk_1]
   rw [overlap_eq (show 13 < N by omega) v.calls hx.1 (hs _ (getD_mem s k _ hk)).1,w64_succ (by omega),ovB_comm]
   simp only [Option.bind_some]
   cases ovB y (s.getD k TStay.d) x<;>rfl
  ·simp only [g_slices_IndexFunc_api_Stay_api_Stay_L1,dec_nlt,cond_false]
 unfold g_slices_ContainsFunc_api_Stay_api_Stay
 rw [e,Option.bind_some,scan_index (p:=fun k=>ovB y (s.getD k TStay.d) x),scan_anyL (fun z=>ovB y z x) TStay.d s s.length 0 (by omega)]
 rfl
variable (hn:NmOk y) {days:List (List (List Int))} {rest:List Int} (hdl:days.length=y.f_Calls.length) (hdays:∀ i,i < y.f_Calls.length→days.getD i []=rowD y i)
 (hrl:rest.length=y.f_Calls.length+1) (hrest:∀ j,j≤y.f_Calls.length→LB y ((optA y).drop j) (rest.getD j 0)∧0≤rest.getD j 0∧rest.getD j 0≤20000000000000)
include hn hdl hdays hrl hrest
theorem walk_eq:∀ (R:List (List TStay)) (s:List TStay) (fuel:Nat) (q:Leaf),s.length+R.length=y.f_Calls.length→(optA y).drop s.length=R→(∀ t,t∈s→StayOk y t)→QOk y.f_Calls.length q→(q.1 < 0∨costV y s+rest.getD s.length 0 < q.1)→R.length < fuel →
  g_berth_search_walk N fuel (s.length:Int) (costV y s) y.f_Docks y.f_Calls y.f_Sea y.f_Last (fl q) (cs q) days rest s q.2=some (outS y days rest s (pick q (leaves y R s (costV y s))))
 | [],s,fuel,q,h1,_,hs,hq,hlt,hf=>by
  obtain ⟨g,rfl⟩:∃ g,fuel=g+1:=⟨fuel - 1,by omega⟩
  have hcl:=v.calls
  have hsc:=costV_bd v s hs
  have e:((s.length:Nat):Int)=((y.f_Calls.length:Nat):Int):=by rw [← h1];simp
  have hsl:s.length=y.f_Calls.length:=by omega
  have h0:=(hrest s.length (by omega)).2.1
  rw [g_berth_search_walk,e,beq_self_eq_true,cond_true]
  unfold g_slices_Clone_api_Stay_api_Stay
  rw [if_pos (by omega)]
  have e1:pick q (leaves y [] s (costV y s))=(costV y s,s):=if_pos (show q.1 < 0∨costV y s < q.1 by omega)
  rw [e1]
  unfold outS fl cs
  rw [decide_eq_true hsc.1,if_pos hsc.1];rfl
 | O :: R,s,fuel,q,h1,hd,hs,hq,hlt,hf=>by
  obtain ⟨g,rfl⟩:∃ g,fuel=g+1:=⟨fuel - 1,by omega⟩
  simp only [List.length_cons] at h1 hf
  have hcl:=v.calls
  have hdk:=v.docks
  have hsl:s.length < y.f_Calls.length:=by omega
  have hsc:=costV_bd v s hs
  have hne:(((s.length:Nat):Int) == ((y.f_Calls.length:Nat):Int))=false:=by rw [beq_eq_false_iff_ne];omega
  rw [g_berth_search_walk,hne,cond_false,if_pos ⟨by omega,by omega⟩]
  rw [opt_cons hsl] at hd
  obtain ⟨hO,hR⟩:=List.cons.inj hd
  have hRm:∀ P,P∈R→∀ t,t∈P→StayOk y t:=fun P hP=>(optA_ok v hn P (by rw [← hR] at hP;exact List.mem_of_mem_drop hP)).1
  have hcc:=v.call s.length hsl
  have hrow:=hdays s.length hsl
  have hr:=hrest (s.length+1) (by omega)
  rw [hR] at hr
  generalize hce:y.f_Calls.getD s.length TCall.d=c at hO hcc hrow
  have leafOk:∀ (l:List TStay),(∀ t,t∈l→StayOk y t)→∀ p,p∈leaves y (l :: R) s (costV y s)→0≤p.1∧p.2.length=y.f_Calls.length:=fun l hl p hp =>
   ⟨leaves_pos v (R:=l :: R) (fun P hP=>by
    rcases List.mem_cons.1 hP with h | h
    ·rw [h];exact hl
    ·exact hRm P h) hsc.1 p hp,by rw [leaves_len y _ _ _ p hp];simp only [List.length_cons];omega⟩
  have ih:∀ (x:TStay) (q:Leaf),StayOk y x→QOk y.f_Calls.length q→(q.1 < 0∨costV y s+priceV y x+rest.getD (s.length+1) 0 < q.1) →
    g_berth_search_walk N g ((s.length+1:Nat):Int) (costV y s+priceV y x) y.f_Docks y.f_Calls y.f_Sea y.f_Last (fl q) (cs q) days rest (s ++ [x]) q.2=some (outS y days rest (s ++ [x]) (pick q (leaves y R (s ++ [x]) (costV y s+priceV y x)))):=fun x q hx h2 h3=>by
   have hcx:costV y (s ++ [x])=costV y s+priceV y x:=by rw [costV_app];simp [costV]
   have hl1:(s ++ [x]).length=s.length+1:=by simp
   have:=walk_eq R (s ++ [x]) g q (by rw [hl1];omega) (by rw [hl1];exact hR) (fun t ht=>by
    rcases List.mem_append.1 ht with h | h
    ·exact hs t h
    ·rw [List.mem_singleton.1 h];exact hx) h2 (by rw [hl1,hcx];exact h3) (by omega)
   rw [hl1,hcx] at this
   exact this
  -- one dock after the other
  have docks:∀ k i fuel q,i+k=y.f_Docks.length→k < fuel→QOk y.f_Calls.length q →
    g_berth_search_walk_L1 N (s.length:Int) (costV y s) y.f_Docks y.f_Calls days rest (g_berth_search_walk N g) fuel y.f_Docks y.f_Calls y.f_Sea y.f_Last s (fl q) q.2 (cs q) (i:Int) =
     some (outS y days rest s (pick q (leaves y ((y.f_Docks.drop i).flatMap (dockOpt y c) :: R) s (costV y s)))):=by
   intro k
   induction k with
   | zero =>
    intro i fuel q h hf hq
    obtain ⟨f,rfl⟩:∃ f,fuel=f+1:=⟨fuel - 1,by omega⟩
    have:i=y.f_Docks.length:=by omega
    subst this
    simp only [g_berth_search_walk_L1,dec_nlt,cond_false,List.drop_length,List.flatMap_nil,leaves,pick_nil]
    rfl
   | succ k ihk =>
    intro i fuel q h hf hq
    obtain ⟨f,rfl⟩:∃ f,fuel=f+1:=⟨fuel - 1,by omega⟩
    have hi:i < y.f_Docks.length:=by omega
    have hrl2:(rowD y s.length).length=y.f_Docks.length:=by unfold rowD;simp
    have hP:(rowD y s.length).getD i []=possV y c (y.f_Docks.getD i TDock.d):=by unfold rowD;rw [hce];simp [List.getD,hi]
    rw [g_berth_search_walk_L1]
    simp only [dec_lt hi,cond_true,if_pos (inb hi),toNat_nat,if_pos (show 0≤(s.length:Int)∧(s.length:Int) < ((days.length:Nat):Int) from ⟨by omega,by omega⟩),hrow,hrl2]
    rw [cons_drop TDock.d hi,List.flatMap_cons,leaves_app,pick_app]
    have hPl:=poss_len y c (y.f_Docks.getD i TDock.d)
    have hPb:∀ k,k∈possV y c (y.f_Docks.getD i TDock.d)→StayOk y (stayOf c (y.f_Docks.getD i TDock.d) k)∧priceV y (stayOf c (y.f_Docks.getD i TDock.d) k)=lateV c k∧0≤k∧k≤1000:=fun k hk=>by
     rw [← hce] at hk ⊢
     refine ⟨stayOf_ok hn hsl hk,?_,poss_bd hk⟩
     unfold priceV
     rw [cOf_at hn hsl];rfl
    have hPu:=poss_up y c (y.f_Docks.getD i TDock.d)
    have hdo:dockOpt y c (y.f_Docks.getD i TDock.d)=(possV y c (y.f_Docks.getD i TDock.d)).map (stayOf c (y.f_Docks.getD i TDock.d)):=rfl
    rw [hdo]
    generalize hde:y.f_Docks.getD i TDock.d=d at hP hPl hPb hPu ⊢
    generalize possV y c d=P at hP hPl hPb hPu ⊢
    -- one day after the other
    have daysL:∀ k j fuel q,j+k=P.length→k < fuel→QOk y.f_Calls.length q →
      g_berth_search_walk_L2 N (s.length:Int) (costV y s) y.f_Docks y.f_Calls days rest (i:Int) (g_berth_search_walk N g) (g_berth_search_walk_L1 N (s.length:Int) (costV y s) y.f_Docks y.f_Calls days rest (g_berth_search_walk N g) f) fuel y.f_Docks y.f_Calls y.f_Sea y.f_Last s (fl q) q.2 (cs q) (j:Int) =
       some (outS y days rest s (pick (pick q (leaves y ((P.drop j).map (stayOf c d) :: R) s (costV y s))) (leaves y ((y.f_Docks.drop (i+1)).flatMap (dockOpt y c) :: R) s (costV y s)))):=by
     intro k
     induction k with
     | zero =>
      intro j fuel q h hf hq
      obtain ⟨f2,rfl⟩:∃ f2,fuel=f2+1:=⟨fuel - 1,by omega⟩
      have:j=P.length:=by omega
      subst this
      simp only [g_berth_search_walk_L2,toNat_nat,hrow,hP,dec_nlt,cond_false,List.drop_length,List.map_nil,g_berth_search_walk_J3,w64_succ (show i < 9223372036854775807 by omega)]
      rw [ihk (i+1) f q (by omega) (by omega) hq]
      rfl
     | succ k ihj =>
      intro j fuel q h hf hq
      obtain ⟨f2,rfl⟩:∃ f2,fuel=f2+1:=⟨fuel - 1,by omega⟩
      have hj:j < P.length:=by omega
      obtain ⟨hxok,hxp,hk0,hk1⟩:=hPb _ (getD_mem P j 0 hj)
      have hlb:=late_bd hcc hk1
      have hnil:nqF (fl q)=none→0 < q.2.length:=fun h=>by
       rcases hq with h2 | h2
       ·omega
       ·unfold fl at h;rw [decide_eq_false (by omega)] at h;cases h
      rw [g_berth_search_walk_L2]
      simp only [toNat_nat,hrow,hP,dec_lt hj,cond_true,if_pos (inb hj),hce,hde,late_eq hcc hk0 hk1,Option.bind_some,if_pos hnil,w64_succ (show s.length < 9223372036854775807 by omega)]
      rw [if_pos (fun _=>⟨by omega,by omega⟩),w64_eq (n:=costV y s+lateV c (P.getD j 0)) (by omega) (by omega),w64_eq (by omega) (by omega)]
      generalize hnow:costV y s+lateV c (P.getD j 0)=now at *
      have hx:(⟨c.f_Name,d.f_Name,P.getD j 0⟩:TStay)=stayOf c d (P.getD j 0):=rfl
      have hlx:leaves y ((P.drop j).map (stayOf c d) :: R) s (costV y s)=cond (s.any fun z=>ovB y z (stayOf c d (P.getD j 0))) [] (leaves y R (s ++ [stayOf c d (P.getD j 0)]) now) ++ leaves y ((P.drop (j+1)).map (stayOf c d) :: R) s (costV y s):=by
       rw [cons_drop 0 hj,← hnow,← hxp];rfl
      by_cases hpr:0≤q.1∧now+rest.getD (s.length+1) 0≥q.1
      ·have hc:cs q=q.1:=if_pos hpr.1
       have hfl:fl q=true:=decide_eq_true hpr.1
       have ht:(cond (!nqB (nqF (fl q))) (decide (now+rest.getD (s.length+1) 0≥cs q)) false)=true:=by
        rw [hfl,hc];simpa [nqF,nqB] using hpr.2
       rw [ht,cond_true]
       unfold g_berth_search_walk_J3
       rw [w64_succ (by omega),ihk (i+1) f q (by omega) (by omega) hq]
       have hsk:pick q (leaves y ((P.drop j).map (stayOf c d) :: R) s (costV y s))=q:=by
        refine pick_skip _ hpr.1 fun p hp=>?_
        have:=leaves_ge y ((P.drop j).map (stayOf c d) :: R) s (costV y s) (lateV c (P.getD j 0)+rest.getD (s.length+1) 0) ⟨_,_,Int.le_refl _,fun x hx=>?_,hr.1⟩ p hp
        ·omega
        ·obtain ⟨e,he,rfl⟩:=List.mem_map.1 hx
         rw [(hPb e (List.mem_of_mem_drop he)).2.1]
         refine late_mono hcc ?_
         rw [cons_drop 0 hj] at he
         rcases List.mem_cons.1 he with h | h
         ·rw [h];exact Int.le_refl _
         ·have h3:=hPu.drop (i:=j)
          rw [cons_drop 0 hj] at h3
          exact Int.le_of_lt (List.rel_of_pairwise_cons h3 h)
       rw [hsk]
      ·have ht:(cond (!nqB (nqF (fl q))) (decide (now+rest.getD (s.length+1) 0≥cs q)) false)=false:=by
        by_cases h0:0≤q.1
        ·have hc:cs q=q.1:=if_pos h0
         rw [hc,decide_eq_false (fun h=>hpr ⟨h0,h⟩)]
         cases !nqB (nqF (fl q))<;>rfl
        ·have hfl:fl q=false:=decide_eq_false h0
         rw [hfl];rfl
       rw [ht,cond_false,hx,walkAny_eq v hN hs (by omega) hxok,Option.bind_some,hlx,pick_app]
       have hgo:∀ q',QOk y.f_Calls.length q'→g_berth_search_walk_J4 N (s.length:Int) (costV y s) y.f_Docks y.f_Calls days rest (i:Int) (j:Int) (g_berth_search_walk N g) (g_berth_search_walk_L2 N (s.length:Int) (costV y s) y.f_Docks y.f_Calls days rest (i:Int) (g_berth_search_walk N g) (g_berth_search_walk_L1 N (s.length:Int) (costV y s) y.f_Docks y.f_Calls days rest (g_berth_search_walk N g) f) f2) (g_berth_search_walk_L1 N (s.length:Int) (costV y s) y.f_Docks y.f_Calls days rest (g_berth_search_walk N g) f) y.f_Docks y.f_Calls y.f_Sea y.f_Last s (fl q') q'.2 (cs q') =
         some (outS y days rest s (pick (pick q' (leaves y ((P.drop (j+1)).map (stayOf c d) :: R) s (costV y s))) (leaves y ((y.f_Docks.drop (i+1)).flatMap (dockOpt y c) :: R) s (costV y s)))):=fun q' hq'=>by
        unfold g_berth_search_walk_J4
        rw [w64_succ (by omega)]
        exact ihj (j+1) f2 q' (by omega) (by omega) hq'
       cases hov:s.any fun z=>ovB y z (stayOf c d (P.getD j 0))
       ·rw [cond_false,cond_false,if_pos (by omega)]
        have hi2:=ih (stayOf c d (P.getD j 0)) q hxok hq (by rw [hxp,hnow];omega)
        rw [hxp,hnow] at hi2
        rw [hi2,Option.bind_some]
        have hst:(outS y days rest (s ++ [stayOf c d (P.getD j 0)]) (pick q (leaves y R (s ++ [stayOf c d (P.getD j 0)]) now))).f_stays=s ++ [stayOf c d (P.getD j 0)]:=rfl
        rw [hst,if_pos ⟨Nat.zero_le _,by simp⟩,if_pos (by omega),if_pos (by simp),List.take_left]
        refine hgo _ (pickQ_ok _ hq fun p hp=>?_)
        have h7:=leaves_len y R _ _ p hp
        have h8:=leaves_pos v hRm (by omega) p hp
        refine ⟨h8,by rw [h7];simp only [List.length_append,List.length_cons,List.length_nil];omega⟩
       ·rw [cond_true,cond_true,pick_nil]
        exact hgo q hq
    have:=daysL P.length 0 N q (by omega) (by omega) hq
    rw [List.drop_zero] at this
    exact this
  have:=docks y.f_Docks.length 0 N q (by omega) (by omega) hq
  rw [List.drop_zero] at this
  rw [← hO]
  exact this
end
end Go.Den
