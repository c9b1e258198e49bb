/- The plain law: the Lean function of the law returns true for every input, and what it needs. No conditions. -/
import Derived.Test.YtlgddcmiekcdiaaGreatBerthWorstDen
set_option linter.unusedVariables false
set_option linter.unusedSimpArgs false
namespace Go.Den
open Go.Ab
theorem Sk (n:Int):ag n=if n % 18446744073709551616≥9223372036854775808 then n % 18446744073709551616 - 18446744073709551616 else n % 18446744073709551616:=by
 have e:ag n=(if (true && decide (n % 18446744073709551616≥9223372036854775808))=true then n % 18446744073709551616 - 18446744073709551616 else n % 18446744073709551616):=rfl
 rw [e];simp
theorem aN {n:Int} (h1:-9223372036854775808≤n) (h2:n≤9223372036854775807):ag n=n:=by
 rw [Sk];split<;>omega
theorem yH {m:Nat} (h:m≤9223372036854775807):ag (m:Int)=m:=aN (by omega) (by omega)
theorem aK {m:Nat} (h:m < 9223372036854775807):ag ((m:Int)+1)=((m+1:Nat):Int):=by rw [aN (by omega) (by omega)];simp
theorem toList_inj {a b:ByteArray} (h:a.toList=b.toList):a=b:=by
 have e:∀ x:ByteArray,x.toList=x.data.toList:=fun x=>ByteArray.toList_eq x
 rw [e,e] at h
 cases a;cases b;simp_all [Array.toList_inj]
theorem Nw {a b:ByteArray}:lk a b=true↔a=b:=by
 unfold lk;simp only [beq_iff_eq]
 exact ⟨toList_inj,fun h=>h ▸ rfl⟩
def scan {R:Type} (f:Nat→Option R) (z:R):Nat→Nat→R
 | 0,_=>z
 | k+1,m=>match f m with
  | some r=>r
  | none=>scan f z k (m+1)
theorem Hi {R:Type} {L:Nat→Int→Option R} (f:Nat→Option R) (z:R) {n:Nat}
  (Bg:∀ fuel m,m < n→L (fuel+1) (m:Int)=(match f m with | some r=>some r | none=>L fuel ((m+1:Nat):Int)))
  (ER:∀ fuel,L (fuel+1) (n:Int)=some z):∀ k m fuel,m+k=n→k < fuel→L fuel (m:Int)=some (scan f z k m)
 | 0,m,fuel,h,hf=>by
  obtain ⟨g,rfl⟩:∃ g,fuel=g+1:=⟨fuel - 1,by omega⟩
  have:m=n:=by omega
  subst this;exact ER g
 | k+1,m,fuel,h,hf=>by
  obtain ⟨g,rfl⟩:∃ g,fuel=g+1:=⟨fuel - 1,by omega⟩
  rw [Bg g m (by omega)]
  unfold scan
  cases XE:f m with
  | some r=>rfl
  | none=>exact Hi f z Bg ER k (m+1) g (by omega) (by omega)
theorem qf {R:Type} {L:Nat→Int→Option R} (f:Nat→Option R) (z:R) {n fuel:Nat} (hf:n < fuel)
  (Bg:∀ fuel m,m < n→L (fuel+1) (m:Int)=(match f m with | some r=>some r | none=>L fuel ((m+1:Nat):Int)))
  (ER:∀ fuel,L (fuel+1) (n:Int)=some z):L fuel 0=some (scan f z n 0) :=
 Hi f z Bg ER n 0 fuel (by omega) hf
theorem JJ {R:Type} {f:Nat→Option R} {z:R}:∀ (k m:Nat),(∃ i r,m≤i∧i < m+k∧f i=some r∧(∀ j,m≤j→j < i→f j=none)∧scan f z k m=r)∨((∀ i,m≤i→i < m+k→f i=none)∧scan f z k m=z)
 | 0,m=>.inr ⟨fun i h1 h2=>by omega,rfl⟩
 | k+1,m=>by
  cases hm:f m with
  | some r=>exact .inl ⟨m,r,aF _,by omega,hm,fun j h1 h2=>by omega,by unfold scan;rw [hm]⟩
  | none =>
   have e:scan f z (k+1) m=scan f z k (m+1):=by rw [scan,hm]
   rcases JJ (f:=f) (z:=z) k (m+1) with ⟨i,r,h1,h2,h3,h4,h5⟩ | ⟨h1,h2⟩
   ·refine .inl ⟨i,r,by omega,by omega,h3,fun j hj1 Tm=>?_,e.trans h5⟩
    by_cases hj:j=m
    ·subst hj;exact hm
    ·exact h4 j (by omega) Tm
   ·refine .inr ⟨fun i hi1 Tg=>?_,e.trans h2⟩
    by_cases hj:i=m
    ·subst hj;exact hm
    ·exact h1 i (by omega) (by omega)
theorem Fv {R:Type} {L:Nat→Int→R} (f:Nat→Option R) (z:R) {n:Nat}
  (Bg:∀ fuel m,m < n→L (fuel+1) (m:Int)=(match f m with | some r=>r | none=>L fuel ((m+1:Nat):Int)))
  (ER:∀ fuel,L (fuel+1) (n:Int)=z):∀ k m fuel,m+k=n→k < fuel→L fuel (m:Int)=scan f z k m
 | 0,m,fuel,h,hf=>by
  obtain ⟨g,rfl⟩:∃ g,fuel=g+1:=⟨fuel - 1,by omega⟩
  have:m=n:=by omega
  subst this;exact ER g
 | k+1,m,fuel,h,hf=>by
  obtain ⟨g,rfl⟩:∃ g,fuel=g+1:=⟨fuel - 1,by omega⟩
  rw [Bg g m (by omega)]
  unfold scan
  cases XE:f m with
  | some r=>rfl
  | none=>exact Fv f z Bg ER k (m+1) g (by omega) (by omega)
theorem JK {R:Type} {L:Nat→Int→R} (f:Nat→Option R) (z:R) {n fuel:Nat} (hf:n < fuel)
  (Bg:∀ fuel m,m < n→L (fuel+1) (m:Int)=(match f m with | some r=>r | none=>L fuel ((m+1:Nat):Int)))
  (ER:∀ fuel,L (fuel+1) (n:Int)=z):L fuel 0=scan f z n 0 :=
 Fv f z Bg ER n 0 fuel (by omega) hf
theorem Fw {p:Nat→Bool}:∀ (n m:Nat),decide (scan (fun k=>cond (p k) (some (k:Int)) none) (-1) n m≥0)=scan (fun k=>cond (p k) (some true) none) false n m
 | 0,m=>rfl
 | n+1,m=>by
  unfold scan
  cases p m with
  | true=>simp
  | false=>exact Fw n (m+1)
theorem Hj {R:Type} {p:Nat→Bool} {a z:R}:∀ (n m:Nat),scan (fun k=>cond (p k) (some a) none) z n m=cond (scan (fun k=>cond (p k) (some true) none) false n m) a z
 | 0,m=>rfl
 | n+1,m=>by
  unfold scan
  cases p m with
  | true=>rfl
  | false=>exact Hj n (m+1)
theorem yI {α:Type} (q:Bool) (a b:α):cond q (some a) (some b)=some (cond q a b):=by cases q<;>rfl
theorem Nx {α:Type} (l:List α) (m k:Nat) (d:α) (h:k < m):((l.take m).drop 0).getD k d=l.getD k d:=by
 simp [List.getD,h]
theorem xY {α:Type} (l:List α) (m:Nat) (d:α) (h:m < l.length):l.getD m d∈l:=by
 simp [List.getD,h]
theorem sq_nonneg (x:Int):0≤x * x:=by
 by_cases h:0≤x
 ·exact Int.mul_nonneg h h
 ·have:=Int.mul_nonneg (show 0≤-x by omega) (show 0≤-x by omega)
  rwa [Int.neg_mul_neg] at this
theorem Ty {x M:Int} (h1:-M≤x) (h2:x≤M):x * x≤M * M:=by
 by_cases h:0≤x
 ·exact Int.mul_le_mul h2 h2 h (by omega)
 ·have:=Int.mul_le_mul (show -x≤M by omega) (show -x≤M by omega) (by omega) (by omega)
  rwa [Int.neg_mul_neg] at this
theorem Sl {a b:Nat} (ha:a < 9223372036854775808) (hb:b < 9223372036854775808):ss .i64 (a:Int) (b:Int)=((a ||| b:Nat):Int):=by
 have h:a ||| b < 2 ^ 63:=Nat.or_lt_two_pow (by omega) (by omega)
 have e:(BitVec.ofInt IntKind.i64.bits (a:Int) ||| BitVec.ofInt IntKind.i64.bits (b:Int)).toNat=a ||| b:=by
  show (BitVec.ofInt 64 (a:Int) ||| BitVec.ofInt 64 (b:Int)).toNat=_
  rw [BitVec.ofInt_natCast,BitVec.ofInt_natCast,BitVec.toNat_or,BitVec.toNat_ofNat,BitVec.toNat_ofNat,Nat.mod_eq_of_lt (by omega),Nat.mod_eq_of_lt (by omega)]
 unfold ss
 rw [e]
 exact yH (by omega)
theorem PQ {k:Nat} (hk:k < 63):gJ .i64 1 (k:Int)=((2 ^ k:Nat):Int):=by
 have h:2 ^ k < 2 ^ 63:=Nat.pow_lt_pow_right (by omega) hk
 have e:min ((k:Int).toNat) IntKind.i64.bits=k:=by
  show min k 64=k
  omega
 unfold gJ
 rw [e]
 have e2:(1:Int) * 2 ^ k=((2 ^ k:Nat):Int):=by simp
 rw [e2]
 exact yH (by omega)
theorem an (m:Nat):((m:Int)).toNat=m:=rfl
theorem oE {m n:Nat} (h:m < n):0≤(m:Int)∧(m:Int) < ((n:Nat):Int):=⟨by omega,by omega⟩
theorem dec_lt {m n:Nat} (h:m < n):decide ((m:Int) < ((n:Nat):Int))=true:=by simp;omega
theorem dV {n:Nat}:decide ((n:Int) < ((n:Nat):Int))=false:=by simp
end Go.Den
namespace Go.Den
open Go.Ab
theorem sY (n:Int):IntKind.u16.wrap n=n % 65536:=by
 have e:IntKind.u16.wrap n=(if (false && decide (n % 65536≥32768))=true then n % 65536 - 65536 else n % 65536):=rfl
 rw [e];simp
theorem wrap32 (n:Int):IntKind.u32.wrap n=n % 4294967296:=by
 have e:IntKind.u32.wrap n=(if (false && decide (n % 4294967296≥2147483648))=true then n % 4294967296 - 4294967296 else n % 4294967296):=rfl
 rw [e];simp
theorem wrap64 (n:Int):IntKind.u64.wrap n=n % 18446744073709551616:=by
 have e:IntKind.u64.wrap n=(if (false && decide (n % 18446744073709551616≥9223372036854775808))=true then n % 18446744073709551616 - 18446744073709551616 else n % 18446744073709551616):=rfl
 rw [e];simp
theorem nz {n:Int} (h:0≤n) (h2:n < 65536):IntKind.u16.wrap n=n:=by rw [sY];omega
theorem cC {n:Int} (h:0≤n) (h2:n < 4294967296):IntKind.u32.wrap n=n:=by rw [wrap32];omega
theorem gU {n:Int} (h:0≤n) (h2:n < 18446744073709551616):IntKind.u64.wrap n=n:=by rw [wrap64];omega
theorem Bh (n:Int):oy .u32 n 16=n / 65536:=by
 unfold oy
 have:(2:Int) ^ (min (16:Int).toNat IntKind.u32.bits)=65536:=by decide
 rw [this,Int.fdiv_eq_ediv_of_nonneg _ (by decide)]
theorem JL (n:Int):oy .u64 n 16=n / 65536:=by
 unfold oy
 have:(2:Int) ^ (min (16:Int).toNat IntKind.u64.bits)=65536:=by decide
 rw [this,Int.fdiv_eq_ediv_of_nonneg _ (by decide)]
theorem Ny (n:Int):oy .i64 n 16=n / 65536:=by
 unfold oy
 have:(2:Int) ^ (min (16:Int).toNat IntKind.i64.bits)=65536:=by decide
 rw [this,Int.fdiv_eq_ediv_of_nonneg _ (by decide)]
theorem Fx {n:Int} (h:0≤n) (h2:n < 65536):gJ .u32 n 16=n * 65536:=by
 unfold gJ
 have:(2:Int) ^ (min (16:Int).toNat IntKind.u32.bits)=65536:=by decide
 rw [this,wrap32];omega
theorem Fy {n:Int} (h:0≤n) (h2:n < 281474976710656):gJ .u64 n 16=n * 65536:=by
 unfold gJ
 have:(2:Int) ^ (min (16:Int).toNat IntKind.u64.bits)=65536:=by decide
 rw [this,wrap64];omega
theorem PR {n:Nat} (a b:Nat) (ha:a < 2 ^ n) (hb:b < 2 ^ n):(BitVec.ofInt n (a:Int) ||| BitVec.ofInt n (b:Int)).toNat=a ||| b:=by
 rw [BitVec.ofInt_natCast,BitVec.ofInt_natCast,BitVec.toNat_or,BitVec.toNat_ofNat,BitVec.toNat_ofNat,Nat.mod_eq_of_lt ha,Nat.mod_eq_of_lt hb]
theorem bv_and {n:Nat} (a b:Nat) (ha:a < 2 ^ n) (hb:b < 2 ^ n):(BitVec.ofInt n (a:Int) &&& BitVec.ofInt n (b:Int)).toNat=a &&& b:=by
 rw [BitVec.ofInt_natCast,BitVec.ofInt_natCast,BitVec.toNat_and,BitVec.toNat_ofNat,BitVec.toNat_ofNat,Nat.mod_eq_of_lt ha,Nat.mod_eq_of_lt hb]
theorem Ai (a b k:Nat) (hb:b < 2 ^ k):(a * 2 ^ k) ||| b=a * 2 ^ k+b:=by
 have:=Nat.shiftLeft_add_eq_or_of_lt hb a
 rw [Nat.shiftLeft_eq] at this
 exact this.symm
theorem Mi {a b:Int} (ha:0≤a) (QU:a < 65536) (hb:0≤b) (oc:b < 65536):ss .u32 (a * 65536) b=a * 65536+b:=by
 obtain ⟨a,rfl⟩:=Int.eq_ofNat_of_zero_le ha
 obtain ⟨b,rfl⟩:=Int.eq_ofNat_of_zero_le hb
 unfold ss
 have e:((a:Int) * 65536)=((a * 2 ^ 16:Nat):Int):=by simp
 rw [e,show IntKind.u32.bits=32 from rfl,PR _ _ (by omega) (by omega),Ai _ _ 16 (by omega),wrap32]
 omega
theorem Ij {a b:Int} (ha:0≤a) (QU:a < 281474976710656) (hb:0≤b) (oc:b < 65536):ss .u64 (a * 65536) b=a * 65536+b:=by
 obtain ⟨a,rfl⟩:=Int.eq_ofNat_of_zero_le ha
 obtain ⟨b,rfl⟩:=Int.eq_ofNat_of_zero_le hb
 unfold ss
 have e:((a:Int) * 65536)=((a * 2 ^ 16:Nat):Int):=by simp
 rw [e,show IntKind.u64.bits=64 from rfl,PR _ _ (by omega) (by omega),Ai _ _ 16 (by omega),wrap64]
 omega
theorem PS {a:Int} (ha:0≤a) (QU:a < 18446744073709551616):Jx .u64 a 65535=a % 65536:=by
 obtain ⟨a,rfl⟩:=Int.eq_ofNat_of_zero_le ha
 unfold Jx
 have e:(65535:Int)=((65535:Nat):Int):=rfl
 rw [e,show IntKind.u64.bits=64 from rfl,bv_and _ _ (by omega) (by omega),show (65535:Nat)=2 ^ 16 - 1 from rfl,Nat.and_two_pow_sub_one_eq_mod,wrap64]
 omega
def bz:List Int→Int
 | []=>0
 | x :: l=>x+65536 * bz l
def U (l:List Int):Prop:=∀ x,x∈l→0≤x∧x < 65536
def lm (n:Nat):List Int:=if h:n=0 then [] else ((n % 65536:Nat):Int) :: lm (n / 65536)
termination_by n
decreasing_by omega
def pw (k:Nat):Int:=65536 ^ k
theorem yJ:pw 0=1:=rfl
theorem gC (k:Nat):pw (k+1)=65536 * pw k:=by unfold pw;rw [Int.pow_succ];omega
theorem k7 (k:Nat):0 < pw k:=by
 induction k with
 | zero=>decide
 | succ k ih=>rw [gC];omega
theorem Fz (j k:Nat):pw (j+k)=pw j * pw k:=Int.pow_add _ _ _
theorem U.nil:U []:=fun x h=>by simp at h
theorem U.cons {x:Int} {l:List Int} (h1:0≤x) (h2:x < 65536) (h:U l):U (x :: l):=fun y hy=>by
 rcases kz.1 hy with rfl | hy
 ·exact ⟨h1,h2⟩
 ·exact h y hy
theorem U.tail {x:Int} {l:List Int} (h:U (x :: l)):U l:=fun y hy=>h y (List.mem_cons_of_mem _ hy)
theorem U.head {x:Int} {l:List Int} (h:U (x :: l)):0≤x∧x < 65536:=h x (by simp)
theorem U.append {l m:List Int} (h1:U l) (h2:U m):U (l ++ m):=fun y hy=>by
 rcases List.mem_append.1 hy with hy | hy
 ·exact h1 y hy
 ·exact h2 y hy
theorem U.left {l m:List Int} (h:U (l ++ m)):U l:=fun y hy=>h y (List.mem_append_left _ hy)
theorem U.right {l m:List Int} (h:U (l ++ m)):U m:=fun y hy=>h y (List.mem_append_right _ hy)
theorem U.one {x:Int} (h1:0≤x) (h2:x < 65536):U [x]:=U.cons h1 h2 U.nil
theorem U.take {l:List Int} (h:U l) (k:Nat):U (l.take k):=fun y hy=>h y (List.mem_of_mem_take hy)
theorem U.drop {l:List Int} (h:U l) (k:Nat):U (l.drop k):=fun y hy=>h y (List.mem_of_mem_drop hy)
theorem U.getD {l:List Int} (h:U l) (i:Nat):0≤l.getD i 0∧l.getD i 0 < 65536:=by
 by_cases hi:i < l.length
 ·exact h _ (xY l i 0 hi)
 ·rw [fk,n8 (by omega)];decide
theorem U.set {l:List Int} (h:U l) (i:Nat) {x:Int} (h1:0≤x) (h2:x < 65536):U (l.set i x):=fun y hy=>by
 rcases List.mem_or_eq_of_mem_set hy with hy | rfl
 ·exact h y hy
 ·exact ⟨h1,h2⟩
theorem U.replicate (n:Nat):U (List.replicate n 0):=fun y hy=>by
 rw [(List.mem_replicate.1 hy).2];decide
theorem k8 (l m:List Int):bz (l ++ m)=bz l+pw l.length * bz m:=by
 induction l with
 | nil=>simp [bz,yJ]
 | cons x l ih =>
  simp only [List.cons_append,bz,ih,ye,gC]
  rw [ic,← kA];omega
theorem qo (x:Int):bz [x]=x:=by simp [bz]
theorem jO (n:Nat):bz (List.replicate n 0)=0:=by
 induction n with
 | zero=>rfl
 | succ n ih=>simp [List.replicate_succ,bz,ih]
theorem U.oG:∀ {l:List Int},U l→0≤bz l
 | [],_=>by simp [bz]
 | x :: l,h=>by have:=U.oG h.tail;have:=h.head;simp only [bz];omega
theorem U.lt:∀ {l:List Int},U l→bz l < pw l.length
 | [],_=>by simp [bz,yJ]
 | x :: l,h=>by have:=U.lt h.tail;have:=h.head;simp only [bz,ye,gC];omega
theorem mD:∀ (l:List Int) (i:Nat) (x:Int),i < l.length→bz (l.set i x)=bz l+(x - l.getD i 0) * pw i
 | [],i,x,h=>by simp at h
 | y :: l,0,x,h=>by simp [bz,yJ];omega
 | y :: l,i+1,x,h=>by
  simp only [List.set_cons_succ,bz,mD l i x (by simpa using h),gC]
  rw [show (y :: l).getD (i+1) 0=l.getD i 0 from rfl,ic,show (x - l.getD i 0) * (65536 * pw i)=65536 * ((x - l.getD i 0) * pw i) by rw [Int.mul_left_comm]]
  omega
theorem cF (l:List Int) (i:Nat) (h:i < l.length):bz (l.take (i+1))=bz (l.take i)+l.getD i 0 * pw i:=by
 have e:l.take (i+1)=l.take i ++ [l.getD i 0]:=by
  rw [List.take_add_one];simp [List.getD,h]
 rw [e,k8,qo,n9,Nat.min_eq_left (by omega),gB]
theorem m8 (l:List Int) (i:Nat) (h:i < l.length):bz (l.drop i)=l.getD i 0+65536 * bz (l.drop (i+1)):=by
 rw [List.drop_eq_getElem_cons h];simp [bz,List.getD,h]
theorem qp (l:List Int) (i:Nat) (h:i≤l.length):bz l=bz (l.take i)+pw i * bz (l.drop i):=by
 have:=k8 (l.take i) (l.drop i)
 rwa [List.take_append_drop,n9,Nat.min_eq_left h] at this
theorem iq:lm 0=[]:=by rw [lm];rfl
theorem ri {n:Nat} (h:n≠0):lm n=((n % 65536:Nat):Int) :: lm (n / 65536):=by rw [lm,dif_neg h]
theorem qM (n:Nat):U (lm n):=by
 induction n using Nat.strongRecOn with
 | _ n ih =>
  by_cases h:n=0
  ·subst h;rw [iq];exact U.nil
  ·rw [ri h];exact U.cons (by omega) (by omega) (ih _ (by omega))
theorem hO (n:Nat):bz (lm n)=n:=by
 induction n using Nat.strongRecOn with
 | _ n ih =>
  by_cases h:n=0
  ·subst h;rw [iq];rfl
  ·rw [ri h,bz,ih _ (by omega)];omega
theorem Ld {n:Nat}:lm n=[]↔n=0:=by
 constructor
 ·intro h
  have:=hO n
  rw [h] at this;simp [bz] at this;omega
 ·rintro rfl;exact iq
theorem lV {n:Nat}:0 < (lm n).length↔n≠0:=by
 rw [List.length_pos_iff,ne_eq,Ld]
theorem jl {n k:Nat}:(lm n).length≤k↔(n:Int) < pw k:=by
 induction k generalizing n with
 | zero =>
  rw [yJ]
  constructor
  ·intro h;have:lm n=[]:=List.length_eq_zero_iff.1 (by omega);rw [Ld] at this;omega
  ·intro h;have:n=0:=by omega
   rw [Ld.2 this];simp
 | succ k ih =>
  by_cases h:n=0
  ·subst h;rw [iq];have:=k7 (k+1);simp;omega
  ·rw [ri h,ye,gC]
   have:=ih (n:=n / 65536)
   constructor
   ·intro h;have:=this.1 (by omega);omega
   ·intro h;have:=this.2 (by omega);omega
theorem Sm {n:Nat} (h:n≠0):∃ l x,lm n=l ++ [x]∧x≠0∧U l∧0≤x∧x < 65536:=by
 induction n using Nat.strongRecOn with
 | _ n ih =>
  rw [ri h]
  by_cases h2:n / 65536=0
  ·rw [h2,iq];exact ⟨[],_,rfl,by omega,U.nil,by omega,by omega⟩
  ·obtain ⟨l,x,e,hx,hl,h3,h4⟩:=ih _ (by omega) h2
   rw [e];exact ⟨_ :: l,x,rfl,hx,U.cons (by omega) (by omega) hl,h3,h4⟩
theorem Mj:∀ {l:List Int},U l→(∀ m x,l=m ++ [x]→x≠0)→lm (bz l).toNat=l
 | [],_,_=>by simp [bz,iq]
 | x :: l,h,hn=>by
  have h1:=h.head
  have h2:=h.tail.oG
  have e:bz (x :: l)=x+65536 * bz l:=rfl
  have fP:(bz (x :: l)).toNat≠0:=by
   rw [e]
   cases l with
   | nil=>have:=hn [] x rfl;simp [bz];omega
   | cons y l =>
    have hl:=Mj (l:=y :: l) h.tail fun m z hz=>hn (x :: m) z (by rw [hz];rfl)
    have:bz (y :: l)≠0:=fun h0=>by rw [h0] at hl;simp [iq] at hl
    omega
  rw [ri fP]
  have hl:=Mj (l:=l) h.tail fun m z hz=>hn (x :: m) z (by rw [hz];rfl)
  have e1:(((bz (x :: l)).toNat % 65536:Nat):Int)=x:=by rw [e];omega
  have e2:(bz (x :: l)).toNat / 65536=(bz l).toNat:=by rw [e];omega
  rw [e1,e2,hl]
theorem Mk {N:Nat}:∀ (fuel:Nat) (l:List Int),U l→l.length < fuel→l.length < 9223372036854775807→mP N fuel l=some (lm (bz l).toNat)
 | 0,l,_,h,_=>by omega
 | fuel+1,l,hU,h,hs=>by
  rw [mP]
  rcases List.eq_nil_or_concat l with rfl | ⟨m,x,SZ⟩
  ·simp [bz,iq]
  ·rw [List.concat_eq_append] at SZ
   subst SZ
   have hlen:(m ++ [x]).length=m.length+1:=by simp
   have e1:ag ((((m ++ [x]).length:Nat):Int) - 1)=(m.length:Int):=by rw [hlen,aN (by omega) (by rw [hlen] at hs;omega)];omega
   have e2:(m ++ [x]).getD m.length 0=x:=by simp [List.getD]
   have e3:decide ((((m ++ [x]).length:Nat):Int) > 0)=true:=by simp
   rw [e1,e3]
   rw [if_pos (fun _=>⟨by omega,by rw [hlen];omega⟩),cond_true]
   simp only [an,e2]
   cases hx:(x == 0) with
   | true =>
    have Pk:x=0:=by simpa using hx
    subst Pk
    rw [cond_true,if_pos ⟨Nat.zero_le _,by rw [hlen];omega⟩,if_pos (by omega)]
    have e4:((m ++ [(0:Int)]).take m.length).drop 0=m:=by simp
    rw [e4,Mk fuel m hU.left (by rw [hlen] at h;omega) (by rw [hlen] at hs;omega),k8,qo];simp
   | false =>
    rw [cond_false,Mj hU]
    intro m' x' he
    have:=(List.append_inj' he rfl).2
    simp at this hx
    omega
theorem lW {N:Nat} {l:List Int} (hU:U l) (hN:l.length < N) (hs:l.length < 9223372036854775807):gK N l=some (lm (bz l).toNat):=Mk N l hU hN hs
end Go.Den
namespace Go.Den
open Go.Ab
abbrev SM (n:Nat):Prop:=n < 10000000000000
def Lf (a b:List Int):Nat→Int
 | 0=>0
 | k+1=>cond (a.getD k 0 != b.getD k 0) (a.getD k 0 - b.getD k 0) (Lf a b k)
def Gx (a b:Nat):Int:=cond ((((lm a).length:Nat):Int) != (((lm b).length:Nat):Int)) ((((lm a).length:Nat):Int) - (((lm b).length:Nat):Int)) (Lf (lm a) (lm b) (lm a).length)
theorem FA {N:Nat} {a b:List Int} (ha:U a) (hb:U b) (hl:a.length=b.length) (hs:SM a.length):∀ (k fuel:Nat),k≤a.length→k < fuel →
  ∃ c,iV N a b fuel ((k:Int) - 1)=some c∧(c < 0↔bz (a.take k) < bz (b.take k))∧(c=0↔bz (a.take k)=bz (b.take k))∧c=Lf a b k
 | 0,fuel,_,hf=>by
  obtain ⟨g,rfl⟩:∃ g,fuel=g+1:=⟨fuel - 1,by omega⟩
  exact ⟨0,by rw [iV];rfl,by simp,by simp,rfl⟩
 | k+1,fuel,hk,hf=>by
  obtain ⟨g,rfl⟩:∃ g,fuel=g+1:=⟨fuel - 1,by omega⟩
  have e:(((k+1:Nat):Int) - 1)=(k:Int):=by omega
  rw [e,iV]
  have hA:=cF a k (by omega)
  have hB:=cF b k (by omega)
  have h1:=ha.getD k
  have h2:=hb.getD k
  have hla:=(ha.take k).lt
  have Wz:=(hb.take k).lt
  have hna:=(ha.take k).oG
  have ZO:=(hb.take k).oG
  rw [n9,Nat.min_eq_left (by omega)] at hla Wz
  have e0:decide ((k:Int)≥0)=true:=by simp
  rw [e0,cond_true,if_pos ⟨by omega,by omega⟩,if_pos ⟨by omega,by omega⟩]
  simp only [an]
  cases hd:(a.getD k 0 != b.getD k 0) with
  | true =>
   have fP:a.getD k 0≠b.getD k 0:=by simpa using hd
   refine ⟨a.getD k 0 - b.getD k 0,?_,?_,?_,by rw [Lf,hd];rfl⟩
   ·rw [cond_true]
    congr 1
    rw [aN (by rw [aN (by omega) (by omega),aN (by omega) (by omega)];omega) (by rw [aN (by omega) (by omega),aN (by omega) (by omega)];omega),aN (by omega) (by omega),aN (by omega) (by omega)]
   ·rw [hA,hB]
    generalize a.getD k 0=x at *
    generalize b.getD k 0=y at *
    rcases Int.lt_or_lt_of_ne fP with h | h
    ·have:=j6 (show x+1≤y by omega) (Int.le_of_lt (k7 k))
     rw [ep] at this
     constructor<;>intro<;>omega
    ·have:=j6 (show y+1≤x by omega) (Int.le_of_lt (k7 k))
     rw [ep] at this
     constructor<;>intro<;>omega
   ·rw [hA,hB]
    generalize a.getD k 0=x at *
    generalize b.getD k 0=y at *
    rcases Int.lt_or_lt_of_ne fP with h | h
    ·have:=j6 (show x+1≤y by omega) (Int.le_of_lt (k7 k))
     rw [ep] at this
     constructor<;>intro<;>omega
    ·have:=j6 (show y+1≤x by omega) (Int.le_of_lt (k7 k))
     rw [ep] at this
     constructor<;>intro<;>omega
  | false =>
   have heq:a.getD k 0=b.getD k 0:=by simpa using hd
   obtain ⟨c,h3,h4,h5,h6⟩:=FA ha hb hl hs k g (by omega) (by omega)
   refine ⟨c,?_,?_,?_,by rw [Lf,hd];exact h6⟩
   ·rw [cond_false,aN (by omega) (by simp only [SM] at hs;omega)];exact h3
   ·rw [hA,hB,heq,h4];omega
   ·rw [hA,hB,heq,h5];omega
theorem yK {a b:Nat} (h:(lm a).length < (lm b).length):a < b:=by
 have h1:=jl (n:=a) (k:=(lm a).length)
 have h2:=jl (n:=b) (k:=(lm a).length)
 have:=h1.1 (aF _)
 have:¬ (b:Int) < pw (lm a).length:=fun h'=>by have:=h2.2 h';omega
 omega
theorem v7 {N:Nat} {a b:Nat} (hN:(lm a).length < N) (ha:SM (lm a).length) (hb:SM (lm b).length):∃ c,mQ N (lm a) (lm b)=some c∧(c < 0↔a < b)∧(c=0↔a=b)∧c=Gx a b:=by
 unfold mQ
 simp only [SM] at ha hb
 cases hl:((((lm a).length:Nat):Int) != (((lm b).length:Nat):Int)) with
 | true =>
  have fP:(lm a).length≠(lm b).length:=by intro h;rw [h] at hl;simp at hl
  refine ⟨_,cond_true _ _,?_,?_,by unfold Gx;rw [hl,cond_true,aN (by omega) (by omega)]⟩
  ·rw [aN (by omega) (by omega)]
   rcases Nat.lt_or_gt_of_ne fP with h | h
   ·have:=yK h;omega
   ·have:=yK h;omega
  ·rw [aN (by omega) (by omega)]
   rcases Nat.lt_or_gt_of_ne fP with h | h
   ·have:=yK h;omega
   ·have:=yK h;omega
 | false =>
  have heq:(lm a).length=(lm b).length:=by simp at hl;omega
  rw [cond_false,aN (by omega) (by omega)]
  obtain ⟨c,h1,h2,h3,h4⟩:=FA (N:=N) (qM a) (qM b) heq ha (lm a).length N (aF _) hN
  rw [List.take_length,heq,List.take_length,hO,hO] at h2 h3
  exact ⟨c,h1,by omega,by omega,by unfold Gx;rw [hl];exact h4⟩
theorem JM {N a b:Nat} (hN:(lm a).length < N) (ha:SM (lm a).length) (hb:SM (lm b).length):mQ N (lm a) (lm b)=some (Gx a b):=by
 obtain ⟨c,h1,_,_,rfl⟩:=v7 hN ha hb
 exact h1
theorem Ml {a b:Nat} (ha:SM (lm a).length) (hb:SM (lm b).length):Gx a b < 0↔a < b:=by
 obtain ⟨c,_,h,_,rfl⟩:=v7 (N:=(lm a).length+1) (by omega) ha hb
 exact h
theorem Mm {N:Nat} {a b:List Int} (ha:U a) (hb:U b) (hl:b.length≤a.length) (hs:SM a.length) (hN:a.length+1 < N):∀ (k x fuel:Nat) (out:List Int) (c:Int),x+k=a.length→k < fuel→out.length=x→U out→0≤c→c≤1 →
  bz out+pw x * c=bz (a.take x)+bz (b.take x)→jG N a b fuel out c (x:Int)=some (lm (bz a+bz b).toNat)
 | 0,x,fuel,out,c,hx,hf,ho,hU,xl,s9,hinv=>by
  obtain ⟨g,rfl⟩:∃ g,fuel=g+1:=⟨fuel - 1,by omega⟩
  have Gy:x=a.length:=by omega
  subst Gy
  rw [jG]
  simp only [SM] at hs
  rw [dV,cond_false,if_pos (by omega),nz xl (by omega)]
  have XF:U (out ++ [c]):=hU.append (U.one xl (by omega))
  have hlen:(out ++ [c]).length=a.length+1:=by simp [ho]
  rw [lW XF (by rw [hlen];omega) (by rw [hlen];omega),cn,k8,qo,ho,hinv,List.take_length,je hl]
 | k+1,x,fuel,out,c,hx,hf,ho,hU,xl,s9,hinv=>by
  obtain ⟨g,rfl⟩:∃ g,fuel=g+1:=⟨fuel - 1,by omega⟩
  simp only [SM] at hs
  have pW:x < a.length:=by omega
  have h1:=ha.getD x
  have h2:=hb.getD x
  rw [jG,dec_lt pW,cond_true,if_pos (oE pW)]
  simp only [an]
  have hA:=cF a x pW
  have hB:bz (b.take (x+1))=bz (b.take x)+b.getD x 0 * pw x:=by
   by_cases h:x < b.length
   ·exact cF b x h
   ·rw [je (by omega),je (by omega),fk,n8 (by omega)];simp
  have step:∀ s:Int,s=c+a.getD x 0+b.getD x 0→(oM N a b out (x:Int) (jG N a b g) s)=some (lm (bz a+bz b).toNat):=by
   intro s ZP
   unfold oM
   rw [if_pos (by omega),sY,Bh,aK (by omega)]
   refine Mm ha hb hl hs hN k (x+1) g _ _ (by omega) (by omega) (by simp [ho]) (hU.append (U.one (by omega) (by omega))) (by omega) (by omega) ?_
   rw [k8,qo,ho,hA,hB,gC]
   have h5:s=s % 65536+65536 * (s / 65536):=by omega
   have h6:pw x * s=pw x * (s % 65536)+pw x * (65536 * (s / 65536)):=by rw [← ic,← h5]
   have h7:pw x * s=pw x * c+a.getD x 0 * pw x+b.getD x 0 * pw x:=by rw [ZP,ic,ic,gB (pw x) (a.getD x 0),gB (pw x) (b.getD x 0)]
   have h8:65536 * pw x * (s / 65536)=pw x * (65536 * (s / 65536)):=by rw [gB 65536,kA]
   omega
  by_cases oc:x < b.length
  ·rw [dec_lt oc,cond_true,if_pos (oE oc)]
   refine step _ ?_
   rw [cC (n:=a.getD x 0) (by omega) (by omega),cC (n:=b.getD x 0) (by omega) (by omega),cC (n:=c+a.getD x 0) (by omega) (by omega),cC (by omega) (by omega)]
  ·have e:decide ((x:Int) < ((b.length:Nat):Int))=false:=by simp;omega
   rw [e,cond_false]
   refine step _ ?_
   have h0:b.getD x 0=0:=by rw [fk,n8 (by omega)];rfl
   rw [cC (n:=a.getD x 0) (by omega) (by omega),cC (n:=c+a.getD x 0) (by omega) (by omega),h0];omega
theorem Mn {N:Nat} {a b:List Int} (ha:U a) (hb:U b) (hl:b.length≤a.length) (hs:SM a.length) (hN:a.length+1 < N):oN N a b=some (lm (bz a+bz b).toNat):=by
 unfold oN
 simp only [SM] at hs
 rw [if_pos (by rw [aN (by omega) (by omega)];omega)]
 exact Mm ha hb hl hs hN a.length 0 N _ 0 (by omega) (by omega) rfl (U.replicate 0) (by omega) (by omega) (by simp [bz])
theorem UL {N:Nat} {a b:List Int} (ha:U a) (hb:U b) (hs:SM a.length) (Sn:SM b.length) (hN:a.length+1 < N) (ZQ:b.length+1 < N):uG N a b=some (lm (bz a+bz b).toNat):=by
 unfold uG
 cases h:decide (((a.length:Nat):Int) < ((b.length:Nat):Int)) with
 | true =>
  simp at h
  rw [cond_true,Mn hb ha (by omega) Sn ZQ,Int.add_comm]
 | false =>
  simp at h
  rw [cond_false,Mn ha hb (by omega) hs hN]
theorem So {N a b:Nat} (hs:SM (lm a).length) (Sn:SM (lm b).length) (hN:(lm a).length+1 < N) (ZQ:(lm b).length+1 < N):uG N (lm a) (lm b)=some (lm (a+b)):=by
 rw [UL (qM a) (qM b) hs Sn hN ZQ,hO,hO];congr 1
theorem JN {N:Nat} {a b:List Int} (ha:U a) (hb:U b) (hl:b.length≤a.length) (hle:bz b≤bz a) (hs:SM a.length) (hN:a.length+1 < N):∀ (k x fuel:Nat) (out:List Int) (c:Int),x+k=a.length→k < fuel→out.length=a.length→U out→0≤c→c≤1 →
  (∀ j,x≤j→out.getD j 0=0)→bz out - pw x * c=bz (a.take x) - bz (b.take x)→gM N a b fuel out c (x:Int)=some (lm (bz a - bz b).toNat)
 | 0,x,fuel,out,c,hx,hf,ho,hU,xl,s9,hz,hinv=>by
  obtain ⟨g,rfl⟩:∃ g,fuel=g+1:=⟨fuel - 1,by omega⟩
  have Gy:x=a.length:=by omega
  subst Gy
  simp only [SM] at hs
  rw [gM,dV,cond_false,lW hU (by omega) (by omega),cn]
  rw [List.take_length,je hl] at hinv
  have h1:=hU.lt
  rw [ho] at h1
  have hc:c=0:=by
   rcases Int.lt_or_le 0 c with h | h
   ·have:c=1:=by omega
    subst this;omega
   ·omega
  subst hc
  have:bz out=bz a - bz b:=by omega
  rw [this]
 | k+1,x,fuel,out,c,hx,hf,ho,hU,xl,s9,hz,hinv=>by
  obtain ⟨g,rfl⟩:∃ g,fuel=g+1:=⟨fuel - 1,by omega⟩
  simp only [SM] at hs
  have pW:x < a.length:=by omega
  have h1:=ha.getD x
  have h2:=hb.getD x
  rw [gM,dec_lt pW,cond_true,if_pos (oE pW)]
  simp only [an]
  have hA:=cF a x pW
  have hB:bz (b.take (x+1))=bz (b.take x)+b.getD x 0 * pw x:=by
   by_cases h:x < b.length
   ·exact cF b x h
   ·rw [je (by omega),je (by omega),fk,n8 (by omega)];simp
  have step:∀ y:Int,y=c+b.getD x 0→(nm N a b out (x:Int) (gM N a b g) y)=some (lm (bz a - bz b).toNat):=by
   intro y hy
   unfold nm
   have fin:∀ q:Int,0≤q→q≤1→0≤a.getD x 0+q * 65536 - y→a.getD x 0+q * 65536 - y < 65536→nj N a b out (x:Int) y (gM N a b g) q=some (lm (bz a - bz b).toNat):=by
    intro q DI Ew N6 Vt
    unfold nj
    rw [if_pos ⟨by omega,by omega⟩,Fx (by omega) (by omega),an,cC (n:=a.getD x 0) (by omega) (by omega),cC (n:=a.getD x 0+q * 65536) (by omega) (by omega),cC (by omega) (by omega),nz (by omega) (by omega),aK (by omega)]
    refine JN ha hb hl hle hs hN k (x+1) g _ _ (by omega) (by omega) (by simp [ho]) (hU.set x (by omega) (by omega)) DI Ew ?_ ?_
    ·intro j hj
     have:=hz j (by omega)
     rw [fk] at this ⊢
     rw [List.getElem?_set_ne (by omega)];exact this
    ·rw [mD _ _ _ (by omega),hz x (aF _),hA,hB,gC]
     have h3:(a.getD x 0+q * 65536 - y - 0) * pw x=a.getD x 0 * pw x+q * 65536 * pw x - y * pw x:=by rw [Int.sub_zero,Int.sub_mul,ep]
     have h4:y * pw x=c * pw x+b.getD x 0 * pw x:=by rw [hy,ep]
     have h5:q * 65536 * pw x=65536 * pw x * q:=by rw [gB q 65536,kA,kA,gB q]
     have h6:c * pw x=pw x * c:=gB _ _
     omega
   rw [an,cC (n:=a.getD x 0) (by omega) (by omega)]
   cases gk:decide (a.getD x 0 < y) with
   | true=>have gk:=rA gk;rw [cond_true];exact fin 1 (by omega) (by omega) (by omega) (by omega)
   | false=>have gk:=rB gk;rw [cond_false];exact fin 0 (by omega) (by omega) (by omega) (by omega)
  by_cases oc:x < b.length
  ·rw [dec_lt oc,cond_true,if_pos (oE oc)]
   refine step _ ?_
   rw [cC (n:=b.getD x 0) (by omega) (by omega),cC (by omega) (by omega)]
  ·have e:decide ((x:Int) < ((b.length:Nat):Int))=false:=by simp;omega
   rw [e,cond_false]
   refine step _ ?_
   have h0:b.getD x 0=0:=by rw [fk,n8 (by omega)];rfl
   omega
theorem gR (n j:Nat):(List.replicate n (0:Int)).getD j 0=0:=by
 rw [fk,List.getElem?_replicate];split<;>rfl
theorem Sp {N:Nat} {a b:List Int} (ha:U a) (hb:U b) (hl:b.length≤a.length) (hle:bz b≤bz a) (hs:SM a.length) (hN:a.length+1 < N):qc N a b=some (lm (bz a - bz b).toNat):=by
 unfold qc
 simp only [SM] at hs
 rw [if_pos (by omega)]
 exact JN ha hb hl hle hs hN a.length 0 N _ 0 (by omega) (by omega) (by simp) (U.replicate _) (by omega) (by omega) (fun j _=>gR _ j) (by rw [jO];simp [bz])
theorem gZ {a b:Nat} (h:a≤b):(lm a).length≤(lm b).length:=jl.2 (by have:=(jl (n:=b) (k:=(lm b).length)).1 (aF _);omega)
theorem JO {N a b:Nat} (Tz:b≤a) (hs:SM (lm a).length) (hN:(lm a).length+1 < N):qc N (lm a) (lm b)=some (lm (a - b)):=by
 rw [Sp (qM a) (qM b) (gZ Tz) (by rw [hO,hO];omega) hs hN,hO,hO]
 congr 2;omega
end Go.Den
namespace Go.Den
open Go.Ab
theorem getD_set_ne (l:List Int) {i j:Nat} (x:Int) (h:i≠j):(l.set i x).getD j 0=l.getD j 0:=by
 rw [fk,List.getElem?_set_ne h,← fk]
theorem JP (l:List Int) {i:Nat} (x:Int) (h:i < l.length):(l.set i x).getD i 0=x:=by
 rw [fk,List.getElem?_set_self h];rfl
theorem tE {l:List Int} {i:Nat} (h:l.length≤i):l.getD i 0=0:=by
 rw [fk,n8 h];rfl
theorem FB {x y:Int} (h1:0≤x) (h2:x < 65536) (h3:0≤y) (h4:y < 65536):0≤x * y∧x * y≤4294836225:=by
 refine ⟨Int.mul_nonneg h1 h3,?_⟩
 have:=Int.mul_le_mul (show x≤65535 by omega) (show y≤65535 by omega) h3 (by omega)
 omega
theorem JQ {N:Nat} {a b:List Int} {i:Nat} (ha:U a) (hb:U b) (hi:i < a.length) (hs:SM (a.length+b.length)) (K:List Int→Int→Option (List Int)) (R:Option (List Int))
  (hK:∀ out,out.length=a.length+b.length→U out→(∀ j,i+b.length < j→out.getD j 0=0)→bz out=bz (a.take (i+1)) * bz b→K out ((i+1:Nat):Int)=R) :
  ∀ (k x fuel:Nat) (out:List Int) (c:Int),x+k=b.length→k < fuel→out.length=a.length+b.length→U out→0≤c→c < 65536→(∀ j,i+b.length≤j→out.getD j 0=0) →
   bz out+pw (i+x) * c=bz (a.take i) * bz b+a.getD i 0 * pw i * bz (b.take x)→kL N a b (i:Int) K fuel out c (x:Int)=R
 | 0,x,fuel,out,c,hx,hf,ho,hU,xl,s9,hz,hinv=>by
  obtain ⟨g,rfl⟩:∃ g,fuel=g+1:=⟨fuel - 1,by omega⟩
  have Gy:x=b.length:=by omega
  subst Gy
  simp only [SM] at hs
  have e:ag ((i:Int)+((b.length:Nat):Int))=((i+b.length:Nat):Int):=by rw [aN (by omega) (by omega)];omega
  rw [kL,dV,cond_false,e,if_pos (oE (by omega)),an,nz xl s9,aK (by omega)]
  refine hK _ (by simp [ho]) (hU.set _ xl s9) (fun j hj=>?_) ?_
  ·rw [getD_set_ne _ _ (by omega)];exact hz j (by omega)
  ·rw [mD _ _ _ (by omega),hz _ (aF _),Int.sub_zero,cF a i hi,ep,gB c]
   rw [List.take_length] at hinv
   exact hinv
 | k+1,x,fuel,out,c,hx,hf,ho,hU,xl,s9,hz,hinv=>by
  obtain ⟨g,rfl⟩:∃ g,fuel=g+1:=⟨fuel - 1,by omega⟩
  simp only [SM] at hs
  have pW:x < b.length:=by omega
  have h1:=ha.getD i
  have h2:=hb.getD x
  have h3:=hU.getD (i+x)
  have e:ag ((i:Int)+(x:Int))=((i+x:Nat):Int):=by rw [aN (by omega) (by omega)];omega
  have h4:=FB h1.1 h1.2 h2.1 h2.2
  rw [kL,dec_lt pW,cond_true,if_pos (oE pW),e,if_pos (oE (by omega))]
  simp only [an]
  rw [cC (n:=a.getD i 0) (by omega) (by omega),cC (n:=b.getD x 0) (by omega) (by omega),cC (n:=out.getD (i+x) 0) (by omega) (by omega),cC (n:=a.getD i 0 * b.getD x 0) (by omega) (by omega),
   cC (n:=a.getD i 0 * b.getD x 0+out.getD (i+x) 0) (by omega) (by omega),cC (n:=c+(a.getD i 0 * b.getD x 0+out.getD (i+x) 0)) (by omega) (by omega),sY,Bh,aK (by omega)]
  generalize Sn:c+(a.getD i 0 * b.getD x 0+out.getD (i+x) 0)=s
  refine JQ ha hb hi hs K R hK k (x+1) g _ _ (by omega) (by omega) (by simp [ho]) (hU.set _ (by omega) (by omega)) (by omega) (by omega) (fun j hj=>?_) ?_
  ·rw [getD_set_ne _ _ (by omega)];exact hz j hj
  ·rw [mD _ _ _ (by omega),cF b x pW,show i+(x+1)=(i+x)+1 by omega,gC]
   have h5:s=s % 65536+65536 * (s / 65536):=by omega
   have h6:pw (i+x) * s=pw (i+x) * (s % 65536)+pw (i+x) * (65536 * (s / 65536)):=by rw [← ic,← h5]
   have h7:pw (i+x) * s=pw (i+x) * c+pw (i+x) * (a.getD i 0 * b.getD x 0)+pw (i+x) * out.getD (i+x) 0:=by rw [← Sn,ic,ic];omega
   have h8:65536 * pw (i+x) * (s / 65536)=pw (i+x) * (65536 * (s / 65536)):=by rw [gB 65536,kA]
   have h9:(s % 65536 - out.getD (i+x) 0) * pw (i+x)=pw (i+x) * (s % 65536) - pw (i+x) * out.getD (i+x) 0:=by rw [Int.sub_mul,gB,gB (out.getD (i+x) 0)]
   have XG:a.getD i 0 * pw i * (bz (b.take x)+b.getD x 0 * pw x)=a.getD i 0 * pw i * bz (b.take x)+pw (i+x) * (a.getD i 0 * b.getD x 0):=by
    rw [Fz];grind
   omega
theorem JR {N:Nat} {a b:List Int} (ha:U a) (hb:U b) (hs:SM (a.length+b.length)) (hN:a.length+b.length < N):∀ (k x fuel:Nat) (out:List Int),x+k=a.length→k < fuel→out.length=a.length+b.length→U out →
  (∀ j,x+b.length≤j→out.getD j 0=0)→bz out=bz (a.take x) * bz b→kM N a b fuel out (x:Int)=some (lm (bz a * bz b).toNat)
 | 0,x,fuel,out,hx,hf,ho,hU,hz,hinv=>by
  obtain ⟨g,rfl⟩:∃ g,fuel=g+1:=⟨fuel - 1,by omega⟩
  have Gy:x=a.length:=by omega
  subst Gy
  simp only [SM] at hs
  rw [kM,dV,cond_false,lW hU (by omega) (by omega),cn,hinv,List.take_length]
 | k+1,x,fuel,out,hx,hf,ho,hU,hz,hinv=>by
  obtain ⟨g,rfl⟩:∃ g,fuel=g+1:=⟨fuel - 1,by omega⟩
  have pW:x < a.length:=by omega
  rw [kM,dec_lt pW,cond_true,if_pos (oE pW)]
  refine JQ ha hb pW hs _ _ (fun gf h1 h2 h3 h4=>?_) b.length 0 N out 0 (by omega) (by omega) ho hU (by omega) (by omega) hz (by rw [hinv];simp [bz])
  exact JR ha hb hs hN k (x+1) g gf (by omega) (by omega) h1 h2 (fun j hj=>h3 j (by omega)) h4
theorem Sq {N:Nat} {a b:List Int} (ha:U a) (hb:U b) (hs:SM (a.length+b.length)) (hN:a.length+b.length < N):r8 N a b=some (lm (bz a * bz b).toNat):=by
 unfold r8
 have Gz:=hs
 simp only [SM] at Gz
 have e:ag (((a.length:Nat):Int)+((b.length:Nat):Int))=((a.length+b.length:Nat):Int):=by rw [aN (by omega) (by omega)];omega
 rw [e,if_pos (by omega)]
 exact JR ha hb hs hN a.length 0 N _ (by omega) (by omega) (by simp;omega) (U.replicate _) (fun j _=>gR _ j) (by rw [jO];simp [bz])
theorem ui (a b:Nat):((a:Int) * (b:Int)).toNat=a * b:=by rw [← Int.natCast_mul];rfl
theorem PT {N a b:Nat} (hs:SM ((lm a).length+(lm b).length)) (hN:(lm a).length+(lm b).length < N):r8 N (lm a) (lm b)=some (lm (a * b)):=by
 rw [Sq (qM a) (qM b) hs hN,hO,hO,ui]
theorem JS {N:Nat} {a:List Int} {d:Int} (ha:U a) (N6:0 < d) (Vt:d < 65536) (hs:SM a.length) (hN:a.length < N):∀ (k fuel:Nat) (q:List Int) (r:Int),k≤a.length→k < fuel→q.length=a.length→U q→0≤r→r < d →
  (∀ j,j < k→q.getD j 0=0)→pw k * bz (a.drop k)=bz q * d+r * pw k→∃ Q R:Int,0≤Q∧0≤R∧R < d∧bz a=Q * d+R∧kF N a d fuel q r ((k:Int) - 1)=some (lm Q.toNat,R)
 | 0,fuel,q,r,hk,hf,ho,hU,Ik,PU,hz,hinv=>by
  obtain ⟨g,rfl⟩:∃ g,fuel=g+1:=⟨fuel - 1,by omega⟩
  simp only [SM] at hs
  refine ⟨bz q,r,hU.oG,Ik,PU,by rw [yJ] at hinv;simpa using hinv,?_⟩
  rw [kF]
  have e:decide ((((0:Nat):Int) - 1)≥0)=false:=rfl
  rw [e,cond_false,lW hU (by omega) (by omega),cn,nz Ik (by omega)]
 | k+1,fuel,q,r,hk,hf,ho,hU,Ik,PU,hz,hinv=>by
  obtain ⟨g,rfl⟩:∃ g,fuel=g+1:=⟨fuel - 1,by omega⟩
  simp only [SM] at hs
  have e:(((k+1:Nat):Int) - 1)=(k:Int):=by omega
  have h1:=ha.getD k
  have e0:decide ((k:Int)≥0)=true:=by simp
  rw [e,kF,e0,cond_true,if_pos (oE (by omega)),cC (n:=d) (by omega) (by omega),if_pos (by omega),if_pos (oE (by omega))]
  simp only [an]
  rw [cC (n:=a.getD k 0) (by omega) (by omega),Fx Ik (by omega),Mi Ik (by omega) h1.1 h1.2,aN (by omega) (by omega)]
  have MY:0≤r * 65536+a.getD k 0:=by omega
  have Oo:r * 65536+a.getD k 0 < d * 65536:=by omega
  generalize hn:r * 65536+a.getD k 0=n at MY Oo ⊢
  rw [Int.tdiv_eq_ediv_of_nonneg MY,Int.tmod_eq_emod_of_nonneg MY]
  have Ew:n / d < 65536:=Int.ediv_lt_of_lt_mul N6 (by rw [gB];exact Oo)
  have DI:0≤n / d:=Int.ediv_nonneg MY (by omega)
  rw [cC DI (by omega),nz DI Ew]
  refine JS ha N6 Vt hs hN k g _ _ (by omega) (by omega) (by simp [ho]) (hU.set _ DI Ew) (Int.emod_nonneg _ (by omega)) (Int.emod_lt_of_pos _ N6) (fun j hj=>?_) ?_
  ·rw [getD_set_ne _ _ (by omega)];exact hz j (by omega)
  ·rw [mD _ _ _ (by omega),hz k (by omega),Int.sub_zero,m8 a k (by omega)]
   have h2:=Int.mul_ediv_add_emod n d
   rw [gC] at hinv
   have h3:pw k * n=pw k * (d * (n / d))+pw k * (n % d):=by rw [← ic,h2]
   have h4:pw k * n=pw k * (r * 65536)+pw k * a.getD k 0:=by rw [← hn,ic]
   grind
theorem PV {N a d:Nat} (N6:0 < d) (Vt:d < 65536) (hs:SM (lm a).length) (hN:(lm a).length < N):uD N (lm a) (d:Int)=some (lm (a / d),((a % d:Nat):Int)):=by
 unfold uD
 have Gz:=hs
 simp only [SM] at Gz
 rw [if_pos (by omega),aN (by omega) (by omega)]
 obtain ⟨Q,R,h1,h2,h3,h4,h5⟩:=JS (N:=N) (d:=(d:Int)) (qM a) (by omega) (by omega) hs hN (lm a).length N (List.replicate (lm a).length 0) 0 (aF _) hN (by simp) (U.replicate _) (by omega) (by omega) (fun j _=>gR _ j)
  (by rw [List.drop_length,jO];simp [bz])
 rw [h5]
 rw [hO] at h4
 obtain ⟨Q,rfl⟩:=Int.eq_ofNat_of_zero_le h1
 obtain ⟨R,rfl⟩:=Int.eq_ofNat_of_zero_le h2
 have h6:a=Q * d+R:=by exact_mod_cast h4
 have h7:R < d:=by omega
 have h8:a / d=Q:=by rw [h6,o9,Nat.mul_add_div N6,Nat.div_eq_of_lt h7];rfl
 have h9:a % d=R:=by rw [h6,o9,Nat.mul_add_mod,Nat.mod_eq_of_lt h7]
 rw [h8,h9];rfl
theorem FC {N:Nat}:∀ (fuel n:Nat) (out:List Int),(lm n).length < fuel→out.length+(lm n).length < 1000→n < 18446744073709551616→jX N fuel (n:Int) out=some (out ++ lm n)
 | 0,n,out,h,_,_=>by omega
 | fuel+1,n,out,h,h2,h3=>by
  rw [jX]
  by_cases hn:n=0
  ·subst hn;rw [iq];simp
  ·have e:decide ((n:Int) > 0)=true:=by simp;omega
   rw [ri hn] at h h2
   simp only [ye] at h h2
   rw [e,cond_true,if_pos (by omega),JL,sY]
   have e1:((n:Int) / 65536)=((n / 65536:Nat):Int):=by omega
   have e2:((n:Int) % 65536)=((n % 65536:Nat):Int):=by omega
   rw [e1,e2,FC fuel (n / 65536) _ (by omega) (by simp;omega) (by omega),ri hn,List.append_assoc];rfl
theorem PW {n:Nat} (h:n < 18446744073709551616):(lm n).length≤4:=jl.2 (by show (n:Int) < 65536 ^ 4;omega)
theorem Aj {N n:Nat} (hN:4 < N) (h:n < 18446744073709551616):mO N (n:Int)=some (lm n):=by
 unfold mO
 have:=PW h
 rw [FC N n [] (by omega) (by simp;omega) h];rfl
theorem Mo {N:Nat} {a:List Int} (ha:U a) (hs:a.length≤4):∀ (k fuel:Nat) (r:Int),k≤a.length→k < fuel→0≤r→r < pw (4 - k)→bz (a.drop k)=r→lA N a fuel r ((k:Int) - 1)=some (bz a,true)
 | 0,fuel,r,hk,hf,Ik,PU,hinv=>by
  obtain ⟨g,rfl⟩:∃ g,fuel=g+1:=⟨fuel - 1,by omega⟩
  rw [lA]
  have e:decide ((((0:Nat):Int) - 1)≥0)=false:=rfl
  rw [e,cond_false,← hinv,List.drop_zero]
 | k+1,fuel,r,hk,hf,Ik,PU,hinv=>by
  obtain ⟨g,rfl⟩:∃ g,fuel=g+1:=⟨fuel - 1,by omega⟩
  have e:(((k+1:Nat):Int) - 1)=(k:Int):=by omega
  have h1:=ha.getD k
  have e0:decide ((k:Int)≥0)=true:=by simp
  have hp:pw (4 - k)=65536 * pw (4 - (k+1)):=by rw [← gC];congr 1;omega
  have hle:pw (4 - (k+1))≤281474976710656:=by
   have:k=0∨k=1∨k=2∨k=3:=by omega
   rcases this with rfl | rfl | rfl | rfl<;>decide
  rw [e,lA,e0,cond_true,if_pos (oE (by omega)),an,gU (n:=a.getD k 0) (by omega) (by omega),Fy Ik (by omega),Ij Ik (by omega) h1.1 h1.2,aN (by omega) (by omega)]
  refine Mo ha hs k g _ (by omega) (by omega) (by omega) (by omega) ?_
  rw [m8 a k (by omega),hinv];omega
theorem Mp {N a:Nat} (hN:5 < N) (hs:SM (lm a).length):uC N (lm a)=some (if (lm a).length≤4 then ((a:Int),true) else (0,false)):=by
 unfold uC
 by_cases h:(lm a).length≤4
 ·rw [if_pos h]
  have e:decide ((((lm a).length:Nat):Int) > 4)=false:=by simp;omega
  rw [e,cond_false,aN (by omega) (by omega),Mo (qM a) h (lm a).length N 0 (aF _) (by omega) (by omega) (k7 _) (by rw [List.drop_length];rfl),hO]
 ·rw [if_neg h]
  have e:decide ((((lm a).length:Nat):Int) > 4)=true:=by simp;omega
  rw [e];rfl
end Go.Den
namespace Go.Den
open Go.Ab
theorem PX:∀ x:Fin 256,(match cw 0 ((x.val:Nat):Int) 0 with | some L=>decide (0≤L∧L≤8∧(x.val≠0→1≤L∧2 ^ (L.toNat - 1)≤x.val∧x.val < 2 ^ L.toNat)) | none=>false)=true:=by decide +kernel
theorem PY:∀ x:Fin 256,(match cw 0 ((x.val:Nat):Int) 8 with | some L=>decide (8≤L∧L≤16∧(x.val≠0→9≤L∧2 ^ (L.toNat - 1 - 8)≤x.val∧x.val < 2 ^ (L.toNat - 8))) | none=>false)=true:=by decide +kernel
theorem PZ {N x:Nat} (h0:0 < x) (h1:x < 65536):∃ L:Nat,1≤L∧L≤16∧kG N (x:Int)=some (L:Int)∧2 ^ (L - 1)≤x∧x < 2 ^ L:=by
 unfold kG
 by_cases h:x < 256
 ·have e:decide ((x:Int)≥256)=false:=by simp;omega
  rw [e,cond_false]
  have:=PX ⟨x,h⟩
  simp only at this
  show ∃ L:Nat,1≤L∧L≤16∧cw 0 (x:Int) 0=some (L:Int)∧2 ^ (L - 1)≤x∧x < 2 ^ L
  cases hr:cw 0 (x:Int) 0 with
  | none=>rw [hr] at this;cases this
  | some L =>
   rw [hr] at this
   obtain ⟨q1,q2,q3⟩:=rA this
   obtain ⟨q4,q5,q6⟩:=q3 (by omega)
   obtain ⟨L,rfl⟩:=Int.eq_ofNat_of_zero_le q1
   exact ⟨L,by omega,by omega,rfl,q5,q6⟩
 ·have e:decide ((x:Int)≥256)=true:=by simp;omega
  rw [e,cond_true]
  have e2:oy .u16 (x:Int) 8=((x / 256:Nat):Int):=by
   unfold oy
   have:(2:Int) ^ (min (8:Int).toNat IntKind.u16.bits)=256:=by decide
   rw [this,Int.fdiv_eq_ediv_of_nonneg _ (by decide)];omega
  rw [e2]
  have:=PY ⟨x / 256,by omega⟩
  simp only at this
  have hJ:cw N ((x / 256:Nat):Int) 8=cw 0 ((x / 256:Nat):Int) 8:=rfl
  rw [hJ]
  cases hr:cw 0 ((x / 256:Nat):Int) 8 with
  | none=>rw [hr] at this;cases this
  | some L =>
   rw [hr] at this
   obtain ⟨q1,q2,q3⟩:=rA this
   obtain ⟨q4,q5,q6⟩:=q3 (by omega)
   obtain ⟨L,rfl⟩:=Int.eq_ofNat_of_zero_le (show 0≤L by omega)
   simp only [Int.toNat_natCast] at q5 q6
   refine ⟨L,by omega,by omega,rfl,?_,?_⟩
   ·have:2 ^ (L - 1 - 8+8)=2 ^ (L - 1 - 8) * 2 ^ 8:=Nat.pow_add _ _ _
    have h8:(2:Nat) ^ 8=256:=by decide
    have h9:L - 1 - 8+8=L - 1:=by omega
    rw [h8,h9] at this
    omega
   ·have:2 ^ (L - 8+8)=2 ^ (L - 8) * 2 ^ 8:=Nat.pow_add _ _ _
    have h8:(2:Nat) ^ 8=256:=by decide
    have h9:L - 8+8=L:=by omega
    rw [h8,h9] at this
    omega
theorem WA {N x:Nat} (h0:0 < x) (h1:x < 65536):∃ s:Nat,s≤15∧eM N (x:Int)=some (s:Int)∧32768≤x * 2 ^ s∧x * 2 ^ s < 65536:=by
 obtain ⟨L,h2,h3,h4,h5,h6⟩:=PZ (N:=N) h0 h1
 refine ⟨16 - L,by omega,?_,?_,?_⟩
 ·unfold eM
  rw [h4,cn,aN (by omega) (by omega)];congr 1;omega
 ·have e:2 ^ (L - 1) * 2 ^ (16 - L)=32768:=by rw [← Nat.pow_add,show L - 1+(16 - L)=15 by omega]
  have:=dE (2 ^ (16 - L)) h5
  omega
 ·have e:2 ^ L * 2 ^ (16 - L)=65536:=by rw [← Nat.pow_add,show L+(16 - L)=16 by omega]
  have:=Nat.mul_lt_mul_of_pos_right h6 (Nat.two_pow_pos (16 - L))
  omega
theorem UM {n:Int} {s:Nat} (h:0≤n) (h2:n < 65536) (hs:s≤15):gJ .u32 n (s:Int)=n * 2 ^ s∧0≤n * 2 ^ s∧n * 2 ^ s < 65536 * 2 ^ s∧n * 2 ^ s < 2147483648:=by
 have hp:(0:Int) < 2 ^ s:=Int.pow_pos (by decide)
 have wM:(2:Int) ^ s≤32768:=by
  have:=Nat.pow_le_pow_right (n:=2) (by decide) hs
  have e:((2 ^ s:Nat):Int)=(2:Int) ^ s:=by simp
  omega
 have h3:0≤n * 2 ^ s:=Int.mul_nonneg h (by omega)
 have h4:n * 2 ^ s < 65536 * 2 ^ s:=Int.mul_lt_mul_of_pos_right h2 hp
 refine ⟨?_,h3,h4,by omega⟩
 unfold gJ
 have:min ((s:Nat):Int).toNat IntKind.u32.bits=s:=by show min s 32=s;omega
 rw [this,cC h3 (by omega)]
theorem UN {c a:Int} {s:Nat} (hs:s≤15) (xl:0≤c) (s9:c < 2 ^ s) (ZR:0≤a):ss .u16 c (a * 2 ^ s % 65536)=c+a * 2 ^ s % 65536∧c+a * 2 ^ s % 65536 < 65536:=by
 obtain ⟨c,rfl⟩:=Int.eq_ofNat_of_zero_le xl
 obtain ⟨a,rfl⟩:=Int.eq_ofNat_of_zero_le ZR
 have hc:c < 2 ^ s:=by
  have e:((2 ^ s:Nat):Int)=(2:Int) ^ s:=by simp
  omega
 have hp:2 ^ s≤32768:=Nat.pow_le_pow_right (n:=2) (by decide) hs
 have e1:(a:Int) * 2 ^ s % 65536=((a * 2 ^ s % 65536:Nat):Int):=by simp
 have e2:a * 2 ^ s % 65536=a % 2 ^ (16 - s) * 2 ^ s:=by
  have:65536=2 ^ (16 - s) * 2 ^ s:=by rw [← Nat.pow_add,show 16 - s+s=16 by omega]
  rw [this,Nat.mul_mod_mul_right]
 have e3:a % 2 ^ (16 - s) * 2 ^ s+2 ^ s≤65536:=by
  have h1:a % 2 ^ (16 - s)+1≤2 ^ (16 - s):=Nat.mod_lt _ (Nat.two_pow_pos _)
  have h2:=dE (2 ^ s) h1
  rw [← Nat.pow_add,show 16 - s+s=16 by omega,cr] at h2
  omega
 rw [e1,e2]
 generalize a % 2 ^ (16 - s)=m at *
 constructor
 ·unfold ss
  rw [show IntKind.u16.bits=16 from rfl,PR _ _ (by omega) (by omega),Nat.or_comm,Ai _ _ s hc,sY]
  omega
 ·omega
theorem FD {N:Nat} {a:List Int} {s:Nat} (ha:U a) (hs:s≤15) (hS:SM a.length):∀ (k x fuel:Nat) (out:List Int),x+k=a.length→k < fuel→out.length=a.length+1→U out→out.getD x 0 < 2 ^ s→(∀ j,x < j→out.getD j 0=0) →
  bz out=bz (a.take x) * 2 ^ s→∃ o,iW N a (s:Int) fuel out (x:Int)=some o∧o.length=a.length+1∧U o∧bz o=bz a * 2 ^ s∧o.getD a.length 0 < 2 ^ s
 | 0,x,fuel,out,hx,hf,ho,hU,hc,hz,hinv=>by
  obtain ⟨g,rfl⟩:∃ g,fuel=g+1:=⟨fuel - 1,by omega⟩
  have Gy:x=a.length:=by omega
  subst Gy
  exact ⟨out,by rw [iW,dV,cond_false],ho,hU,by rw [hinv,List.take_length],hc⟩
 | k+1,x,fuel,out,hx,hf,ho,hU,hc,hz,hinv=>by
  obtain ⟨g,rfl⟩:∃ g,fuel=g+1:=⟨fuel - 1,by omega⟩
  simp only [SM] at hS
  have pW:x < a.length:=by omega
  have h1:=ha.getD x
  have h2:=hU.getD x
  obtain ⟨w1,w2,w3,w4⟩:=UM h1.1 h1.2 hs
  obtain ⟨o1,o2⟩:=UN hs h2.1 hc h1.1
  rw [iW,dec_lt pW,cond_true,if_pos (oE pW),if_pos (by omega),if_pos (oE (by omega)),aK (by omega)]
  simp only [an]
  rw [cC (n:=a.getD x 0) (by omega) (by omega),w1,sY,Bh,sY,o1]
  rw [if_pos ⟨by omega,by simp;omega⟩]
  generalize hw:a.getD x 0 * 2 ^ s=w at *
  have hw5:w / 65536 < 2 ^ s:=by omega
  have hw6:w / 65536 % 65536=w / 65536:=by omega
  rw [hw6]
  have ZS:U (out.set x (out.getD x 0+w % 65536)):=hU.set x (by omega) o2
  refine FD ha hs hS k (x+1) g _ (by omega) (by omega) (by simp [ho]) (ZS.set (x+1) (by omega) (by omega)) ?_ (fun j hj=>?_) ?_
  ·rw [JP _ _ (by simp;omega)];exact hw5
  ·rw [getD_set_ne _ _ (by omega),getD_set_ne _ _ (by omega)];exact hz j (by omega)
  ·rw [mD _ _ _ (by simp;omega),getD_set_ne _ _ (by omega),hz (x+1) (by omega),mD _ _ _ (by omega),cF a x pW,hinv,gC,ep]
   have h3:w=w % 65536+65536 * (w / 65536):=by omega
   have h4:w * pw x=(w % 65536+65536 * (w / 65536)) * pw x:=by rw [← h3]
   have h5:a.getD x 0 * pw x * 2 ^ s=w * pw x:=by rw [← hw];grind
   grind
theorem FE {N:Nat} {a:List Int} {s:Nat} (ha:U a) (hs:s≤15) (hS:SM a.length) (hN:a.length < N):∃ o,oL N a (s:Int)=some o∧o.length=a.length+1∧U o∧bz o=bz a * 2 ^ s∧o.getD a.length 0 < 2 ^ s:=by
 unfold oL
 have VA:=hS
 simp only [SM] at VA
 have e:ag (((a.length:Nat):Int)+1)=((a.length+1:Nat):Int):=aK (by omega)
 rw [e,if_pos (by omega)]
 exact FD ha hs hS a.length 0 N _ (by omega) hN (by simp) (U.replicate _) (by rw [gR];exact Int.pow_pos (by decide)) (fun j _=>gR _ j) (by rw [jO];simp [bz])
theorem qA (p w:List Int) (i:Nat):(p ++ w).getD (bu p.length i) 0=w.getD i 0:=by
 rw [dg,fk,jt (by omega),fk];congr 2;omega
theorem Il (p w:List Int) (i:Nat) (x:Int):(p ++ w).set (bu p.length i) x=p ++ w.set i x:=by
 rw [dg,List.set_append_right _ _ (by omega)];congr 2;omega
theorem sb:∀ {l:List Int} (m:Nat),(∀ j,m≤j→l.getD j 0=0)→bz l=bz (l.take m)
 | [],m,_=>by simp
 | x :: l,0,h=>by
  have h0:x=0:=h 0 (aF _)
  have:=sb (l:=l) 0 fun j _=>h (j+1) (by omega)
  simp [bz] at this;simp [bz,h0,this]
 | x :: l,m+1,h=>by
  have:=sb (l:=l) m fun j hj=>h (j+1) (by omega)
  simp only [List.take_succ_cons,bz,this]
theorem JT {l:List Int} (hU:U l) (m:Nat) (h:∀ j,m≤j→l.getD j 0=0):bz l < pw m:=by
 rw [sb m h]
 have h1:=(hU.take m).lt
 rw [n9] at h1
 by_cases hm:m≤l.length
 ·rwa [Nat.min_eq_left hm] at h1
 ·rw [Nat.min_eq_right (by omega)] at h1
  have:pw m=pw l.length * pw (m - l.length):=by rw [← Fz];congr 1;omega
  have h2:=k7 (m - l.length)
  have h3:=rC (show 1≤pw (m - l.length) by omega) (Int.le_of_lt (k7 l.length))
  omega
theorem FF {l:List Int} (hU:U l) (m:Nat) (h:bz l < pw m):∀ j,m≤j→l.getD j 0=0:=by
 intro j hj
 by_cases hl:j < l.length
 ·have h1:=qp l j (by omega)
  have h2:=m8 l j hl
  have h3:=(hU.take j).oG
  have h4:=(hU.drop (j+1)).oG
  have h5:=hU.getD j
  have h6:pw m≤pw j:=by
   have:pw j=pw m * pw (j - m):=by rw [← Fz];congr 1;omega
   have h2:=k7 (j - m)
   have h3:=rC (show 1≤pw (j - m) by omega) (Int.le_of_lt (k7 m))
   omega
  have h7:¬ 0 < bz (l.drop j):=fun h0=>by
   have:=rC (show 1≤bz (l.drop j) by omega) (Int.le_of_lt (k7 j))
   omega
  omega
 ·exact tE (by omega)
theorem JU {N:Nat} {p v:List Int} {q:Int} (hv:U v) (DI:0≤q) (Ew:q < 65536) (hS:SM v.length) (W:Int) :
  ∀ (k x fuel:Nat) (w:List Int) (c br:Int),x+k=v.length+1→k < fuel→v.length+1≤w.length→U w→0≤c→c < 65536→(x=v.length+1→c=0)→(br=0∨br = -1)→(∀ j,v.length+1≤j→w.getD j 0=0) →
   bz w=W - q * bz (v.take x)+pw x * (c - br)→∃ (w':List Int) (Sr:Int),w'.length=w.length∧U w'∧(Sr=0∨Sr = -1)∧(∀ j,v.length+1≤j→w'.getD j 0=0)∧bz w'=W - q * bz v - pw (v.length+1) * Sr ∧
    fQ N p.length (v.length+1) v q fuel (p ++ w) c br (x:Int)=cond (decide (Sr < 0)) (iK N p.length (v.length+1) v q N (p ++ w') 0 0) (kH N (p ++ w') q)
 | 0,x,fuel,w,c,br,hx,hf,hw,hU,xl,s9,IJ,XH,hz,hinv=>by
  obtain ⟨g,rfl⟩:∃ g,fuel=g+1:=⟨fuel - 1,by omega⟩
  have Gy:x=v.length+1:=by omega
  subst Gy
  simp only [SM] at hS
  rw [IJ rfl] at hinv
  refine ⟨w,br,rfl,hU,XH,hz,?_,by rw [fQ,aK (by omega),dV,cond_false]⟩
  rw [hinv,je (by omega),Int.zero_sub,Int.mul_neg];omega
 | k+1,x,fuel,w,c,br,hx,hf,hw,hU,xl,s9,IJ,XH,hz,hinv=>by
  obtain ⟨g,rfl⟩:∃ g,fuel=g+1:=⟨fuel - 1,by omega⟩
  simp only [SM] at hS
  have pW:x < v.length+1:=by omega
  have h1:=hU.getD x
  have hlen:(p ++ w).length=p.length+w.length:=lD
  have step:∀ y:Int,0≤y→y < 4294967296→(x=v.length→y < 65536)→y=q * v.getD x 0+c →
    ∃ (w':List Int) (Sr:Int),w'.length=w.length∧U w'∧(Sr=0∨Sr = -1)∧(∀ j,v.length+1≤j→w'.getD j 0=0)∧bz w'=W - q * bz v - pw (v.length+1) * Sr ∧
    nh N p.length (v.length+1) v q (p ++ w) br (x:Int) (fQ N p.length (v.length+1) v q g) y=cond (decide (Sr < 0)) (iK N p.length (v.length+1) v q N (p ++ w') 0 0) (kH N (p ++ w') q):=by
   intro y QT hy1 F1 hy
   unfold nh
   rw [if_pos (oE pW),if_pos (by omega)]
   simp only [an]
   rw [qA,PS QT (by omega),aN (n:=w.getD x 0) (by omega) (by omega),aN (n:=y % 65536) (by omega) (by omega),aN (n:=w.getD x 0 - y % 65536) (by omega) (by omega),
    aN (n:=w.getD x 0 - y % 65536+br) (by omega) (by omega),sY,JL,Ny,aK (by omega),Il]
   generalize hd:w.getD x 0 - y % 65536+br=d
   have Vt:-65536≤d∧d < 65536:=by omega
   have:=JU (N:=N) (p:=p) hv DI Ew hS W k (x+1) g (w.set x (d % 65536)) (y / 65536) (d / 65536) (by omega) (by omega) (by simp;omega) (hU.set _ (by omega) (by omega)) (by omega) (by omega) (fun h=>by have:=F1 (by omega);omega) (by omega) (fun j hj=>?_) ?_
   ·rwa [List.length_set] at this
   ·rw [getD_set_ne _ _ (by omega)];exact hz j hj
   ·rw [mD _ _ _ (by omega),hinv,gC]
    have hV:bz (v.take (x+1))=bz (v.take x)+v.getD x 0 * pw x:=by
     by_cases h:x < v.length
     ·exact cF v x h
     ·rw [je (by omega),je (by omega),tE (by omega)];simp
    rw [hV]
    have h5:d=d % 65536+65536 * (d / 65536):=by omega
    have h6:y=y % 65536+65536 * (y / 65536):=by omega
    have h7:d * pw x=(d % 65536) * pw x+65536 * (d / 65536) * pw x:=by rw [← ep,← h5]
    have h8:y * pw x=(y % 65536) * pw x+65536 * (y / 65536) * pw x:=by rw [← ep,← h6]
    have h9:d * pw x=w.getD x 0 * pw x - (y % 65536) * pw x+br * pw x:=by rw [← hd,ep,Int.sub_mul]
    have XG:y * pw x=q * (v.getD x 0 * pw x)+c * pw x:=by rw [hy,ep,kA]
    grind
  rw [fQ,aK (by omega),dec_lt pW,cond_true]
  by_cases hxv:x < v.length
  ·have h2:=hv.getD x
   have h3:0≤q * v.getD x 0∧q * v.getD x 0≤4294836225:=FB DI Ew h2.1 h2.2
   rw [dec_lt hxv,cond_true,if_pos (oE hxv),an]
   refine step _ ?_ ?_ (fun h=>by omega) ?_<;>rw [gU (n:=v.getD x 0) (by omega) (by omega),gU (n:=q * v.getD x 0) (by omega) (by omega),gU (by omega) (by omega)]<;>omega
  ·have e:decide ((x:Int) < ((v.length:Nat):Int))=false:=by simp;omega
   rw [e,cond_false]
   refine step c xl (by omega) (fun _=>s9) ?_
   rw [tE (show v.length≤x by omega)];simp
theorem JV {N:Nat} {p v:List Int} {q:Int} (hv:U v) (DI:0 < q) (Ew:q < 65536) (hS:SM v.length) (W:Int) (hV0:0≤W - (q - 1) * bz v) (ZT:W - (q - 1) * bz v < pw v.length) :
  ∀ (k x fuel:Nat) (w:List Int) (c:Int),x+k=v.length→k < fuel→v.length+1≤w.length→U w→0≤c→c≤1→(∀ j,v.length+1≤j→w.getD j 0=0) →
   bz w=W - q * bz v+pw (v.length+1)+bz (v.take x) - pw x * c→∃ w',iK N p.length (v.length+1) v q fuel (p ++ w) c (x:Int)=some (q - 1,p ++ w')∧w'.length=w.length∧U w'∧bz w'=W - (q - 1) * bz v
 | 0,x,fuel,w,c,hx,hf,hw,hU,xl,s9,hz,hinv=>by
  obtain ⟨g,rfl⟩:∃ g,fuel=g+1:=⟨fuel - 1,by omega⟩
  have Gy:x=v.length:=by omega
  subst Gy
  simp only [SM] at hS
  have h1:=hU.getD v.length
  have hlen:(p ++ w).length=p.length+w.length:=lD
  rw [List.take_length] at hinv
  rw [iK,dV,cond_false,if_pos (by omega),if_pos (by omega),qA,Il,nz xl (by omega),sY]
  unfold kH
  rw [gU (by omega) (by omega),nz (by omega) (by omega)]
  generalize hd:w.getD v.length 0+c=d
  have XF:U (w.set v.length (d % 65536)):=hU.set _ (by omega) (by omega)
  refine ⟨_,rfl,by simp,XF,?_⟩
  have h2:=mD w v.length (d % 65536) (by omega)
  have h3:d % 65536=d - 65536 * (d / 65536):=by omega
  have h4:bz (w.set v.length (d % 65536))=W - (q - 1) * bz v+(1 - d / 65536) * pw (v.length+1):=by
   rw [h2,hinv,gC,h3,← hd];grind
  have h5:d / 65536=0∨d / 65536=1:=by omega
  rcases h5 with h5 | h5
  ·have h6:=JT XF (v.length+1) (fun j hj=>by rw [getD_set_ne _ _ (by omega)];exact hz j hj)
   rw [h4,h5] at h6;omega
  ·rw [h4,h5];simp
 | k+1,x,fuel,w,c,hx,hf,hw,hU,xl,s9,hz,hinv=>by
  obtain ⟨g,rfl⟩:∃ g,fuel=g+1:=⟨fuel - 1,by omega⟩
  simp only [SM] at hS
  have pW:x < v.length:=by omega
  have h1:=hU.getD x
  have h2:=hv.getD x
  have hlen:(p ++ w).length=p.length+w.length:=lD
  rw [iK,dec_lt pW,cond_true,if_pos (oE (by omega)),if_pos (by omega),if_pos (oE pW)]
  simp only [an]
  rw [qA,cC (n:=w.getD x 0) (by omega) (by omega),cC (n:=v.getD x 0) (by omega) (by omega),cC (n:=w.getD x 0+v.getD x 0) (by omega) (by omega),cC (n:=c+(w.getD x 0+v.getD x 0)) (by omega) (by omega),
   sY,Bh,aK (by omega),Il]
  generalize hd:c+(w.getD x 0+v.getD x 0)=d
  obtain ⟨w',q1,q2,q3,q4⟩:=JV (N:=N) (p:=p) hv DI Ew hS W hV0 ZT k (x+1) g (w.set x (d % 65536)) (d / 65536) (by omega) (by omega) (by simp;omega) (hU.set _ (by omega) (by omega)) (by omega) (by omega)
   (fun j hj=>by rw [getD_set_ne _ _ (by omega)];exact hz j hj) (by
    rw [mD _ _ _ (by omega),hinv,cF v x pW,gC x]
    have h5:d=d % 65536+65536 * (d / 65536):=by omega
    have h7:d * pw x=(d % 65536) * pw x+65536 * (d / 65536) * pw x:=by rw [← ep,← h5]
    have h9:d * pw x=c * pw x+(w.getD x 0 * pw x+v.getD x 0 * pw x):=by rw [← hd,ep,ep]
    grind)
  exact ⟨w',q1,by simpa using q2,q3,q4⟩
end Go.Den
namespace Go.Den
open Go.Ab
structure N7 (v1 v2 w0 w1 w2 A V W:Int):Prop where
 A0:0 < A
 XI:32768≤v1
 v1b:v1 < 65536
 ZU:0≤v2
 v2b:v2 < 65536
 w0a:0≤w0
 w0b:w0 < 65536
 w1a:0≤w1
 w1b:w1 < 65536
 w2a:0≤w2
 w2b:w2 < 65536
 V0:(v1 * 65536+v2) * A≤V
 V1:V < (v1 * 65536+v2+1) * A
 W0:((w0 * 65536+w1) * 65536+w2) * A≤W
 W1:W < ((w0 * 65536+w1) * 65536+w2+1) * A
 WV:W < 65536 * V
section
variable {v1 v2 w0 w1 w2 A V W:Int}
theorem N7.P0 (t:N7 v1 v2 w0 w1 w2 A V W):65536 * A≤V:=by
 have:=t.V0;have:=t.A0;have:=t.XI;have:=t.ZU
 have h:=j6 (show (65536:Int)≤v1 * 65536+v2 by omega) (Int.le_of_lt t.A0)
 omega
theorem v8 {x y A:Int} (hA:0 < A) (h:x * A < y * A):x < y:=Int.lt_of_mul_lt_mul_right h (Int.le_of_lt hA)
theorem N7.ZV (t:N7 v1 v2 w0 w1 w2 A V W):w0≤v1:=by
 have h1:((w0 * 65536+w1) * 65536+w2) * A < (65536 * (v1 * 65536+v2+1)) * A:=by
  rw [kA 65536]
  have:=t.W0;have:=t.WV;have:=t.V1
  omega
 have h2:=v8 t.A0 h1
 have:=t.w1a;have:=t.w2a;have:=t.v2b
 omega
theorem N7.WB (t:N7 v1 v2 w0 w1 w2 A V W) {q r Q:Int} (hq:q * v1+r=w0 * 65536+w1) (h:q * v2 > r * 65536+w2) (DI:0≤q) (hQ:Q * V≤W):Q < q:=by
 rcases Int.lt_or_le Q q with h' | h'
 ·exact h'
 ·exfalso
  have hV:=t.P0
  have hA:=t.A0
  have h1:q * V≤W:=Int.le_trans (j6 h' (by omega)) hQ
  have h2:q * ((v1 * 65536+v2) * A)≤q * V:=rC t.V0 DI
  have h3:(q * (v1 * 65536+v2)) * A < ((w0 * 65536+w1) * 65536+w2+1) * A:=by
   rw [kA];have:=t.W1;omega
  have h4:=v8 hA h3
  rw [← hq] at h4
  have h5:q * (v1 * 65536+v2)=q * v1 * 65536+q * v2:=by rw [ic,← kA]
  rw [h5] at h4
  have h6:(q * v1+r) * 65536=q * v1 * 65536+r * 65536:=ep _ _ _
  omega
theorem N7.WC (t:N7 v1 v2 w0 w1 w2 A V W) {q r:Int} (hq:q * v1+r=w0 * 65536+w1) (DI:0≤q) (hr:0≤r) (h:65536≤r∨(q≤65535∧q * v2≤r * 65536+w2)):q≤65535∧q * V < W+V:=by
 have hA:=t.A0
 have Ew:q≤65535:=by
  rcases h with h | h
  ·rcases Int.lt_or_le 65535 q with h' | h'
   ·exfalso
    have h1:=j6 (show 65536≤q by omega) (show 0≤v1 by have:=t.XI;omega)
    have:=t.ZV;have:=t.w1b
    omega
   ·exact h'
  ·exact h.1
 refine ⟨Ew,?_⟩
 have h2:q * v2≤r * 65536+w2:=by
  rcases h with h | h
  ·have h1:q * v2≤65535 * 65535:=Int.mul_le_mul Ew (by have:=t.v2b;omega) t.ZU (by omega)
   have:=t.w2a
   omega
  ·exact h.2
 -- q V < (q (v1 B + v2) + q) A
 have h3:q * V≤q * ((v1 * 65536+v2+1) * A):=rC (Int.le_of_lt t.V1) DI
 have h4:q * ((v1 * 65536+v2+1) * A)=(q * v1 * 65536+q * v2+q) * A:=by
  rw [← kA];congr 1
  rw [ic,ic,Int.mul_one,← kA]
 have h5:(q * v1 * 65536+q * v2+q) * A≤(((w0 * 65536+w1) * 65536+w2)+65535) * A:=by
  refine j6 ?_ (Int.le_of_lt hA)
  rw [← hq]
  have:(q * v1+r) * 65536=q * v1 * 65536+r * 65536:=ep _ _ _
  omega
 have h6:(((w0 * 65536+w1) * 65536+w2)+65535) * A=((w0 * 65536+w1) * 65536+w2) * A+65535 * A:=ep _ _ _
 have:=t.W0
 have:=t.P0
 omega
theorem N7.first (t:N7 v1 v2 w0 w1 w2 A V W) {Q:Int} (TA:0≤Q) (hQ:Q * V≤W):Q≤(w0 * 65536+w1) / v1:=by
 rw [Int.le_ediv_iff_mul_le (by have:=t.XI;omega)]
 have h1:Q * ((v1 * 65536+v2) * A)≤Q * V:=rC t.V0 TA
 have h2:(Q * (v1 * 65536+v2)) * A < ((w0 * 65536+w1) * 65536+w2+1) * A:=by rw [kA];have:=t.W1;omega
 have h3:=v8 t.A0 h2
 have h4:Q * (v1 * 65536+v2)=Q * v1 * 65536+Q * v2:=by rw [ic,← kA]
 have h5:0≤Q * v2:=Int.mul_nonneg TA t.ZU
 have:=t.w2b
 omega
end
theorem P1 {N:Nat} {p v w:List Int} (hv:U v) (hw:U w) (hn:2≤v.length) (WD:v.length+1≤w.length) (hS:SM (p.length+w.length)) {A V W:Int}
  (t:N7 (v.getD (v.length - 1) 0) (v.getD (v.length - 2) 0) (w.getD v.length 0) (w.getD (v.length - 1) 0) (w.getD (v.length - 2) 0) A V W) {Q:Int} (TA:0≤Q) (XJ:Q * V≤W) (hQ2:W < Q * V+V) :
  ∀ (k fuel:Nat) (q r:Int),k < fuel→65536≤r+32768 * (k:Int)→0≤r→r < 131072→0≤q→q < 4294967296→Q≤q→q * v.getD (v.length - 1) 0+r=w.getD v.length 0 * 65536+w.getD (v.length - 1) 0 →
   ∃ q',Q≤q'∧q'≤Q+1∧q'≤65535∧kI N p.length (v.length+1) v (p ++ w) fuel q r=fQ N p.length (v.length+1) v q' N (p ++ w) 0 0 0:=by
 intro k
 simp only [SM] at hS
 have hlen:(p ++ w).length=p.length+w.length:=lD
 have e2:ag (((v.length:Nat):Int) - 2)=((v.length - 2:Nat):Int):=by rw [aN (by omega) (by omega)];omega
 have e1:ag (((v.length:Nat):Int) - 1)=((v.length - 1:Nat):Int):=by rw [aN (by omega) (by omega)];omega
 have Vt:=hv.getD (v.length - 1)
 have Ss:=hv.getD (v.length - 2)
 have I2:=hw.getD (v.length - 2)
 induction k with
 | zero =>
  intro fuel q r hf hk Ik PU DI Ew ZW hinv
  obtain ⟨g,rfl⟩:∃ g,fuel=g+1:=⟨fuel - 1,by omega⟩
  have hr:65536≤r:=by simpa using hk
  obtain ⟨n1,n2⟩:=t.WC hinv DI Ik (.inl hr)
  have ee:q≤Q+1:=by
   rcases Int.lt_or_le (Q+1) q with h | h
   ·exfalso
    have:=j6 (show Q+2≤q by omega) (show 0≤V by have:=t.P0;have:=t.A0;omega)
    rw [ep] at this;omega
   ·exact h
  have ed:decide (r < 65536)=false:=by simp;omega
  refine ⟨q,ZW,ee,n1,?_⟩
  rw [kI]
  simp only [ed,Bool.false_and,cond_false]
  rw [if_pos (fun h=>by cases h),if_pos (fun h=>by cases h),if_pos (fun h=>by cases h)]
 | succ k ih =>
  intro fuel q r hf hk Ik PU DI Ew ZW hinv
  obtain ⟨g,rfl⟩:∃ g,fuel=g+1:=⟨fuel - 1,by omega⟩
  rw [kI,e1,e2,if_pos (fun _=>⟨by omega,by omega⟩),if_pos (fun _=>⟨by omega,by omega⟩),if_pos (fun _=>by omega)]
  rw [an,an,qA,if_pos ⟨by omega,by omega⟩,gU (n:=v.getD (v.length - 2) 0) (by omega) (by omega),gU (n:=w.getD (v.length - 2) 0) (by omega) (by omega),gU (n:=v.getD (v.length - 1) 0) (by omega) (by omega)]
  have xa:0≤q * v.getD (v.length - 2) 0:=Int.mul_nonneg DI Ss.1
  have wM:q * v.getD (v.length - 2) 0≤4294967295 * 65535:=Int.mul_le_mul (by omega) (by omega) Ss.1 (by omega)
  rw [gU xa (by omega),Fy Ik (by omega),Ij Ik (by omega) I2.1 I2.2]
  have hV:=t.P0
  have hA:=t.A0
  by_cases hex:65536≤r∨(q≤65535∧q * v.getD (v.length - 2) 0≤r * 65536+w.getD (v.length - 2) 0)
  ·obtain ⟨n1,n2⟩:=t.WC hinv DI Ik hex
   have ee:q≤Q+1:=by
    rcases Int.lt_or_le (Q+1) q with h | h
    ·exfalso
     have:=j6 (show Q+2≤q by omega) (show 0≤V by omega)
     rw [ep] at this;omega
    ·exact h
   have hc:cond (decide (r < 65536)) (cond (decide (q > 65535)) true (decide (q * v.getD (v.length - 2) 0 > r * 65536+w.getD (v.length - 2) 0))) false=false:=by
    rcases hex with h | ⟨h1,h2⟩
    ·rw [decide_eq_false (show ¬ r < 65536 by omega)];rfl
    ·rw [decide_eq_false (show ¬ q > 65535 by omega),cond_false,decide_eq_false (show ¬ q * v.getD (v.length - 2) 0 > r * 65536+w.getD (v.length - 2) 0 by omega)]
     cases decide (r < 65536)<;>rfl
   exact ⟨q,ZW,ee,n1,by rw [hc,cond_false]⟩
  ·have eI:r < 65536:=by omega
   have XK:Q < q:=by
    by_cases h65:65535 < q
    ·rcases Int.lt_or_le Q q with h | h
     ·exact h
     ·exfalso
      have:=j6 (show 65536≤Q by omega) (show 0≤V by omega)
      have:=t.WV
      omega
    ·exact t.WB hinv (by omega) DI XJ
   have hc:cond (decide (r < 65536)) (cond (decide (q > 65535)) true (decide (q * v.getD (v.length - 2) 0 > r * 65536+w.getD (v.length - 2) 0))) false=true:=by
    rw [decide_eq_true eI,cond_true]
    by_cases h65:65535 < q
    ·rw [decide_eq_true (show q > 65535 by omega)];rfl
    ·rw [decide_eq_false (show ¬ q > 65535 by omega),cond_false,decide_eq_true];omega
   have F3:=t.XI
   rw [hc,cond_true,gU (n:=q - 1) (by omega) (by omega),gU (by omega) (by omega)]
   refine ih g _ _ (by omega) (by omega) (by omega) (by omega) (by omega) (by omega) (by omega) ?_
   rw [Int.sub_mul];omega
theorem P2 {N:Nat} {p v w:List Int} (hv:U v) (hw:U w) (hn:2≤v.length) (WD:v.length+1≤w.length) (hS:SM (p.length+w.length)) (hN:v.length+3 < N) (hb:32768≤v.getD (v.length - 1) 0) (hz:∀ j,v.length+1≤j→w.getD j 0=0)
  (gk:bz w < 65536 * bz v):∃ Q w',uE N p.length (v.length+1) v (p ++ w)=some (Q,p ++ w')∧w'.length=w.length∧U w'∧0≤Q∧Q < 65536∧bz w'=bz w - Q * bz v∧bz w' < bz v:=by
 have VA:=hS
 simp only [SM] at VA
 have hlen:(p ++ w).length=p.length+w.length:=lD
 have e1:ag (((v.length:Nat):Int) - 1)=((v.length - 1:Nat):Int):=by rw [aN (by omega) (by omega)];omega
 obtain ⟨n,OL⟩:∃ n,v.length=n+2:=⟨v.length - 2,by omega⟩
 have hA:=k7 n
 -- the top digits
 have CZ:bz v=bz (v.take n)+pw n * (v.getD n 0+65536 * v.getD (n+1) 0):=by
  rw [qp v n (by omega),m8 v n (by omega),m8 v (n+1) (by omega),List.drop_eq_nil_of_le (by omega)];simp [bz]
 have XL:bz w=bz (w.take n)+pw n * (w.getD n 0+65536 * (w.getD (n+1) 0+65536 * w.getD (n+2) 0)):=by
  have h3:bz (w.drop (n+3))=0:=by
   have:=sb (l:=w.drop (n+3)) 0 fun j _=>by
    have:=hz (n+3+j) (by omega)
    rw [fk] at this ⊢
    rw [oa];exact this
   simpa [bz] using this
  rw [qp w n (by omega),m8 w n (by omega),m8 w (n+1) (by omega),m8 w (n+2) (by omega),h3];simp
 have Wc:=(hv.take n).lt
 have acQ:=(hv.take n).oG
 have hwt:=(hw.take n).lt
 have acS:=(hw.take n).oG
 rw [n9,Nat.min_eq_left (by omega)] at Wc hwt
 have d1:=hv.getD (n+1)
 have d2:=hv.getD n
 have u0:=hw.getD (n+2)
 have u1:=hw.getD (n+1)
 have u2:=hw.getD n
 have tp:32768≤v.getD (n+1) 0:=by rw [OL] at hb;exact hb
 have t:N7 (v.getD (v.length - 1) 0) (v.getD (v.length - 2) 0) (w.getD v.length 0) (w.getD (v.length - 1) 0) (w.getD (v.length - 2) 0) (pw n) (bz v) (bz w):=by
  have x1:v.length - 1=n+1:=by omega
  have x2:v.length - 2=n:=by omega
  rw [x1,x2,OL]
  refine ⟨hA,tp,d1.2,d2.1,d2.2,u0.1,u0.2,u1.1,u1.2,u2.1,u2.2,?_,?_,?_,?_,gk⟩
  ·rw [CZ];grind
  ·rw [CZ];grind
  ·rw [XL];grind
  ·rw [XL];grind
 have ZX:0 < bz v:=by have:=t.P0;omega
 obtain ⟨Q,P3⟩:∃ Q,Q=bz w / bz v:=⟨_,rfl⟩
 have TA:0≤Q:=by rw [P3];exact Int.ediv_nonneg hw.oG (by omega)
 have XJ:Q * bz v≤bz w:=by rw [P3];exact Int.ediv_mul_le _ (by omega)
 have hQ2:bz w < Q * bz v+bz v:=by
  have:=Int.lt_ediv_add_one_mul_self (bz w) ZX
  rw [P3];rw [ep] at this;omega
 have hQ3:Q < 65536:=by
  rcases Int.lt_or_le Q 65536 with h | h
  ·exact h
  ·exfalso;have:=j6 h (Int.le_of_lt ZX);omega
 have acU:bz v < pw v.length:=hv.lt
 have hK:∀ q,Q≤q→q≤Q+1→q≤65535→∃ w',fQ N p.length (v.length+1) v q N (p ++ w) 0 0 0=some (Q,p ++ w')∧w'.length=w.length∧U w'∧bz w'=bz w - Q * bz v:=by
  intro q DI Ew ee
  obtain ⟨w',br,q1,q2,q3,q4,q5,q6⟩:=JU (N:=N) (p:=p) hv (show 0≤q by omega) (show q < 65536 by omega) (by simp only [SM];omega) (bz w) (v.length+1) 0 N w 0 0 (by omega) (by omega) WD hw (by omega) (by omega) (fun h=>rfl) (.inl rfl) hz
   (by rw [List.take_zero];simp [bz])
  have h1:=q2.oG
  have h2:=JT q2 _ q4
  have hpv:pw (v.length+1)=65536 * pw v.length:=gC _
  rw [show ((0:Nat):Int)=0 from rfl] at q6
  rw [q6]
  rcases q3 with rfl | rfl
  ·have XK:q=Q:=by
    rcases Int.lt_or_le Q q with h | h
    ·exfalso
     have:=j6 (show Q+1≤q by omega) (Int.le_of_lt ZX)
     rw [ep] at this
     simp at q5
     omega
    ·omega
   subst XK
   refine ⟨w',?_,q1,q2,by simpa using q5⟩
   rw [decide_eq_false (by decide),cond_false]
   unfold kH
   rw [nz TA (by omega)]
  ·have XK:q=Q+1:=by
    rcases Int.lt_or_le Q q with h | h
    ·omega
    ·exfalso
     have:q=Q:=by omega
     subst this
     rw [Int.mul_neg,Int.mul_one] at q5
     omega
   subst XK
   rw [decide_eq_true (by decide),cond_true]
   have ZY:(Q+1 - 1) * bz v=Q * bz v:=by rw [Int.add_sub_cancel]
   obtain ⟨w2,r1,r2,r3,r4⟩:=JV (N:=N) (p:=p) hv (show 0 < Q+1 by omega) (show Q+1 < 65536 by omega) (by simp only [SM];omega) (bz w) (by rw [ZY];omega) (by rw [ZY];omega) v.length 0 N w' 0 (by omega) (by omega) (by omega) q2 (by omega) (by omega) q4
    (by rw [q5,List.take_zero];simp [bz])
   rw [ZY] at r4
   refine ⟨w2,?_,by omega,r3,r4⟩
   rw [show ((0:Nat):Int)=0 from rfl] at r1
   rw [r1,Int.add_sub_cancel]
 unfold uE
 rw [e1,if_pos ⟨by omega,by omega⟩,if_pos (by omega),if_pos ⟨by omega,by omega⟩,if_pos ⟨by omega,by omega⟩,an]
 have b1:32768≤v.getD (v.length - 1) 0:=hb
 have b2:=hv.getD (v.length - 1)
 have c1:=hw.getD v.length
 have c2:=hw.getD (v.length - 1)
 rw [gU (n:=v.getD (v.length - 1) 0) (by omega) (by omega),if_pos (by omega),qA,qA,gU (n:=w.getD v.length 0) (by omega) (by omega),gU (n:=w.getD (v.length - 1) 0) (by omega) (by omega),Fy (by omega) (by omega),Ij (by omega) (by omega) (by omega) (by omega)]
 have XM:0≤w.getD v.length 0 * 65536+w.getD (v.length - 1) 0:=by omega
 have hT1:w.getD v.length 0 * 65536+w.getD (v.length - 1) 0 < 4294967296:=by omega
 rw [Int.tdiv_eq_ediv_of_nonneg XM,Int.tmod_eq_emod_of_nonneg XM]
 have tq:=Int.emod_nonneg (w.getD v.length 0 * 65536+w.getD (v.length - 1) 0) (show v.getD (v.length - 1) 0≠0 by omega)
 have Kp:=Int.emod_lt_of_pos (w.getD v.length 0 * 65536+w.getD (v.length - 1) 0) (show 0 < v.getD (v.length - 1) 0 by omega)
 have N6:=Int.ediv_nonneg XM (show 0≤v.getD (v.length - 1) 0 by omega)
 have hda:=Int.mul_ediv_add_emod (w.getD v.length 0 * 65536+w.getD (v.length - 1) 0) (v.getD (v.length - 1) 0)
 have hdl:(w.getD v.length 0 * 65536+w.getD (v.length - 1) 0) / v.getD (v.length - 1) 0≤w.getD v.length 0 * 65536+w.getD (v.length - 1) 0:=Int.ediv_le_self _ XM
 rw [gU N6 (by omega)]
 obtain ⟨q,h1,h2,h3,h4⟩:=P1 (N:=N) (p:=p) hv hw hn WD hS t TA XJ hQ2 2 N ((w.getD v.length 0 * 65536+w.getD (v.length - 1) 0) / v.getD (v.length - 1) 0) ((w.getD v.length 0 * 65536+w.getD (v.length - 1) 0) % v.getD (v.length - 1) 0)
  (by omega) (by omega) tq (by omega) N6 (by omega) (t.first TA XJ) (by rw [gB];exact hda)
 rw [h4]
 obtain ⟨w',k1,k2,k3,k4⟩:=hK q h1 h2 h3
 exact ⟨Q,w',k1,k2,k3,TA,hQ3,k4,by omega⟩
end Go.Den
namespace Go.Den
open Go.Ab
theorem P4 {a b:Int} (ha:0≤a) (QU:a < 65536) (hb:0≤b) (oc:b < 65536):ss .u32 b (a * 65536)=a * 65536+b:=by
 have h:=Mi ha QU hb oc
 unfold ss at h ⊢
 rw [BitVec.or_comm];exact h
theorem UO {n:Int} {s:Nat} (hs:s≤15):oy .u32 n (s:Int)=n / 2 ^ s:=by
 unfold oy
 have:min ((s:Nat):Int).toNat IntKind.u32.bits=s:=by show min s 32=s;omega
 rw [this,Int.fdiv_eq_ediv_of_nonneg _ (Int.le_of_lt (Int.pow_pos (by decide)))]
theorem Hk {N:Nat} {b q u:List Int} {s:Nat} (hs:s≤15) (hU:U u) (hb:b.length+1≤u.length) (hS:SM u.length) (hz:u.getD b.length 0=0) (h0:u.getD 0 0 % 2 ^ s=0) (hq:U q) (hqN:q.length < N) (hqS:SM q.length) (hN:b.length < N) :
  ∀ (k x fuel:Nat) (r:List Int),x+k=b.length→k < fuel→r.length=b.length→U r→(∀ j,x≤j→r.getD j 0=0)→2 ^ s * bz r=bz (u.take x)+u.getD x 0 % 2 ^ s * pw x →
   ∃ R:List Int,jD N b (s:Int) q u fuel r (x:Int)=some (lm (bz q).toNat,lm (bz R).toNat)∧U R∧2 ^ s * bz R=bz (u.take b.length)
 | 0,x,fuel,r,hx,hf,hr,XN,Z0,hinv=>by
  obtain ⟨g,rfl⟩:∃ g,fuel=g+1:=⟨fuel - 1,by omega⟩
  have Gy:x=b.length:=by omega
  subst Gy
  simp only [SM] at hS hqS
  have hp:(2:Int) ^ s≠0:=Int.ne_of_gt (Int.pow_pos (by decide))
  refine ⟨r,?_,XN,?_⟩
  ·rw [jD,Nat.sub_zero,dV,cond_false,lW hq hqN (by omega),cn,lW XN (by omega) (by omega),cn]
  ·rw [hinv,hz];simp
 | k+1,x,fuel,r,hx,hf,hr,XN,Z0,hinv=>by
  obtain ⟨g,rfl⟩:∃ g,fuel=g+1:=⟨fuel - 1,by omega⟩
  simp only [SM] at hS
  have pW:x < b.length:=by omega
  have h1:=hU.getD x
  have h2:=hU.getD (x+1)
  rw [jD,Nat.sub_zero,dec_lt pW,cond_true,if_pos (oE (by omega)),aK (by omega),if_pos (oE (by omega)),if_pos (by omega),if_pos (oE (by omega))]
  simp only [an]
  rw [cC (n:=u.getD x 0) (by omega) (by omega),cC (n:=u.getD (x+1) 0) (by omega) (by omega),Fx h2.1 h2.2,P4 h2.1 h2.2 h1.1 h1.2,UO hs,sY]
  generalize hae:u.getD x 0=a at *
  generalize G8:u.getD (x+1) 0=a' at *
  -- 65536 = P c
  obtain ⟨P,hP⟩:∃ P:Int,P=2 ^ s:=⟨_,rfl⟩
  obtain ⟨c,hc⟩:∃ c:Int,c=2 ^ (16 - s):=⟨_,rfl⟩
  have TC:(65536:Int)=P * c:=by rw [hP,hc,← Int.pow_add,show s+(16 - s)=16 by omega];decide
  have hP0:0 < P:=by rw [hP];exact Int.pow_pos (by decide)
  have xl:0 < c:=by rw [hc];exact Int.pow_pos (by decide)
  rw [← hP] at hinv ⊢
  have e1:(a' * 65536+a) / P=a' * c+a / P:=by
   rw [TC,show a' * (P * c)+a=a+(a' * c) * P by rw [gB P c,← kA];omega,Int.add_mul_ediv_right _ _ (by omega)];omega
  have e2:a'=P * (a' / P)+a' % P:=(Int.mul_ediv_add_emod a' P).symm
  have l0:=Int.emod_nonneg a' (show P≠0 by omega)
  have l1:=Int.emod_lt_of_pos a' hP0
  have m0:0≤a / P:=Int.ediv_nonneg h1.1 (by omega)
  have m1:a / P < c:=Int.ediv_lt_of_lt_mul hP0 (by rw [gB,← TC];exact h1.2)
  have e3:(a' * 65536+a) / P % 65536=a' % P * c+a / P:=by
   rw [e1]
   have h3:a' * c=(a' / P) * 65536+a' % P * c:=by
    have:a' * c=(P * (a' / P)+a' % P) * c:=by rw [← e2]
    rw [this,ep,TC];grind
   have h4:a' % P * c+a / P < 65536:=by
    have:=j6 (show a' % P+1≤P by omega) (Int.le_of_lt xl)
    rw [ep,← TC] at this;omega
   have h5:0≤a' % P * c:=Int.mul_nonneg l0 (Int.le_of_lt xl)
   rw [h3];omega
  rw [e3]
  have h4:a' % P * c+a / P < 65536:=by
   have:=j6 (show a' % P+1≤P by omega) (Int.le_of_lt xl)
   rw [ep,← TC] at this;omega
  have h5:0≤a' % P * c:=Int.mul_nonneg l0 (Int.le_of_lt xl)
  have:=Hk (N:=N) (s:=s) hs hU hb (by simp only [SM];omega) hz h0 hq hqN hqS hN k (x+1) g (r.set x (a' % P * c+a / P)) (by omega) (by omega) (by simp [hr]) (XN.set _ (by omega) h4) (fun j hj=>by rw [getD_set_ne _ _ (by omega)];exact Z0 j (by omega))
   (by
    rw [← hP,mD _ _ _ (by omega),Z0 x (aF _),cF u x (by omega),Int.sub_zero,G8,gC,ic,hinv]
    have e4:a=P * (a / P)+a % P:=(Int.mul_ediv_add_emod a P).symm
    rw [hae]
    have e6:P * ((a' % P * c+a / P) * pw x)=a' % P * (P * c) * pw x+P * (a / P) * pw x:=by grind
    rw [e6,← TC]
    grind)
  rw [← hP] at this
  exact this
theorem FG {l:List Int} (hU:U l) (n:Nat) (h:bz l < pw n):bz (l.take n)=bz l:=(sb n (FF hU n h)).symm
theorem Hl {N:Nat} {b o2:List Int} {s:Nat} (hs:s≤15) {v:List Int} (hv:v=(o2.take b.length).drop 0) (UP:U v) (LI:v.length=b.length) (hn:2≤b.length) (hb:32768≤v.getD (b.length - 1) 0) (cY:b.length≤o2.length)
  {Lu:Nat} (hLu:b.length+1≤Lu) (hS:SM Lu) (hN:Lu+3 < N) {A B:Int} (hA:0≤A) (hB:0 < B) (hV:bz v=B * 2 ^ s) :
  ∀ (k fuel:Nat) (q u:List Int),k≤Lu - b.length→k < fuel→u.length=Lu→U u→q.length=Lu - b.length→U q→(∀ j,j < k→q.getD j 0=0)→bz (u.drop k) < bz v→A * 2 ^ s=bz q * bz v+bz u →
   jE N b (s:Int) o2 fuel q u ((k:Int) - 1)=some (lm (A / B).toNat,lm (A % B).toNat)
 | 0,fuel,q,u,hk,hf,hu,hU,hq,Z1,Z2,gk,hinv=>by
  obtain ⟨g,rfl⟩:∃ g,fuel=g+1:=⟨fuel - 1,by omega⟩
  simp only [SM] at hS
  have e:decide ((((0:Nat):Int) - 1)≥0)=false:=rfl
  rw [jE,e,cond_false,Nat.sub_zero,if_pos (by omega)]
  rw [List.drop_zero] at gk
  have hp:(0:Int) < 2 ^ s:=Int.pow_pos (by decide)
  have hvp:bz v < pw b.length:=by rw [← LI];exact UP.lt
  have hz:=FF hU b.length (by omega)
  -- nvl u is a multiple of 2^s
  have hR:bz u=(A - bz q * B) * 2 ^ s:=by rw [Int.sub_mul,hinv,hV];grind
  have h0:u.getD 0 0 % 2 ^ s=0:=by
   have h1:=m8 u 0 (by omega)
   rw [List.drop_zero] at h1
   obtain ⟨c,hc⟩:∃ c:Int,c=2 ^ (16 - s):=⟨_,rfl⟩
   have TC:(65536:Int)=2 ^ s * c:=by rw [hc,← Int.pow_add,show s+(16 - s)=16 by omega];decide
   have h2:u.getD 0 0=(A - bz q * B - c * bz (u.drop (0+1))) * 2 ^ s:=by
    have:u.getD 0 0=bz u - 65536 * bz (u.drop (0+1)):=by omega
    rw [this,hR,TC];grind
   rw [h2];exact Int.mul_emod_left _ _
  obtain ⟨R,r1,r2,r3⟩:=Hk (N:=N) (b:=b) (q:=q) hs hU (by omega) (by simp only [SM];omega) (hz _ (aF _)) h0 Z1 (by omega) (by simp only [SM];omega) (by omega) b.length 0 N (List.replicate b.length 0) (by omega) (by omega) (by simp) (U.replicate _) (fun j _=>gR _ j)
   (by rw [jO,h0];simp [bz])
  rw [show ((0:Nat):Int)=0 from rfl] at r1
  rw [r1]
  rw [← sb b.length hz,hR,gB] at r3
  have r4:bz R=A - bz q * B:=Int.eq_of_mul_eq_mul_right (Int.ne_of_gt hp) r3
  have r5:=r2.oG
  have r6:bz R < B:=by
   refine v8 hp ?_
   rw [r4,← hR,← hV];exact gk
  have Ew:A / B=bz q:=by
   rw [show A=bz R+bz q * B by omega,Int.add_mul_ediv_right _ _ (by omega),Int.ediv_eq_zero_of_lt r5 r6];omega
  have ee:A % B=bz R:=by
   rw [show A=bz R+bz q * B by omega,Int.add_mul_emod_self_right,Int.emod_eq_of_lt r5 r6]
  rw [Ew,ee]
 | k+1,fuel,q,u,hk,hf,hu,hU,hq,Z1,Z2,gk,hinv=>by
  obtain ⟨g,rfl⟩:∃ g,fuel=g+1:=⟨fuel - 1,by omega⟩
  simp only [SM] at hS
  have e:(((k+1:Nat):Int) - 1)=(k:Int):=by omega
  have e0:decide ((k:Int)≥0)=true:=by simp
  have e1:ag ((ag ((k:Int)+((b.length:Nat):Int)))+1)=((k+b.length+1:Nat):Int):=by rw [aN (n:=(k:Int)+((b.length:Nat):Int)) (by omega) (by omega),aN (by omega) (by omega)];omega
  rw [e,jE,e0,cond_true,Nat.sub_zero,e1]
  simp only [an]
  rw [if_pos ⟨by omega,by omega⟩,if_pos (by omega),if_pos (by omega),if_pos ⟨Nat.zero_le _,cY⟩,← hv]
  have hp:u.take k ++ u.drop k=u:=List.take_append_drop _ _
  have CX:(u.take k).length=k:=by rw [n9];omega
  have WD:(u.drop k).length=Lu - k:=by rw [List.length_drop,hu]
  have hd:=m8 u k (by omega)
  have MW:=hU.getD k
  have hvp:bz v < pw b.length:=by rw [← LI];exact UP.lt
  have hw1:bz (u.drop k) < 65536 * bz v:=by omega
  have XL:bz (u.drop k) < pw (v.length+1):=by rw [gC,LI];omega
  obtain ⟨Q,w',d1,d2,d3,d4,d5,d6,d7⟩:=P2 (N:=N) (p:=u.take k) (v:=v) (w:=u.drop k) UP (hU.drop k) (by omega) (by omega) (by simp only [SM];omega) (by omega) (by rw [LI];exact hb) (FF (hU.drop k) _ XL) hw1
  rw [CX,hp,LI] at d1
  rw [show k+b.length+1 - k=b.length+1 by omega,d1,cn]
  have WE:(u.take k ++ w').length=u.length:=by rw [lD,CX,d2,WD,hu];omega
  simp only [WE]
  rw [if_pos trivial,if_pos (oE (by omega)),aN (by omega) (by omega)]
  have fP:∀ j,j < k→(q.set k Q).getD j 0=0:=fun j hj=>by rw [getD_set_ne _ _ (by omega)];exact Z2 j (by omega)
  refine Hl (A:=A) hs hv UP LI hn hb cY hLu (by simp only [SM];omega) hN hA hB hV k g _ _ (by omega) (by omega) (by rw [WE,hu]) ((hU.take k).append d3) (by simp [hq]) (Z1.set _ d4 d5) fP ?_ ?_
  ·have:(u.take k ++ w').drop k=w':=by rw [List.drop_append_of_le_length (by omega),List.drop_of_length_le (by omega)];rfl
   rw [this];exact d7
  ·have h1:=k8 (u.take k) w'
   have h2:=qp u k (by omega)
   rw [CX] at h1
   rw [h1,mD _ _ _ (by omega),Z2 k (by omega),d6,hinv,h2];grind
theorem CP {A B q r:Nat} (h:A=q * B+r) (hr:r < B):A / B=q∧A % B=r:=by
 subst h
 have hB:0 < B:=by omega
 exact ⟨by rw [o9,Nat.mul_add_div hB,Nat.div_eq_of_lt hr];rfl,by rw [o9,Nat.mul_add_mod,Nat.mod_eq_of_lt hr]⟩
theorem Cu {N a b:Nat} (hb:b≠0) (hs:SM ((lm a).length+(lm b).length+2)) (hN:(lm a).length+(lm b).length+10 < N):oB N (lm a) (lm b)=some (lm (a / b),lm (a % b)):=by
 have Gz:=hs
 simp only [SM] at Gz
 unfold oB
 obtain ⟨c,hc,s9,IJ,-⟩:=v7 (N:=N) (a:=a) (b:=b) (by omega) (by simp only [SM];omega) (by simp only [SM];omega)
 rw [hc,cn]
 by_cases Tz:a < b
 ·rw [decide_eq_true (s9.2 Tz),cond_true]
  unfold dp
  rw [if_pos (by omega),cn,Nat.div_eq_of_lt Tz,Nat.mod_eq_of_lt Tz,iq];rfl
 ·rw [decide_eq_false (fun h=>Tz (s9.1 h)),cond_false]
  have hbl:=lV.2 hb
  cases h1:(((lm b).length:Nat):Int) == 1 with
  | true =>
   have h1:(lm b).length=1:=by have h1:=eq_of_beq h1;omega
   have qQ:b < 65536:=by have:=(jl (n:=b) (k:=1)).1 (by omega);simp [pw] at this;omega
   have e:(lm b).getD 0 0=(b:Int):=by
    rw [ri hb];show ((b % 65536:Nat):Int)=b;omega
   rw [cond_true,if_pos (by omega),e,PV (by omega) qQ (by simp only [SM];omega) (by omega),cn]
   have hm:a % b < 65536:=nc (Nat.mod_lt _ (by omega)) (by omega)
   rw [lW (U.one (by omega) (by omega)) (by simp;omega) (by simp),cn,qo,Int.toNat_natCast]
  | false =>
   have h2:2≤(lm b).length:=by simp at h1;omega
   rw [cond_false]
   obtain ⟨lb,x,Wz,Pk,hlU,hx1,X8⟩:=Sm hb
   have Mq:(lm b).length=lb.length+1:=by rw [Wz];simp
   have e1:ag ((((lm b).length:Nat):Int) - 1)=((lb.length:Nat):Int):=by rw [aN (by omega) (by omega)];omega
   rw [e1,if_pos (by omega),an]
   have ex:(lm b).getD lb.length 0=x:=by rw [Wz];simp [List.getD]
   rw [ex]
   obtain ⟨X,rfl⟩:=Int.eq_ofNat_of_zero_le hx1
   obtain ⟨s,s1,s2,s3,s4⟩:=WA (N:=N) (x:=X) (by omega) (by omega)
   rw [s2,cn]
   obtain ⟨o1,p1,p2,p3,p4,p5⟩:=FE (N:=N) (a:=lm a) (qM a) s1 (by simp only [SM];omega) (by omega)
   obtain ⟨o2,q1,q2,q3,q4,q5⟩:=FE (N:=N) (a:=lm b) (qM b) s1 (by simp only [SM];omega) (by omega)
   rw [p1,cn,q1,cn,if_pos ⟨Nat.zero_le _,by omega⟩,Nat.sub_zero]
   rw [hO] at p4 q4
   have V2:(lm b).length≤(lm a).length:=gZ (by omega)
   have e2:ag (((o1.length:Nat):Int) - (((lm b).length:Nat):Int))=((o1.length - (lm b).length:Nat):Int):=by rw [aN (by omega) (by omega)];omega
   rw [e2,if_pos (by omega)]
   -- the divisor, shifted
   have wM:(0:Int) < 2 ^ s:=Int.pow_pos (by decide)
   have hbv:(b:Int)=bz lb+pw lb.length * X:=by
    have:=hO b
    rw [Wz,k8,qo] at this;omega
   have hs3:(32768:Int)≤X * 2 ^ s:=by
    have e:((X * 2 ^ s:Nat):Int)=(X:Int) * 2 ^ s:=by simp
    omega
   have hs4:(X:Int) * 2 ^ s+2 ^ s≤65536:=by
    have e:((X * 2 ^ s:Nat):Int)=(X:Int) * 2 ^ s:=by simp
    have Z3:(65536:Nat)=2 ^ (16 - s) * 2 ^ s:=by rw [← Nat.pow_add,show 16 - s+s=16 by omega]
    have h9:X < 2 ^ (16 - s):=by
     rw [Z3] at s4;exact Nat.lt_of_mul_lt_mul_right s4
    have XG:=dE (2 ^ s) (show X+1≤2 ^ (16 - s) by omega)
    rw [← Z3,cr] at XG
    have e3:((2 ^ s:Nat):Int)=(2:Int) ^ s:=by simp
    omega
   have ac4:=hlU.lt
   have Z4:=hlU.oG
   have hV:(b:Int) * 2 ^ s=bz lb * 2 ^ s+pw lb.length * (X * 2 ^ s):=by rw [hbv,ep,kA]
   have ZT:(b:Int) * 2 ^ s < pw (lm b).length:=by
    rw [Mq,gC,hV]
    have h5:=j6 (show bz lb+1≤pw lb.length by omega) (Int.le_of_lt wM)
    have h6:=rC hs4 (Int.le_of_lt (k7 lb.length))
    rw [ic] at h6
    rw [ep] at h5
    have:=k7 lb.length
    omega
   have hV2:32768 * pw lb.length≤(b:Int) * 2 ^ s:=by
    rw [hV]
    have h6:=rC hs3 (Int.le_of_lt (k7 lb.length))
    have h7:0≤bz lb * 2 ^ s:=Int.mul_nonneg Z4 (Int.le_of_lt wM)
    rw [gB 32768];omega
   have UP:U ((o2.take (lm b).length).drop 0):=by rw [List.drop_zero];exact q3.take _
   have LI:((o2.take (lm b).length).drop 0).length=(lm b).length:=by simp;omega
   have Z5:bz ((o2.take (lm b).length).drop 0)=(b:Int) * 2 ^ s:=by rw [List.drop_zero,FG q3 _ (by rw [q4];exact ZT),q4]
   have UQ:32768≤((o2.take (lm b).length).drop 0).getD ((lm b).length - 1) 0:=by
    have h5:=cF ((o2.take (lm b).length).drop 0) lb.length (by omega)
    have h6:=(UP.take lb.length).lt
    rw [je (by omega),Z5] at h5
    rw [n9,Nat.min_eq_left (by omega)] at h6
    rw [show (lm b).length - 1=lb.length by omega]
    rcases Int.lt_or_le (((o2.take (lm b).length).drop 0).getD lb.length 0) 32768 with h | h
    ·exfalso
     have:=j6 (show ((o2.take (lm b).length).drop 0).getD lb.length 0≤32767 by omega) (Int.le_of_lt (k7 lb.length))
     have:=k7 lb.length
     omega
    ·exact h
   have e3:ag (((o1.length - (lm b).length:Nat):Int) - 1)=((o1.length - (lm b).length:Nat):Int) - 1:=aN (by omega) (by omega)
   rw [e3,an]
   have WG:bz (o1.drop (o1.length - (lm b).length)) < bz ((o2.take (lm b).length).drop 0):=by
    -- the top n digits: the last one is below 2 ^ s
    have hl:(o1.drop (o1.length - (lm b).length)).length=(lm b).length:=by rw [List.length_drop];omega
    have hUd:=q3
    have ZS:=p3.drop (o1.length - (lm b).length)
    have h5:=cF (o1.drop (o1.length - (lm b).length)) lb.length (by omega)
    rw [je (by omega)] at h5
    have h6:=(ZS.take lb.length).lt
    rw [n9,Nat.min_eq_left (by omega)] at h6
    have h7:(o1.drop (o1.length - (lm b).length)).getD lb.length 0=o1.getD (lm a).length 0:=by
     rw [fk,oa,fk];congr 2;omega
    rw [h7] at h5
    rw [Z5]
    have h8:o1.getD (lm a).length 0+1≤32768:=by
     have:(2:Int) ^ s≤32768:=by
      have h:=Nat.pow_le_pow_right (n:=2) (by decide) s1
      have e:((2 ^ s:Nat):Int)=(2:Int) ^ s:=by simp
      omega
     omega
    have h9:=j6 h8 (Int.le_of_lt (k7 lb.length))
    rw [ep] at h9
    omega
   rw [Hl (N:=N) (A:=(a:Int)) (B:=(b:Int)) s1 rfl UP LI h2 UQ (by omega) (Lu:=o1.length) (by omega) (by simp only [SM];omega) (by omega) (by omega) (by omega) Z5 (o1.length - (lm b).length) N _ o1 (aF _) (by omega) rfl p3 (by simp) (U.replicate _)
    (fun j _=>gR _ j) WG (by rw [jO,p4];simp)]
   rfl
end Go.Den
namespace Go.Den
open Go.Ab
def Gv {α:Type} (f:Nat→Option α) (r:α):Prop:=∃ N0,∀ N,N0≤N→f N=some r
theorem Gv.pure {α:Type} (r:α):Gv (fun _=>some r) r:=⟨0,fun _ _=>rfl⟩
theorem Gv.bind {α β:Type} {f:Nat→Option α} {k:Nat→α→Option β} {r:α} {s:β} (h:Gv f r) (h2:Gv (fun N=>k N r) s):Gv (fun N=>(f N).bind (k N)) s:=by
 obtain ⟨N1,h1⟩:=h
 obtain ⟨N2,h2⟩:=h2
 exact ⟨N1+N2,fun N hN=>by show (f N).bind (k N)=some s;rw [h1 N (by omega)];exact h2 N (by omega)⟩
theorem Gv.congr {α:Type} {f g:Nat→Option α} {r:α} (h:Gv f r) (e:∀ N,g N=f N):Gv g r:=let ⟨N0,h0⟩:=h;⟨N0,fun N hN=>(e N).trans (h0 N hN)⟩
theorem Gv.of {α:Type} {f:Nat→Option α} {r:α} (N0:Nat) (h:∀ N,N0≤N→f N=some r):Gv f r:=⟨N0,h⟩
theorem Gv.aL {α:Type} {f g:Nat→Option α} {r:α} {q:Bool} (hq:q=true) (h:Gv f r):Gv (fun N=>cond q (f N) (g N)) r:=by subst hq;exact h
theorem Gv.aY {α:Type} {f g:Nat→Option α} {r:α} {q:Bool} (hq:q=false) (h:Gv g r):Gv (fun N=>cond q (f N) (g N)) r:=by subst hq;exact h
theorem Gv.if {α:Type} {f:Nat→Option α} {r:α} {p:Prop} [Decidable p] (hp:p) (h:Gv f r):Gv (fun N=>if p then f N else none) r:=h.congr fun _=>if_pos hp
theorem Gv.eq {α:Type} {f:Nat→Option α} {r s:α} (h:Gv f r) (e:r=s):Gv f s:=e ▸ h
theorem Gv.ex {α:Type} {f:Nat→Option α} {r:α} (h:Gv f r):∃ N,f N=some r:=let ⟨N,h⟩:=h;⟨N,h N (aF _)⟩
def sg (neg:Bool) (n:Nat):Int:=cond neg (-(n:Int)) (n:Int)
def zd (z:Int):bW:=⟨decide (z < 0),lm z.natAbs⟩
def zv (a:bW):Int:=sg a.fG (bz a.fL).toNat
def ZB (z:Int) (n:Nat):Prop:=(lm z.natAbs).length≤n
structure IB (a:bW) (n:Nat):Prop where
 U:U a.fL
 len:a.fL.length≤n
theorem oW (neg:Bool) (n:Nat):(sg neg n).natAbs=n:=by cases neg<;>simp [sg]
theorem lv (a:bW):(zv a).natAbs=(bz a.fL).toNat:=oW _ _
theorem P5 (neg:Bool) (n:Nat) (h:n≠0):zd (sg neg n)=⟨neg,lm n⟩:=by
 unfold zd
 rw [oW]
 cases neg
 ·rw [decide_eq_false (show ¬ sg false n < 0 by simp [sg])]
 ·rw [decide_eq_true (show sg true n < 0 by simp [sg];omega)]
theorem P6:zd 0=⟨false,[]⟩:=by unfold zd;rw [show (0:Int).natAbs=0 from rfl,iq];rfl
theorem Mr (neg:Bool):zd (sg neg 0)=⟨false,[]⟩:=by cases neg<;>exact P6
theorem ml (z:Int):zv (zd z)=z:=by
 unfold zv zd
 simp only [hO,Int.toNat_natCast]
 unfold sg
 by_cases h:z < 0
 ·rw [decide_eq_true h];simp only [cond_true];omega
 ·rw [decide_eq_false h];simp only [cond_false];omega
theorem ZB.le {z:Int} {m n:Nat} (h:ZB z m) (Ms:m≤n):ZB z n:=dU h Ms
theorem P7 {z:Int} {n:Nat}:ZB z n↔(z.natAbs:Int) < pw n:=jl
theorem JW {z:Int} {n:Nat}:ZB z n↔z.natAbs < 65536 ^ n:=by
 rw [P7];unfold pw
 have:((65536 ^ n:Nat):Int)=65536 ^ n:=by simp
 omega
theorem ZB.neg {z:Int} {n:Nat} (h:ZB z n):ZB (-z) n:=by unfold ZB at *;rwa [Int.natAbs_neg]
theorem ZB.mul {x y:Int} {m n:Nat} (h1:ZB x m) (h2:ZB y n):ZB (x * y) (m+n):=by
 rw [JW] at *
 rw [Int.natAbs_mul,Nat.pow_add]
 exact Nat.mul_lt_mul'' h1 h2
theorem ZB.add {x y:Int} {n:Nat} (h1:ZB x n) (h2:ZB y n):ZB (x+y) (n+1):=by
 rw [JW] at *
 have:=Int.natAbs_add_le x y
 have h3:65536 ^ (n+1)=65536 * 65536 ^ n:=by rw [Nat.pow_succ];omega
 have:=Nat.pow_pos (n:=n) (show 0 < 65536 by decide)
 omega
theorem ZB.sub {x y:Int} {n:Nat} (h1:ZB x n) (h2:ZB y n):ZB (x - y) (n+1):=by rw [Int.sub_eq_add_neg];exact h1.add h2.neg
theorem ZB.of_le {x y:Int} {n:Nat} (h:ZB y n) (Tp:x.natAbs≤y.natAbs):ZB x n:=by rw [JW] at *;omega
theorem ZB.small {x:Int} (h:x.natAbs < 65536):ZB x 1:=by rw [JW];simpa using h
theorem ZB.word {x:Int} (h:-9223372036854775808≤x) (h2:x≤9223372036854775807):ZB x 4:=by rw [JW];omega
theorem IB.zb {a:bW} {n:Nat} (h:IB a n):ZB (zv a) n:=by
 rw [P7,lv]
 have h1:=h.U.lt
 have h2:=h.U.oG
 have h3:pw a.fL.length≤pw n:=by
  have e:pw n=pw a.fL.length * pw (n - a.fL.length):=by rw [← Fz];congr 1;have:=h.len;omega
  have:=k7 (n - a.fL.length)
  have:=rC (show 1≤pw (n - a.fL.length) by omega) (Int.le_of_lt (k7 a.fL.length))
  omega
 omega
theorem ZB.ib {z:Int} {n:Nat} (h:ZB z n):IB (zd z) n:=⟨qM _,h⟩
theorem IB.le {a:bW} {m n:Nat} (h:IB a m) (Ms:m≤n):IB a n:=⟨h.U,dU h.len Ms⟩
section
variable {a b:bW} {m n:Nat}
theorem v9 (ha:IB a n) (hn:SM n):Gv (fun N=>gK N a.fL) (lm (zv a).natAbs) :=
 .of (n+1) fun N hN=>by
  simp only [SM] at hn
  have:=ha.len
  rw [lW ha.U (by omega) (by omega),lv]
theorem oX (neg:Bool) {k:Nat} (hk:SM (lm k).length):Gv (fun N=>jn N neg (lm k)) (zd (sg neg k)) :=
 .of ((lm k).length+1) fun N hN=>by
  simp only [SM] at hk
  unfold jn
  rw [lW (qM k) (by omega) (by omega),hO,Int.toNat_natCast,cn]
  by_cases h:k=0
  ·subst h
   rw [iq,Mr];rfl
  ·have e:((((lm k).length:Nat):Int) == 0)=false:=by
    have:=lV.2 h
    simp;exact fun h'=>by rw [h'] at this;simp at this
   rw [e,cond_false]
   unfold dp
   rw [if_pos (by omega),cn,P5 _ _ h];rfl
theorem JX (a:bW):Gv (fun N=>rI N a) ⟨!a.fG,a.fL⟩:=.pure _
theorem JY (a:bW):zv ⟨!a.fG,a.fL⟩ = -zv a:=by unfold zv sg;cases a.fG<;>simp
theorem sign_eq (a b:Bool) (x y:Nat):sg (!(a == b)) (x * y)=sg a x * sg b y:=by
 cases a<;>cases b<;>simp [sg,Int.neg_mul,Int.mul_neg]
theorem xZ (ha:IB a m) (hb:IB b n) (hs:SM (m+n)):Gv (fun N=>pk N a b) (zd (zv a * zv b)):=by
 simp only [SM] at hs
 have G8:=ha.zb
 have tp:=hb.zb
 unfold ZB at G8 tp
 refine (v9 ha (by simp only [SM];omega)).bind ((v9 hb (by simp only [SM];omega)).bind ?_)
 refine Gv.bind (r:=lm ((zv a).natAbs * (zv b).natAbs)) (.of (m+n+1) fun N hN=>PT (by simp only [SM];omega) (by omega)) ?_
 have hz:=ha.zb.mul hb.zb
 unfold ZB at hz
 rw [Int.natAbs_mul] at hz
 refine (oX _ (by simp only [SM];omega)).bind ((Gv.pure _).eq ?_)
 rw [lv,lv,sign_eq];rfl
theorem P8 (ha:IB a n) (hb:IB b n) (hs:SM (n+1)):Gv (fun N=>AO N a b) (zd (zv a+zv b)):=by
 simp only [SM] at hs
 have G8:=ha.zb
 have tp:=hb.zb
 have hz:=G8.add tp
 unfold ZB at G8 tp
 refine (v9 ha (by simp only [SM];omega)).bind ((v9 hb (by simp only [SM];omega)).bind ?_)
 have hX:zv a=sg a.fG (zv a).natAbs:=by rw [lv];rfl
 have hY:zv b=sg b.fG (zv b).natAbs:=by rw [lv];rfl
 generalize (zv a).natAbs=x at *
 generalize (zv b).natAbs=y at *
 rw [hX,hY] at hz ⊢
 generalize a.fG=p at *
 generalize b.fG=q at *
 cases NY:(p == q) with
 | true =>
  have NY:p=q:=by simpa using NY
  subst NY
  have e:sg p x+sg p y=sg p (x+y):=by cases p<;>simp [sg]<;>omega
  rw [e] at hz ⊢
  unfold ZB at hz
  rw [oW] at hz
  refine Gv.aL rfl (Gv.bind (r:=lm (x+y)) (.of (n+2) fun N hN=>So (by simp only [SM];omega) (by simp only [SM];omega) (by omega) (by omega)) ?_)
  exact (oX _ (by simp only [SM];omega)).bind (Gv.pure _)
 | false =>
  have NY:q=!p:=by cases p<;>cases q<;>simp_all
  subst NY
  refine Gv.aY rfl ?_
  refine Gv.bind (r:=Gx x y) (.of (n+2) fun N hN=>JM (by omega) (by simp only [SM];omega) (by simp only [SM];omega)) ?_
  have gk:=Ml (a:=x) (b:=y) (by simp only [SM];omega) (by simp only [SM];omega)
  by_cases Tp:x < y
  ·refine Gv.aY (decide_eq_false (by have:=gk.2 Tp;omega)) (Gv.bind (r:=lm (y - x)) (.of (n+2) fun N hN=>JO (by omega) (by simp only [SM];omega) (by omega)) ?_)
   have e:sg p x+sg (!p) y=sg (!p) (y - x):=by cases p<;>simp [sg]<;>omega
   rw [e] at hz ⊢
   unfold ZB at hz
   rw [oW] at hz
   exact (oX _ (by simp only [SM];omega)).bind (Gv.pure _)
  ·refine Gv.aL (decide_eq_true (by have:=fun h=>Tp (gk.1 h);omega)) (Gv.bind (r:=lm (x - y)) (.of (n+2) fun N hN=>JO (by omega) (by simp only [SM];omega) (by omega)) ?_)
   have e:sg p x+sg (!p) y=sg p (x - y):=by cases p<;>simp [sg]<;>omega
   rw [e] at hz ⊢
   unfold ZB at hz
   rw [oW] at hz
   exact (oX _ (by simp only [SM];omega)).bind (Gv.pure _)
theorem IB.opp (ha:IB a n):IB ⟨!a.fG,a.fL⟩ n:=⟨ha.U,ha.len⟩
theorem DX (ha:IB a n) (hn:SM n):Gv (fun N=>sw N a) (zv a).sign:=by
 refine (v9 ha hn).bind ?_
 have hX:zv a=sg a.fG (zv a).natAbs:=by rw [lv];rfl
 generalize (zv a).natAbs=x at *
 rw [hX]
 generalize a.fG=p
 by_cases h:x=0
 ·subst h
  refine Gv.aL (by rw [iq];rfl) ((Gv.pure _).eq ?_)
  cases p<;>rfl
 ·refine Gv.aY ?_ ?_
  ·have:=lV.2 h
   simp;exact fun h'=>by rw [h'] at this;simp at this
  ·cases p with
   | true=>exact Gv.aL rfl ((Gv.pure _).eq (by simp only [sg,cond_true];rw [Int.sign_eq_neg_one_of_neg];omega))
   | false=>exact Gv.aY rfl ((Gv.pure _).eq (by simp only [sg,cond_false];rw [Int.sign_eq_one_of_pos];omega))
theorem Mt {z:Int} (h1:-9223372036854775808≤z) (h2:z≤9223372036854775807):Gv (fun N=>vF N z) (zd z):=by
 have hl:ZB z 4:=ZB.word h1 h2
 unfold ZB at hl
 unfold vF
 by_cases h:z < 0
 ·refine Gv.aL (decide_eq_true h) (Gv.bind (r:=lm z.natAbs) (.of 5 fun N hN=>?_) ?_)
  ·have e:IntKind.u64.wrap (0 - IntKind.u64.wrap z)=((z.natAbs:Nat):Int):=by rw [wrap64,wrap64];omega
   rw [e];exact Aj (by omega) (by omega)
  ·refine (oX true (by simp only [SM];omega)).bind ((Gv.pure _).eq ?_)
   have:sg true z.natAbs=z:=by simp [sg];omega
   rw [this]
 ·refine Gv.aY (decide_eq_false h) (Gv.bind (r:=lm z.natAbs) (.of 5 fun N hN=>?_) ?_)
  ·have e:IntKind.u64.wrap z=((z.natAbs:Nat):Int):=by rw [wrap64];omega
   rw [e];exact Aj (by omega) (by omega)
  ·refine (oX false (by simp only [SM];omega)).bind ((Gv.pure _).eq ?_)
   have:sg false z.natAbs=z:=by simp [sg];omega
   rw [this]
end
end Go.Den
namespace Go.Den
open Go.Ab
theorem Nz {N:Nat} (K:List Int→List Int→Option (List Int)) (hN:4 < N):∀ (y x fuel:Nat),y < fuel→x < 18446744073709551616→y < 18446744073709551616→kX N K fuel (x:Int) (y:Int)=some (lm (Nat.gcd x y)):=by
 intro y
 induction y using Nat.strongRecOn with
 | _ y ih =>
  intro x fuel hf hx hy
  obtain ⟨g,rfl⟩:∃ g,fuel=g+1:=⟨fuel - 1,by omega⟩
  rw [kX]
  by_cases h:y=0
  ·subst h
   rw [decide_eq_false (by decide),cond_false,Aj hN hx,cn,Nat.gcd_zero_right]
  ·rw [decide_eq_true (by omega),cond_true,if_pos (by omega),Int.tmod_eq_emod_of_nonneg (by omega)]
   have e:((x:Int) % (y:Int))=((x % y:Nat):Int):=by simp
   have gk:=Nat.mod_lt x (Nat.pos_of_ne_zero h)
   rw [e,ih (x % y) gk y g (by omega) hy (by omega),Nat.gcd_comm x y,Nat.gcd_rec y x,Nat.gcd_comm]
theorem NA {N:Nat} {k:Nat} (hk:SM (2 * k+2)) (hN:2 * k+20 < N):∀ (y x fuel:Nat),y < fuel→y < N→(lm x).length≤k→(lm y).length≤k→jF N fuel (lm x) (lm y)=some (lm (Nat.gcd x y)):=by
 intro y
 simp only [SM] at hk
 induction y using Nat.strongRecOn with
 | _ y ih =>
  intro x fuel hf hyN hx hy
  obtain ⟨g,rfl⟩:∃ g,fuel=g+1:=⟨fuel - 1,by omega⟩
  rw [jF]
  by_cases h:y=0
  ·subst h
   rw [iq,Nat.gcd_zero_right];rfl
  ·have hl:=lV.2 h
   rw [decide_eq_true (by omega),cond_true,Mp (by omega) (by simp only [SM];omega),cn,Mp (by omega) (by simp only [SM];omega),cn]
   by_cases h4:(lm x).length≤4∧(lm y).length≤4
   ·rw [if_pos h4.1,if_pos h4.2]
    have b1:=jl.1 h4.1
    have b2:=jl.1 h4.2
    have e4:pw 4=18446744073709551616:=by decide
    exact Nz _ (by omega) y x N hyN (by omega) (by omega)
   ·have e:cond (if (lm x).length≤4 then ((x:Int),true) else (0,false)).2 (if (lm y).length≤4 then ((y:Int),true) else (0,false)).2 false=false:=by
     by_cases h1:(lm x).length≤4
     ·have h2:¬ (lm y).length≤4:=fun h2=>h4 ⟨h1,h2⟩
      rw [if_pos h1,if_neg h2];rfl
     ·rw [if_neg h1];rfl
    rw [e,cond_false,Cu h (by simp only [SM];omega) (by omega),cn]
    have gk:=Nat.mod_lt x (Nat.pos_of_ne_zero h)
    rw [ih (x % y) gk y g (by omega) (by omega) hy (dU (gZ (by omega)) hy),Nat.gcd_comm x y,Nat.gcd_rec y x,Nat.gcd_comm]
theorem NB {x y k:Nat} (hx:(lm x).length≤k) (hy:(lm y).length≤k) (hk:SM (2 * k+2)):Gv (fun N=>vG N (lm x) (lm y)) (lm (Nat.gcd x y)) :=
 .of (2 * k+21+y) fun N hN=>NA hk (by omega) y x N (by omega) (by omega) hx hy
def dv (x:aa):Int:=if zv x.fD=0 then 1 else zv x.fD
def qv (x:aa):Rat:=Rat.divInt (zv x.fN) (dv x)
def bA (q:Rat):aa:=⟨zd q.num,zd (q.den:Int)⟩
structure RB (q:Rat) (n:Nat):Prop where
 num:ZB q.num n
 den:ZB (q.den:Int) n
structure IR (x:aa) (n:Nat):Prop where
 num:IB x.fN n
 den:IB x.fD n
theorem tF (x:aa):dv x≠0:=by unfold dv;split<;>omega
theorem RB.le {q:Rat} {m n:Nat} (h:RB q m) (Ms:m≤n):RB q n:=⟨h.num.le Ms,h.den.le Ms⟩
theorem IR.le {x:aa} {m n:Nat} (h:IR x m) (Ms:m≤n):IR x n:=⟨h.num.le Ms,h.den.le Ms⟩
theorem RB.ir {q:Rat} {n:Nat} (h:RB q n):IR (bA q) n:=⟨h.num.ib,h.den.ib⟩
theorem UR (q:Rat):dv (bA q)=q.den:=by
 unfold dv bA;simp only [ml];rw [if_neg];have:=q.den_nz;omega
theorem gS (q:Rat):qv (bA q)=q:=by
 unfold qv;rw [UR];simp only [bA,ml];exact Rat.num_divInt_den q
theorem FH (a:Int) (b:Nat) (hb:b≠0):(a / (b:Int)).natAbs≤a.natAbs:=Int.natAbs_ediv_le_natAbs a b
theorem yL {a b:Int} {n:Nat} (ha:ZB a n) (hb:ZB b n) (h0:b≠0):RB (Rat.divInt a b) n:=by
 have hg:Int.gcd b a≠0:=fun h=>h0 (Int.gcd_eq_zero_iff.1 h).1
 constructor
 ·rw [Rat.num_divInt]
  refine ha.of_le (dU (FH _ _ hg) ?_)
  rw [Int.natAbs_mul,Int.natAbs_sign_of_ne_zero h0];omega
 ·rw [Rat.den_divInt,if_neg h0]
  refine hb.of_le ?_
  rw [Int.natAbs_natCast]
  exact Nat.div_le_self _ _
theorem IR.rb {x:aa} {n:Nat} (h:IR x n) (hn:1≤n):RB (qv x) n:=by
 refine yL h.num.zb ?_ (tF x)
 unfold dv
 split
 ·exact (ZB.small (by decide)).le hn
 ·exact h.den.zb
theorem RB.int {z:Int} {n:Nat} (h:ZB z n) (hn:1≤n):RB (z:Rat) n:=⟨h,(ZB.small (x:=1) (by decide)).le hn⟩
theorem RB.neg {q:Rat} {n:Nat} (h:RB q n):RB (-q) n:=⟨by rw [Rat.neg_num];exact h.num.neg,by rw [Rat.neg_den];exact h.den⟩
theorem ky (q:Rat):q=Rat.divInt q.num q.den:=(Rat.num_divInt_den q).symm
theorem mm (q:Rat):(q.den:Int)≠0:=by have:=q.den_nz;omega
theorem RB.add {p q:Rat} {m n:Nat} (h1:RB p m) (h2:RB q n):RB (p+q) (m+n+1):=by
 rw [ky p,ky q,Rat.divInt_add_divInt _ _ (mm p) (mm q)]
 refine yL ((h1.num.mul h2.den).add ((h2.num.mul h1.den).le (by omega))) ((h1.den.mul h2.den).le (by omega)) ?_
 exact Int.mul_ne_zero (mm p) (mm q)
theorem RB.sub {p q:Rat} {m n:Nat} (h1:RB p m) (h2:RB q n):RB (p - q) (m+n+1):=by rw [Rat.sub_eq_add_neg];exact h1.add h2.neg
theorem RB.mul {p q:Rat} {m n:Nat} (h1:RB p m) (h2:RB q n):RB (p * q) (m+n):=by
 rw [ky p,ky q,Rat.divInt_mul_divInt]
 exact yL (h1.num.mul h2.num) (h1.den.mul h2.den) (Int.mul_ne_zero (mm p) (mm q))
theorem pO {a b c d:Int} (hb:b≠0) (hd:d≠0):Rat.divInt a b / Rat.divInt c d=Rat.divInt (a * d) (b * c):=by
 rw [Rat.div_def,Rat.inv_divInt,Rat.divInt_mul_divInt]
theorem P9 {q:Rat} (h:q≠0):q.num≠0:=fun h'=>h (Rat.num_eq_zero.1 h')
theorem RB.div {p q:Rat} {m n:Nat} (h1:RB p m) (h2:RB q n) (h0:q≠0):RB (p / q) (m+n):=by
 rw [ky p,ky q,pO (mm p) (mm q)]
 exact yL (h1.num.mul h2.den) (h1.den.mul h2.num) (Int.mul_ne_zero (mm p) (P9 h0))
section
variable {a b:bW} {x y:aa} {m n:Nat}
theorem na (ha:IB a n) (hb:IB b n) (h0:zv b≠0) (hs:SM (2 * n+2)):Gv (fun N=>iL N a b) (bA (Rat.divInt (zv a) (zv b))):=by
 simp only [SM] at hs
 have G8:=ha.zb
 have tp:=hb.zb
 unfold ZB at G8 tp
 refine (v9 ha (by simp only [SM];omega)).bind ((v9 hb (by simp only [SM];omega)).bind ?_)
 have hX:zv a=sg a.fG (zv a).natAbs:=by rw [lv];rfl
 have hY:zv b=sg b.fG (zv b).natAbs:=by rw [lv];rfl
 generalize Z6:(zv a).natAbs=x at *
 generalize WH:(zv b).natAbs=y at *
 have QT:y≠0:=by omega
 have hg0:0 < Nat.gcd x y:=Nat.gcd_pos_of_pos_right _ (by omega)
 refine (NB G8 tp (by simp only [SM];omega)).bind ?_
 have S9:=lV.2 (show Nat.gcd x y≠0 by omega)
 have Z7:(lm (Nat.gcd x y)).length≤n:=dU (gZ (Nat.gcd_le_right _ (by omega))) tp
 have fin:∀ u v:Nat,u=x / Nat.gcd x y→v=y / Nat.gcd x y→Gv (fun N=>l4 N a b (lm u) (lm v)) (bA (Rat.divInt (zv a) (zv b))):=by
  intro u v hu hv
  have WE:(lm u).length≤n:=dU (gZ (by rw [hu];exact Nat.div_le_self _ _)) G8
  have LI:(lm v).length≤n:=dU (gZ (by rw [hv];exact Nat.div_le_self _ _)) tp
  refine (oX _ (by simp only [SM];omega)).bind ((oX false (by simp only [SM];omega)).bind ((Gv.pure _).eq ?_))
  have US:Int.gcd (zv b) (zv a)=Nat.gcd x y:=by unfold Int.gcd;rw [Z6,WH,Nat.gcd_comm]
  unfold bA
  rw [Rat.num_divInt,Rat.den_divInt,if_neg h0,US,WH]
  have hd:(Nat.gcd x y) ∣ x:=Nat.gcd_dvd_left _ _
  have e1:(zv b).sign * zv a / ((Nat.gcd x y:Nat):Int)=sg (!(a.fG == b.fG)) u:=by
   have Su:(x:Int)=(Nat.gcd x y:Nat) * (u:Int):=by
    have:x=Nat.gcd x y * u:=by rw [hu,Nat.mul_div_cancel' hd]
    exact_mod_cast this
   have e2:(zv b).sign * zv a=(Nat.gcd x y:Nat) * sg (!(a.fG == b.fG)) u:=by
    rw [hX,hY]
    cases a.fG<;>cases b.fG<;>simp only [sg,cond_true,cond_false,Bool.not_true,Bool.not_false,BEq.rfl,show (true == false)=false from rfl,show (false == true)=false from rfl]
    ·rw [Int.sign_eq_one_of_pos (by omega),Int.one_mul,← Su]
    ·rw [Int.sign_eq_neg_one_of_neg (by omega),Int.mul_neg,← Su];omega
    ·rw [Int.sign_eq_one_of_pos (by omega),Int.one_mul,Int.mul_neg,← Su]
    ·rw [Int.sign_eq_neg_one_of_neg (by omega),← Su];omega
   rw [e2,Int.mul_ediv_cancel_left _ (by omega)]
  rw [e1,← hv];rfl
 have e0:(lm (Nat.gcd x y)).getD 0 0=((Nat.gcd x y % 65536:Nat):Int):=by rw [ri (by omega)];rfl
 refine Gv.if (fun _=>⟨by omega,by omega⟩) ?_
 rw [e0]
 by_cases h1:Nat.gcd x y=1
 ·refine Gv.aY ?_ (fin x y (by rw [h1,Nat.div_one]) (by rw [h1,Nat.div_one]))
  rw [h1,ri (by decide)];simp [iq]
 ·refine Gv.aL ?_ ?_
  ·by_cases h2:(lm (Nat.gcd x y)).length=1
   ·have:=jl.1 (show (lm (Nat.gcd x y)).length≤1 by omega)
    have e1:pw 1=65536:=by decide
    rw [h2]
    have h3:(((Nat.gcd x y % 65536:Nat):Int) != 1)=true:=by simp;omega
    rw [h3];rfl
   ·have h3:((((lm (Nat.gcd x y)).length:Nat):Int) != 1)=true:=by simp;omega
    rw [h3];rfl
  ·refine Gv.bind (r:=(lm (x / Nat.gcd x y),lm (x % Nat.gcd x y))) (.of (2 * n+20) fun N hN=>Cu (by omega) (by simp only [SM];omega) (by omega)) ?_
   refine Gv.bind (r:=(lm (y / Nat.gcd x y),lm (y % Nat.gcd x y))) (.of (2 * n+20) fun N hN=>Cu (by omega) (by simp only [SM];omega) (by omega)) ?_
   exact fin _ _ rfl rfl
def Bz (x:aa):bW:=if zv x.fD=0 then ⟨false,[1]⟩ else x.fD
theorem Lg:zv ⟨false,[1]⟩=1:=by decide
theorem j5 (x:aa):zv (Bz x)=dv x:=by unfold Bz dv;split<;>simp [Lg]
theorem Qa {n:Nat} (hn:1≤n):IB ⟨false,[1]⟩ n:=⟨U.one (by decide) (by decide),hn⟩
theorem IR.Bz (h:IR x n) (hn:1≤n):IB (Bz x) n:=by
 unfold Go.Den.Bz;split
 ·exact Qa hn
 ·exact h.den
theorem pP (hx:IR x n) (hs:SM n):Gv (fun N=>ku N x) (Bz x):=by
 refine (DX hx.den hs).bind ?_
 unfold Bz
 by_cases h:zv x.fD=0
 ·rw [if_pos h];exact Gv.aL (by rw [h];rfl) (Gv.pure _)
 ·rw [if_neg h]
  exact Gv.aY (by simp;exact h) (Gv.pure _)
theorem Cv (hx:IR x n) (hn:1≤n) (hs:SM (2 * n+2)):Gv (fun N=>kY N x) (bA (qv x)):=by
 have Gz:=hs
 simp only [SM] at Gz
 refine (pP hx (by simp only [SM];omega)).bind ?_
 refine (na hx.num (hx.Bz hn) (by rw [j5];exact tF x) hs).bind ((Gv.pure _).eq ?_)
 rw [j5];rfl
theorem Cw (hx:IR x n) (hs:SM n):Gv (fun N=>gL N x) (decide (qv x=0)):=by
 refine (DX hx.num hs).bind ((Gv.pure _).eq ?_)
 unfold qv
 by_cases h:zv x.fN=0
 ·rw [h,Rat.zero_divInt];rfl
 ·have:Rat.divInt (zv x.fN) (dv x)≠0:=by
   rw [← Rat.zero_divInt 1,ne_eq,Rat.divInt_eq_divInt_iff (tF x) (by decide)];simpa using h
  rw [decide_eq_false this]
  simp;exact h
theorem Hm (hx:IR x m) (hy:IR y n) (hm:1≤m) (hn:1≤n) (hs:SM (2 * (m+n+1)+2)):Gv (fun N=>kZ N x y) (bA (qv x+qv y)):=by
 simp only [SM] at hs
 refine (Cw hx (by simp only [SM];omega)).bind ?_
 by_cases h1:qv x=0
 ·refine Gv.aL (decide_eq_true h1) ((Cv hy hn (by simp only [SM];omega)).bind ((Gv.pure _).eq ?_))
  rw [h1,Rat.zero_add]
 ·refine Gv.aY (decide_eq_false h1) ((Cw hy (by simp only [SM];omega)).bind ?_)
  by_cases h2:qv y=0
  ·refine Gv.aL (decide_eq_true h2) ((Cv hx hm (by simp only [SM];omega)).bind ((Gv.pure _).eq ?_))
   rw [h2,Rat.add_zero]
  ·refine Gv.aY (decide_eq_false h2) ((pP hx (by simp only [SM];omega)).bind ((pP hy (by simp only [SM];omega)).bind ?_))
   refine (xZ hx.num (hy.Bz hn) (by simp only [SM];omega)).bind ((xZ hy.num (hx.Bz hm) (by simp only [SM];omega)).bind ?_)
   have z1:=hx.num.zb.mul (hy.Bz hn).zb
   have z2:=hy.num.zb.mul (hx.Bz hm).zb
   have z3:=(hx.Bz hm).zb.mul (hy.Bz hn).zb
   rw [j5] at z1 z2
   rw [j5,j5] at z3
   refine Gv.bind (r:=zd (zv x.fN * dv y+zv y.fN * dv x)) ?_ ?_
   ·have:=P8 (n:=m+n) (a:=zd (zv x.fN * zv (Bz y))) (b:=zd (zv y.fN * zv (Bz x))) (by rw [j5];exact z1.ib) (by rw [j5];exact (z2.le (by omega)).ib) (by simp only [SM];omega)
    rw [ml,ml,j5,j5] at this
    rw [j5,j5];exact this
   ·refine Gv.bind (r:=zd (dv x * dv y)) ?_ ?_
    ·have:=xZ (hx.Bz hm) (hy.Bz hn) (by simp only [SM];omega)
     rwa [j5,j5] at this
    ·have h0:dv x * dv y≠0:=Int.mul_ne_zero (tF x) (tF y)
     refine (na (n:=m+n+1) (z1.add (z2.le (by omega))).ib (z3.le (by omega)).ib (by rw [ml];exact h0) (by simp only [SM];omega)).bind ((Gv.pure _).eq ?_)
     rw [ml,ml]
     unfold qv
     rw [Rat.divInt_add_divInt _ _ (tF x) (tF y)]
theorem oY (hx:IR x n) (hn:1≤n) (hs:SM (2 * n+2)):Gv (fun N=>fR N x) (bA (-qv x)):=by
 have Gz:=hs
 simp only [SM] at Gz
 refine (JX x.fN).bind ((pP hx (by simp only [SM];omega)).bind ?_)
 refine (na hx.num.opp (hx.Bz hn) (by rw [j5];exact tF x) hs).bind ((Gv.pure _).eq ?_)
 rw [JY,j5];unfold qv;rw [Rat.neg_divInt]
theorem Hn (hx:IR x m) (hy:IR y n) (hm:1≤m) (hn:1≤n) (hs:SM (2 * (m+n+1)+2)):Gv (fun N=>eN N x y) (bA (qv x - qv y)):=by
 have Gz:=hs
 simp only [SM] at Gz
 refine (oY hy hn (by simp only [SM];omega)).bind ?_
 refine (Hm hx (hy.rb hn).neg.ir hm hn hs).bind ((Gv.pure _).eq ?_)
 rw [gS,Rat.sub_eq_add_neg]
theorem NC (hx:IR x m) (hy:IR y n) (hm:1≤m) (hn:1≤n) (hs:SM (2 * (m+n)+2)):Gv (fun N=>gh N x y) (bA (qv x * qv y)):=by
 simp only [SM] at hs
 refine (xZ hx.num hy.num (by simp only [SM];omega)).bind ((pP hx (by simp only [SM];omega)).bind ((pP hy (by simp only [SM];omega)).bind ?_))
 refine (xZ (hx.Bz hm) (hy.Bz hn) (by simp only [SM];omega)).bind ?_
 have z1:=hx.num.zb.mul hy.num.zb
 have z3:=(hx.Bz hm).zb.mul (hy.Bz hn).zb
 have h0:dv x * dv y≠0:=Int.mul_ne_zero (tF x) (tF y)
 refine (na (n:=m+n) z1.ib z3.ib (by rw [ml,j5,j5];exact h0) (by simp only [SM];omega)).bind ((Gv.pure _).eq ?_)
 rw [ml,ml,j5,j5]
 unfold qv
 rw [Rat.divInt_mul_divInt]
theorem Sv (hx:IR x m) (hy:IR y n) (hm:1≤m) (hn:1≤n) (h0:qv y≠0) (hs:SM (2 * (m+n)+2)):Gv (fun N=>qB N x y) (bA (qv x / qv y)):=by
 simp only [SM] at hs
 refine (pP hy (by simp only [SM];omega)).bind ((xZ hx.num (hy.Bz hn) (by simp only [SM];omega)).bind ((pP hx (by simp only [SM];omega)).bind ((xZ (hx.Bz hm) hy.num (by simp only [SM];omega)).bind ?_)))
 have z1:=hx.num.zb.mul (hy.Bz hn).zb
 have z3:=(hx.Bz hm).zb.mul hy.num.zb
 have hyn:zv y.fN≠0:=fun h=>h0 (by unfold qv;rw [h,Rat.zero_divInt])
 have h0:dv x * zv y.fN≠0:=Int.mul_ne_zero (tF x) hyn
 refine (na (n:=m+n) z1.ib z3.ib (by rw [ml,j5];exact h0) (by simp only [SM];omega)).bind ((Gv.pure _).eq ?_)
 rw [ml,ml,j5,j5]
 unfold qv
 rw [pO (tF x) (tF y)]
def oZ (q:Rat):Int:=q.num.sign
theorem JZ {a b:Int} (hb:b≠0):(Rat.divInt a b).num.sign=a.sign * b.sign:=by
 rw [Rat.num_divInt]
 have hg:Int.gcd b a≠0:=fun h=>hb (Int.gcd_eq_zero_iff.1 h).1
 obtain ⟨c,hc⟩:((Int.gcd b a:Nat):Int) ∣ a:=Int.gcd_dvd_right ..
 have e:b.sign * a / ((Int.gcd b a:Nat):Int)=b.sign * c:=by
  have e0:b.sign * a=((Int.gcd b a:Nat):Int) * (b.sign * c):=by rw [Int.mul_left_comm,← hc]
  rw [e0,Int.mul_ediv_cancel_left _ (by omega)]
 rw [e,Int.sign_mul,Int.sign_sign]
 have e2:a.sign=c.sign:=by
  have e0:=congrArg Int.sign hc
  rw [Int.sign_mul,Int.sign_eq_one_of_pos (show 0 < ((Int.gcd b a:Nat):Int) by omega),Int.one_mul] at e0
  exact e0
 rw [e2,gB]
theorem CQ (z:Int):z.sign=0∨z.sign=1∨z.sign = -1:=by
 rcases Int.lt_trichotomy z 0 with h | h | h
 ·right;right;exact Int.sign_eq_neg_one_of_neg h
 ·left;rw [h];rfl
 ·right;left;exact Int.sign_eq_one_of_pos h
theorem Ho (hx:IR x n) (hn:1≤n) (hs:SM n):Gv (fun N=>mS N x) (oZ (qv x)):=by
 refine (DX hx.num hs).bind ((pP hx hs).bind ((DX (hx.Bz hn) hs).bind ((Gv.pure _).eq ?_)))
 rw [j5]
 unfold oZ qv
 rw [JZ (tF x)]
 rcases CQ (zv x.fN) with h | h | h<;>rcases CQ (dv x) with h' | h' | h'<;>rw [h,h']<;>rfl
theorem ND (hx:IR x m) (hy:IR y n) (hm:1≤m) (hn:1≤n) (hs:SM (2 * (m+n+1)+2)):Gv (fun N=>oC N x y) (oZ (qv x - qv y)):=by
 have Gz:=hs
 simp only [SM] at Gz
 refine (Hn hx hy hm hn hs).bind ?_
 refine (Ho ((hx.rb hm).sub (hy.rb hn)).ir (by omega) (by simp only [SM];omega)).bind ((Gv.pure _).eq ?_)
 rw [gS]
theorem FI (z:Int):Rat.divInt z 1=(z:Rat):=by
 apply Rat.ext
 ·rw [Rat.num_divInt];simp
 ·rw [Rat.den_divInt];simp
theorem J0 (ha:IB a n) (hn:1≤n) (hs:SM (2 * n+2)):Gv (fun N=>qa N a) (bA (zv a:Rat)):=by
 refine (na ha (Qa hn) (by rw [Lg];decide) hs).bind ((Gv.pure _).eq ?_)
 rw [Lg,FI]
theorem yM {z:Int} (h1:-9223372036854775808≤z) (h2:z≤9223372036854775807):Gv (fun N=>fZ N z) (bA (z:Rat)):=by
 refine (Mt h1 h2).bind ((J0 (n:=4) (ZB.word h1 h2).ib (by decide) (by simp)).bind ((Gv.pure _).eq ?_))
 rw [ml]
theorem Qb {a b:Int} (h1:-9223372036854775808≤a) (h2:a≤9223372036854775807) (h3:-9223372036854775808≤b) (h4:b≤9223372036854775807) (h0:b≠0):Gv (fun N=>yC N a b) (bA (Rat.divInt a b),0):=by
 refine Gv.aY (by simpa using h0) ((Mt h1 h2).bind ((Mt h3 h4).bind ?_))
 refine (na (n:=4) (ZB.word h1 h2).ib (ZB.word h3 h4).ib (by rw [ml];exact h0) (by simp)).bind ((Gv.pure _).eq ?_)
 rw [ml,ml]
end
theorem ow {q:Rat}:oZ q < 0↔q < 0:=by
 unfold oZ;rw [Rat.lt_iff]
 simp
theorem FJ {q:Rat}:oZ q=0↔q=0:=by
 unfold oZ;rw [Int.sign_eq_zero_iff_zero];exact Rat.num_eq_zero
theorem Bi {q:Rat}:0 < oZ q↔0 < q:=by
 unfold oZ;rw [Rat.lt_iff]
 simp
end Go.Den
namespace Go.Den
open Go.Ab
def ay {α:Type} (f:Nat→Nat→Option α) (r:α):Prop:=∃ N0,∀ N fuel,N0≤N→N0≤fuel→f N fuel=some r
theorem ay.diag {α:Type} {f:Nat→Nat→Option α} {r:α} (h:ay f r):Gv (fun N=>f N N) r:=let ⟨N0,h0⟩:=h;⟨N0,fun N hN=>h0 N N hN hN⟩
theorem ay.step {α:Type} {f:Nat→Nat→Option α} {r:α} (N1:Nat) (h:∀ N g,N1≤N→N1≤g→f N (g+1)=some r):ay f r :=
 ⟨N1+1,fun N fuel hN hf=>by obtain ⟨g,rfl⟩:∃ g,fuel=g+1:=⟨fuel - 1,by omega⟩;exact h N g (by omega) (by omega)⟩
structure ac9 (RD:Nat→aa→aa→aa→Option aa) (R:Rat→Rat→Rat→Rat) (A B C:Nat):Prop where
 run:∀ (ch fr acc:Rat) (m:Nat),RB ch A→RB fr B→RB acc m→1≤m→m≤100000000→Gv (fun N=>RD N (bA ch) (bA fr) (bA acc)) (bA (R ch fr acc))
 bnd:∀ (ch fr acc:Rat) (m:Nat),RB ch A→RB fr B→RB acc m→RB (R ch fr acc) (m+C)
section
end
end Go.Den
namespace Go.Den
open Go.Ab
end Go.Den
namespace Go.Den
open Go.Ab
structure RQ (x:aa) (p:Rat) (n:Nat):Prop where
 ir:IR x n
 v:qv x=p
 pos:1≤n
structure ZI (a:bW) (z:Int) (n:Nat):Prop where
 ib:IB a n
 v:zv a=z
theorem RQ.rb {x:aa} {p:Rat} {n:Nat} (h:RQ x p n):RB p n:=h.v ▸ h.ir.rb h.pos
theorem RB.rq {p:Rat} {n:Nat} (h:RB p n) (hn:1≤n):RQ (bA p) p n:=⟨h.ir,gS p,hn⟩
theorem RQ.le {x:aa} {p:Rat} {m n:Nat} (h:RQ x p m) (Ms:m≤n):RQ x p n:=⟨h.ir.le Ms,h.v,dU h.pos Ms⟩
theorem ZI.zb {a:bW} {z:Int} {n:Nat} (h:ZI a z n):ZB z n:=h.v ▸ h.ib.zb
theorem ZB.zi {z:Int} {n:Nat} (h:ZB z n):ZI (zd z) z n:=⟨h.ib,ml z⟩
theorem ZI.le {a:bW} {z:Int} {m n:Nat} (h:ZI a z m) (Ms:m≤n):ZI a z n:=⟨h.ib.le Ms,h.v⟩
section
variable {a b:bW} {x y:aa} {m n:Nat} {p q:Rat} {z w:Int}
theorem RQ.add (hx:RQ x p m) (hy:RQ y q n) (hs:SM (2 * (m+n+1)+2)):Gv (fun N=>kZ N x y) (bA (p+q)):=by
 have:=Hm hx.ir hy.ir hx.pos hy.pos hs;rwa [hx.v,hy.v] at this
theorem RQ.sub (hx:RQ x p m) (hy:RQ y q n) (hs:SM (2 * (m+n+1)+2)):Gv (fun N=>eN N x y) (bA (p - q)):=by
 have:=Hn hx.ir hy.ir hx.pos hy.pos hs;rwa [hx.v,hy.v] at this
theorem RQ.mul (hx:RQ x p m) (hy:RQ y q n) (hs:SM (2 * (m+n)+2)):Gv (fun N=>gh N x y) (bA (p * q)):=by
 have:=NC hx.ir hy.ir hx.pos hy.pos hs;rwa [hx.v,hy.v] at this
theorem RQ.Sw (hx:RQ x p m) (hy:RQ y q n) (h0:q≠0) (hs:SM (2 * (m+n)+2)):Gv (fun N=>qB N x y) (bA (p / q)):=by
 have:=Sv hx.ir hy.ir hx.pos hy.pos (by rw [hy.v];exact h0) hs;rwa [hx.v,hy.v] at this
theorem RQ.cmp (hx:RQ x p m) (hy:RQ y q n) (hs:SM (2 * (m+n+1)+2)):Gv (fun N=>oC N x y) (oZ (p - q)):=by
 have:=ND hx.ir hy.ir hx.pos hy.pos hs;rwa [hx.v,hy.v] at this
theorem RQ.oZ (hx:RQ x p m) (hs:SM m):Gv (fun N=>mS N x) (oZ p):=by
 have:=Ho hx.ir hx.pos hs;rwa [hx.v] at this
theorem RQ.low (hx:RQ x p m) (hs:SM (2 * m+2)):Gv (fun N=>kY N x) (bA p):=by
 have:=Cv hx.ir hx.pos hs;rwa [hx.v] at this
theorem RQ.zero (hx:RQ x p m) (hs:SM m):Gv (fun N=>gL N x) (decide (p=0)):=by
 have:=Cw hx.ir hs;rwa [hx.v] at this
theorem ZI.whole (ha:ZI a z n) (hn:1≤n) (hs:SM (2 * n+2)):Gv (fun N=>qa N a) (bA (z:Rat)):=by
 have:=J0 ha.ib hn hs;rwa [ha.v] at this
theorem ZI.add (ha:ZI a z n) (hb:ZI b w n) (hs:SM (n+1)):Gv (fun N=>AO N a b) (zd (z+w)):=by
 have:=P8 ha.ib hb.ib hs;rwa [ha.v,hb.v] at this
theorem ZI.mul (ha:ZI a z m) (hb:ZI b w n) (hs:SM (m+n)):Gv (fun N=>pk N a b) (zd (z * w)):=by
 have:=xZ ha.ib hb.ib hs;rwa [ha.v,hb.v] at this
end
end Go.Den
namespace Go.Den
open Go.Ab
theorem J1 {N:Nat} {a:List Int} (ha:U a) (hs:SM a.length):∀ (n fuel:Nat),n≤a.length→n < fuel→bz (a.take n)=bz a→jJ N a fuel (n:Int)=some (lm (bz a).toNat)
 | 0,fuel,_,hf,hv=>by
  obtain ⟨g,rfl⟩:∃ g,fuel=g+1:=⟨fuel - 1,by omega⟩
  rw [jJ,if_pos (fun h=>by cases h)]
  have e:bz a=0:=by rw [← hv];simp [bz]
  rw [e]
  have e1:cond (decide (((0:Nat):Int) > 0)) (a.getD (ag (((0:Nat):Int) - 1)).toNat 0 == 0) false=false:=rfl
  rw [e1,cond_false,if_pos ⟨by simp,by simp⟩,if_pos (by simp),if_pos (by simp)]
  simp [iq]
 | n+1,fuel,hn,hf,hv=>by
  obtain ⟨g,rfl⟩:∃ g,fuel=g+1:=⟨fuel - 1,by omega⟩
  simp only [SM] at hs
  have e1:ag (((n+1:Nat):Int) - 1)=(n:Int):=by rw [aN (by omega) (by omega)];omega
  have h1:=cF a n (by omega)
  rw [jJ,e1,if_pos (fun _=>oE (by omega)),decide_eq_true (by omega),cond_true,an]
  cases hx:(a.getD n 0 == 0) with
  | true =>
   have Pk:a.getD n 0=0:=eq_of_beq hx
   rw [cond_true]
   exact J1 ha hs n g (by omega) (by omega) (by rw [h1,Pk] at hv;omega)
  | false =>
   have Pk:a.getD n 0≠0:=fun h=>by rw [h] at hx;cases hx
   rw [cond_false,an,if_pos ⟨Nat.zero_le _,hn⟩,if_pos (by omega),if_pos (by omega),List.nil_append,List.drop_zero,← hv]
   congr 1
   refine (Mj (ha.take _) fun m x he=>?_).symm
   have hl:m.length=n:=by have:=congrArg List.length he;rw [n9] at this;simp at this;omega
   have:(a.take (n+1)).getD n 0=x:=by rw [he,← hl];simp [List.getD]
   rw [fk,List.getElem?_take_of_lt (by omega),← fk] at this
   rw [← this];exact Pk
theorem sZ {N:Nat} {a:List Int} (ha:U a) (hs:SM a.length) (hN:a.length < N):lN N a=some (lm (bz a).toNat) :=
 J1 ha hs a.length N (aF _) hN (by rw [List.take_length])
theorem Mv {N:Nat} {a:List Int} (ha:U a) (hs:SM a.length) (hN:a.length < N):∀ (k i fuel:Nat),i+k=a.length→k < fuel→jK N a fuel (a.take i) (i:Int)=some (lm (bz a).toNat)
 | 0,i,fuel,hi,hf=>by
  obtain ⟨g,rfl⟩:∃ g,fuel=g+1:=⟨fuel - 1,by omega⟩
  have:i=a.length:=by omega
  subst this
  rw [jK,dV,cond_false,List.take_length,sZ ha hs hN,cn]
 | k+1,i,fuel,hi,hf=>by
  obtain ⟨g,rfl⟩:∃ g,fuel=g+1:=⟨fuel - 1,by omega⟩
  simp only [SM] at hs
  have h1:=ha.getD i
  rw [jK,dec_lt (by omega),cond_true,if_pos (oE (by omega)),if_pos (by rw [n9];omega),an,aN (by omega) (by omega),aK (by omega)]
  have e:a.take i ++ [a.getD i 0]=a.take (i+1):=by rw [List.take_add_one];simp [List.getD,show i < a.length by omega]
  rw [e]
  exact Mv ha (by simp only [SM];omega) hN k (i+1) g (by omega) (by omega)
theorem UT {N:Nat} {a:List Int} (ha:U a) (hs:SM a.length) (hN:a.length < N):iC N a=some (lm (bz a).toNat):=by
 have:=Mv ha hs hN a.length 0 N (by omega) hN
 unfold iC
 simpa using this
theorem Mw {N:Nat} {neg:Bool} {a:List Int} (ha:U a) (hs:SM a.length):∀ (k i fuel:Nat),i+k=a.length→k < fuel→jI N neg a fuel (a.take i) (i:Int)=some ⟨cond neg (decide (((a.length:Nat):Int) > 0)) false,a⟩
 | 0,i,fuel,hi,hf=>by
  obtain ⟨g,rfl⟩:∃ g,fuel=g+1:=⟨fuel - 1,by omega⟩
  have:i=a.length:=by omega
  subst this
  rw [jI,dV,cond_false,List.take_length]
 | k+1,i,fuel,hi,hf=>by
  obtain ⟨g,rfl⟩:∃ g,fuel=g+1:=⟨fuel - 1,by omega⟩
  simp only [SM] at hs
  have h1:=ha.getD i
  rw [jI,dec_lt (by omega),cond_true,if_pos (oE (by omega)),if_pos (by rw [n9];omega),an,nz (by omega) (by omega),aK (by omega)]
  have e:a.take i ++ [a.getD i 0]=a.take (i+1):=by rw [List.take_add_one];simp [List.getD,show i < a.length by omega]
  rw [e]
  exact Mw ha (by simp only [SM];omega) k (i+1) g (by omega) (by omega)
theorem Sx (neg:Bool) {k:Nat} (hk:SM (lm k).length):Gv (fun N=>ft N neg (lm k)) (zd (sg neg k)) :=
 .of ((lm k).length+1) fun N hN=>by
  have:=Mw (N:=N) (neg:=neg) (qM k) hk (lm k).length 0 N (by omega) (by omega)
  rw [List.take_zero] at this
  unfold ft
  rw [show ((0:Nat):Int)=0 from rfl] at this
  rw [this]
  by_cases h:k=0
  ·subst h;rw [iq,Mr];cases neg<;>rfl
  ·rw [P5 _ _ h]
   have:=lV.2 h
   rw [decide_eq_true (by omega)];cases neg<;>rfl
theorem yN (N:Nat) (a:List Int) (i:Nat):lB N a (i:Int)=some (a.getD i 0):=by
 unfold lB
 by_cases h:i < a.length
 ·rw [dec_lt h,cond_true,if_pos (oE h),an]
 ·rw [decide_eq_false (by omega),cond_false,tE (by omega)]
theorem nZ (a:List Int) (i:Nat):bz (a.take (i+1))=bz (a.take i)+a.getD i 0 * pw i:=by
 by_cases h:i < a.length
 ·exact cF a i h
 ·rw [je (by omega),je (by omega),tE (by omega)];simp
theorem Qc {N:Nat} {a b:List Int} (ha:U a) (hb:U b) (hs:SM (a.length+b.length+2)) (hN:a.length+b.length+2 < N):∀ (k i fuel:Nat) (out:List Int) (c:Int),a.length+b.length+1≤i+k→k < fuel→out.length=i→i≤a.length+b.length+1→U out→0≤c→c≤1 →
  (a.length < i∧b.length < i→c=0)→bz out+pw i * c=bz (a.take i)+bz (b.take i)→jL N a b fuel out c (i:Int)=some (lm (bz a+bz b).toNat):=by
 intro k
 simp only [SM] at hs
 induction k with
 | zero =>
  intro i fuel out c hi hf ho Tg hU xl s9 IJ hinv
  obtain ⟨g,rfl⟩:∃ g,fuel=g+1:=⟨fuel - 1,by omega⟩
  have hc:=IJ ⟨by omega,by omega⟩
  subst hc
  rw [jL,decide_eq_false (by omega),decide_eq_false (by omega),decide_eq_false (by decide)]
  simp only [cond_false]
  rw [sZ hU (by simp only [SM];omega) (by omega),cn]
  rw [je (by omega),je (by omega)] at hinv
  rw [show bz out=bz a+bz b by omega]
 | succ k ih =>
  intro i fuel out c hi hf ho Tg hU xl s9 IJ hinv
  obtain ⟨g,rfl⟩:∃ g,fuel=g+1:=⟨fuel - 1,by omega⟩
  rw [jL]
  by_cases XO:i < a.length∨i < b.length∨0 < c
  ·have e:cond (cond (decide ((i:Int) < ((a.length:Nat):Int))) true (decide ((i:Int) < ((b.length:Nat):Int)))) true (decide (c > 0))=true:=by
    rcases XO with h | h | h
    ·rw [dec_lt h];rfl
    ·rw [dec_lt h];cases decide ((i:Int) < ((a.length:Nat):Int))<;>rfl
    ·rw [decide_eq_true (show c > 0 by omega)];cases cond (decide ((i:Int) < ((a.length:Nat):Int))) true (decide ((i:Int) < ((b.length:Nat):Int)))<;>rfl
   have h1:=ha.getD i
   have h2:=hb.getD i
   have ada:i≤a.length+b.length:=by
    rcases XO with h | h | h
    ·omega
    ·omega
    ·have:¬ (a.length < i∧b.length < i):=fun h'=>by have:=IJ h';omega
     omega
   rw [e,cond_true,yN,cn,yN,cn,if_pos (by omega),aN (n:=a.getD i 0+b.getD i 0) (by omega) (by omega),aN (n:=a.getD i 0+b.getD i 0+c) (by omega) (by omega),aK (by omega)]
   generalize hsm:a.getD i 0+b.getD i 0+c=s
   have Q1:0≤s:=by omega
   rw [Int.tmod_eq_emod_of_nonneg Q1,Int.tdiv_eq_ediv_of_nonneg Q1,aN (n:=s / 65536) (by omega) (by omega)]
   refine ih (i+1) g _ _ (by omega) (by omega) (by simp [ho]) (by omega) (hU.append (U.one (by omega) (by omega))) (by omega) (by omega) (fun h=>?_) ?_
   ·have e1:=tE (show a.length≤i by omega)
    have e2:=tE (show b.length≤i by omega)
    omega
   ·rw [k8,qo,ho,nZ a,nZ b,gC]
    have h5:s=s % 65536+65536 * (s / 65536):=by omega
    have h6:pw i * s=pw i * (s % 65536)+pw i * (65536 * (s / 65536)):=by rw [← ic,← h5]
    have h7:pw i * s=a.getD i 0 * pw i+b.getD i 0 * pw i+pw i * c:=by rw [← hsm,ic,ic,gB (pw i) (a.getD i 0),gB (pw i) (b.getD i 0)]
    have h8:65536 * pw i * (s / 65536)=pw i * (65536 * (s / 65536)):=by rw [gB 65536,kA]
    omega
  ·have e:cond (cond (decide ((i:Int) < ((a.length:Nat):Int))) true (decide ((i:Int) < ((b.length:Nat):Int)))) true (decide (c > 0))=false:=by
    rw [decide_eq_false (by omega),decide_eq_false (by omega),decide_eq_false (by omega)];rfl
   have hc:c=0:=by omega
   subst hc
   rw [e,cond_false,sZ hU (by simp only [SM];omega) (by omega),cn]
   rw [je (by omega),je (by omega)] at hinv
   rw [show bz out=bz a+bz b by omega]
theorem Qd {N a b:Nat} (hs:SM ((lm a).length+(lm b).length+2)) (hN:(lm a).length+(lm b).length+3 < N):vL N (lm a) (lm b)=some (lm (a+b)):=by
 have:=Qc (N:=N) (qM a) (qM b) hs (by omega) ((lm a).length+(lm b).length+1) 0 N [] 0 (by omega) (by omega) rfl (by omega) U.nil (by omega) (by omega) (fun _=>rfl) (by simp [bz])
 rw [hO,hO] at this
 exact this
theorem CR {N:Nat} {a b:List Int} (ha:U a) (hb:U b) (hl:a.length=b.length) (hs:SM a.length):∀ (k fuel:Nat),k≤a.length→k < fuel→gx N a b fuel ((k:Int) - 1)=some (Lf a b k)
 | 0,fuel,_,hf=>by
  obtain ⟨g,rfl⟩:∃ g,fuel=g+1:=⟨fuel - 1,by omega⟩
  rw [gx];rfl
 | k+1,fuel,hk,hf=>by
  obtain ⟨g,rfl⟩:∃ g,fuel=g+1:=⟨fuel - 1,by omega⟩
  simp only [SM] at hs
  have e:(((k+1:Nat):Int) - 1)=(k:Int):=by omega
  have h1:=ha.getD k
  have h2:=hb.getD k
  rw [e,gx,decide_eq_true (by omega),cond_true,if_pos (oE (by omega)),if_pos (oE (by omega)),an,aN (n:=a.getD k 0 - b.getD k 0) (by omega) (by omega),aN (n:=(k:Int) - 1) (by omega) (by omega),CR ha hb hl (by simp only [SM];omega) k g (by omega) (by omega)]
  rw [Lf]
  cases (a.getD k 0 != b.getD k 0)<;>rfl
theorem Bj {N a b:Nat} (hN:(lm a).length < N) (ha:SM (lm a).length) (hb:SM (lm b).length):mb N (lm a) (lm b)=some (Gx a b):=by
 unfold mb Gx
 simp only [SM] at ha hb
 cases hl:((((lm a).length:Nat):Int) != (((lm b).length:Nat):Int)) with
 | true=>rw [cond_true,cond_true,aN (by omega) (by omega)]
 | false =>
  have heq:(lm a).length=(lm b).length:=by simp at hl;omega
  rw [cond_false,cond_false,aN (by omega) (by omega)]
  exact CR (qM a) (qM b) heq ha _ N (aF _) hN
theorem Hp {N:Nat} {a b:List Int} (ha:U a) (hb:U b) (hl:b.length≤a.length) (hle:bz b≤bz a) (hs:SM a.length) (hN:a.length+1 < N):∀ (k x fuel:Nat) (out:List Int) (c:Int),x+k=a.length→k < fuel→out.length=x→U out→0≤c→c≤1 →
  bz out - pw x * c=bz (a.take x) - bz (b.take x)→fK N a b fuel out c (x:Int)=some (lm (bz a - bz b).toNat)
 | 0,x,fuel,out,c,hx,hf,ho,hU,xl,s9,hinv=>by
  obtain ⟨g,rfl⟩:∃ g,fuel=g+1:=⟨fuel - 1,by omega⟩
  have Gy:x=a.length:=by omega
  subst Gy
  rw [fK,dV,cond_false,sZ hU (by simp only [SM] at *;omega) (by omega),cn]
  rw [List.take_length,je hl] at hinv
  have h1:=hU.lt
  rw [ho] at h1
  have hc:c=0:=by
   rcases Int.lt_or_le 0 c with h | h
   ·have:c=1:=by omega
    subst this;omega
   ·omega
  subst hc
  rw [show bz out=bz a - bz b by omega]
 | k+1,x,fuel,out,c,hx,hf,ho,hU,xl,s9,hinv=>by
  obtain ⟨g,rfl⟩:∃ g,fuel=g+1:=⟨fuel - 1,by omega⟩
  simp only [SM] at hs
  have pW:x < a.length:=by omega
  have h1:=ha.getD x
  have h2:=hb.getD x
  rw [fK,dec_lt pW,cond_true,if_pos (oE pW),yN,cn,an,aN (n:=a.getD x 0 - b.getD x 0) (by omega) (by omega),aN (n:=a.getD x 0 - b.getD x 0 - c) (by omega) (by omega)]
  have fin:∀ q s:Int,0≤q→q≤1→s=a.getD x 0 - b.getD x 0 - c+q * 65536→0≤s→s < 65536→lq N a b out (x:Int) (fK N a b g) q s=some (lm (bz a - bz b).toNat):=by
   intro q s DI Ew ZP Q1 M1
   unfold lq
   rw [if_pos (by omega),aK (by omega)]
   refine Hp ha hb hl hle (by simp only [SM];omega) hN k (x+1) g _ _ (by omega) (by omega) (by simp [ho]) (hU.append (U.one Q1 M1)) DI Ew ?_
   rw [k8,qo,ho,nZ a,nZ b,gC]
   have h3:pw x * s=a.getD x 0 * pw x - b.getD x 0 * pw x - pw x * c+65536 * pw x * q:=by rw [ZP];grind
   omega
  cases gk:decide (a.getD x 0 - b.getD x 0 - c < 0) with
  | true =>
   have gk:=rA gk
   rw [cond_true,aN (by omega) (by omega)]
   exact fin 1 _ (by omega) (by omega) (by omega) (by omega) (by omega)
  | false =>
   have gk:=rB gk
   rw [cond_false]
   exact fin 0 _ (by omega) (by omega) (by omega) (by omega) (by omega)
theorem Cx {N a b:Nat} (Tz:b≤a) (hs:SM (lm a).length) (hN:(lm a).length+1 < N):oO N (lm a) (lm b)=some (lm (a - b)):=by
 have:=Hp (N:=N) (qM a) (qM b) (gZ Tz) (by rw [hO,hO];omega) hs hN (lm a).length 0 N [] 0 (by omega) (by omega) rfl U.nil (by omega) (by omega) (by simp [bz])
 rw [hO,hO] at this
 rw [show (lm (a - b))=lm ((a:Int) - (b:Int)).toNat by congr 1;omega]
 exact this
theorem NF {N:Nat} {a b:List Int} {i:Nat} (ha:U a) (hb:U b) (hi:i < a.length) (hs:SM (a.length+b.length+1)) (K:List Int→Int→Option (List Int)) (R:Option (List Int))
  (hK:∀ out,out.length=a.length+b.length+1→U out→(∀ j,i+1+b.length≤j→out.getD j 0=0)→bz out=bz (a.take (i+1)) * bz b→K out ((i+1:Nat):Int)=R) :
  ∀ (k x fuel:Nat) (out:List Int) (c:Int),x+k=b.length+1→k < fuel→out.length=a.length+b.length+1→U out→0≤c→c < 65536→(x=b.length+1→c=0)→(∀ j,i+b.length≤j→x≤b.length→out.getD j 0=0)→(∀ j,i+1+b.length≤j→out.getD j 0=0) →
   bz out+pw (i+x) * c=bz (a.take i) * bz b+a.getD i 0 * pw i * bz (b.take x)→ja N a b (i:Int) K fuel out c (x:Int)=R:=by
 intro k
 simp only [SM] at hs
 induction k with
 | zero =>
  intro x fuel out c hx hf ho hU xl s9 IJ hz Q2 hinv
  obtain ⟨g,rfl⟩:∃ g,fuel=g+1:=⟨fuel - 1,by omega⟩
  have Gy:x=b.length+1:=by omega
  subst Gy
  have hc:=IJ rfl
  subst hc
  rw [ja,decide_eq_false (by omega),decide_eq_false (by decide)]
  simp only [cond_false]
  rw [aK (by omega)]
  refine hK out ho hU Q2 ?_
  rw [show b.take (b.length+1)=b from je (by omega)] at hinv
  rw [cF a i hi,ep];omega
 | succ k ih =>
  intro x fuel out c hx hf ho hU xl s9 IJ hz Q2 hinv
  obtain ⟨g,rfl⟩:∃ g,fuel=g+1:=⟨fuel - 1,by omega⟩
  rw [ja]
  have h1:=ha.getD i
  have h2:=hb.getD x
  have h3:=hU.getD (i+x)
  by_cases XO:x < b.length∨0 < c
  ·have e:cond (decide ((x:Int) < ((b.length:Nat):Int))) true (decide (c > 0))=true:=by
    rcases XO with h | h
    ·rw [dec_lt h];rfl
    ·rw [decide_eq_true (show c > 0 by omega)];cases decide ((x:Int) < ((b.length:Nat):Int))<;>rfl
   have ei:ag ((i:Int)+(x:Int))=((i+x:Nat):Int):=by rw [aN (by omega) (by omega)];omega
   have h4:=FB h1.1 h1.2 h2.1 h2.2
   rw [e,cond_true,ei,if_pos (oE (by omega)),if_pos (oE hi),yN,cn]
   simp only [an]
   rw [aN (n:=a.getD i 0 * b.getD x 0) (by omega) (by omega),aN (n:=out.getD (i+x) 0+a.getD i 0 * b.getD x 0) (by omega) (by omega),aN (n:=out.getD (i+x) 0+a.getD i 0 * b.getD x 0+c) (by omega) (by omega),aK (by omega)]
   generalize Sn:out.getD (i+x) 0+a.getD i 0 * b.getD x 0+c=s
   have Q1:0≤s:=by omega
   rw [Int.tmod_eq_emod_of_nonneg Q1,Int.tdiv_eq_ediv_of_nonneg Q1,aN (n:=s / 65536) (by omega) (by omega)]
   refine ih (x+1) g _ _ (by omega) (by omega) (by simp [ho]) (hU.set _ (by omega) (by omega)) (by omega) (by omega) (fun h=>?_) (fun j hj Tm=>?_) (fun j hj=>?_) ?_
   ·have e1:=tE (show b.length≤x by omega)
    have e2:=hz (i+x) (by omega) (by omega)
    rw [e1,e2] at Sn;simp at Sn;omega
   ·rw [getD_set_ne _ _ (by omega)];exact hz j hj (by omega)
   ·rw [getD_set_ne _ _ (by omega)];exact Q2 j hj
   ·rw [mD _ _ _ (by omega),nZ b,show i+(x+1)=(i+x)+1 by omega,gC]
    have h5:s=s % 65536+65536 * (s / 65536):=by omega
    have h6:pw (i+x) * s=pw (i+x) * (s % 65536)+pw (i+x) * (65536 * (s / 65536)):=by rw [← ic,← h5]
    have h7:pw (i+x) * s=pw (i+x) * c+pw (i+x) * (a.getD i 0 * b.getD x 0)+pw (i+x) * out.getD (i+x) 0:=by rw [← Sn,ic,ic];omega
    have h8:65536 * pw (i+x) * (s / 65536)=pw (i+x) * (65536 * (s / 65536)):=by rw [gB 65536,kA]
    have h9:(s % 65536 - out.getD (i+x) 0) * pw (i+x)=pw (i+x) * (s % 65536) - pw (i+x) * out.getD (i+x) 0:=by rw [Int.sub_mul,gB,gB (out.getD (i+x) 0)]
    have XG:a.getD i 0 * pw i * (bz (b.take x)+b.getD x 0 * pw x)=a.getD i 0 * pw i * bz (b.take x)+pw (i+x) * (a.getD i 0 * b.getD x 0):=by
     rw [Fz];grind
    omega
  ·have e:cond (decide ((x:Int) < ((b.length:Nat):Int))) true (decide (c > 0))=false:=by
    rw [decide_eq_false (by omega),decide_eq_false (by omega)];rfl
   have hc:c=0:=by omega
   subst hc
   rw [e,cond_false,aK (by omega)]
   refine hK out ho hU Q2 ?_
   rw [show b.take x=b from je (by omega)] at hinv
   rw [cF a i hi,ep];omega
theorem Hq {N:Nat} {a b:List Int} (ha:U a) (hb:U b) (hs:SM (a.length+b.length+1)) (hN:a.length+b.length+2 < N):∀ (k x fuel:Nat) (out:List Int),x+k=a.length→k < fuel→out.length=a.length+b.length+1→U out →
  (∀ j,x+b.length≤j→out.getD j 0=0)→bz out=bz (a.take x) * bz b→jb N a b fuel out (x:Int)=some (lm (bz a * bz b).toNat)
 | 0,x,fuel,out,hx,hf,ho,hU,hz,hinv=>by
  obtain ⟨g,rfl⟩:∃ g,fuel=g+1:=⟨fuel - 1,by omega⟩
  have Gy:x=a.length:=by omega
  subst Gy
  rw [jb,dV,cond_false,sZ hU (by simp only [SM] at *;omega) (by omega),cn,hinv,List.take_length]
 | k+1,x,fuel,out,hx,hf,ho,hU,hz,hinv=>by
  obtain ⟨g,rfl⟩:∃ g,fuel=g+1:=⟨fuel - 1,by omega⟩
  have pW:x < a.length:=by omega
  rw [jb,dec_lt pW,cond_true]
  refine NF ha hb pW hs _ _ (fun gf h1 h2 h3 h4=>?_) (b.length+1) 0 N out 0 (by omega) (by omega) ho hU (by omega) (by omega) (fun h=>by omega) (fun j hj _=>hz j hj) (fun j hj=>hz j (by omega)) (by rw [hinv];simp [bz])
  exact Hq ha hb hs hN k (x+1) g gf (by omega) (by omega) h1 h2 h3 h4
theorem J2 {N:Nat} {a b:List Int} (ha:U a) (hb:U b) (hs:SM (a.length+b.length+1)) (hN:a.length+b.length+2 < N):kV N a b=some (lm (bz a * bz b).toNat):=by
 unfold kV
 have Gz:=hs
 simp only [SM] at Gz
 have e:ag (ag (((a.length:Nat):Int)+((b.length:Nat):Int))+1)=((a.length+b.length+1:Nat):Int):=by rw [aN (n:=((a.length:Nat):Int)+((b.length:Nat):Int)) (by omega) (by omega),aN (by omega) (by omega)];omega
 rw [e,if_pos (by omega)]
 exact Hq ha hb hs hN a.length 0 N _ (by omega) (by omega) (by simp;omega) (U.replicate _) (fun j _=>gR _ j) (by rw [jO];simp [bz])
theorem NG {N a b:Nat} (hs:SM ((lm a).length+(lm b).length+1)) (hN:(lm a).length+(lm b).length+2 < N):kV N (lm a) (lm b)=some (lm (a * b)):=by
 rw [J2 (qM a) (qM b) hs hN,hO,hO,ui]
theorem Sy {N:Nat} {a q:List Int} {b i X:Nat} (hb:0 < b) (hX:X < 65536 * b) (hq:i < q.length) (hs:SM ((lm b).length+(lm X).length+3)) (hi:SM i) (hN:(lm b).length+(lm X).length+65546 < N) (K:List Int→List Int→Int→Option (List Int×List Int)) :
  ∀ (d lo hi fuel:Nat),hi - lo≤d→lo≤hi→hi < 65536→d < fuel→lo * b≤X→X < (hi+1) * b→iQ N a (lm b) q (i:Int) (lm X) K fuel (lo:Int) (hi:Int)=K (lm (X % b)) (q.set i ((X / b:Nat):Int)) ((i:Int) - 1):=by
 intro d
 simp only [SM] at hs hi
 have one:∀ m:Nat,m < 65536→kV N (lm b) [(m:Int)]=some (lm (b * m)):=fun m hm=>by
  rw [J2 (qM b) (U.one (by omega) (by omega)) (by simp only [SM,List.length_singleton];omega) (by simp only [List.length_singleton];omega),hO,qo,ui]
 have Z8:∀ m:Nat,m < 65536→(lm (b * m)).length≤(lm b).length+1:=fun m hm=>by
  rw [jl,gC]
  have:=(jl (n:=b) (k:=(lm b).length)).1 (aF _)
  have h2:=Nat.mul_le_mul_left b (show m≤65535 by omega)
  have:=k7 (lm b).length
  omega
 induction d with
 | zero =>
  intro lo qT fuel hd hle M3 hf h1 h2
  obtain ⟨g,rfl⟩:∃ g,fuel=g+1:=⟨fuel - 1,by omega⟩
  have hlh:qT=lo:=by omega
  subst hlh
  have hdiv:X / b=qT:=by
   have h3:X=qT * b+(X - qT * b):=by omega
   have h4:X - qT * b < b:=by rw [cr,Nat.one_mul] at h2;omega
   exact (CP h3 h4).1
  have WJ:X % b=X - b * qT:=by
   have:=Nat.div_add_mod X b
   rw [hdiv] at this;omega
  rw [iQ,decide_eq_false (by omega),cond_false,if_pos (oE hq)]
  have h5:b * qT≤X:=by rw [o9];exact h1
  by_cases h0:0 < qT
  ·rw [decide_eq_true (by omega),cond_true,one qT M3,cn,Cx h5 (by simp only [SM];omega) (by omega),cn]
   unfold mc
   rw [an,aN (by omega) (by omega),hdiv,WJ]
  ·have:qT=0:=by omega
   subst this
   rw [decide_eq_false (by decide),cond_false]
   unfold mc
   rw [an,aN (by omega) (by omega),hdiv,WJ];simp
 | succ d ih =>
  intro lo qT fuel hd hle M3 hf h1 h2
  obtain ⟨g,rfl⟩:∃ g,fuel=g+1:=⟨fuel - 1,by omega⟩
  by_cases gk:lo < qT
  ·rw [iQ,decide_eq_true (by omega),cond_true,aN (n:=(lo:Int)+(qT:Int)) (by omega) (by omega),aN (n:=(lo:Int)+(qT:Int)+1) (by omega) (by omega)]
   have em:((lo:Int)+(qT:Int)+1).tdiv 2=(((lo+qT+1) / 2:Nat):Int):=by rw [Int.tdiv_eq_ediv_of_nonneg (by omega)];omega
   rw [em,aN (n:=(((lo+qT+1) / 2:Nat):Int)) (by omega) (by omega)]
   generalize hm:(lo+qT+1) / 2=m
   have hml:=Z8 m (by omega)
   rw [one m (by omega),cn,Bj (by omega) (by simp only [SM];omega) (by simp only [SM];omega),cn]
   have hc:Gx (b * m) X≤0↔b * m≤X:=by
    obtain ⟨c,_,h3,h4,h5⟩:=v7 (N:=(lm (b * m)).length+1) (a:=b * m) (b:=X) (by omega) (by simp only [SM];omega) (by simp only [SM];omega)
    rw [← h5];omega
   by_cases Ks:b * m≤X
   ·rw [decide_eq_true (hc.2 Ks),cond_true]
    exact ih m qT g (by omega) (by omega) M3 (by omega) (by rw [o9];exact Ks) h2
   ·rw [decide_eq_false (fun h=>Ks (hc.1 h)),cond_false,aN (by omega) (by omega)]
    have e1:((m:Int) - 1)=((m - 1:Nat):Int):=by omega
    rw [e1]
    refine ih lo (m - 1) g (by omega) (by omega) (by omega) (by omega) h1 ?_
    rw [show m - 1+1=m by omega,o9];omega
  ·have:=ih lo qT (g+1) (by omega) hle M3 (by omega) h1 h2
   exact this
theorem Mx {N:Nat} {A b:Nat} (hb:0 < b) (hs:SM (2 * (lm A).length+2 * (lm b).length+10)) (hN:(lm A).length+2 * (lm b).length+65560 < N):∀ (k fuel:Nat) (q:List Int) (r:Nat),k≤(lm A).length→k < fuel→q.length=(lm A).length→U q→r < b →
  (∀ j,j < k→q.getD j 0=0)→pw k * bz ((lm A).drop k)=bz q * b+r * pw k→iR N (lm A) (lm b) fuel (lm r) q ((k:Int) - 1)=some (lm (A / b),lm (A % b))
 | 0,fuel,q,r,hk,hf,hq,hU,hr,hz,hinv=>by
  obtain ⟨g,rfl⟩:∃ g,fuel=g+1:=⟨fuel - 1,by omega⟩
  have e:decide ((((0:Nat):Int) - 1)≥0)=false:=rfl
  rw [iR,e,cond_false,sZ hU (by simp only [SM] at *;omega) (by omega),cn]
  rw [yJ,List.drop_zero,hO] at hinv
  have DI:=hU.oG
  obtain ⟨Q,hQ⟩:=Int.eq_ofNat_of_zero_le DI
  rw [hQ] at hinv ⊢
  have h6:A=Q * b+r:=by
   have h9:(A:Int)=Q * b+r:=by omega
   exact_mod_cast h9
  obtain ⟨h7,h8⟩:=CP h6 hr
  rw [h7,h8];rfl
 | k+1,fuel,q,r,hk,hf,hq,hU,hr,hz,hinv=>by
  obtain ⟨g,rfl⟩:∃ g,fuel=g+1:=⟨fuel - 1,by omega⟩
  have Gz:=hs
  simp only [SM] at Gz
  have e:(((k+1:Nat):Int) - 1)=(k:Int):=by omega
  have h1:=(qM A).getD k
  have Xl:(lm r).length≤(lm b).length:=gZ (by omega)
  rw [e,iR,decide_eq_true (by omega),cond_true,if_pos (oE (by omega)),if_pos (by omega),an]
  obtain ⟨D,hD⟩:=Int.eq_ofNat_of_zero_le h1.1
  have hX:lm (bz ([(lm A).getD k 0] ++ lm r)).toNat=lm (D+65536 * r):=by
   have e9:bz ([(lm A).getD k 0] ++ lm r)=((D+65536 * r:Nat):Int):=by rw [k8,qo,hO,hD];simp [pw]
   rw [e9,Int.toNat_natCast]
  have hD2:D < 65536:=by omega
  rw [sZ ((U.one h1.1 h1.2).append (qM r)) (by simp only [SM,lD,List.length_singleton];omega) (by simp only [lD,List.length_singleton];omega),cn,hX]
  have hXb:D+65536 * r < 65536 * b:=by omega
  have hXl:(lm (D+65536 * r)).length≤(lm b).length+1:=by
   rw [jl,gC]
   have:=(jl (n:=b) (k:=(lm b).length)).1 (aF _)
   omega
  have:=Sy (N:=N) (a:=lm A) (q:=q) (b:=b) (i:=k) (X:=D+65536 * r) hb hXb (by omega) (by simp only [SM];omega) (by simp only [SM];omega) (by omega) (iR N (lm A) (lm b) g) 65535 0 65535 N (by omega) (by omega) (by omega) (by omega) (by omega) (by omega)
  rw [show ((0:Nat):Int)=0 from rfl,show ((65535:Nat):Int)=65535 from rfl] at this
  rw [this]
  have Z3:(D+65536 * r) / b < 65536:=Nat.div_lt_of_lt_mul (by omega)
  have hml:=Nat.mod_lt (D+65536 * r) hb
  have hdm:=Nat.div_add_mod (D+65536 * r) b
  generalize (D+65536 * r) / b=u at *
  generalize (D+65536 * r) % b=v at *
  refine Mx hb hs hN k g _ _ (by omega) (by omega) (by simp [hq]) (hU.set _ (by omega) (by omega)) hml (fun j hj=>by rw [getD_set_ne _ _ (by omega)];exact hz j (by omega)) ?_
  rw [mD _ _ _ (by omega),hz k (by omega),Int.sub_zero,m8 _ k (by omega),hD]
  rw [gC] at hinv
  have h2:(D:Int)+65536 * r=b * u+v:=by
   have:=congrArg (fun x:Nat=>(x:Int)) hdm
   simp only [Int.natCast_add,Int.natCast_mul] at this
   omega
  have h3:pw k * ((D:Int)+65536 * r)=pw k * (b * u+v):=by rw [h2]
  grind
theorem My {N A b:Nat} (hb:b≠0) (hs:SM (2 * (lm A).length+2 * (lm b).length+10)) (hN:(lm A).length+2 * (lm b).length+65560 < N):mY N (lm A) (lm b)=some (lm (A / b),lm (A % b)):=by
 have Gz:=hs
 simp only [SM] at Gz
 unfold mY
 rw [if_pos (by omega),aN (by omega) (by omega)]
 have:=Mx (N:=N) (A:=A) (b:=b) (by omega) hs hN (lm A).length N (List.replicate (lm A).length 0) 0 (aF _) (by omega) (by simp) (U.replicate _) (by omega) (fun j _=>gR _ j) (by rw [List.drop_length,jO];simp [bz])
 rw [iq] at this
 exact this
end Go.Den
namespace Go.Den
open Go.Ab
abbrev LM (n:Nat):Prop:=n < 1000000000000
section
variable {a b:bW} {x y:aa} {m n:Nat} {p q:Rat} {z w:Int}
theorem ZI.read (ha:ZI a z n) (hs:LM n):Gv (fun N=>iC N a.fL) (lm z.natAbs) :=
 .of (n+1) fun N hN=>by
  have:=UT (N:=N) ha.ib.U (by have:=ha.ib.len;simp only [SM,LM] at *;omega) (by have:=ha.ib.len;omega)
  rwa [← lv,ha.v] at this
theorem ZI.Im (ha:ZI a z n):z=sg a.fG z.natAbs:=by
 have h1:=lv a
 have:zv a=sg a.fG (zv a).natAbs:=by rw [h1];rfl
 rwa [ha.v] at this
theorem n4 {neg:Bool} {k:Nat} (hz:ZB (sg neg k) n) (hs:LM n):Gv (fun N=>ft N neg (lm k)) (zd (sg neg k)):=by
 unfold ZB at hz
 rw [oW] at hz
 exact Sx neg (by simp only [SM,LM] at *;omega)
theorem Qe {N:Nat} {z:Int}:∀ (fuel n:Nat) (out:List Int) (r:Option bW),(lm n).length < fuel→out.length+(lm n).length < 1000→n < 18446744073709551616→((ft N (decide (z < 0)) (out ++ lm n)).bind fun r=>some r)=r→kU N z fuel out (n:Int)=r
 | 0,n,out,r,h,_,_,_=>by omega
 | fuel+1,n,out,r,h,h2,h3,hr=>by
  rw [kU]
  by_cases hn:n=0
  ·subst hn
   rw [iq,List.append_nil] at hr
   exact hr
  ·have e:decide ((n:Int) > 0)=true:=by simp;omega
   rw [ri hn] at h h2
   simp only [ye] at h h2
   have e1:((n:Int) / 65536)=((n / 65536:Nat):Int):=by omega
   have e2:((n:Int) % 65536)=((n % 65536:Nat):Int):=by omega
   rw [e,cond_true,if_pos (by omega),Int.tmod_eq_emod_of_nonneg (by omega),Int.tdiv_eq_ediv_of_nonneg (by omega),e1,e2,gU (by omega) (by omega),aN (by omega) (by omega)]
   refine Qe fuel (n / 65536) _ r (by omega) (by simp;omega) (by omega) ?_
   rw [← hr,ri hn,List.append_assoc];rfl
theorem F2 (h1:-9223372036854775808≤z) (h2:z≤9223372036854775807):Gv (fun N=>qE N z) (zd z):=by
 have hl:ZB z 4:=ZB.word h1 h2
 have key:Gv (fun N=>kU N z N [] ((z.natAbs:Nat):Int)) (zd z):=by
  have hm:Gv (fun N=>(ft N (decide (z < 0)) (lm z.natAbs)).bind fun r=>some r) (zd z):=by
   by_cases h:z < 0
   ·have e:sg true z.natAbs=z:=by simp [sg];omega
    have:=n4 (neg:=true) (k:=z.natAbs) (n:=4) (by rw [e];exact hl) (by decide)
    rw [e] at this
    rw [decide_eq_true h]
    exact this.bind (Gv.pure _)
   ·have e:sg false z.natAbs=z:=by simp [sg];omega
    have:=n4 (neg:=false) (k:=z.natAbs) (n:=4) (by rw [e];exact hl) (by decide)
    rw [e] at this
    rw [decide_eq_false h]
    exact this.bind (Gv.pure _)
  obtain ⟨N0,hm⟩:=hm
  refine .of (N0+5) fun N hN=>?_
  unfold ZB at hl
  exact Qe N z.natAbs [] _ (by omega) (by simp;omega) (by omega) (by have:=hm N (by omega);simpa using this)
 unfold qE
 by_cases h:z < 0
 ·have e:IntKind.u64.wrap (0 - IntKind.u64.wrap z)=((z.natAbs:Nat):Int):=by rw [wrap64,wrap64];omega
  refine Gv.aL (decide_eq_true h) ?_
  rw [e];exact key
 ·have e:IntKind.u64.wrap z=((z.natAbs:Nat):Int):=by rw [wrap64];omega
  refine Gv.aY (decide_eq_false h) ?_
  rw [e];exact key
theorem ZI.UU (ha:ZI a z n) (hs:LM n):Gv (fun N=>yE N a) (zd (-z)):=by
 refine (ha.read hs).bind ?_
 have e:sg (!a.fG) z.natAbs = -z:=by
  have:=ha.Im
  generalize z.natAbs=k at *
  subst this
  cases a.fG<;>simp [sg]
 refine Gv.bind (r:=zd (-z)) ?_ (Gv.pure _)
 rw [← e]
 exact n4 (n:=n) (by rw [e];exact ha.zb.neg) hs
theorem ZI.GA (ha:ZI a z n) (hb:ZI b w n) (hs:LM (n+1)):Gv (fun N=>yF N a b) (zd (z+w)):=by
 simp only [LM] at hs
 have hz:=ha.zb.add hb.zb
 have G8:=ha.zb
 have tp:=hb.zb
 unfold ZB at G8 tp
 refine (ha.read (by simp only [LM];omega)).bind ((hb.read (by simp only [LM];omega)).bind ?_)
 have hX:=ha.Im
 have hY:=hb.Im
 clear ha hb
 generalize z.natAbs=x at *
 generalize w.natAbs=y at *
 rw [hX,hY] at hz ⊢
 generalize a.fG=p at *
 generalize b.fG=q at *
 cases NY:(p == q) with
 | true =>
  have NY:p=q:=by simpa using NY
  subst NY
  have e:sg p x+sg p y=sg p (x+y):=by cases p<;>simp [sg]<;>omega
  rw [e] at hz ⊢
  refine Gv.aL rfl (Gv.bind (r:=lm (x+y)) (.of (2 * n+4) fun N hN=>Qd (by simp only [SM];omega) (by omega)) ?_)
  exact (n4 hz (by simp only [LM];omega)).bind (Gv.pure _)
 | false =>
  have NY:q=!p:=by cases p<;>cases q<;>simp_all
  subst NY
  refine Gv.aY rfl ?_
  refine Gv.bind (r:=Gx x y) (.of (n+2) fun N hN=>Bj (by omega) (by simp only [SM];omega) (by simp only [SM];omega)) ?_
  have gk:=Ml (a:=x) (b:=y) (by simp only [SM];omega) (by simp only [SM];omega)
  by_cases Tp:x < y
  ·refine Gv.aY (decide_eq_false (by have:=gk.2 Tp;omega)) (Gv.bind (r:=lm (y - x)) (.of (n+2) fun N hN=>Cx (by omega) (by simp only [SM];omega) (by omega)) ?_)
   have e:sg p x+sg (!p) y=sg (!p) (y - x):=by cases p<;>simp [sg]<;>omega
   rw [e] at hz ⊢
   exact (n4 hz (by simp only [LM];omega)).bind (Gv.pure _)
  ·refine Gv.aL (decide_eq_true (by have:=fun h=>Tp (gk.1 h);omega)) (Gv.bind (r:=lm (x - y)) (.of (n+2) fun N hN=>Cx (by omega) (by simp only [SM];omega) (by omega)) ?_)
   have e:sg p x+sg (!p) y=sg p (x - y):=by cases p<;>simp [sg]<;>omega
   rw [e] at hz ⊢
   exact (n4 hz (by simp only [LM];omega)).bind (Gv.pure _)
theorem ZI.uF (ha:ZI a z n) (hs:LM n):Gv (fun N=>vK N a) z.sign:=by
 refine (ha.read hs).bind ?_
 have hX:=ha.Im
 clear ha
 generalize z.natAbs=x at *
 rw [hX]
 generalize a.fG=p
 by_cases h:x=0
 ·subst h
  refine Gv.aL (by rw [iq];rfl) ((Gv.pure _).eq ?_)
  cases p<;>rfl
 ·refine Gv.aY ?_ ?_
  ·have:=lV.2 h
   simp;exact fun h'=>by rw [h'] at this;simp at this
  ·cases p with
   | true=>exact Gv.aL rfl ((Gv.pure _).eq (by simp only [sg,cond_true];rw [Int.sign_eq_neg_one_of_neg];omega))
   | false=>exact Gv.aY rfl ((Gv.pure _).eq (by simp only [sg,cond_false];rw [Int.sign_eq_one_of_pos];omega))
theorem ZI.w8 (ha:ZI a z m) (hb:ZI b w n) (hs:LM (m+n)):Gv (fun N=>md N a b) (zd (z * w)):=by
 simp only [LM] at hs
 have hz:=ha.zb.mul hb.zb
 have G8:=ha.zb
 have tp:=hb.zb
 unfold ZB at G8 tp
 refine (ha.read (by simp only [LM];omega)).bind ((hb.read (by simp only [LM];omega)).bind ?_)
 refine Gv.bind (r:=lm (z.natAbs * w.natAbs)) (.of (m+n+3) fun N hN=>NG (by simp only [SM];omega) (by omega)) ?_
 have e:sg (!(a.fG == b.fG)) (z.natAbs * w.natAbs)=z * w:=by rw [sign_eq,← ha.Im,← hb.Im]
 have:=n4 (neg:=!(a.fG == b.fG)) (k:=z.natAbs * w.natAbs) (n:=m+n) (by rw [e];exact hz) hs
 rw [e] at this
 exact this.bind (Gv.pure _)
theorem J3 {A B:Nat} (ha:(lm A).length≤m) (hb:(lm B).length≤n) (h0:B≠0) (hs:LM (m+n+10)):Gv (fun N=>mY N (lm A) (lm B)) (lm (A / B),lm (A % B)) :=
 .of (m+2 * n+65561) fun N hN=>My h0 (by simp only [SM,LM] at *;omega) (by omega)
end
end Go.Den
namespace Go.Den
open Go.Ab
section
variable {a b:bW} {x y:aa} {m n:Nat} {p q:Rat} {z w:Int}
theorem Sz {N k:Nat} (hk:LM (4 * k+30)) (hN:3 * k+65570 < N):∀ (y x fuel:Nat),y < fuel→(lm x).length≤k→(lm y).length≤k→lO N fuel (lm x) (lm y)=some (lm (Nat.gcd x y)):=by
 intro y
 simp only [LM] at hk
 induction y using Nat.strongRecOn with
 | _ y ih =>
  intro x fuel hf hx hy
  obtain ⟨g,rfl⟩:∃ g,fuel=g+1:=⟨fuel - 1,by omega⟩
  rw [lO]
  by_cases h:y=0
  ·subst h
   rw [iq,Nat.gcd_zero_right];rfl
  ·have hl:=lV.2 h
   rw [decide_eq_true (by omega),cond_true,My h (by simp only [SM];omega) (by omega),cn]
   have gk:=Nat.mod_lt x (Nat.pos_of_ne_zero h)
   rw [ih (x % y) gk y g (by omega) hy (dU (gZ (by omega)) hy),Nat.gcd_comm x y,Nat.gcd_rec y x,Nat.gcd_comm]
theorem SA {x y k:Nat} (hx:(lm x).length≤k) (hy:(lm y).length≤k) (hk:LM (4 * k+30)):Gv (fun N=>yD N (lm x) (lm y)) (lm (Nat.gcd x y)) :=
 .of (3 * k+65571+y) fun N hN=>Sz hk (by omega) y x N (by omega) hx hy
theorem ZI.j3 (ha:ZI a z n) (hb:ZI b w n) (h0:w≠0) (hs:LM (4 * n+30)):Gv (fun N=>mZ N a b) (bA (Rat.divInt z w)):=by
 simp only [LM] at hs
 have G8:=ha.zb
 have tp:=hb.zb
 unfold ZB at G8 tp
 refine (ha.read (by simp only [LM];omega)).bind ((hb.read (by simp only [LM];omega)).bind ?_)
 have hX:=ha.Im
 have hY:=hb.Im
 clear ha hb
 generalize Z6:z.natAbs=x at *
 generalize WH:w.natAbs=y at *
 have QT:y≠0:=by omega
 have hg0:0 < Nat.gcd x y:=Nat.gcd_pos_of_pos_right _ (by omega)
 refine Gv.aY (by have:=lV.2 QT;simp;exact fun h'=>by rw [h'] at this;simp at this) ?_
 refine (SA G8 tp (by simp only [LM];omega)).bind ?_
 have Z7:(lm (Nat.gcd x y)).length≤n:=dU (gZ (Nat.gcd_le_right _ (by omega))) tp
 refine (J3 G8 Z7 (by omega) (by simp only [LM];omega)).bind ((J3 tp Z7 (by omega) (by simp only [LM];omega)).bind ?_)
 generalize hu:x / Nat.gcd x y=u
 generalize hv:y / Nat.gcd x y=v
 have WE:(lm u).length≤n:=dU (gZ (by rw [← hu];exact Nat.div_le_self _ _)) G8
 have LI:(lm v).length≤n:=dU (gZ (by rw [← hv];exact Nat.div_le_self _ _)) tp
 refine (n4 (neg:=!(a.fG == b.fG)) (k:=u) (n:=n) (by unfold ZB;rw [oW];exact WE) (by simp only [LM];omega)).bind ((n4 (neg:=false) (k:=v) (n:=n) (by unfold ZB;rw [oW];exact LI) (by simp only [LM];omega)).bind ((Gv.pure _).eq ?_))
 have US:Int.gcd w z=Nat.gcd x y:=by unfold Int.gcd;rw [Z6,WH,Nat.gcd_comm]
 unfold bA
 rw [Rat.num_divInt,Rat.den_divInt,if_neg h0,US,WH,hv]
 have hd:(Nat.gcd x y) ∣ x:=Nat.gcd_dvd_left _ _
 have e1:w.sign * z / ((Nat.gcd x y:Nat):Int)=sg (!(a.fG == b.fG)) u:=by
  have Su:(x:Int)=(Nat.gcd x y:Nat) * (u:Int):=by
   have:x=Nat.gcd x y * u:=by rw [← hu,Nat.mul_div_cancel' hd]
   exact_mod_cast this
  have e2:w.sign * z=(Nat.gcd x y:Nat) * sg (!(a.fG == b.fG)) u:=by
   rw [hX,hY]
   cases a.fG<;>cases b.fG<;>simp only [sg,cond_true,cond_false,Bool.not_true,Bool.not_false,BEq.rfl,show (true == false)=false from rfl,show (false == true)=false from rfl]
   ·rw [Int.sign_eq_one_of_pos (by omega),Int.one_mul,← Su]
   ·rw [Int.sign_eq_neg_one_of_neg (by omega),Int.mul_neg,← Su];omega
   ·rw [Int.sign_eq_one_of_pos (by omega),Int.one_mul,Int.mul_neg,← Su]
   ·rw [Int.sign_eq_neg_one_of_neg (by omega),← Su];omega
  rw [e2,Int.mul_ediv_cancel_left _ (by omega)]
 rw [e1];rfl
theorem WK:Gv (fun N=>qE N 1) (zd 1):=F2 (by decide) (by decide)
theorem ZI.UW (ha:ZI a z n) (hb:ZI b w n) (h0:w=0) (hs:LM (4 * n+30)):Gv (fun N=>mZ N a b) (bA (z:Rat)):=by
 simp only [LM] at hs
 refine (ha.read (by simp only [LM];omega)).bind ((hb.read (by simp only [LM];omega)).bind ?_)
 refine Gv.aL (by rw [h0];show (((lm 0).length:Nat):Int) == 0;rw [iq];rfl) ?_
 have e:=ha.Im
 have:=n4 (neg:=a.fG) (k:=z.natAbs) (n:=n) (by rw [← e];exact ha.zb) (by simp only [LM];omega)
 rw [← e] at this
 exact this.bind (WK.bind (Gv.pure _))
theorem RQ.parts (h:RQ x p n):∃ z w,ZI x.fN z n∧ZI x.fD w n∧p=Rat.divInt z (if w=0 then 1 else w) :=
 ⟨zv x.fN,zv x.fD,⟨h.ir.num,rfl⟩,⟨h.ir.den,rfl⟩,h.v.symm⟩
theorem RQ.CS (h:RQ x p n) (hs:LM (4 * n+30)):Gv (fun N=>fM N x) (bA p):=by
 obtain ⟨z,w,hz,hw,e⟩:=h.parts
 by_cases h0:w=0
 ·rw [if_pos h0] at e
  refine (hz.UW hw h0 hs).bind ((Gv.pure _).eq ?_)
  rw [e,FI]
 ·rw [if_neg h0] at e
  refine (hz.j3 hw h0 hs).bind ((Gv.pure _).eq ?_)
  rw [e]
theorem RQ.Lh (h:RQ x p n) (hs:LM (4 * n+30)):Gv (fun N=>gG N x) (Go.Den.oZ p) :=
 (h.CS hs).bind ((h.rb.num.zi.uF (by simp only [LM] at *;omega)).bind (Gv.pure _))
theorem NH (p q:Rat):Rat.divInt (p.num * q.den+q.num * p.den) (p.den * q.den)=p+q:=by
 conv=>rhs;rw [ky p,ky q]
 rw [Rat.divInt_add_divInt _ _ (mm p) (mm q)]
theorem RQ.GA (hx:RQ x p m) (hy:RQ y q n) (hs:LM (4 * (m+n+1)+30)):Gv (fun N=>gQ N x y) (bA (p+q)):=by
 simp only [LM] at hs
 have bx:=hx.rb
 have Kq:=hy.rb
 refine (hx.CS (by simp only [LM];omega)).bind ((hy.CS (by simp only [LM];omega)).bind ?_)
 refine (bx.num.zi.w8 Kq.den.zi (by simp only [LM];omega)).bind ((Kq.num.zi.w8 bx.den.zi (by simp only [LM];omega)).bind ?_)
 have e1:=(bx.num.mul Kq.den).le (show m+n≤m+n by omega)
 have e2:=(Kq.num.mul bx.den).le (show n+m≤m+n by omega)
 refine (e1.zi.GA e2.zi (by simp only [LM];omega)).bind ((bx.den.zi.w8 Kq.den.zi (by simp only [LM];omega)).bind ?_)
 refine ((e1.add e2).zi.j3 ((bx.den.mul Kq.den).le (show m+n≤m+n+1 by omega)).zi (Int.mul_ne_zero (mm p) (mm q)) (by simp only [LM];omega)).bind ((Gv.pure _).eq ?_)
 rw [NH]
theorem RQ.UU (hx:RQ x p n) (hs:LM (4 * n+30)):Gv (fun N=>rJ N x) (bA (-p)):=by
 refine (hx.CS hs).bind ((hx.rb.num.zi.UU (by simp only [LM] at *;omega)).bind ((Gv.pure _).eq ?_))
 unfold bA;rw [Rat.neg_num,Rat.neg_den]
theorem RQ.WL (hx:RQ x p m) (hy:RQ y q n) (hs:LM (4 * (m+n+1)+30)):Gv (fun N=>pH N x y) (bA (p - q)):=by
 refine (hy.UU (by simp only [LM] at *;omega)).bind ((hx.GA (hy.rb.neg.rq hy.pos) hs).bind ((Gv.pure _).eq ?_))
 rw [Rat.sub_eq_add_neg]
theorem RQ.w8 (hx:RQ x p m) (hy:RQ y q n) (hs:LM (4 * (m+n+1)+30)):Gv (fun N=>fe N x y) (bA (p * q)):=by
 simp only [LM] at hs
 have bx:=hx.rb
 have Kq:=hy.rb
 refine (hx.CS (by simp only [LM];omega)).bind ((hy.CS (by simp only [LM];omega)).bind ?_)
 refine (bx.num.zi.w8 Kq.num.zi (by simp only [LM];omega)).bind ((bx.den.zi.w8 Kq.den.zi (by simp only [LM];omega)).bind ?_)
 refine ((bx.num.mul Kq.num).zi.j3 (bx.den.mul Kq.den).zi (Int.mul_ne_zero (mm p) (mm q)) (by simp only [LM];omega)).bind ((Gv.pure _).eq ?_)
 conv=>rhs;rw [ky p,ky q]
 rw [Rat.divInt_mul_divInt]
theorem RQ.Z9 (hx:RQ x p m) (hy:RQ y q n) (h0:q≠0) (hs:LM (4 * (m+n+1)+30)):Gv (fun N=>rL N x y) (bA (p / q)):=by
 simp only [LM] at hs
 have bx:=hx.rb
 have Kq:=hy.rb
 refine (hx.CS (by simp only [LM];omega)).bind ((hy.CS (by simp only [LM];omega)).bind ?_)
 refine (bx.num.zi.w8 Kq.den.zi (by simp only [LM];omega)).bind ((bx.den.zi.w8 Kq.num.zi (by simp only [LM];omega)).bind ?_)
 refine ((bx.num.mul Kq.den).zi.j3 (bx.den.mul Kq.num).zi (Int.mul_ne_zero (mm p) (P9 h0)) (by simp only [LM];omega)).bind ((Gv.pure _).eq ?_)
 conv=>rhs;rw [ky p,ky q]
 rw [pO (mm p) (mm q)]
theorem RQ.aaa (hx:RQ x p m) (hy:RQ y q n) (hs:LM (4 * (m+n+1)+30)):Gv (fun N=>rK N x y) (Go.Den.oZ (p - q)) :=
 (hx.WL hy hs).bind ((((hx.rb.sub hy.rb).rq (by omega)).Lh hs).bind (Gv.pure _))
end
end Go.Den
namespace Go.Den
open Go.Ab
section
variable (t s:Nat→Rat) (n:Nat)
def WM (i:Nat) (y:Rat):Rat:=if i+1 < n∧t (i+1) < y then t (i+1) else y
def pc (i:Nat) (y:Rat):Rat:=if WM t n i y≤t i then 0 else WM t n i y - t i
def vs:Nat→Nat→Rat→Rat
 | 0,_,_=>0
 | k+1,i,y=>s i * pc t n i y+vs k (i+1) y
def fs:Nat→Rat
 | 0=>0
 | i+1=>fs i+s i * (t (i+1) - t i)
def ps (x:Rat):Rat:=if x < 0 then 0 else x
def Up:Prop:=∀ i,i+1 < n→t i < t (i+1)
end
section
variable {t s:Nat→Rat} {n:Nat} (up:Up t n)
include up
end
end Go.Den
namespace Go.Den
open Go.Ab
theorem ay.succ {α:Type} {f f':Nat→Nat→Option α} {r:α} (e:∀ N g,f N (g+1)=f' N g) (h:ay f' r):ay f r :=
 let ⟨N0,h0⟩:=h;.step N0 fun N g hN hg=>(e N g).trans (h0 N g hN hg)
theorem ay.bind {α β:Type} {f:Nat→Option α} {k:Nat→Nat→α→Option β} {r:α} {s:β} (h:Gv f r) (h2:ay (fun N g=>k N g r) s):ay (fun N g=>(f N).bind (k N g)) s:=by
 obtain ⟨N0,h⟩:=h
 obtain ⟨N1,h2⟩:=h2
 exact ⟨N0+N1,fun N g hN hg=>by dsimp only;rw [h N (by omega)];exact h2 N g (by omega) (by omega)⟩
theorem ay.aL {α:Type} {f g:Nat→Nat→Option α} {r:α} {q:Bool} (hq:q=true) (h:ay f r):ay (fun N n=>cond q (f N n) (g N n)) r:=by subst hq;exact h
theorem ay.aY {α:Type} {f g:Nat→Nat→Option α} {r:α} {q:Bool} (hq:q=false) (h:ay g r):ay (fun N n=>cond q (f N n) (g N n)) r:=by subst hq;exact h
theorem ay.if {α:Type} {f:Nat→Nat→Option α} {r:α} {p:Prop} [Decidable p] (hp:p) (h:ay f r):ay (fun N n=>if p then f N n else none) r:=by
 obtain ⟨N0,h⟩:=h
 exact ⟨N0,fun N g hN hg=>by dsimp only;rw [if_pos hp];exact h N g hN hg⟩
theorem ay.one {α:Type} {f:Nat→Option α} {r:α} (h:Gv f r):ay (fun N _=>f N) r:=let ⟨N0,h⟩:=h;⟨N0,fun N _ hN _=>h N hN⟩
theorem ay.eq {α:Type} {f:Nat→Nat→Option α} {r s:α} (h:ay f r) (e:r=s):ay f s:=e ▸ h
end Go.Den
namespace Go.Den
open Go.Ab
theorem RB.zero:RB 0 1:=RB.int (z:=0) (ZB.small (by decide)) (by decide)
section
end
end Go.Den
namespace Go.Den
open Go.Ab
theorem Bk {l:List aa} {i:Nat} (h:l.length≤i):l.getD i aa.d=aa.d:=by
 simp [List.getD,List.getElem?_eq_none_iff.2 h]
end Go.Den
namespace Go.Den
open Go.Ab
abbrev MS:Nat:=1000000000000
def Ev (p:Nat→Nat→Prop):Prop:=∃ N0,∀ N g,N0≤N→N0≤g→p N g
theorem Ev.of {p:Nat→Nat→Prop} (N0:Nat) (h:∀ N g,N0≤N→N0≤g→p N g):Ev p:=⟨N0,h⟩
theorem Gv.ev {α:Type} {f:Nat→Option α} {r:α} (h:Gv f r):Ev fun N _=>f N=some r:=let ⟨N0,h0⟩:=h;⟨N0,fun N _ hN _=>h0 N hN⟩
theorem Ev.and {p q:Nat→Nat→Prop} (h:Ev p) (k:Ev q):Ev fun N g=>p N g∧q N g:=by
 obtain ⟨a,ha⟩:=h;obtain ⟨b,hb⟩:=k
 exact ⟨a+b,fun N g h1 h2=>⟨ha N g (by omega) (by omega),hb N g (by omega) (by omega)⟩⟩
theorem Ev.mono {p q:Nat→Nat→Prop} (h:Ev p) (k:∀ N g,p N g→q N g):Ev q:=let ⟨a,ha⟩:=h;⟨a,fun N g h1 h2=>k N g (ha N g h1 h2)⟩
theorem Ev.succ {p:Nat→Nat→Prop} (h:Ev fun N g=>p N (g+1)):Ev p:=by
 obtain ⟨a,ha⟩:=h
 refine ⟨a+1,fun N g h1 h2=>?_⟩
 obtain ⟨g,rfl⟩:∃ g',g=g'+1:=⟨g - 1,by omega⟩
 exact ha N g (by omega) (by omega)
theorem Ev.diag {p:Nat→Nat→Prop} (h:Ev p):Ev fun N _=>p N N:=let ⟨a,ha⟩:=h;⟨a,fun N _ h1 _=>ha N N h1 h1⟩
theorem Ev.true {p:Nat→Nat→Prop} (h:∀ N g,p N g):Ev p:=⟨0,fun N g _ _=>h N g⟩
def UX (A:List (List aa)) (i j:Nat):aa:=(A.getD i []).getD j aa.d
structure J4 (A:List (List aa)) (n w:Nat) (M:Nat→Nat→Rat):Prop where
 len:A.length=n
 row:∀ i,i < n→(A.getD i []).length=w
 UX:∀ i j,i < n→j < w→RQ (UX A i j) (M i j) MS
def ld (M:Nat→Nat→Rat) (i j:Nat) (v:Rat):Nat→Nat→Rat:=fun a b=>if a=i∧b=j then v else M a b
theorem lx {α:Type} (l:List α) (i:Nat) (x d:α) (h:i < l.length):(l.set i x).getD i d=x:=by
 simp [fk,List.getElem?_set_self h]
theorem jm {α:Type} (l:List α) {i j:Nat} (x d:α) (h:i≠j):(l.set i x).getD j d=l.getD j d:=by
 simp [fk,List.getElem?_set_ne h]
theorem J4.set {A:List (List aa)} {n w:Nat} {M:Nat→Nat→Rat} (h:J4 A n w M) {i j:Nat} (hi:i < n) (hj:j < w) {x:aa} {v:Rat} (hx:RQ x v MS) :
  J4 (A.set i ((A.getD i []).set j x)) n w (ld M i j v):=by
 refine ⟨by rw [List.length_set];exact h.len,fun a ha=>?_,fun a b ha hb=>?_⟩
 ·by_cases e:i=a
  ·subst e;rw [lx _ _ _ _ (by rw [h.len];exact hi),List.length_set];exact h.row i hi
  ·rw [jm _ _ _ e];exact h.row a ha
 ·unfold Go.Den.UX ld
  by_cases e:i=a
  ·subst e
   rw [lx _ _ _ _ (by rw [h.len];exact hi)]
   by_cases e2:j=b
   ·subst e2
    rw [lx _ _ _ _ (by rw [h.row i hi];exact hj),if_pos ⟨rfl,rfl⟩];exact hx
   ·rw [jm _ _ _ e2,if_neg (fun q=>e2 q.2.symm)];exact h.UX i b ha hb
  ·rw [jm _ _ _ e,if_neg (fun q=>e q.1.symm)];exact h.UX a b ha hb
theorem J4.congr {A:List (List aa)} {n w:Nat} {M M':Nat→Nat→Rat} (h:J4 A n w M) (e:∀ i j,i < n→j < w→M i j=M' i j):J4 A n w M' :=
 ⟨h.len,h.row,fun i j hi hj=>e i j hi hj ▸ h.UX i j hi hj⟩
def VB (M:Nat→Nat→Rat) (n w s:Nat):Prop:=∀ i j,i < n→j < w→RB (M i j) s
end Go.Den
namespace Go.Den
open Go.Ab
def Q3 (M:Nat→Nat→Rat) (c d:Nat):Nat→Nat→Rat:=fun i j=>if i=c then M d j else if i=d then M c j else M i j
def Q4 (M:Nat→Nat→Rat) (c t:Nat):Nat→Nat→Rat:=fun i j=>if i=c∧j < t then M c j / M c c else M i j
def Li (M:Nat→Nat→Rat) (g:Nat→Rat) (c t:Nat):Nat→Nat→Rat:=fun i j=>if i < t∧i≠c then M i j - g i * M c j else M i j
def stE (M:Nat→Nat→Rat) (n w c d:Nat):Nat→Nat→Rat:=Li (Q4 (Q3 M c d) c w) (fun i=>Q3 M c d i c) c n
def stR (M:Nat→Nat→Rat) (n c d:Nat):Nat→Nat→Rat:=Li (Q3 M c d) (fun i=>Q3 M c d i c / Q3 M c d c c) c n
structure Prl (M R:Nat→Nat→Rat) (n w c:Nat) (l:Nat→Rat):Prop where
 ne:∀ i,i < n→l i≠0
 eq:∀ i j,i < n→j < w→R i j=l i * M i j
 one:∀ i j,i < n→j < c→M i j=if i=j then 1 else 0
theorem Prl.step {M R:Nat→Nat→Rat} {n w c:Nat} {l:Nat→Rat} (h:Prl M R n w c l) (hc:c < n) (hw:n≤w) {d:Nat} (Vt:c≤d) (Ss:d < n) (h0:M d c≠0) :
  ∃ l',Prl (stE M n w c d) (stR R n c d) n w (c+1) l':=by
 let s:Nat→Nat:=fun i=>if i=c then d else if i=d then c else i
 have hs:∀ i,i < n→s i < n:=fun i hi=>by
  show (if i=c then d else if i=d then c else i) < n
  split
  ·exact Ss
  ·split<;>omega
 have hM:∀ i j,Q3 M c d i j=M (s i) j:=fun i j=>by
  show (if i=c then M d j else if i=d then M c j else M i j)=M (if i=c then d else if i=d then c else i) j
  split
  ·rfl
  ·split<;>rfl
 have hR:∀ i j,Q3 R c d i j=R (s i) j:=fun i j=>by
  show (if i=c then R d j else if i=d then R c j else R i j)=R (if i=c then d else if i=d then c else i) j
  split
  ·rfl
  ·split<;>rfl
 have Vu:s c=d:=if_pos rfl
 have Vv:c < w:=by omega
 refine ⟨fun i=>if i=c then l d * M d c else l (s i),fun i hi=>?_,fun i j hi hj=>?_,fun i j hi hj=>?_⟩
 ·split
  ·intro e
   rcases Rat.mul_eq_zero.1 e with e | e
   ·exact h.ne d Ss e
   ·exact h0 e
  ·exact h.ne _ (hs i hi)
 ·simp only [stE,stR,Li]
  have e1:=h.eq (s i) j (hs i hi) hj
  have e2:=h.eq d j Ss hj
  have e3:=h.eq (s i) c (hs i hi) Vv
  have e4:=h.eq d c Ss Vv
  have hl:=h.ne d Ss
  by_cases Mz:i=c
  ·have hn:¬ (i < n∧i≠c):=fun q=>q.2 Mz
   simp only [hn,if_false,Mz,if_true,hR,Vu,e2,Q4,hM,hj,and_self]
   grind
  ·have hn:i < n∧i≠c:=⟨hi,Mz⟩
   simp only [hn,Mz,if_true,if_false,not_false_eq_true,and_self,ne_eq,hR,Vu,e1,e2,e3,e4,Q4,hM,false_and,hj]
   have:l d * M d c≠0:=fun e=>by
    rcases Rat.mul_eq_zero.1 e with e | e
    ·exact hl e
    ·exact h0 e
   grind
 ·have hz:∀ i,i < n→j < c→M i j=if i=j then 1 else 0:=fun i hi h1=>h.one i j hi h1
  simp only [stE,Li]
  by_cases hjc:j=c
  ·by_cases Mz:i=c
   ·have hn:¬ (i < n∧i≠c):=fun q=>q.2 Mz
    simp only [hn,if_false,Mz,hjc,if_true,Q4,hM,Vu,Vv,and_self]
    grind
   ·have hn:i < n∧i≠c:=⟨hi,Mz⟩
    simp only [hn,Mz,hjc,if_true,if_false,not_false_eq_true,and_self,ne_eq,Q4,hM,Vu,false_and,Vv]
    grind
  ·have WN:j < c:=by omega
   have hjw:j < w:=by omega
   have N6:M d j=0:=by rw [hz d Ss WN,if_neg (by omega)]
   have aae:M (s i) j=if i=j then 1 else 0:=by
    rw [hz (s i) (hs i hi) WN]
    have:(s i=j)↔(i=j):=by
     show ((if i=c then d else if i=d then c else i)=j)↔i=j
     split
     ·omega
     ·split<;>omega
    simp only [this]
   by_cases Mz:i=c
   ·have hn:¬ (i < n∧i≠c):=fun q=>q.2 Mz
    have T7:¬ c=j:=fun q=>hjc q.symm
    simp only [hn,if_false,Mz,if_true,Q4,hM,Vu,hjw,and_self,N6,T7]
    grind
   ·have hn:i < n∧i≠c:=⟨hi,Mz⟩
    simp only [hn,Mz,if_true,if_false,not_false_eq_true,and_self,ne_eq,Q4,hM,Vu,false_and,hjw,aae,N6]
    grind
theorem VB.Q3 {M:Nat→Nat→Rat} {n w s c d:Nat} (h:VB M n w s) (hc:c < n) (hd:d < n):VB (Q3 M c d) n w s:=fun i j hi hj=>by
 unfold Go.Den.Q3
 split
 ·exact h d j hd hj
 ·split
  ·exact h c j hc hj
  ·exact h i j hi hj
theorem VB.Q4 {M:Nat→Nat→Rat} {n w s c t:Nat} (h:VB M n w s) (hc:c < n) (Vv:c < w) (h0:M c c≠0):VB (Q4 M c t) n w (s+s):=fun i j hi hj=>by
 unfold Go.Den.Q4
 split
 ·exact (h c j hc hj).div (h c c hc Vv) h0
 ·exact (h i j hi hj).le (by omega)
theorem VB.Li {M:Nat→Nat→Rat} {n w s c t:Nat} {g:Nat→Rat} (h:VB M n w s) (hg:∀ i,i < n→RB (g i) s) (hc:c < n):VB (Li M g c t) n w (s+(s+s)+1):=fun a j ha hj=>by
 unfold Go.Den.Li
 split
 ·exact (h a j ha hj).sub ((hg a ha).mul (h c j hc hj))
 ·exact (h a j ha hj).le (by omega)
end Go.Den
namespace Go.Den
open Go.Ab
theorem IW {a:Nat} (h:a≤MS+MS+1):SM (2 * a+2):=by simp only [SM,MS] at *;omega
theorem J4.at {A:List (List aa)} {n w:Nat} {M:Nat→Nat→Rat} (h:J4 A n w M) {i j:Nat} (hi:i < n) (hj:j < w):RQ ((A.getD i []).getD j aa.d) (M i j) MS:=h.UX i j hi hj
theorem inl {m n k:Nat} (h:m < n) (e:k=n):0≤(m:Int)∧(m:Int) < ((k:Nat):Int):=⟨by omega,by omega⟩
theorem Lj {m n k:Nat} (h:m < n) (e:k=n):decide ((m:Int) < ((k:Nat):Int))=true:=by simp;omega
theorem MA {m n k:Nat} (h:n≤m) (e:k=n):decide ((m:Int) < ((k:Nat):Int))=false:=by simp;omega
section
variable {A:List (List aa)} {n w c:Nat} {M:Nat→Nat→Rat}
end
end Go.Den
namespace Go.Den
open Go.Ab
def cu:Nat→(Nat→Rat)→Rat
 | 0,_=>0
 | n+1,f=>cu n f+f n
theorem bR {n:Nat} {f g:Nat→Rat} (h:∀ i,i < n→f i=g i):cu n f=cu n g:=by
 induction n with
 | zero=>rfl
 | succ n ih=>rw [cu,cu,ih fun i hi=>h i (by omega),h n (by omega)]
theorem ve (n:Nat) (f g:Nat→Rat):cu n (fun i=>f i+g i)=cu n f+cu n g:=by
 induction n with
 | zero=>show (0:Rat)=0+0;grind
 | succ n ih=>rw [cu,cu,cu,ih];grind
theorem pQ (n:Nat) (c:Rat) (f:Nat→Rat):cu n (fun i=>c * f i)=c * cu n f:=by
 induction n with
 | zero=>show (0:Rat)=c * 0;grind
 | succ n ih=>rw [cu,cu,ih];grind
theorem nA (n:Nat):cu n (fun _=>0)=0:=by
 induction n with
 | zero=>rfl
 | succ n ih=>rw [cu,ih];grind
theorem kW {n j:Nat} (hj:j < n) (f:Nat→Rat) (h:∀ i,i < n→i≠j→f i=0):cu n f=f j:=by
 induction n with
 | zero=>omega
 | succ n ih =>
  rw [cu]
  by_cases e:j=n
  ·subst e
   rw [bR (g:=fun _=>0) fun i hi=>h i (by omega) (by omega),nA];grind
  ·rw [ih (by omega) fun i hi fP=>h i (by omega) fP,h n (by omega) (by omega)];grind
theorem s6 {n j:Nat} (hj:j < n) (f:Nat→Rat):cu n f=f j+cu n (fun i=>if i=j then 0 else f i):=by
 have e:cu n f=cu n (fun i=>(if i=j then f j else 0)+(if i=j then 0 else f i)):=bR fun i _=>by
  split
  ·rename_i h;subst h;grind
  ·grind
 rw [e,ve,kW hj (fun i=>if i=j then f j else 0) fun i _ h=>if_neg h,if_pos rfl]
structure bB where
 gV:Nat→Nat
 fr:Nat→Nat
 a:Nat→Nat→Rat
 b:Nat→Rat
 g:Nat→Rat
 v:Rat
namespace bB
def row (D:bB) (k:Nat) (x:Nat→Rat) (i:Nat):Rat:=D.b i+cu k fun j=>D.a i j * x (D.fr j)
def IX (D:bB) (m k:Nat) (x:Nat→Rat):Prop:=∀ i,i < m→x (D.gV i)=D.row k x i
def gv (D:bB) (k:Nat) (x:Nat→Rat):Rat:=D.v+cu k fun j=>D.g j * x (D.fr j)
structure WF (D:bB) (m k:Nat):Prop where
 bi:∀ i i',i < m→i' < m→D.gV i=D.gV i'→i=i'
 fi:∀ j j',j < k→j' < k→D.fr j=D.fr j'→j=j'
 bf:∀ i j,i < m→j < k→D.gV i≠D.fr j
 bl:∀ i,i < m→D.gV i < m+k
 fl:∀ j,j < k→D.fr j < m+k
 al:∀ u,u < m+k→(∃ i,i < m∧D.gV i=u)∨∃ j,j < k∧D.fr j=u
def nJ (D:bB) (i j k:Nat):Rat:=if k=j then 1 / D.a i j else -(D.a i k / D.a i j)
def pb (D:bB) (i j:Nat):Rat:=-(D.b i / D.a i j)
def js (D:bB) (i j:Nat):bB where
 gV:=fun r=>if r=i then D.fr j else D.gV r
 fr:=fun c=>if c=j then D.gV i else D.fr c
 a:=fun r c=>if r=i then D.nJ i j c else if c=j then D.a r j * D.nJ i j c else D.a r c+D.a r j * D.nJ i j c
 b:=fun r=>if r=i then D.pb i j else D.b r+D.a r j * D.pb i j
 g:=fun c=>if c=j then D.g j * D.nJ i j c else D.g c+D.g j * D.nJ i j c
 v:=D.v+D.g j * D.pb i j
theorem WF.js {D:bB} {m k i j:Nat} (h:D.WF m k) (hi:i < m) (hj:j < k):(D.js i j).WF m k:=by
 refine ⟨fun r r' hr Au e=>?_,fun c c' hc oe e=>?_,fun r c hr hc e=>?_,fun r hr=>?_,fun c hc=>?_,fun u hu=>?_⟩
 ·simp only [bB.js] at e
  split at e<;>split at e
  ·omega
  ·exact absurd e.symm (h.bf _ _ Au hj)
  ·exact absurd e (h.bf _ _ hr hj)
  ·exact h.bi _ _ hr Au e
 ·simp only [bB.js] at e
  split at e<;>split at e
  ·omega
  ·exact absurd e (h.bf _ _ hi oe)
  ·exact absurd e.symm (h.bf _ _ hi hc)
  ·exact h.fi _ _ hc oe e
 ·simp only [bB.js] at e
  split at e<;>split at e
  ·exact h.bf _ _ hi hj e.symm
  ·rename_i h1 h2;exact h2 (h.fi _ _ hc hj e.symm)
  ·rename_i h1 h2;exact h1 (h.bi _ _ hr hi e)
  ·exact h.bf _ _ hr hc e
 ·simp only [bB.js];split
  ·exact h.fl j hj
  ·exact h.bl r hr
 ·simp only [bB.js];split
  ·exact h.bl i hi
  ·exact h.fl c hc
 ·rcases h.al u hu with ⟨r,hr,e⟩ | ⟨c,hc,e⟩
  ·by_cases q:r=i
   ·subst q;exact .inr ⟨j,hj,by simp only [bB.js,if_pos];exact e⟩
   ·exact .inl ⟨r,hr,by simp only [bB.js,if_neg q];exact e⟩
  ·by_cases q:c=j
   ·subst q;exact .inl ⟨i,hi,by simp only [bB.js,if_pos];exact e⟩
   ·exact .inr ⟨c,hc,by simp only [bB.js,if_neg q];exact e⟩
theorem Ip {D:bB} {k i j:Nat} (hj:j < k) (h0:D.a i j≠0) {x:Nat→Rat} (hs:x (D.gV i)=D.row k x i∨x (D.fr j)=(D.js i j).row k x i) :
  x (D.fr j)=D.pb i j+cu k fun c=>D.nJ i j c * x ((D.js i j).fr c):=by
 rcases hs with hs | hs
 ·rw [s6 hj]
  have e1:(fun c=>if c=j then (0:Rat) else D.nJ i j c * x ((D.js i j).fr c))=fun c=>(-(1 / D.a i j)) * (if c=j then 0 else D.a i c * x (D.fr c)):=by
   funext c
   by_cases q:c=j
   ·simp only [q,if_true];grind
   ·simp only [bB.nJ,bB.js,q,if_false];grind
  rw [e1,pQ]
  unfold bB.row at hs
  rw [s6 hj] at hs
  simp only [bB.nJ,bB.js,if_true,bB.pb]
  rw [hs]
  grind
 ·rw [hs]
  simp only [bB.row,bB.js,if_true]
theorem J5 {D:bB} {k i j:Nat} (hj:j < k) (f:Nat→Rat) {x:Nat→Rat} {p:Rat} (hx:x (D.fr j)=p+cu k fun c=>D.nJ i j c * x ((D.js i j).fr c)) :
  (f j * p+cu k fun c=>(if c=j then f j * D.nJ i j c else f c+f j * D.nJ i j c) * x ((D.js i j).fr c))=cu k fun c=>f c * x (D.fr c):=by
 have e1:cu k (fun c=>(if c=j then f j * D.nJ i j c else f c+f j * D.nJ i j c) * x ((D.js i j).fr c))=cu k (fun c=>(if c=j then 0 else f c * x (D.fr c))+f j * (D.nJ i j c * x ((D.js i j).fr c))):=bR fun c _=>by
  by_cases q:c=j
  ·simp only [q,if_true];grind
  ·simp only [q,if_false,bB.js];grind
 rw [e1,ve,pQ,s6 hj (fun c=>f c * x (D.fr c)),hx]
 grind
theorem IX.js {D:bB} {m k i j:Nat} (hi:i < m) (hj:j < k) (h0:D.a i j≠0) {x:Nat→Rat}:(D.js i j).IX m k x↔D.IX m k x:=by
 have key:∀ r,r≠i→x (D.fr j)=D.pb i j+cu k (fun c=>D.nJ i j c * x ((D.js i j).fr c))→(D.js i j).row k x r=D.row k x r:=fun r hr hx=>by
  have e:=J5 hj (fun c=>D.a r c) hx
  simp only [bB.row]
  rw [← e]
  simp only [bB.js,hr,if_false]
  grind
 constructor
 ·intro h r hr
  have h1:=h i hi
  have h2:x (D.fr j)=(D.js i j).row k x i:=by rw [← h1];simp [bB.js]
  have hx:=Ip hj h0 (.inr h2)
  by_cases q:r=i
  ·subst q
   -- solve for the basic variable
   have e:=hx
   rw [s6 hj] at e
   have e1:(fun c=>if c=j then (0:Rat) else D.nJ r j c * x ((D.js r j).fr c))=fun c=>(-(1 / D.a r j)) * (if c=j then 0 else D.a r c * x (D.fr c)):=by
    funext c
    by_cases q:c=j
    ·simp only [q,if_true];grind
    ·simp only [bB.nJ,bB.js,q,if_false];grind
   rw [e1,pQ] at e
   simp only [bB.nJ,bB.js,if_true,bB.pb] at e
   unfold bB.row
   rw [s6 hj]
   grind
  ·have h3:=h r hr
   rw [key r q hx] at h3
   rw [← h3]
   simp [bB.js,q]
 ·intro h r hr
  have hx:=Ip hj h0 (.inl (h i hi))
  by_cases q:r=i
  ·subst q
   simp only [bB.row,bB.js,if_true]
   exact hx
  ·rw [key r q hx,← h r hr]
   simp [bB.js,q]
theorem UY {D:bB} {m k i j:Nat} (hi:i < m) (hj:j < k) (h0:D.a i j≠0) {x:Nat→Rat} (hs:D.IX m k x):(D.js i j).gv k x=D.gv k x:=by
 have hx:=Ip hj h0 (.inl (hs i hi))
 have e:=J5 hj D.g hx
 simp only [bB.gv]
 rw [← e]
 simp only [bB.js]
 grind
def N8 (D:bB):Nat→Nat→Option Nat
 | 0,_=>none
 | m+1,u=>if D.gV m=u then some m else N8 D m u
theorem DY {D:bB}:∀ {m i:Nat},(∀ i i',i < m→i' < m→D.gV i=D.gV i'→i=i')→i < m→D.N8 m (D.gV i)=some i
 | 0,i,_,hi=>by omega
 | m+1,i,h,hi=>by
  rw [N8]
  by_cases e:D.gV m=D.gV i
  ·rw [if_pos e,h m i (by omega) hi e]
  ·rw [if_neg e]
   exact DY (fun i i' h1 h2=>h i i' (by omega) (by omega)) (Nat.lt_of_le_of_ne (by omega) fun q=>e (by rw [q]))
theorem Bl {D:bB} {u:Nat}:∀ {m:Nat},(∀ i,i < m→D.gV i≠u)→D.N8 m u=none
 | 0,_=>rfl
 | m+1,h=>by rw [N8,if_neg (h m (by omega))];exact Bl fun i hi=>h i (by omega)
def ext (D:bB) (m k:Nat) (y:Nat→Rat) (u:Nat):Rat:=match D.N8 m u with
 | some i=>D.row k y i
 | none=>y u
theorem tG {D:bB} {m k i:Nat} (h:D.WF m k) (hi:i < m) (y:Nat→Rat):D.ext m k y (D.gV i)=D.row k y i:=by unfold ext;rw [DY h.bi hi]
theorem uj {D:bB} {m k j:Nat} (h:D.WF m k) (hj:j < k) (y:Nat→Rat):D.ext m k y (D.fr j)=y (D.fr j):=by
 unfold ext;rw [Bl fun i hi=>h.bf i j hi hj]
theorem rR {D:bB} {m k:Nat} (h:D.WF m k) (y:Nat→Rat):D.IX m k (D.ext m k y):=fun i hi=>by
 rw [tG h hi]
 unfold bB.row
 congr 1
 exact bR fun j hj=>by rw [uj h hj]
theorem FK {D:bB} {m k:Nat} (h:D.WF m k) (y:Nat→Rat):D.gv k (D.ext m k y)=D.gv k y:=by
 unfold bB.gv
 congr 1
 exact bR fun j hj=>by rw [uj h hj]
def one (u:Nat):Nat→Rat:=fun w=>if w=u then 1 else 0
def tn:Nat→Rat:=fun _=>0
theorem rS (D:bB) (k i:Nat):D.row k tn i=D.b i:=by
 unfold row tn
 rw [bR (g:=fun _=>0) fun j _=>by grind,nA];grind
theorem row_one {D:bB} {m k j:Nat} (h:D.WF m k) (hj:j < k) (i:Nat):D.row k (one (D.fr j)) i=D.b i+D.a i j:=by
 unfold row one
 rw [kW hj _ fun c hc fP=>by rw [if_neg fun e=>fP (h.fi _ _ hc hj e)];grind]
 rw [if_pos rfl];grind
theorem Iq (D:bB) (k:Nat):D.gv k tn=D.v:=by
 unfold gv tn
 rw [bR (g:=fun _=>0) fun j _=>by grind,nA];grind
theorem Lk {D:bB} {m k j:Nat} (h:D.WF m k) (hj:j < k):D.gv k (one (D.fr j))=D.v+D.g j:=by
 unfold gv one
 rw [kW hj _ fun c hc fP=>by rw [if_neg fun e=>fP (h.fi _ _ hc hj e)];grind]
 rw [if_pos rfl];grind
structure BA (m k:Nat) (D D':bB):Prop where
 MB:∀ x,D.IX m k x↔D'.IX m k x
 gv:∀ x,D.IX m k x→D.gv k x=D'.gv k x
theorem BA.refl (m k:Nat) (D:bB):BA m k D D:=⟨fun _=>Iff.rfl,fun _ _=>rfl⟩
theorem BA.symm {m k:Nat} {D D':bB} (h:BA m k D D'):BA m k D' D:=⟨fun x=>(h.MB x).symm,fun x hx=>(h.gv x ((h.MB x).2 hx)).symm⟩
theorem BA.trans {m k:Nat} {D D' D'':bB} (h:BA m k D D') (h':BA m k D' D''):BA m k D D'' :=
 ⟨fun x=>(h.MB x).trans (h'.MB x),fun x hx=>(h.gv x hx).trans (h'.gv x ((h.MB x).1 hx))⟩
theorem BA.js {m k i j:Nat} {D:bB} (hi:i < m) (hj:j < k) (h0:D.a i j≠0):BA m k D (D.js i j) :=
 ⟨fun _=>(IX.js hi hj h0).symm,fun _ hx=>(UY hi hj h0 hx).symm⟩
def x5 (D:bB) (m u:Nat):Prop:=∃ i,i < m∧D.gV i=u
theorem yO {D:bB} {m k:Nat} (h:D.WF m k) {u:Nat} (hu:u < m+k) (hn:¬ D.x5 m u):∃ j,j < k∧D.fr j=u:=(h.al u hu).resolve_left hn
theorem x6 {D:bB} {m k:Nat} {x y:Nat→Rat} (hx:D.IX m k x) (hf:∀ j,j < k→x (D.fr j)=y (D.fr j)) {i:Nat} (hi:i < m):x (D.gV i)=D.row k y i:=by
 rw [hx i hi];unfold row;congr 1
 exact bR fun j hj=>by rw [hf j hj]
theorem uniq {D D':bB} {m k:Nat} (h:D.WF m k) (h':D'.WF m k) (e:BA m k D D') (hb:∀ u,D.x5 m u→D'.x5 m u) :
  (∀ i i',i < m→i' < m→D.gV i=D'.gV i'→D.b i=D'.b i')∧(∀ i j i' j',i < m→i' < m→j < k→j' < k→D.gV i=D'.gV i'→D.fr j=D'.fr j'→D.a i j=D'.a i' j') ∧
   (∀ j j',j < k→j' < k→D.fr j=D'.fr j'→D.g j=D'.g j')∧D.v=D'.v:=by
 have hf:∀ j',j' < k→∃ j,j < k∧D.fr j=D'.fr j':=fun j' yj=>yO h (h'.fl j' yj) fun q=>by
  obtain ⟨i,hi,e⟩:=hb _ q
  exact h'.bf i j' hi yj e
 have key:∀ y,(∀ i i',i < m→i' < m→D.gV i=D'.gV i'→D.row k y i=D'.row k y i')∧D.gv k y=D'.gv k y:=fun y=>by
  have hs:=rR h y
  have Gz:=(e.MB _).1 hs
  have N4:∀ j',j' < k→D.ext m k y (D'.fr j')=y (D'.fr j'):=fun j' yj=>by
   obtain ⟨j,hj,q⟩:=hf j' yj
   rw [← q,uj h hj]
  refine ⟨fun i i' hi qT q=>?_,?_⟩
  ·rw [← tG h hi y,q]
   exact x6 Gz N4 qT
  ·rw [← FK h y,e.gv _ hs]
   unfold gv;congr 1
   exact bR fun j hj=>by rw [N4 j hj]
 have UZ:∀ i i',i < m→i' < m→D.gV i=D'.gV i'→D.b i=D'.b i':=fun i i' hi qT q=>by
  have:=(key tn).1 i i' hi qT q
  rwa [rS,rS] at this
 have hv:D.v=D'.v:=by have:=(key tn).2;rwa [Iq,Iq] at this
 refine ⟨UZ,fun i j i' j' hi qT hj yj q1 q2=>?_,fun j j' hj yj q=>?_,hv⟩
 ·have:=(key (one (D.fr j))).1 i i' hi qT q1
  rw [row_one h hj,q2,row_one h' yj,UZ i i' hi qT q1] at this
  grind
 ·have:=(key (one (D.fr j))).2
  rw [Lk h hj,q,Lk h' yj,hv] at this
  grind
end bB
end Go.Den
namespace Go.Den
open Go.Ab
namespace bB
structure DZ (D:bB) (k j:Nat):Prop where
 lt:j < k
 pos:0 < D.g j
 min:∀ j',j' < k→0 < D.g j'→D.fr j≤D.fr j'
def ratio (D:bB) (j i:Nat):Rat:=D.b i / -(D.a i j)
structure Bm (D:bB) (m j i:Nat):Prop where
 lt:i < m
 neg:D.a i j < 0
 min:∀ i',i' < m→D.a i' j < 0→D.ratio j i < D.ratio j i'∨D.ratio j i=D.ratio j i'∧D.gV i≤D.gV i'
def J6 (D:bB) (m:Nat):Prop:=∀ i,i < m→0≤D.b i
def Step (m k:Nat) (D D':bB):Prop:=∃ j i,D.DZ k j∧D.Bm m j i∧D'=D.js i j
theorem Ll {x y a:Rat} (ha:0 < a) (h:x≤y / a):x * a≤y:=by
 have e:y / a * a=y:=by grind
 have:=Rat.mul_le_mul_of_nonneg_right h (Rat.le_of_lt ha)
 rwa [e] at this
theorem FL {x a:Rat} (ha:0 < a) (h:0≤x):0≤x / a:=by
 rw [Rat.div_def]
 exact Rat.mul_nonneg h (Rat.le_of_lt (Rat.inv_pos.2 ha))
theorem J7 (D:bB) (i j:Nat):D.pb i j=D.ratio j i:=by
 unfold pb ratio
 by_cases h:D.a i j=0
 ·rw [h];simp [Rat.div_def]
 ·have:-(D.a i j)≠0:=by grind
  grind
theorem J6.ratio {D:bB} {m i j:Nat} (h:D.J6 m) (hi:i < m) (hn:D.a i j < 0):0≤D.ratio j i:=FL (by grind) (h i hi)
theorem Bm.le {D:bB} {m j i r:Nat} (h:D.Bm m j i) (hr:r < m) (hn:D.a r j < 0):D.ratio j i≤D.ratio j r:=by
 rcases h.min r hr hn with h1 | ⟨h1,_⟩
 ·exact Rat.le_of_lt h1
 ·rw [h1];exact Rat.le_refl
theorem J6.js {D:bB} {m i j:Nat} (h:D.J6 m) (hl:D.Bm m j i):(D.js i j).J6 m:=fun r hr=>by
 have h0:=h.ratio hl.lt hl.neg
 simp only [bB.js,J7]
 split
 ·exact h0
 ·by_cases hn:D.a r j < 0
  ·have h1:=Ll (a:=-(D.a r j)) (by grind) (hl.le hr hn)
   have:=h r hr
   grind
  ·have h1:=Rat.mul_nonneg (Rat.not_lt.1 hn) h0
   have:=h r hr
   grind
theorem Ir {D:bB} {m k i j u:Nat} (h:D.WF m k) (hi:i < m):(D.js i j).x5 m u↔(D.x5 m u∧u≠D.gV i)∨u=D.fr j:=by
 constructor
 ·rintro ⟨r,hr,e⟩
  simp only [bB.js] at e
  split at e
  ·exact .inr e.symm
  ·rename_i hn
   exact .inl ⟨⟨r,hr,e⟩,fun q=>hn (h.bi _ _ hr hi (e.trans q))⟩
 ·rintro (⟨⟨r,hr,e⟩,hn⟩ | e)
  ·exact ⟨r,hr,by simp only [bB.js];rw [if_neg fun q=>hn (by rw [← e,q])];exact e⟩
  ·exact ⟨i,hi,by simp only [bB.js,if_pos];exact e.symm⟩
theorem Qf:∀ (M:Nat) (f:Nat→Nat),(∀ i,f i < M)→∃ i j,i < j∧f i=f j
 | 0,f,h=>absurd (h 0) (cW _)
 | M+1,f,h=>by
  by_cases hM:∃ N,∀ i,N≤i→f i≠M
  ·obtain ⟨N,hN⟩:=hM
   obtain ⟨i,j,h1,h2⟩:=Qf M (fun i=>f (i+N)) fun i=>by
    have:=h (i+N);have:=hN (i+N) (by omega);omega
   exact ⟨i+N,j+N,by omega,h2⟩
  ·have hM:∀ N,∃ i,N≤i∧f i=M:=fun N=>o7 fun q=>hM ⟨N,fun i hi e=>q ⟨i,hi,e⟩⟩
   obtain ⟨i,_,h1⟩:=hM 0
   obtain ⟨j,h2,h3⟩:=hM (i+1)
   exact ⟨i,j,by omega,h1.trans h3.symm⟩
open Classical in
noncomputable def enc (p:Nat→Prop):Nat→Nat
 | 0=>0
 | n+1=>2 * enc p n+if p n then 1 else 0
theorem Qg (p:Nat→Prop):∀ n,enc p n < 2 ^ n
 | 0=>by simp [enc]
 | n+1=>by
  have:=Qg p n
  rw [enc,Nat.pow_succ]
  split<;>omega
theorem Is {p q:Nat→Prop}:∀ {n:Nat},enc p n=enc q n→∀ u,u < n→(p u↔q u)
 | 0,_,u,hu=>by omega
 | n+1,h,u,hu=>by
  rw [enc,enc] at h
  by_cases e:u=n
  ·subst e
   by_cases h1:p u<;>by_cases h2:q u<;>simp only [h1,h2,if_true,if_false] at h ⊢<;>omega
  ·refine Is (n:=n) ?_ u (by omega)
   split at h<;>split at h<;>omega
theorem Qh {f:Nat→Nat} {a:Nat}:∀ n,∃ x,a≤x∧x≤a+n∧∀ y,a≤y→y≤a+n→f y≤f x
 | 0=>⟨a,aF _,aF _,fun y h1 h2=>by rw [show y=a by omega];exact aF _⟩
 | n+1=>by
  obtain ⟨x,h1,h2,h3⟩:=Qh (f:=f) (a:=a) n
  by_cases h:f x≤f (a+(n+1))
  ·refine ⟨a+(n+1),by omega,aF _,fun y q1 q2=>?_⟩
   by_cases e:y=a+(n+1)
   ·rw [e];exact aF _
   ·exact dU (h3 y q1 (by omega)) h
  ·refine ⟨x,h1,by omega,fun y q1 q2=>?_⟩
   by_cases e:y=a+(n+1)
   ·rw [e];omega
   ·exact h3 y q1 (by omega)
theorem J8:∀ {n:Nat} {f:Nat→Rat},0 < cu n f→∃ j,j < n∧0 < f j
 | 0,f,h=>by simp only [cu] at h;exact absurd h (by decide)
 | n+1,f,h=>by
  by_cases h1:0 < f n
  ·exact ⟨n,by omega,h1⟩
  ·rw [cu] at h
   obtain ⟨j,hj,h2⟩:=J8 (n:=n) (f:=f) (by grind)
   exact ⟨j,by omega,h2⟩
theorem Lm {m k:Nat} {s:Nat→bB} (hw:(s 0).WF m k) (hf:(s 0).J6 m) (hs:∀ n,Step m k (s n) (s (n+1))):False:=by
 obtain ⟨J,hJ⟩:=Classical.axiomOfChoice hs
 obtain ⟨I,st⟩:=Classical.axiomOfChoice hJ
 clear hJ hs
 have h0:∀ n,(s n).a (I n) (J n)≠0:=fun n=>by have:=(st n).2.1.neg;grind
 have FM:∀ n,(s n).WF m k:=fun n=>by
  induction n with
  | zero=>exact hw
  | succ n ih=>rw [(st n).2.2];exact ih.js (st n).2.1.lt (st n).1.lt
 have Yq:∀ n,(s n).J6 m:=fun n=>by
  induction n with
  | zero=>exact hf
  | succ n ih=>rw [(st n).2.2];exact ih.js (st n).2.1
 have he:∀ n,BA m k (s 0) (s n):=fun n=>by
  induction n with
  | zero=>exact .refl _ _ _
  | succ n ih=>rw [(st n).2.2];exact ih.trans (.js (st n).2.1.lt (st n).1.lt (h0 n))
 have XP:∀ a b,BA m k (s a) (s b):=fun a b=>(he a).symm.trans (he b)
 have hB:∀ n u,(s (n+1)).x5 m u↔((s n).x5 m u∧u≠(s n).gV (I n))∨u=(s n).fr (J n):=fun n u=>by
  rw [(st n).2.2];exact Ir (FM n) (st n).2.1.lt
 have WO:∀ n j,j < k→¬ (s n).x5 m ((s n).fr j):=fun n j hj ⟨i,hi,e⟩=>(FM n).bf i j hi hj e
 -- a basis comes again
 obtain ⟨A,B,hAB,hen⟩:=Qf (2 ^ (m+k)) (fun n=>enc (fun u=>(s n).x5 m u) (m+k)) fun n=>Qg _ _
 have hbs:∀ u,(s A).x5 m u→(s B).x5 m u:=fun u hu=>by
  obtain ⟨i,hi,e⟩:=id hu
  exact (Is hen u (e ▸ (FM A).bl i hi)).1 hu
 have aaf:∀ u,(s B).x5 m u→(s A).x5 m u:=fun u hu=>by
  obtain ⟨i,hi,e⟩:=id hu
  exact (Is hen u (e ▸ (FM B).bl i hi)).2 hu
 have hv:(s A).v=(s B).v:=(uniq (FM A) (FM B) (XP A B) hbs).2.2.2
 have hpb:∀ n,0≤(s n).ratio (J n) (I n):=fun n=>(Yq n).ratio (st n).2.1.lt (st n).2.1.neg
 have Uk:∀ n,(s (n+1)).v=(s n).v+(s n).g (J n) * (s n).ratio (J n) (I n):=fun n=>by rw [(st n).2.2,← J7];rfl
 have WQ:∀ n,(s n).v≤(s (n+1)).v:=fun n=>by
  have:=Rat.mul_nonneg (Rat.le_of_lt (st n).1.pos) (hpb n)
  have:=Uk n
  grind
 have WR:∀ a d,(s a).v≤(s (a+d)).v:=fun a d=>by
  induction d with
  | zero=>exact Rat.le_refl
  | succ d ih=>exact Rat.le_trans ih (WQ _)
 have UZ:∀ n,A≤n→n < B→(s n).ratio (J n) (I n)=0:=fun n h1 h2=>by
  have e1:=WR A (n - A)
  have e2:=WR (n+1) (B - (n+1))
  rw [show A+(n - A)=n by omega] at e1
  rw [show n+1+(B - (n+1))=B by omega] at e2
  have e3:=Uk n
  have e4:=hpb n
  have e5:=(st n).1.pos
  have e6:(s n).g (J n) * (s n).ratio (J n) (I n)=0:=by
   have:=Rat.mul_nonneg (Rat.le_of_lt e5) e4
   grind
  rcases Rat.mul_eq_zero.1 e6 with h | h
  ·rw [h] at e5;exact absurd e5 (by decide)
  ·exact h
 have hbi:∀ n,A≤n→n < B→(s n).b (I n)=0:=fun n h1 h2=>by
  have e:=UZ n h1 h2
  have hn:=(st n).2.1.neg
  unfold ratio at e
  have:(s n).b (I n) / -((s n).a (I n) (J n)) * -((s n).a (I n) (J n))=(s n).b (I n):=by grind
  rw [e] at this
  grind
 -- one point for all
 let x0:=(s A).ext m k tn
 have Pk:∀ n,(s n).IX m k x0:=fun n=>((XP A n).MB _).1 (rR (FM A) tn)
 have XQ:∀ d,A+d≤B→∀ j,j < k→x0 ((s (A+d)).fr j)=0:=fun d=>by
  induction d with
  | zero=>intro _ j hj;exact uj (FM A) hj tn
  | succ d ih =>
   intro hd j hj
   have ih:=ih (by omega)
   show x0 ((s (A+d+1)).fr j)=0
   rw [(st (A+d)).2.2]
   simp only [bB.js]
   split
   ·rw [x6 (y:=tn) (Pk (A+d)) ih (st (A+d)).2.1.lt,rS]
    exact hbi _ (by omega) (by omega)
   ·exact ih j hj
 have XQ:∀ n,A≤n→n≤B→∀ j,j < k→x0 ((s n).fr j)=0:=fun n h1 h2=>by
  have:=XQ (n - A) (by omega)
  rwa [show A+(n - A)=n by omega] at this
 have hxb:∀ n,A≤n→n≤B→∀ i,i < m→(s n).b i=x0 ((s n).gV i):=fun n h1 h2 i hi=>by
  rw [x6 (y:=tn) (Pk n) (XQ n h1 h2) hi,rS]
 -- what stays out, what stays in
 have out:∀ a d u,¬ (s a).x5 m u→(∀ n,a≤n→n < a+d→(s n).fr (J n)≠u)→¬ (s (a+d)).x5 m u:=fun a d u h1=>by
  induction d with
  | zero=>intro _;exact h1
  | succ d ih =>
   intro h2 h3
   rcases (hB (a+d) u).1 h3 with ⟨h4,_⟩ | h4
   ·exact ih (fun n q1 q2=>h2 n q1 (by omega)) h4
   ·exact h2 (a+d) (by omega) (by omega) h4.symm
 have inn:∀ a d u,(s a).x5 m u→(∀ n,a≤n→n < a+d→(s n).gV (I n)≠u)→(s (a+d)).x5 m u:=fun a d u h1=>by
  induction d with
  | zero=>intro _;exact h1
  | succ d ih =>
   intro h2
   exact (hB (a+d) u).2 (.inl ⟨ih (fun n q1 q2=>h2 n q1 (by omega)),fun q=>h2 (a+d) (by omega) (by omega) q.symm⟩)
 -- the greatest one that comes in
 obtain ⟨q,Ew,ee,jq⟩:=Qh (f:=fun n=>(s n).fr (J n)) (a:=A) (B - A - 1)
 have ee:q < B:=by omega
 have jq:∀ n,A≤n→n < B→(s n).fr (J n)≤(s q).fr (J q):=fun n h1 h2=>jq n h1 (by omega)
 generalize ht:(s q).fr (J q)=t at jq
 have htq:¬ (s q).x5 m t:=ht ▸ WO q _ (st q).1.lt
 have enters:∀ u p,A≤p→p < B→(s p).x5 m u→¬ (s q).x5 m u→∃ n,A≤n∧n < B∧(s n).fr (J n)=u:=fun u p h1 h2 h3 h4=>o7 fun fP=>by
  have fP:∀ n,A≤n→n < B→(s n).fr (J n)≠u:=fun n q1 q2 e=>fP ⟨n,q1,q2,e⟩
  have e1:=out q (B - q) u h4 fun n q1 q2=>fP n (by omega) (by omega)
  rw [show q+(B - q)=B by omega] at e1
  have e2:=out A (p - A) u (fun h=>e1 (hbs u h)) fun n q1 q2=>fP n (by omega) (by omega)
  rw [show A+(p - A)=p by omega] at e2
  exact e2 h3
 obtain ⟨p,xa,wM,hp3⟩:∃ p,A≤p∧p < B∧(s p).gV (I p)=t:=o7 fun fP=>by
  have fP:∀ n,A≤n→n < B→(s n).gV (I n)≠t:=fun n q1 q2 e=>fP ⟨n,q1,q2,e⟩
  have e0:(s (q+1)).x5 m t:=(hB q t).2 (.inr ht.symm)
  have e1:=inn (q+1) (B - (q+1)) t e0 fun n q1 q2=>fP n (by omega) (by omega)
  rw [show q+1+(B - (q+1))=B by omega] at e1
  have e2:=inn A (q - A) t (aaf t e1) fun n q1 q2=>fP n (by omega) (by omega)
  rw [show A+(q - A)=q by omega] at e2
  exact htq e2
 -- the direction of the step in which it goes out
 have hjp:=(st p).1.lt
 have y1:=rR (FM p) (one ((s p).fr (J p)))
 have y0:=rR (FM p) tn
 have g1:(s p).v+(s p).g (J p)=(s q).gv k ((s p).ext m k (one ((s p).fr (J p)))):=by
  rw [← (XP p q).gv _ y1,FK (FM p),Lk (FM p) hjp]
 have g0:(s p).v=(s q).gv k ((s p).ext m k tn):=by rw [← (XP p q).gv _ y0,FK (FM p),Iq]
 let d:Nat→Rat:=fun u=>(s p).ext m k (one ((s p).fr (J p))) u - (s p).ext m k tn u
 have hd:(s p).g (J p)=cu k fun j=>(s q).g j * d ((s q).fr j):=by
  have e:cu k (fun j=>(s q).g j * (s p).ext m k (one ((s p).fr (J p))) ((s q).fr j))=cu k (fun j=>(s q).g j * d ((s q).fr j)+(s q).g j * (s p).ext m k tn ((s q).fr j)):=bR fun j _=>by
   show _=_ * (_ - _)+_
   grind
  rw [ve] at e
  unfold gv at g1 g0
  rw [e] at g1
  rw [g0] at g1
  grind
 obtain ⟨j,hj,NI⟩:=J8 (by rw [← hd];exact (st p).1.pos)
 generalize hr:(s q).fr j=r at NI
 have hrq:¬ (s q).x5 m r:=hr ▸ WO q j hj
 have hru:r < m+k:=hr ▸ (FM q).fl j hj
 -- Bland's choice at q
 have blq:t≤r∨(s q).g j≤0:=by
  by_cases h:0 < (s q).g j
  ·exact .inl (by rw [← ht,← hr];exact (st q).1.min j hj h)
  ·exact .inr (Rat.not_lt.1 h)
 have aai:∀ i,i < m→(s p).gV i=t→(s p).a i (J p) < 0:=fun i hi e=>by
  rw [(FM p).bi i (I p) hi (st p).2.1.lt (e.trans hp3.symm)];exact (st p).2.1.neg
 rcases (FM p).al r hru with ⟨i,hi,e⟩ | ⟨c,hc,e⟩
 ·have hdr:d r=(s p).a i (J p):=by
   show (s p).ext m k _ r - (s p).ext m k tn r=_
   rw [← e,tG (FM p) hi,tG (FM p) hi,row_one (FM p) hjp,rS];grind
  rw [hdr] at NI
  obtain ⟨n,n1,n2,n3⟩:=enters r p xa wM ⟨i,hi,e⟩ hrq
  have hrt:r≤t:=n3 ▸ jq n n1 n2
  by_cases WS:r=t
  ·have h1:=aai i hi (e.trans WS)
   have h2:0 < (s q).g j:=by
    rw [(FM q).fi j (J q) hj (st q).1.lt (hr.trans (WS.trans ht.symm))];exact (st q).1.pos
   have:=Rat.mul_pos h2 (show 0 < -((s p).a i (J p)) by grind)
   grind
  ·have hg:(s q).g j≤0:=blq.resolve_left (by omega)
   have ha:(s p).a i (J p) < 0:=Rat.not_le.1 fun h=>by
    have:=Rat.mul_nonneg (show 0≤-((s q).g j) by grind) h
    grind
   have XH:(s p).b i=0:=by
    rw [hxb p xa (by omega) i hi,e,← hr];exact XQ q Ew (by omega) j hj
   have hz:(s p).ratio (J p) i=0:=by unfold ratio;rw [XH];grind
   rcases (st p).2.1.min i hi ha with h | ⟨_,h⟩
   ·rw [UZ p xa wM,hz] at h;exact absurd h (by decide)
   ·rw [hp3,e] at h;omega
 ·have hdr:d r=one ((s p).fr (J p)) r:=by
   show (s p).ext m k _ r - (s p).ext m k tn r=_
   rw [← e,uj (FM p) hc,uj (FM p) hc];unfold tn;grind
  rw [hdr] at NI
  unfold one at NI
  split at NI
  ·rename_i Wh
   have hle:r≤t:=Wh ▸ jq p xa wM
   have fP:r≠t:=fun h=>(FM p).bf (I p) (J p) (st p).2.1.lt hjp (by rw [hp3,← Wh,h])
   have hg:(s q).g j≤0:=blq.resolve_left (by omega)
   grind
  ·grind
theorem Qi {m k:Nat} {D:bB} (hw:D.WF m k) (hf:D.J6 m):Acc (fun a b=>Step m k b a) D:=o7 fun hn=>by
 have nx:∀ x:{ x:bB // ¬ Acc (fun a b=>Step m k b a) x },∃ y:{ x:bB // ¬ Acc (fun a b=>Step m k b a) x },Step m k x.1 y.1:=fun x=>o7 fun q=>x.2 (.intro _ fun y hy=>o7 fun F1=>q ⟨⟨y,F1⟩,hy⟩)
 let s:Nat→{ x:bB // ¬ Acc (fun a b=>Step m k b a) x }:=fun n=>Nat.rec ⟨D,hn⟩ (fun _ x=>Classical.choose (nx x)) n
 exact Lm (s:=fun n=>(s n).1) hw hf fun n=>Classical.choose_spec (nx (s n))
end bB
end Go.Den
