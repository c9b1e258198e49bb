/- The plain law: the Lean function of the law returns true for every input, and what it needs. No conditions. -/
import Derived.Test.YtlgddcmiekcdiaaGreatBerthHoldsDen
set_option linter.unusedVariables false
set_option linter.unusedSimpArgs false
namespace Go.Den
open Go.Ab
theorem SV (n:Int):ah n=if n % 18446744073709551616≥9223372036854775808 then n % 18446744073709551616 - 18446744073709551616 else n % 18446744073709551616:=by
 have e:ah n=(if (true && decide (n % 18446744073709551616≥9223372036854775808))=true then n % 18446744073709551616 - 18446744073709551616 else n % 18446744073709551616):=rfl
 rw [e];simp
theorem aV {n:Int} (h1:-9223372036854775808≤n) (h2:n≤9223372036854775807):ah n=n:=by
 rw [SV];split<;>omega
theorem zc {m:Nat} (h:m≤9223372036854775807):ah (m:Int)=m:=aV (by omega) (by omega)
theorem aK {m:Nat} (h:m < 9223372036854775807):ah ((m:Int)+1)=((m+1:Nat):Int):=by rw [aV (by omega) (by omega)];simp
theorem toList_inj {a b:ByteArray} (h:a.toList=b.toList):a=b:=by
 have e:∀ x:ByteArray,x.toList=x.data.toList:=fun x=>ByteArray.toList_eq x
 rw [e,e] at h
 cases a;cases b;simp_all [Array.toList_inj]
theorem N6 {a b:ByteArray}:lF a b=true↔a=b:=by
 unfold lF;simp only [beq_iff_eq]
 exact ⟨toList_inj,fun h=>h ▸ rfl⟩
def scan {R:Type} (f:Nat→Option R) (z:R):Nat→Nat→R
 | 0,_=>z
 | k+1,m=>match f m with
  | some r=>r
  | none=>scan f z k (m+1)
theorem HR {R:Type} {L:Nat→Int→Option R} (f:Nat→Option R) (z:R) {n:Nat}
  (BL:∀ fuel m,m < n→L (fuel+1) (m:Int)=(match f m with | some r=>some r | none=>L fuel ((m+1:Nat):Int)))
  (I2:∀ fuel,L (fuel+1) (n:Int)=some z):∀ k m fuel,m+k=n→k < fuel→L fuel (m:Int)=some (scan f z k m)
 | 0,m,fuel,h,hf=>by
  obtain ⟨g,rfl⟩:∃ g,fuel=g+1:=⟨fuel - 1,by omega⟩
  have:m=n:=by omega
  subst this;exact I2 g
 | k+1,m,fuel,h,hf=>by
  obtain ⟨g,rfl⟩:∃ g,fuel=g+1:=⟨fuel - 1,by omega⟩
  rw [BL g m (by omega)]
  unfold scan
  cases X9:f m with
  | some r=>rfl
  | none=>exact HR f z BL I2 k (m+1) g (by omega) (by omega)
theorem nH {R:Type} {L:Nat→Int→Option R} (f:Nat→Option R) (z:R) {n fuel:Nat} (hf:n < fuel)
  (BL:∀ fuel m,m < n→L (fuel+1) (m:Int)=(match f m with | some r=>some r | none=>L fuel ((m+1:Nat):Int)))
  (I2:∀ fuel,L (fuel+1) (n:Int)=some z):L fuel 0=some (scan f z n 0) :=
 HR f z BL I2 n 0 fuel (by omega) hf
theorem BM {R:Type} {f:Nat→Option R} {z:R}:∀ (k m:Nat),(∃ i r,m≤i∧i < m+k∧f i=some r∧(∀ j,m≤j→j < i→f j=none)∧scan f z k m=r)∨((∀ i,m≤i→i < m+k→f i=none)∧scan f z k m=z)
 | 0,m=>.inr ⟨fun i h1 h2=>by omega,rfl⟩
 | k+1,m=>by
  cases hm:f m with
  | some r=>exact .inl ⟨m,r,aG _,by omega,hm,fun j h1 h2=>by omega,by unfold scan;rw [hm]⟩
  | none =>
   have e:scan f z (k+1) m=scan f z k (m+1):=by rw [scan,hm]
   rcases BM (f:=f) (z:=z) k (m+1) with ⟨i,r,h1,h2,h3,h4,h5⟩ | ⟨h1,h2⟩
   ·refine .inl ⟨i,r,by omega,by omega,h3,fun j hj1 TW=>?_,e.trans h5⟩
    by_cases hj:j=m
    ·subst hj;exact hm
    ·exact h4 j (by omega) TW
   ·refine .inr ⟨fun i hi1 TQ=>?_,e.trans h2⟩
    by_cases hj:i=m
    ·subst hj;exact hm
    ·exact h1 i (by omega) (by omega)
theorem F2 {R:Type} {L:Nat→Int→R} (f:Nat→Option R) (z:R) {n:Nat}
  (BL:∀ fuel m,m < n→L (fuel+1) (m:Int)=(match f m with | some r=>r | none=>L fuel ((m+1:Nat):Int)))
  (I2:∀ fuel,L (fuel+1) (n:Int)=z):∀ k m fuel,m+k=n→k < fuel→L fuel (m:Int)=scan f z k m
 | 0,m,fuel,h,hf=>by
  obtain ⟨g,rfl⟩:∃ g,fuel=g+1:=⟨fuel - 1,by omega⟩
  have:m=n:=by omega
  subst this;exact I2 g
 | k+1,m,fuel,h,hf=>by
  obtain ⟨g,rfl⟩:∃ g,fuel=g+1:=⟨fuel - 1,by omega⟩
  rw [BL g m (by omega)]
  unfold scan
  cases X9:f m with
  | some r=>rfl
  | none=>exact F2 f z BL I2 k (m+1) g (by omega) (by omega)
theorem Kk {R:Type} {L:Nat→Int→R} (f:Nat→Option R) (z:R) {n fuel:Nat} (hf:n < fuel)
  (BL:∀ fuel m,m < n→L (fuel+1) (m:Int)=(match f m with | some r=>r | none=>L fuel ((m+1:Nat):Int)))
  (I2:∀ fuel,L (fuel+1) (n:Int)=z):L fuel 0=scan f z n 0 :=
 F2 f z BL I2 n 0 fuel (by omega) hf
theorem F3 {p:Nat→Bool}:∀ (n m:Nat),decide (scan (fun k=>cond (p k) (some (k:Int)) none) (-1) n m≥0)=scan (fun k=>cond (p k) (some true) none) false n m
 | 0,m=>rfl
 | n+1,m=>by
  unfold scan
  cases p m with
  | true=>simp
  | false=>exact F3 n (m+1)
theorem HS {R:Type} {p:Nat→Bool} {a z:R}:∀ (n m:Nat),scan (fun k=>cond (p k) (some a) none) z n m=cond (scan (fun k=>cond (p k) (some true) none) false n m) a z
 | 0,m=>rfl
 | n+1,m=>by
  unfold scan
  cases p m with
  | true=>rfl
  | false=>exact HS n (m+1)
theorem zd {α:Type} (q:Bool) (a b:α):cond q (some a) (some b)=some (cond q a b):=by cases q<;>rfl
theorem N7 {α:Type} (l:List α) (m k:Nat) (d:α) (h:k < m):((l.take m).drop 0).getD k d=l.getD k d:=by
 simp [List.getD,h]
theorem vL {α:Type} (l:List α) (m:Nat) (d:α) (h:m < l.length):l.getD m d∈l:=by
 simp [List.getD,h]
theorem sq_nonneg (x:Int):0≤x * x:=by
 by_cases h:0≤x
 ·exact Int.mul_nonneg h h
 ·have:=Int.mul_nonneg (show 0≤-x by omega) (show 0≤-x by omega)
  rwa [Int.neg_mul_neg] at this
theorem T9 {x M:Int} (h1:-M≤x) (h2:x≤M):x * x≤M * M:=by
 by_cases h:0≤x
 ·exact Int.mul_le_mul h2 h2 h (by omega)
 ·have:=Int.mul_le_mul (show -x≤M by omega) (show -x≤M by omega) (by omega) (by omega)
  rwa [Int.neg_mul_neg] at this
theorem SW {a b:Nat} (ha:a < 9223372036854775808) (hb:b < 9223372036854775808):sO .i64 (a:Int) (b:Int)=((a ||| b:Nat):Int):=by
 have h:a ||| b < 2 ^ 63:=Nat.or_lt_two_pow (by omega) (by omega)
 have e:(BitVec.ofInt IntKind.i64.bits (a:Int) ||| BitVec.ofInt IntKind.i64.bits (b:Int)).toNat=a ||| b:=by
  show (BitVec.ofInt 64 (a:Int) ||| BitVec.ofInt 64 (b:Int)).toNat=_
  rw [BitVec.ofInt_natCast,BitVec.ofInt_natCast,BitVec.toNat_or,BitVec.toNat_ofNat,BitVec.toNat_ofNat,Nat.mod_eq_of_lt (by omega),Nat.mod_eq_of_lt (by omega)]
 unfold sO
 rw [e]
 exact zc (by omega)
theorem Ql {k:Nat} (hk:k < 63):gZ .i64 1 (k:Int)=((2 ^ k:Nat):Int):=by
 have h:2 ^ k < 2 ^ 63:=Nat.pow_lt_pow_right (by omega) hk
 have e:min ((k:Int).toNat) IntKind.i64.bits=k:=by
  show min k 64=k
  omega
 unfold gZ
 rw [e]
 have e2:(1:Int) * 2 ^ k=((2 ^ k:Nat):Int):=by simp
 rw [e2]
 exact zc (by omega)
theorem an (m:Nat):((m:Int)).toNat=m:=rfl
theorem pB {m n:Nat} (h:m < n):0≤(m:Int)∧(m:Int) < ((n:Nat):Int):=⟨by omega,by omega⟩
theorem dec_lt {m n:Nat} (h:m < n):decide ((m:Int) < ((n:Nat):Int))=true:=by simp;omega
theorem dY {n:Nat}:decide ((n:Int) < ((n:Nat):Int))=false:=by simp
end Go.Den
namespace Go.Den
open Go.Ab
theorem tv (n:Int):IntKind.u16.wrap n=n % 65536:=by
 have e:IntKind.u16.wrap n=(if (false && decide (n % 65536≥32768))=true then n % 65536 - 65536 else n % 65536):=rfl
 rw [e];simp
theorem wrap32 (n:Int):IntKind.u32.wrap n=n % 4294967296:=by
 have e:IntKind.u32.wrap n=(if (false && decide (n % 4294967296≥2147483648))=true then n % 4294967296 - 4294967296 else n % 4294967296):=rfl
 rw [e];simp
theorem wrap64 (n:Int):IntKind.u64.wrap n=n % 18446744073709551616:=by
 have e:IntKind.u64.wrap n=(if (false && decide (n % 18446744073709551616≥9223372036854775808))=true then n % 18446744073709551616 - 18446744073709551616 else n % 18446744073709551616):=rfl
 rw [e];simp
theorem nW {n:Int} (h:0≤n) (h2:n < 65536):IntKind.u16.wrap n=n:=by rw [tv];omega
theorem cD {n:Int} (h:0≤n) (h2:n < 4294967296):IntKind.u32.wrap n=n:=by rw [wrap32];omega
theorem ij {n:Int} (h:0≤n) (h2:n < 18446744073709551616):IntKind.u64.wrap n=n:=by rw [wrap64];omega
theorem BN (n:Int):oU .u32 n 16=n / 65536:=by
 unfold oU
 have:(2:Int) ^ (min (16:Int).toNat IntKind.u32.bits)=65536:=by decide
 rw [this,Int.fdiv_eq_ediv_of_nonneg _ (by decide)]
theorem Kl (n:Int):oU .u64 n 16=n / 65536:=by
 unfold oU
 have:(2:Int) ^ (min (16:Int).toNat IntKind.u64.bits)=65536:=by decide
 rw [this,Int.fdiv_eq_ediv_of_nonneg _ (by decide)]
theorem N8 (n:Int):oU .i64 n 16=n / 65536:=by
 unfold oU
 have:(2:Int) ^ (min (16:Int).toNat IntKind.i64.bits)=65536:=by decide
 rw [this,Int.fdiv_eq_ediv_of_nonneg _ (by decide)]
theorem F4 {n:Int} (h:0≤n) (h2:n < 65536):gZ .u32 n 16=n * 65536:=by
 unfold gZ
 have:(2:Int) ^ (min (16:Int).toNat IntKind.u32.bits)=65536:=by decide
 rw [this,wrap32];omega
theorem F5 {n:Int} (h:0≤n) (h2:n < 281474976710656):gZ .u64 n 16=n * 65536:=by
 unfold gZ
 have:(2:Int) ^ (min (16:Int).toNat IntKind.u64.bits)=65536:=by decide
 rw [this,wrap64];omega
theorem Qm {n:Nat} (a b:Nat) (ha:a < 2 ^ n) (hb:b < 2 ^ n):(BitVec.ofInt n (a:Int) ||| BitVec.ofInt n (b:Int)).toNat=a ||| b:=by
 rw [BitVec.ofInt_natCast,BitVec.ofInt_natCast,BitVec.toNat_or,BitVec.toNat_ofNat,BitVec.toNat_ofNat,Nat.mod_eq_of_lt ha,Nat.mod_eq_of_lt hb]
theorem bv_and {n:Nat} (a b:Nat) (ha:a < 2 ^ n) (hb:b < 2 ^ n):(BitVec.ofInt n (a:Int) &&& BitVec.ofInt n (b:Int)).toNat=a &&& b:=by
 rw [BitVec.ofInt_natCast,BitVec.ofInt_natCast,BitVec.toNat_and,BitVec.toNat_ofNat,BitVec.toNat_ofNat,Nat.mod_eq_of_lt ha,Nat.mod_eq_of_lt hb]
theorem AF (a b k:Nat) (hb:b < 2 ^ k):(a * 2 ^ k) ||| b=a * 2 ^ k+b:=by
 have:=Nat.shiftLeft_add_eq_or_of_lt hb a
 rw [Nat.shiftLeft_eq] at this
 exact this.symm
theorem MU {a b:Int} (ha:0≤a) (Rr:a < 65536) (hb:0≤b) (o5:b < 65536):sO .u32 (a * 65536) b=a * 65536+b:=by
 obtain ⟨a,rfl⟩:=Int.eq_ofNat_of_zero_le ha
 obtain ⟨b,rfl⟩:=Int.eq_ofNat_of_zero_le hb
 unfold sO
 have e:((a:Int) * 65536)=((a * 2 ^ 16:Nat):Int):=by simp
 rw [e,show IntKind.u32.bits=32 from rfl,Qm _ _ (by omega) (by omega),AF _ _ 16 (by omega),wrap32]
 omega
theorem I3 {a b:Int} (ha:0≤a) (Rr:a < 281474976710656) (hb:0≤b) (o5:b < 65536):sO .u64 (a * 65536) b=a * 65536+b:=by
 obtain ⟨a,rfl⟩:=Int.eq_ofNat_of_zero_le ha
 obtain ⟨b,rfl⟩:=Int.eq_ofNat_of_zero_le hb
 unfold sO
 have e:((a:Int) * 65536)=((a * 2 ^ 16:Nat):Int):=by simp
 rw [e,show IntKind.u64.bits=64 from rfl,Qm _ _ (by omega) (by omega),AF _ _ 16 (by omega),wrap64]
 omega
theorem Qn {a:Int} (ha:0≤a) (Rr:a < 18446744073709551616):Ka .u64 a 65535=a % 65536:=by
 obtain ⟨a,rfl⟩:=Int.eq_ofNat_of_zero_le ha
 unfold Ka
 have e:(65535:Int)=((65535:Nat):Int):=rfl
 rw [e,show IntKind.u64.bits=64 from rfl,bv_and _ _ (by omega) (by omega),show (65535:Nat)=2 ^ 16 - 1 from rfl,Nat.and_two_pow_sub_one_eq_mod,wrap64]
 omega
def bD:List Int→Int
 | []=>0
 | x :: l=>x+65536 * bD l
def U (l:List Int):Prop:=∀ x,x∈l→0≤x∧x < 65536
def lm (n:Nat):List Int:=if h:n=0 then [] else ((n % 65536:Nat):Int) :: lm (n / 65536)
termination_by n
decreasing_by omega
def pw (k:Nat):Int:=65536 ^ k
theorem ze:pw 0=1:=rfl
theorem gP (k:Nat):pw (k+1)=65536 * pw k:=by unfold pw;rw [Int.pow_succ];omega
theorem lr (k:Nat):0 < pw k:=by
 induction k with
 | zero=>decide
 | succ k ih=>rw [gP];omega
theorem F6 (j k:Nat):pw (j+k)=pw j * pw k:=Int.pow_add _ _ _
theorem U.nil:U []:=fun x h=>by simp at h
theorem U.cons {x:Int} {l:List Int} (h1:0≤x) (h2:x < 65536) (h:U l):U (x :: l):=fun y hy=>by
 rcases kL.1 hy with rfl | hy
 ·exact ⟨h1,h2⟩
 ·exact h y hy
theorem U.tail {x:Int} {l:List Int} (h:U (x :: l)):U l:=fun y hy=>h y (List.mem_cons_of_mem _ hy)
theorem U.head {x:Int} {l:List Int} (h:U (x :: l)):0≤x∧x < 65536:=h x (by simp)
theorem U.append {l m:List Int} (h1:U l) (h2:U m):U (l ++ m):=fun y hy=>by
 rcases List.mem_append.1 hy with hy | hy
 ·exact h1 y hy
 ·exact h2 y hy
theorem U.left {l m:List Int} (h:U (l ++ m)):U l:=fun y hy=>h y (List.mem_append_left _ hy)
theorem U.right {l m:List Int} (h:U (l ++ m)):U m:=fun y hy=>h y (List.mem_append_right _ hy)
theorem U.one {x:Int} (h1:0≤x) (h2:x < 65536):U [x]:=U.cons h1 h2 U.nil
theorem U.take {l:List Int} (h:U l) (k:Nat):U (l.take k):=fun y hy=>h y (List.mem_of_mem_take hy)
theorem U.drop {l:List Int} (h:U l) (k:Nat):U (l.drop k):=fun y hy=>h y (List.mem_of_mem_drop hy)
theorem U.getD {l:List Int} (h:U l) (i:Nat):0≤l.getD i 0∧l.getD i 0 < 65536:=by
 by_cases hi:i < l.length
 ·exact h _ (vL l i 0 hi)
 ·rw [fE,oC (by omega)];decide
theorem U.set {l:List Int} (h:U l) (i:Nat) {x:Int} (h1:0≤x) (h2:x < 65536):U (l.set i x):=fun y hy=>by
 rcases List.mem_or_eq_of_mem_set hy with hy | rfl
 ·exact h y hy
 ·exact ⟨h1,h2⟩
theorem U.replicate (n:Nat):U (List.replicate n 0):=fun y hy=>by
 rw [(List.mem_replicate.1 hy).2];decide
theorem lu (l m:List Int):bD (l ++ m)=bD l+pw l.length * bD m:=by
 induction l with
 | nil=>simp [bD,ze]
 | cons x l ih =>
  simp only [List.cons_append,bD,ih,yH,gP]
  rw [iA,← kM];omega
theorem qK (x:Int):bD [x]=x:=by simp [bD]
theorem j7 (n:Nat):bD (List.replicate n 0)=0:=by
 induction n with
 | zero=>rfl
 | succ n ih=>simp [List.replicate_succ,bD,ih]
theorem U.oY:∀ {l:List Int},U l→0≤bD l
 | [],_=>by simp [bD]
 | x :: l,h=>by have:=U.oY h.tail;have:=h.head;simp only [bD];omega
theorem U.lt:∀ {l:List Int},U l→bD l < pw l.length
 | [],_=>by simp [bD,ze]
 | x :: l,h=>by have:=U.lt h.tail;have:=h.head;simp only [bD,yH,gP];omega
theorem m8:∀ (l:List Int) (i:Nat) (x:Int),i < l.length→bD (l.set i x)=bD l+(x - l.getD i 0) * pw i
 | [],i,x,h=>by simp at h
 | y :: l,0,x,h=>by simp [bD,ze];omega
 | y :: l,i+1,x,h=>by
  simp only [List.set_cons_succ,bD,m8 l i x (by simpa using h),gP]
  rw [show (y :: l).getD (i+1) 0=l.getD i 0 from rfl,iA,show (x - l.getD i 0) * (65536 * pw i)=65536 * ((x - l.getD i 0) * pw i) by rw [Int.mul_left_comm]]
  omega
theorem cG (l:List Int) (i:Nat) (h:i < l.length):bD (l.take (i+1))=bD (l.take i)+l.getD i 0 * pw i:=by
 have e:l.take (i+1)=l.take i ++ [l.getD i 0]:=by
  rw [List.take_add_one];simp [List.getD,h]
 rw [e,lu,qK,oD,Nat.min_eq_left (by omega),gN]
theorem nI (l:List Int) (i:Nat) (h:i < l.length):bD (l.drop i)=l.getD i 0+65536 * bD (l.drop (i+1)):=by
 rw [List.drop_eq_getElem_cons h];simp [bD,List.getD,h]
theorem qL (l:List Int) (i:Nat) (h:i≤l.length):bD l=bD (l.take i)+pw i * bD (l.drop i):=by
 have:=lu (l.take i) (l.drop i)
 rwa [List.take_append_drop,oD,Nat.min_eq_left h] at this
theorem iG:lm 0=[]:=by rw [lm];rfl
theorem rH {n:Nat} (h:n≠0):lm n=((n % 65536:Nat):Int) :: lm (n / 65536):=by rw [lm,dif_neg h]
theorem ri (n:Nat):U (lm n):=by
 induction n using Nat.strongRecOn with
 | _ n ih =>
  by_cases h:n=0
  ·subst h;rw [iG];exact U.nil
  ·rw [rH h];exact U.cons (by omega) (by omega) (ih _ (by omega))
theorem iy (n:Nat):bD (lm n)=n:=by
 induction n using Nat.strongRecOn with
 | _ n ih =>
  by_cases h:n=0
  ·subst h;rw [iG];rfl
  ·rw [rH h,bD,ih _ (by omega)];omega
theorem LU {n:Nat}:lm n=[]↔n=0:=by
 constructor
 ·intro h
  have:=iy n
  rw [h] at this;simp [bD] at this;omega
 ·rintro rfl;exact iG
theorem mi {n:Nat}:0 < (lm n).length↔n≠0:=by
 rw [List.length_pos_iff,ne_eq,LU]
theorem jz {n k:Nat}:(lm n).length≤k↔(n:Int) < pw k:=by
 induction k generalizing n with
 | zero =>
  rw [ze]
  constructor
  ·intro h;have:lm n=[]:=List.length_eq_zero_iff.1 (by omega);rw [LU] at this;omega
  ·intro h;have:n=0:=by omega
   rw [LU.2 this];simp
 | succ k ih =>
  by_cases h:n=0
  ·subst h;rw [iG];have:=lr (k+1);simp;omega
  ·rw [rH h,yH,gP]
   have:=ih (n:=n / 65536)
   constructor
   ·intro h;have:=this.1 (by omega);omega
   ·intro h;have:=this.2 (by omega);omega
theorem SX {n:Nat} (h:n≠0):∃ l x,lm n=l ++ [x]∧x≠0∧U l∧0≤x∧x < 65536:=by
 induction n using Nat.strongRecOn with
 | _ n ih =>
  rw [rH h]
  by_cases h2:n / 65536=0
  ·rw [h2,iG];exact ⟨[],_,rfl,by omega,U.nil,by omega,by omega⟩
  ·obtain ⟨l,x,e,hx,hl,h3,h4⟩:=ih _ (by omega) h2
   rw [e];exact ⟨_ :: l,x,rfl,hx,U.cons (by omega) (by omega) hl,h3,h4⟩
theorem MV:∀ {l:List Int},U l→(∀ m x,l=m ++ [x]→x≠0)→lm (bD l).toNat=l
 | [],_,_=>by simp [bD,iG]
 | x :: l,h,hn=>by
  have h1:=h.head
  have h2:=h.tail.oY
  have e:bD (x :: l)=x+65536 * bD l:=rfl
  have fZ:(bD (x :: l)).toNat≠0:=by
   rw [e]
   cases l with
   | nil=>have:=hn [] x rfl;simp [bD];omega
   | cons y l =>
    have hl:=MV (l:=y :: l) h.tail fun m z hz=>hn (x :: m) z (by rw [hz];rfl)
    have:bD (y :: l)≠0:=fun h0=>by rw [h0] at hl;simp [iG] at hl
    omega
  rw [rH fZ]
  have hl:=MV (l:=l) h.tail fun m z hz=>hn (x :: m) z (by rw [hz];rfl)
  have e1:(((bD (x :: l)).toNat % 65536:Nat):Int)=x:=by rw [e];omega
  have e2:(bD (x :: l)).toNat / 65536=(bD l).toNat:=by rw [e];omega
  rw [e1,e2,hl]
theorem MW {N:Nat}:∀ (fuel:Nat) (l:List Int),U l→l.length < fuel→l.length < 9223372036854775807→np N fuel l=some (lm (bD l).toNat)
 | 0,l,_,h,_=>by omega
 | fuel+1,l,hU,h,hs=>by
  rw [np]
  rcases List.eq_nil_or_concat l with rfl | ⟨m,x,TC⟩
  ·simp [bD,iG]
  ·rw [List.concat_eq_append] at TC
   subst TC
   have hlen:(m ++ [x]).length=m.length+1:=by simp
   have e1:ah ((((m ++ [x]).length:Nat):Int) - 1)=(m.length:Int):=by rw [hlen,aV (by omega) (by rw [hlen] at hs;omega)];omega
   have e2:(m ++ [x]).getD m.length 0=x:=by simp [List.getD]
   have e3:decide ((((m ++ [x]).length:Nat):Int) > 0)=true:=by simp
   rw [e1,e3]
   rw [if_pos (fun _=>⟨by omega,by rw [hlen];omega⟩),cond_true]
   simp only [an,e2]
   cases hx:(x == 0) with
   | true =>
    have PT:x=0:=by simpa using hx
    subst PT
    rw [cond_true,if_pos ⟨Nat.zero_le _,by rw [hlen];omega⟩,if_pos (by omega)]
    have e4:((m ++ [(0:Int)]).take m.length).drop 0=m:=by simp
    rw [e4,MW fuel m hU.left (by rw [hlen] at h;omega) (by rw [hlen] at hs;omega),lu,qK];simp
   | false =>
    rw [cond_false,MV hU]
    intro m' x' he
    have:=(List.append_inj' he rfl).2
    simp at this hx
    omega
theorem mj {N:Nat} {l:List Int} (hU:U l) (hN:l.length < N) (hs:l.length < 9223372036854775807):g7 N l=some (lm (bD l).toNat):=MW N l hU hN hs
end Go.Den
namespace Go.Den
open Go.Ab
abbrev SM (n:Nat):Prop:=n < 10000000000000
def LV (a b:List Int):Nat→Int
 | 0=>0
 | k+1=>cond (a.getD k 0 != b.getD k 0) (a.getD k 0 - b.getD k 0) (LV a b k)
def G5 (a b:Nat):Int:=cond ((((lm a).length:Nat):Int) != (((lm b).length:Nat):Int)) ((((lm a).length:Nat):Int) - (((lm b).length:Nat):Int)) (LV (lm a) (lm b) (lm a).length)
theorem F7 {N:Nat} {a b:List Int} (ha:U a) (hb:U b) (hl:a.length=b.length) (hs:SM a.length):∀ (k fuel:Nat),k≤a.length→k < fuel →
  ∃ c,jl N a b fuel ((k:Int) - 1)=some c∧(c < 0↔bD (a.take k) < bD (b.take k))∧(c=0↔bD (a.take k)=bD (b.take k))∧c=LV a b k
 | 0,fuel,_,hf=>by
  obtain ⟨g,rfl⟩:∃ g,fuel=g+1:=⟨fuel - 1,by omega⟩
  exact ⟨0,by rw [jl];rfl,by simp,by simp,rfl⟩
 | k+1,fuel,hk,hf=>by
  obtain ⟨g,rfl⟩:∃ g,fuel=g+1:=⟨fuel - 1,by omega⟩
  have e:(((k+1:Nat):Int) - 1)=(k:Int):=by omega
  rw [e,jl]
  have hA:=cG a k (by omega)
  have hB:=cG b k (by omega)
  have h1:=ha.getD k
  have h2:=hb.getD k
  have hla:=(ha.take k).lt
  have Xf:=(hb.take k).lt
  have hna:=(ha.take k).oY
  have hnb:=(hb.take k).oY
  rw [oD,Nat.min_eq_left (by omega)] at hla Xf
  have e0:decide ((k:Int)≥0)=true:=by simp
  rw [e0,cond_true,if_pos ⟨by omega,by omega⟩,if_pos ⟨by omega,by omega⟩]
  simp only [an]
  cases hd:(a.getD k 0 != b.getD k 0) with
  | true =>
   have fZ:a.getD k 0≠b.getD k 0:=by simpa using hd
   refine ⟨a.getD k 0 - b.getD k 0,?_,?_,?_,by rw [LV,hd];rfl⟩
   ·rw [cond_true]
    congr 1
    rw [aV (by rw [aV (by omega) (by omega),aV (by omega) (by omega)];omega) (by rw [aV (by omega) (by omega),aV (by omega) (by omega)];omega),aV (by omega) (by omega),aV (by omega) (by omega)]
   ·rw [hA,hB]
    generalize a.getD k 0=x at *
    generalize b.getD k 0=y at *
    rcases Int.lt_or_lt_of_ne fZ with h | h
    ·have:=kx (show x+1≤y by omega) (Int.le_of_lt (lr k))
     rw [eD] at this
     constructor<;>intro<;>omega
    ·have:=kx (show y+1≤x by omega) (Int.le_of_lt (lr k))
     rw [eD] at this
     constructor<;>intro<;>omega
   ·rw [hA,hB]
    generalize a.getD k 0=x at *
    generalize b.getD k 0=y at *
    rcases Int.lt_or_lt_of_ne fZ with h | h
    ·have:=kx (show x+1≤y by omega) (Int.le_of_lt (lr k))
     rw [eD] at this
     constructor<;>intro<;>omega
    ·have:=kx (show y+1≤x by omega) (Int.le_of_lt (lr k))
     rw [eD] at this
     constructor<;>intro<;>omega
  | false =>
   have heq:a.getD k 0=b.getD k 0:=by simpa using hd
   obtain ⟨c,h3,h4,h5,h6⟩:=F7 ha hb hl hs k g (by omega) (by omega)
   refine ⟨c,?_,?_,?_,by rw [LV,hd];exact h6⟩
   ·rw [cond_false,aV (by omega) (by simp only [SM] at hs;omega)];exact h3
   ·rw [hA,hB,heq,h4];omega
   ·rw [hA,hB,heq,h5];omega
theorem zf {a b:Nat} (h:(lm a).length < (lm b).length):a < b:=by
 have h1:=jz (n:=a) (k:=(lm a).length)
 have h2:=jz (n:=b) (k:=(lm a).length)
 have:=h1.1 (aG _)
 have:¬ (b:Int) < pw (lm a).length:=fun h'=>by have:=h2.2 h';omega
 omega
theorem wJ {N:Nat} {a b:Nat} (hN:(lm a).length < N) (ha:SM (lm a).length) (hb:SM (lm b).length):∃ c,nr N (lm a) (lm b)=some c∧(c < 0↔a < b)∧(c=0↔a=b)∧c=G5 a b:=by
 unfold nr
 simp only [SM] at ha hb
 cases hl:((((lm a).length:Nat):Int) != (((lm b).length:Nat):Int)) with
 | true =>
  have fZ:(lm a).length≠(lm b).length:=by intro h;rw [h] at hl;simp at hl
  refine ⟨_,cond_true _ _,?_,?_,by unfold G5;rw [hl,cond_true,aV (by omega) (by omega)]⟩
  ·rw [aV (by omega) (by omega)]
   rcases Nat.lt_or_gt_of_ne fZ with h | h
   ·have:=zf h;omega
   ·have:=zf h;omega
  ·rw [aV (by omega) (by omega)]
   rcases Nat.lt_or_gt_of_ne fZ with h | h
   ·have:=zf h;omega
   ·have:=zf h;omega
 | false =>
  have heq:(lm a).length=(lm b).length:=by simp at hl;omega
  rw [cond_false,aV (by omega) (by omega)]
  obtain ⟨c,h1,h2,h3,h4⟩:=F7 (N:=N) (ri a) (ri b) heq ha (lm a).length N (aG _) hN
  rw [List.take_length,heq,List.take_length,iy,iy] at h2 h3
  exact ⟨c,h1,by omega,by omega,by unfold G5;rw [hl];exact h4⟩
theorem Km {N a b:Nat} (hN:(lm a).length < N) (ha:SM (lm a).length) (hb:SM (lm b).length):nr N (lm a) (lm b)=some (G5 a b):=by
 obtain ⟨c,h1,_,_,rfl⟩:=wJ hN ha hb
 exact h1
theorem MY {a b:Nat} (ha:SM (lm a).length) (hb:SM (lm b).length):G5 a b < 0↔a < b:=by
 obtain ⟨c,_,h,_,rfl⟩:=wJ (N:=(lm a).length+1) (by omega) ha hb
 exact h
theorem MZ {N:Nat} {a b:List Int} (ha:U a) (hb:U b) (hl:b.length≤a.length) (hs:SM a.length) (hN:a.length+1 < N):∀ (k x fuel:Nat) (out:List Int) (c:Int),x+k=a.length→k < fuel→out.length=x→U out→0≤c→c≤1 →
  bD out+pw x * c=bD (a.take x)+bD (b.take x)→jV N a b fuel out c (x:Int)=some (lm (bD a+bD b).toNat)
 | 0,x,fuel,out,c,hx,hf,ho,hU,xM,tC,hinv=>by
  obtain ⟨g,rfl⟩:∃ g,fuel=g+1:=⟨fuel - 1,by omega⟩
  have G6:x=a.length:=by omega
  subst G6
  rw [jV]
  simp only [SM] at hs
  rw [dY,cond_false,if_pos (by omega),nW xM (by omega)]
  have Ya:U (out ++ [c]):=hU.append (U.one xM (by omega))
  have hlen:(out ++ [c]).length=a.length+1:=by simp [ho]
  rw [mj Ya (by rw [hlen];omega) (by rw [hlen];omega),ct,lu,qK,ho,hinv,List.take_length,js hl]
 | k+1,x,fuel,out,c,hx,hf,ho,hU,xM,tC,hinv=>by
  obtain ⟨g,rfl⟩:∃ g,fuel=g+1:=⟨fuel - 1,by omega⟩
  simp only [SM] at hs
  have qj:x < a.length:=by omega
  have h1:=ha.getD x
  have h2:=hb.getD x
  rw [jV,dec_lt qj,cond_true,if_pos (pB qj)]
  simp only [an]
  have hA:=cG a x qj
  have hB:bD (b.take (x+1))=bD (b.take x)+b.getD x 0 * pw x:=by
   by_cases h:x < b.length
   ·exact cG b x h
   ·rw [js (by omega),js (by omega),fE,oC (by omega)];simp
  have step:∀ s:Int,s=c+a.getD x 0+b.getD x 0→(pe N a b out (x:Int) (jV N a b g) s)=some (lm (bD a+bD b).toNat):=by
   intro s hse
   unfold pe
   rw [if_pos (by omega),tv,BN,aK (by omega)]
   refine MZ ha hb hl hs hN k (x+1) g _ _ (by omega) (by omega) (by simp [ho]) (hU.append (U.one (by omega) (by omega))) (by omega) (by omega) ?_
   rw [lu,qK,ho,hA,hB,gP]
   have h5:s=s % 65536+65536 * (s / 65536):=by omega
   have h6:pw x * s=pw x * (s % 65536)+pw x * (65536 * (s / 65536)):=by rw [← iA,← h5]
   have h7:pw x * s=pw x * c+a.getD x 0 * pw x+b.getD x 0 * pw x:=by rw [hse,iA,iA,gN (pw x) (a.getD x 0),gN (pw x) (b.getD x 0)]
   have h8:65536 * pw x * (s / 65536)=pw x * (65536 * (s / 65536)):=by rw [gN 65536,kM]
   omega
  by_cases o5:x < b.length
  ·rw [dec_lt o5,cond_true,if_pos (pB o5)]
   refine step _ ?_
   rw [cD (n:=a.getD x 0) (by omega) (by omega),cD (n:=b.getD x 0) (by omega) (by omega),cD (n:=c+a.getD x 0) (by omega) (by omega),cD (by omega) (by omega)]
  ·have e:decide ((x:Int) < ((b.length:Nat):Int))=false:=by simp;omega
   rw [e,cond_false]
   refine step _ ?_
   have h0:b.getD x 0=0:=by rw [fE,oC (by omega)];rfl
   rw [cD (n:=a.getD x 0) (by omega) (by omega),cD (n:=c+a.getD x 0) (by omega) (by omega),h0];omega
theorem M0 {N:Nat} {a b:List Int} (ha:U a) (hb:U b) (hl:b.length≤a.length) (hs:SM a.length) (hN:a.length+1 < N):pf N a b=some (lm (bD a+bD b).toNat):=by
 unfold pf
 simp only [SM] at hs
 rw [if_pos (by rw [aV (by omega) (by omega)];omega)]
 exact MZ ha hb hl hs hN a.length 0 N _ 0 (by omega) (by omega) rfl (U.replicate 0) (by omega) (by omega) (by simp [bD])
theorem Vn {N:Nat} {a b:List Int} (ha:U a) (hb:U b) (hs:SM a.length) (SY:SM b.length) (hN:a.length+1 < N) (hN2:b.length+1 < N):u6 N a b=some (lm (bD a+bD b).toNat):=by
 unfold u6
 cases h:decide (((a.length:Nat):Int) < ((b.length:Nat):Int)) with
 | true =>
  simp at h
  rw [cond_true,M0 hb ha (by omega) SY hN2,Int.add_comm]
 | false =>
  simp at h
  rw [cond_false,M0 ha hb (by omega) hs hN]
theorem SZ {N a b:Nat} (hs:SM (lm a).length) (SY:SM (lm b).length) (hN:(lm a).length+1 < N) (hN2:(lm b).length+1 < N):u6 N (lm a) (lm b)=some (lm (a+b)):=by
 rw [Vn (ri a) (ri b) hs SY hN hN2,iy,iy];congr 1
theorem Kn {N:Nat} {a b:List Int} (ha:U a) (hb:U b) (hl:b.length≤a.length) (hle:bD b≤bD a) (hs:SM a.length) (hN:a.length+1 < N):∀ (k x fuel:Nat) (out:List Int) (c:Int),x+k=a.length→k < fuel→out.length=a.length→U out→0≤c→c≤1 →
  (∀ j,x≤j→out.getD j 0=0)→bD out - pw x * c=bD (a.take x) - bD (b.take x)→g9 N a b fuel out c (x:Int)=some (lm (bD a - bD b).toNat)
 | 0,x,fuel,out,c,hx,hf,ho,hU,xM,tC,hz,hinv=>by
  obtain ⟨g,rfl⟩:∃ g,fuel=g+1:=⟨fuel - 1,by omega⟩
  have G6:x=a.length:=by omega
  subst G6
  simp only [SM] at hs
  rw [g9,dY,cond_false,mj hU (by omega) (by omega),ct]
  rw [List.take_length,js hl] at hinv
  have h1:=hU.lt
  rw [ho] at h1
  have hc:c=0:=by
   rcases Int.lt_or_le 0 c with h | h
   ·have:c=1:=by omega
    subst this;omega
   ·omega
  subst hc
  have:bD out=bD a - bD b:=by omega
  rw [this]
 | k+1,x,fuel,out,c,hx,hf,ho,hU,xM,tC,hz,hinv=>by
  obtain ⟨g,rfl⟩:∃ g,fuel=g+1:=⟨fuel - 1,by omega⟩
  simp only [SM] at hs
  have qj:x < a.length:=by omega
  have h1:=ha.getD x
  have h2:=hb.getD x
  rw [g9,dec_lt qj,cond_true,if_pos (pB qj)]
  simp only [an]
  have hA:=cG a x qj
  have hB:bD (b.take (x+1))=bD (b.take x)+b.getD x 0 * pw x:=by
   by_cases h:x < b.length
   ·exact cG b x h
   ·rw [js (by omega),js (by omega),fE,oC (by omega)];simp
  have step:∀ y:Int,y=c+b.getD x 0→(nP N a b out (x:Int) (g9 N a b g) y)=some (lm (bD a - bD b).toNat):=by
   intro y hy
   unfold nP
   have fin:∀ q:Int,0≤q→q≤1→0≤a.getD x 0+q * 65536 - y→a.getD x 0+q * 65536 - y < 65536→nO N a b out (x:Int) y (g9 N a b g) q=some (lm (bD a - bD b).toNat):=by
    intro q Ed E2 OI V5
    unfold nO
    rw [if_pos ⟨by omega,by omega⟩,F4 (by omega) (by omega),an,cD (n:=a.getD x 0) (by omega) (by omega),cD (n:=a.getD x 0+q * 65536) (by omega) (by omega),cD (by omega) (by omega),nW (by omega) (by omega),aK (by omega)]
    refine Kn ha hb hl hle hs hN k (x+1) g _ _ (by omega) (by omega) (by simp [ho]) (hU.set x (by omega) (by omega)) Ed E2 ?_ ?_
    ·intro j hj
     have:=hz j (by omega)
     rw [fE] at this ⊢
     rw [List.getElem?_set_ne (by omega)];exact this
    ·rw [m8 _ _ _ (by omega),hz x (aG _),hA,hB,gP]
     have h3:(a.getD x 0+q * 65536 - y - 0) * pw x=a.getD x 0 * pw x+q * 65536 * pw x - y * pw x:=by rw [Int.sub_zero,Int.sub_mul,eD]
     have h4:y * pw x=c * pw x+b.getD x 0 * pw x:=by rw [hy,eD]
     have h5:q * 65536 * pw x=65536 * pw x * q:=by rw [gN q 65536,kM,kM,gN q]
     have h6:c * pw x=pw x * c:=gN _ _
     omega
   rw [an,cD (n:=a.getD x 0) (by omega) (by omega)]
   cases gS:decide (a.getD x 0 < y) with
   | true=>have gS:=qC gS;rw [cond_true];exact fin 1 (by omega) (by omega) (by omega) (by omega)
   | false=>have gS:=rV gS;rw [cond_false];exact fin 0 (by omega) (by omega) (by omega) (by omega)
  by_cases o5:x < b.length
  ·rw [dec_lt o5,cond_true,if_pos (pB o5)]
   refine step _ ?_
   rw [cD (n:=b.getD x 0) (by omega) (by omega),cD (by omega) (by omega)]
  ·have e:decide ((x:Int) < ((b.length:Nat):Int))=false:=by simp;omega
   rw [e,cond_false]
   refine step _ ?_
   have h0:b.getD x 0=0:=by rw [fE,oC (by omega)];rfl
   omega
theorem ic (n j:Nat):(List.replicate n (0:Int)).getD j 0=0:=by
 rw [fE,List.getElem?_replicate];split<;>rfl
theorem S3 {N:Nat} {a b:List Int} (ha:U a) (hb:U b) (hl:b.length≤a.length) (hle:bD b≤bD a) (hs:SM a.length) (hN:a.length+1 < N):qw N a b=some (lm (bD a - bD b).toNat):=by
 unfold qw
 simp only [SM] at hs
 rw [if_pos (by omega)]
 exact Kn ha hb hl hle hs hN a.length 0 N _ 0 (by omega) (by omega) (by simp) (U.replicate _) (by omega) (by omega) (fun j _=>ic _ j) (by rw [j7];simp [bD])
theorem iu {a b:Nat} (h:a≤b):(lm a).length≤(lm b).length:=jz.2 (by have:=(jz (n:=b) (k:=(lm b).length)).1 (aG _);omega)
theorem Ko {N a b:Nat} (Ua:b≤a) (hs:SM (lm a).length) (hN:(lm a).length+1 < N):qw N (lm a) (lm b)=some (lm (a - b)):=by
 rw [S3 (ri a) (ri b) (iu Ua) (by rw [iy,iy];omega) hs hN,iy,iy]
 congr 2;omega
end Go.Den
namespace Go.Den
open Go.Ab
theorem getD_set_ne (l:List Int) {i j:Nat} (x:Int) (h:i≠j):(l.set i x).getD j 0=l.getD j 0:=by
 rw [fE,List.getElem?_set_ne h,← fE]
theorem Kp (l:List Int) {i:Nat} (x:Int) (h:i < l.length):(l.set i x).getD i 0=x:=by
 rw [fE,List.getElem?_set_self h];rfl
theorem tX {l:List Int} {i:Nat} (h:l.length≤i):l.getD i 0=0:=by
 rw [fE,oC h];rfl
theorem F8 {x y:Int} (h1:0≤x) (h2:x < 65536) (h3:0≤y) (h4:y < 65536):0≤x * y∧x * y≤4294836225:=by
 refine ⟨Int.mul_nonneg h1 h3,?_⟩
 have:=Int.mul_le_mul (show x≤65535 by omega) (show y≤65535 by omega) h3 (by omega)
 omega
theorem Kq {N:Nat} {a b:List Int} {i:Nat} (ha:U a) (hb:U b) (hi:i < a.length) (hs:SM (a.length+b.length)) (K:List Int→Int→Option (List Int)) (R:Option (List Int))
  (hK:∀ out,out.length=a.length+b.length→U out→(∀ j,i+b.length < j→out.getD j 0=0)→bD out=bD (a.take (i+1)) * bD b→K out ((i+1:Nat):Int)=R) :
  ∀ (k x fuel:Nat) (out:List Int) (c:Int),x+k=b.length→k < fuel→out.length=a.length+b.length→U out→0≤c→c < 65536→(∀ j,i+b.length≤j→out.getD j 0=0) →
   bD out+pw (i+x) * c=bD (a.take i) * bD b+a.getD i 0 * pw i * bD (b.take x)→kY N a b (i:Int) K fuel out c (x:Int)=R
 | 0,x,fuel,out,c,hx,hf,ho,hU,xM,tC,hz,hinv=>by
  obtain ⟨g,rfl⟩:∃ g,fuel=g+1:=⟨fuel - 1,by omega⟩
  have G6:x=b.length:=by omega
  subst G6
  simp only [SM] at hs
  have e:ah ((i:Int)+((b.length:Nat):Int))=((i+b.length:Nat):Int):=by rw [aV (by omega) (by omega)];omega
  rw [kY,dY,cond_false,e,if_pos (pB (by omega)),an,nW xM tC,aK (by omega)]
  refine hK _ (by simp [ho]) (hU.set _ xM tC) (fun j hj=>?_) ?_
  ·rw [getD_set_ne _ _ (by omega)];exact hz j (by omega)
  ·rw [m8 _ _ _ (by omega),hz _ (aG _),Int.sub_zero,cG a i hi,eD,gN c]
   rw [List.take_length] at hinv
   exact hinv
 | k+1,x,fuel,out,c,hx,hf,ho,hU,xM,tC,hz,hinv=>by
  obtain ⟨g,rfl⟩:∃ g,fuel=g+1:=⟨fuel - 1,by omega⟩
  simp only [SM] at hs
  have qj:x < b.length:=by omega
  have h1:=ha.getD i
  have h2:=hb.getD x
  have h3:=hU.getD (i+x)
  have e:ah ((i:Int)+(x:Int))=((i+x:Nat):Int):=by rw [aV (by omega) (by omega)];omega
  have h4:=F8 h1.1 h1.2 h2.1 h2.2
  rw [kY,dec_lt qj,cond_true,if_pos (pB qj),e,if_pos (pB (by omega))]
  simp only [an]
  rw [cD (n:=a.getD i 0) (by omega) (by omega),cD (n:=b.getD x 0) (by omega) (by omega),cD (n:=out.getD (i+x) 0) (by omega) (by omega),cD (n:=a.getD i 0 * b.getD x 0) (by omega) (by omega),
   cD (n:=a.getD i 0 * b.getD x 0+out.getD (i+x) 0) (by omega) (by omega),cD (n:=c+(a.getD i 0 * b.getD x 0+out.getD (i+x) 0)) (by omega) (by omega),tv,BN,aK (by omega)]
  generalize SY:c+(a.getD i 0 * b.getD x 0+out.getD (i+x) 0)=s
  refine Kq ha hb hi hs K R hK k (x+1) g _ _ (by omega) (by omega) (by simp [ho]) (hU.set _ (by omega) (by omega)) (by omega) (by omega) (fun j hj=>?_) ?_
  ·rw [getD_set_ne _ _ (by omega)];exact hz j hj
  ·rw [m8 _ _ _ (by omega),cG b x qj,show i+(x+1)=(i+x)+1 by omega,gP]
   have h5:s=s % 65536+65536 * (s / 65536):=by omega
   have h6:pw (i+x) * s=pw (i+x) * (s % 65536)+pw (i+x) * (65536 * (s / 65536)):=by rw [← iA,← h5]
   have h7:pw (i+x) * s=pw (i+x) * c+pw (i+x) * (a.getD i 0 * b.getD x 0)+pw (i+x) * out.getD (i+x) 0:=by rw [← SY,iA,iA];omega
   have h8:65536 * pw (i+x) * (s / 65536)=pw (i+x) * (65536 * (s / 65536)):=by rw [gN 65536,kM]
   have h9:(s % 65536 - out.getD (i+x) 0) * pw (i+x)=pw (i+x) * (s % 65536) - pw (i+x) * out.getD (i+x) 0:=by rw [Int.sub_mul,gN,gN (out.getD (i+x) 0)]
   have Yb:a.getD i 0 * pw i * (bD (b.take x)+b.getD x 0 * pw x)=a.getD i 0 * pw i * bD (b.take x)+pw (i+x) * (a.getD i 0 * b.getD x 0):=by
    rw [F6];grind
   omega
theorem Kr {N:Nat} {a b:List Int} (ha:U a) (hb:U b) (hs:SM (a.length+b.length)) (hN:a.length+b.length < N):∀ (k x fuel:Nat) (out:List Int),x+k=a.length→k < fuel→out.length=a.length+b.length→U out →
  (∀ j,x+b.length≤j→out.getD j 0=0)→bD out=bD (a.take x) * bD b→kZ N a b fuel out (x:Int)=some (lm (bD a * bD b).toNat)
 | 0,x,fuel,out,hx,hf,ho,hU,hz,hinv=>by
  obtain ⟨g,rfl⟩:∃ g,fuel=g+1:=⟨fuel - 1,by omega⟩
  have G6:x=a.length:=by omega
  subst G6
  simp only [SM] at hs
  rw [kZ,dY,cond_false,mj hU (by omega) (by omega),ct,hinv,List.take_length]
 | k+1,x,fuel,out,hx,hf,ho,hU,hz,hinv=>by
  obtain ⟨g,rfl⟩:∃ g,fuel=g+1:=⟨fuel - 1,by omega⟩
  have qj:x < a.length:=by omega
  rw [kZ,dec_lt qj,cond_true,if_pos (pB qj)]
  refine Kq ha hb qj hs _ _ (fun gu h1 h2 h3 h4=>?_) b.length 0 N out 0 (by omega) (by omega) ho hU (by omega) (by omega) hz (by rw [hinv];simp [bD])
  exact Kr ha hb hs hN k (x+1) g gu (by omega) (by omega) h1 h2 (fun j hj=>h3 j (by omega)) h4
theorem S4 {N:Nat} {a b:List Int} (ha:U a) (hb:U b) (hs:SM (a.length+b.length)) (hN:a.length+b.length < N):sE N a b=some (lm (bD a * bD b).toNat):=by
 unfold sE
 have G7:=hs
 simp only [SM] at G7
 have e:ah (((a.length:Nat):Int)+((b.length:Nat):Int))=((a.length+b.length:Nat):Int):=by rw [aV (by omega) (by omega)];omega
 rw [e,if_pos (by omega)]
 exact Kr ha hb hs hN a.length 0 N _ (by omega) (by omega) (by simp;omega) (U.replicate _) (fun j _=>ic _ j) (by rw [j7];simp [bD])
theorem uI (a b:Nat):((a:Int) * (b:Int)).toNat=a * b:=by rw [← Int.natCast_mul];rfl
theorem Qo {N a b:Nat} (hs:SM ((lm a).length+(lm b).length)) (hN:(lm a).length+(lm b).length < N):sE N (lm a) (lm b)=some (lm (a * b)):=by
 rw [S4 (ri a) (ri b) hs hN,iy,iy,uI]
theorem Ks {N:Nat} {a:List Int} {d:Int} (ha:U a) (OI:0 < d) (V5:d < 65536) (hs:SM a.length) (hN:a.length < N):∀ (k fuel:Nat) (q:List Int) (r:Int),k≤a.length→k < fuel→q.length=a.length→U q→0≤r→r < d →
  (∀ j,j < k→q.getD j 0=0)→pw k * bD (a.drop k)=bD q * d+r * pw k→∃ Q R:Int,0≤Q∧0≤R∧R < d∧bD a=Q * d+R∧kS N a d fuel q r ((k:Int) - 1)=some (lm Q.toNat,R)
 | 0,fuel,q,r,hk,hf,ho,hU,I4,Qp,hz,hinv=>by
  obtain ⟨g,rfl⟩:∃ g,fuel=g+1:=⟨fuel - 1,by omega⟩
  simp only [SM] at hs
  refine ⟨bD q,r,hU.oY,I4,Qp,by rw [ze] at hinv;simpa using hinv,?_⟩
  rw [kS]
  have e:decide ((((0:Nat):Int) - 1)≥0)=false:=rfl
  rw [e,cond_false,mj hU (by omega) (by omega),ct,nW I4 (by omega)]
 | k+1,fuel,q,r,hk,hf,ho,hU,I4,Qp,hz,hinv=>by
  obtain ⟨g,rfl⟩:∃ g,fuel=g+1:=⟨fuel - 1,by omega⟩
  simp only [SM] at hs
  have e:(((k+1:Nat):Int) - 1)=(k:Int):=by omega
  have h1:=ha.getD k
  have e0:decide ((k:Int)≥0)=true:=by simp
  rw [e,kS,e0,cond_true,if_pos (pB (by omega)),cD (n:=d) (by omega) (by omega),if_pos (by omega),if_pos (pB (by omega))]
  simp only [an]
  rw [cD (n:=a.getD k 0) (by omega) (by omega),F4 I4 (by omega),MU I4 (by omega) h1.1 h1.2,aV (by omega) (by omega)]
  have Rp:0≤r * 65536+a.getD k 0:=by omega
  have OZ:r * 65536+a.getD k 0 < d * 65536:=by omega
  generalize hn:r * 65536+a.getD k 0=n at Rp OZ ⊢
  rw [Int.tdiv_eq_ediv_of_nonneg Rp,Int.tmod_eq_emod_of_nonneg Rp]
  have E2:n / d < 65536:=Int.ediv_lt_of_lt_mul OI (by rw [gN];exact OZ)
  have Ed:0≤n / d:=Int.ediv_nonneg Rp (by omega)
  rw [cD Ed (by omega),nW Ed E2]
  refine Ks ha OI V5 hs hN k g _ _ (by omega) (by omega) (by simp [ho]) (hU.set _ Ed E2) (Int.emod_nonneg _ (by omega)) (Int.emod_lt_of_pos _ OI) (fun j hj=>?_) ?_
  ·rw [getD_set_ne _ _ (by omega)];exact hz j (by omega)
  ·rw [m8 _ _ _ (by omega),hz k (by omega),Int.sub_zero,nI a k (by omega)]
   have h2:=Int.mul_ediv_add_emod n d
   rw [gP] at hinv
   have h3:pw k * n=pw k * (d * (n / d))+pw k * (n % d):=by rw [← iA,h2]
   have h4:pw k * n=pw k * (r * 65536)+pw k * a.getD k 0:=by rw [← hn,iA]
   grind
theorem Qq {N a d:Nat} (OI:0 < d) (V5:d < 65536) (hs:SM (lm a).length) (hN:(lm a).length < N):uY N (lm a) (d:Int)=some (lm (a / d),((a % d:Nat):Int)):=by
 unfold uY
 have G7:=hs
 simp only [SM] at G7
 rw [if_pos (by omega),aV (by omega) (by omega)]
 obtain ⟨Q,R,h1,h2,h3,h4,h5⟩:=Ks (N:=N) (d:=(d:Int)) (ri a) (by omega) (by omega) hs hN (lm a).length N (List.replicate (lm a).length 0) 0 (aG _) hN (by simp) (U.replicate _) (by omega) (by omega) (fun j _=>ic _ j)
  (by rw [List.drop_length,j7];simp [bD])
 rw [h5]
 rw [iy] at h4
 obtain ⟨Q,rfl⟩:=Int.eq_ofNat_of_zero_le h1
 obtain ⟨R,rfl⟩:=Int.eq_ofNat_of_zero_le h2
 have h6:a=Q * d+R:=by exact_mod_cast h4
 have h7:R < d:=by omega
 have h8:a / d=Q:=by rw [h6,pL,Nat.mul_add_div OI,Nat.div_eq_of_lt h7];rfl
 have h9:a % d=R:=by rw [h6,pL,Nat.mul_add_mod,Nat.mod_eq_of_lt h7]
 rw [h8,h9];rfl
theorem F9 {N:Nat}:∀ (fuel n:Nat) (out:List Int),(lm n).length < fuel→out.length+(lm n).length < 1000→n < 18446744073709551616→kg N fuel (n:Int) out=some (out ++ lm n)
 | 0,n,out,h,_,_=>by omega
 | fuel+1,n,out,h,h2,h3=>by
  rw [kg]
  by_cases hn:n=0
  ·subst hn;rw [iG];simp
  ·have e:decide ((n:Int) > 0)=true:=by simp;omega
   rw [rH hn] at h h2
   simp only [yH] at h h2
   rw [e,cond_true,if_pos (by omega),Kl,tv]
   have e1:((n:Int) / 65536)=((n / 65536:Nat):Int):=by omega
   have e2:((n:Int) % 65536)=((n % 65536:Nat):Int):=by omega
   rw [e1,e2,F9 fuel (n / 65536) _ (by omega) (by simp;omega) (by omega),rH hn,List.append_assoc];rfl
theorem Qr {n:Nat} (h:n < 18446744073709551616):(lm n).length≤4:=jz.2 (by show (n:Int) < 65536 ^ 4;omega)
theorem AG {N n:Nat} (hN:4 < N) (h:n < 18446744073709551616):nm N (n:Int)=some (lm n):=by
 unfold nm
 have:=Qr h
 rw [F9 N n [] (by omega) (by simp;omega) h];rfl
theorem M1 {N:Nat} {a:List Int} (ha:U a) (hs:a.length≤4):∀ (k fuel:Nat) (r:Int),k≤a.length→k < fuel→0≤r→r < pw (4 - k)→bD (a.drop k)=r→lV N a fuel r ((k:Int) - 1)=some (bD a,true)
 | 0,fuel,r,hk,hf,I4,Qp,hinv=>by
  obtain ⟨g,rfl⟩:∃ g,fuel=g+1:=⟨fuel - 1,by omega⟩
  rw [lV]
  have e:decide ((((0:Nat):Int) - 1)≥0)=false:=rfl
  rw [e,cond_false,← hinv,List.drop_zero]
 | k+1,fuel,r,hk,hf,I4,Qp,hinv=>by
  obtain ⟨g,rfl⟩:∃ g,fuel=g+1:=⟨fuel - 1,by omega⟩
  have e:(((k+1:Nat):Int) - 1)=(k:Int):=by omega
  have h1:=ha.getD k
  have e0:decide ((k:Int)≥0)=true:=by simp
  have hp:pw (4 - k)=65536 * pw (4 - (k+1)):=by rw [← gP];congr 1;omega
  have hle:pw (4 - (k+1))≤281474976710656:=by
   have:k=0∨k=1∨k=2∨k=3:=by omega
   rcases this with rfl | rfl | rfl | rfl<;>decide
  rw [e,lV,e0,cond_true,if_pos (pB (by omega)),an,ij (n:=a.getD k 0) (by omega) (by omega),F5 I4 (by omega),I3 I4 (by omega) h1.1 h1.2,aV (by omega) (by omega)]
  refine M1 ha hs k g _ (by omega) (by omega) (by omega) (by omega) ?_
  rw [nI a k (by omega),hinv];omega
theorem M3 {N a:Nat} (hN:5 < N) (hs:SM (lm a).length):uX N (lm a)=some (if (lm a).length≤4 then ((a:Int),true) else (0,false)):=by
 unfold uX
 by_cases h:(lm a).length≤4
 ·rw [if_pos h]
  have e:decide ((((lm a).length:Nat):Int) > 4)=false:=by simp;omega
  rw [e,cond_false,aV (by omega) (by omega),M1 (ri a) h (lm a).length N 0 (aG _) (by omega) (by omega) (lr _) (by rw [List.drop_length];rfl),iy]
 ·rw [if_neg h]
  have e:decide ((((lm a).length:Nat):Int) > 4)=true:=by simp;omega
  rw [e];rfl
end Go.Den
namespace Go.Den
open Go.Ab
theorem Qs:∀ x:Fin 256,(match cA 0 ((x.val:Nat):Int) 0 with | some L=>decide (0≤L∧L≤8∧(x.val≠0→1≤L∧2 ^ (L.toNat - 1)≤x.val∧x.val < 2 ^ L.toNat)) | none=>false)=true:=by decide +kernel
theorem Qt:∀ x:Fin 256,(match cA 0 ((x.val:Nat):Int) 8 with | some L=>decide (8≤L∧L≤16∧(x.val≠0→9≤L∧2 ^ (L.toNat - 1 - 8)≤x.val∧x.val < 2 ^ (L.toNat - 8))) | none=>false)=true:=by decide +kernel
theorem Qu {N x:Nat} (h0:0 < x) (h1:x < 65536):∃ L:Nat,1≤L∧L≤16∧kT N (x:Int)=some (L:Int)∧2 ^ (L - 1)≤x∧x < 2 ^ L:=by
 unfold kT
 by_cases h:x < 256
 ·have e:decide ((x:Int)≥256)=false:=by simp;omega
  rw [e,cond_false]
  have:=Qs ⟨x,h⟩
  simp only at this
  show ∃ L:Nat,1≤L∧L≤16∧cA 0 (x:Int) 0=some (L:Int)∧2 ^ (L - 1)≤x∧x < 2 ^ L
  cases hr:cA 0 (x:Int) 0 with
  | none=>rw [hr] at this;cases this
  | some L =>
   rw [hr] at this
   obtain ⟨q1,q2,q3⟩:=qC this
   obtain ⟨q4,q5,q6⟩:=q3 (by omega)
   obtain ⟨L,rfl⟩:=Int.eq_ofNat_of_zero_le q1
   exact ⟨L,by omega,by omega,rfl,q5,q6⟩
 ·have e:decide ((x:Int)≥256)=true:=by simp;omega
  rw [e,cond_true]
  have e2:oU .u16 (x:Int) 8=((x / 256:Nat):Int):=by
   unfold oU
   have:(2:Int) ^ (min (8:Int).toNat IntKind.u16.bits)=256:=by decide
   rw [this,Int.fdiv_eq_ediv_of_nonneg _ (by decide)];omega
  rw [e2]
  have:=Qt ⟨x / 256,by omega⟩
  simp only at this
  have hJ:cA N ((x / 256:Nat):Int) 8=cA 0 ((x / 256:Nat):Int) 8:=rfl
  rw [hJ]
  cases hr:cA 0 ((x / 256:Nat):Int) 8 with
  | none=>rw [hr] at this;cases this
  | some L =>
   rw [hr] at this
   obtain ⟨q1,q2,q3⟩:=qC this
   obtain ⟨q4,q5,q6⟩:=q3 (by omega)
   obtain ⟨L,rfl⟩:=Int.eq_ofNat_of_zero_le (show 0≤L by omega)
   simp only [Int.toNat_natCast] at q5 q6
   refine ⟨L,by omega,by omega,rfl,?_,?_⟩
   ·have:2 ^ (L - 1 - 8+8)=2 ^ (L - 1 - 8) * 2 ^ 8:=Nat.pow_add _ _ _
    have h8:(2:Nat) ^ 8=256:=by decide
    have h9:L - 1 - 8+8=L - 1:=by omega
    rw [h8,h9] at this
    omega
   ·have:2 ^ (L - 8+8)=2 ^ (L - 8) * 2 ^ 8:=Nat.pow_add _ _ _
    have h8:(2:Nat) ^ 8=256:=by decide
    have h9:L - 8+8=L:=by omega
    rw [h8,h9] at this
    omega
theorem Xg {N x:Nat} (h0:0 < x) (h1:x < 65536):∃ s:Nat,s≤15∧eX N (x:Int)=some (s:Int)∧32768≤x * 2 ^ s∧x * 2 ^ s < 65536:=by
 obtain ⟨L,h2,h3,h4,h5,h6⟩:=Qu (N:=N) h0 h1
 refine ⟨16 - L,by omega,?_,?_,?_⟩
 ·unfold eX
  rw [h4,ct,aV (by omega) (by omega)];congr 1;omega
 ·have e:2 ^ (L - 1) * 2 ^ (16 - L)=32768:=by rw [← Nat.pow_add,show L - 1+(16 - L)=15 by omega]
  have:=dH (2 ^ (16 - L)) h5
  omega
 ·have e:2 ^ L * 2 ^ (16 - L)=65536:=by rw [← Nat.pow_add,show L+(16 - L)=16 by omega]
  have:=Nat.mul_lt_mul_of_pos_right h6 (Nat.two_pow_pos (16 - L))
  omega
theorem Vo {n:Int} {s:Nat} (h:0≤n) (h2:n < 65536) (hs:s≤15):gZ .u32 n (s:Int)=n * 2 ^ s∧0≤n * 2 ^ s∧n * 2 ^ s < 65536 * 2 ^ s∧n * 2 ^ s < 2147483648:=by
 have hp:(0:Int) < 2 ^ s:=Int.pow_pos (by decide)
 have xh:(2:Int) ^ s≤32768:=by
  have:=Nat.pow_le_pow_right (n:=2) (by decide) hs
  have e:((2 ^ s:Nat):Int)=(2:Int) ^ s:=by simp
  omega
 have h3:0≤n * 2 ^ s:=Int.mul_nonneg h (by omega)
 have h4:n * 2 ^ s < 65536 * 2 ^ s:=Int.mul_lt_mul_of_pos_right h2 hp
 refine ⟨?_,h3,h4,by omega⟩
 unfold gZ
 have:min ((s:Nat):Int).toNat IntKind.u32.bits=s:=by show min s 32=s;omega
 rw [this,cD h3 (by omega)]
theorem Vp {c a:Int} {s:Nat} (hs:s≤15) (xM:0≤c) (tC:c < 2 ^ s) (ha0:0≤a):sO .u16 c (a * 2 ^ s % 65536)=c+a * 2 ^ s % 65536∧c+a * 2 ^ s % 65536 < 65536:=by
 obtain ⟨c,rfl⟩:=Int.eq_ofNat_of_zero_le xM
 obtain ⟨a,rfl⟩:=Int.eq_ofNat_of_zero_le ha0
 have hc:c < 2 ^ s:=by
  have e:((2 ^ s:Nat):Int)=(2:Int) ^ s:=by simp
  omega
 have hp:2 ^ s≤32768:=Nat.pow_le_pow_right (n:=2) (by decide) hs
 have e1:(a:Int) * 2 ^ s % 65536=((a * 2 ^ s % 65536:Nat):Int):=by simp
 have e2:a * 2 ^ s % 65536=a % 2 ^ (16 - s) * 2 ^ s:=by
  have:65536=2 ^ (16 - s) * 2 ^ s:=by rw [← Nat.pow_add,show 16 - s+s=16 by omega]
  rw [this,Nat.mul_mod_mul_right]
 have e3:a % 2 ^ (16 - s) * 2 ^ s+2 ^ s≤65536:=by
  have h1:a % 2 ^ (16 - s)+1≤2 ^ (16 - s):=Nat.mod_lt _ (Nat.two_pow_pos _)
  have h2:=dH (2 ^ s) h1
  rw [← Nat.pow_add,show 16 - s+s=16 by omega,cz] at h2
  omega
 rw [e1,e2]
 generalize a % 2 ^ (16 - s)=m at *
 constructor
 ·unfold sO
  rw [show IntKind.u16.bits=16 from rfl,Qm _ _ (by omega) (by omega),Nat.or_comm,AF _ _ s hc,tv]
  omega
 ·omega
theorem Ga {N:Nat} {a:List Int} {s:Nat} (ha:U a) (hs:s≤15) (hS:SM a.length):∀ (k x fuel:Nat) (out:List Int),x+k=a.length→k < fuel→out.length=a.length+1→U out→out.getD x 0 < 2 ^ s→(∀ j,x < j→out.getD j 0=0) →
  bD out=bD (a.take x) * 2 ^ s→∃ o,jm N a (s:Int) fuel out (x:Int)=some o∧o.length=a.length+1∧U o∧bD o=bD a * 2 ^ s∧o.getD a.length 0 < 2 ^ s
 | 0,x,fuel,out,hx,hf,ho,hU,hc,hz,hinv=>by
  obtain ⟨g,rfl⟩:∃ g,fuel=g+1:=⟨fuel - 1,by omega⟩
  have G6:x=a.length:=by omega
  subst G6
  exact ⟨out,by rw [jm,dY,cond_false],ho,hU,by rw [hinv,List.take_length],hc⟩
 | k+1,x,fuel,out,hx,hf,ho,hU,hc,hz,hinv=>by
  obtain ⟨g,rfl⟩:∃ g,fuel=g+1:=⟨fuel - 1,by omega⟩
  simp only [SM] at hS
  have qj:x < a.length:=by omega
  have h1:=ha.getD x
  have h2:=hU.getD x
  obtain ⟨w1,w2,w3,w4⟩:=Vo h1.1 h1.2 hs
  obtain ⟨o1,o2⟩:=Vp hs h2.1 hc h1.1
  rw [jm,dec_lt qj,cond_true,if_pos (pB qj),if_pos (by omega),if_pos (pB (by omega)),aK (by omega)]
  simp only [an]
  rw [cD (n:=a.getD x 0) (by omega) (by omega),w1,tv,BN,tv,o1]
  rw [if_pos ⟨by omega,by simp;omega⟩]
  generalize hw:a.getD x 0 * 2 ^ s=w at *
  have hw5:w / 65536 < 2 ^ s:=by omega
  have hw6:w / 65536 % 65536=w / 65536:=by omega
  rw [hw6]
  have hU1:U (out.set x (out.getD x 0+w % 65536)):=hU.set x (by omega) o2
  refine Ga ha hs hS k (x+1) g _ (by omega) (by omega) (by simp [ho]) (hU1.set (x+1) (by omega) (by omega)) ?_ (fun j hj=>?_) ?_
  ·rw [Kp _ _ (by simp;omega)];exact hw5
  ·rw [getD_set_ne _ _ (by omega),getD_set_ne _ _ (by omega)];exact hz j (by omega)
  ·rw [m8 _ _ _ (by simp;omega),getD_set_ne _ _ (by omega),hz (x+1) (by omega),m8 _ _ _ (by omega),cG a x qj,hinv,gP,eD]
   have h3:w=w % 65536+65536 * (w / 65536):=by omega
   have h4:w * pw x=(w % 65536+65536 * (w / 65536)) * pw x:=by rw [← h3]
   have h5:a.getD x 0 * pw x * 2 ^ s=w * pw x:=by rw [← hw];grind
   grind
theorem Gb {N:Nat} {a:List Int} {s:Nat} (ha:U a) (hs:s≤15) (hS:SM a.length) (hN:a.length < N):∃ o,o9 N a (s:Int)=some o∧o.length=a.length+1∧U o∧bD o=bD a * 2 ^ s∧o.getD a.length 0 < 2 ^ s:=by
 unfold o9
 have Wc:=hS
 simp only [SM] at Wc
 have e:ah (((a.length:Nat):Int)+1)=((a.length+1:Nat):Int):=aK (by omega)
 rw [e,if_pos (by omega)]
 exact Ga ha hs hS a.length 0 N _ (by omega) hN (by simp) (U.replicate _) (by rw [ic];exact Int.pow_pos (by decide)) (fun j _=>ic _ j) (by rw [j7];simp [bD])
theorem qS (p w:List Int) (i:Nat):(p ++ w).getD (bA p.length i) 0=w.getD i 0:=by
 rw [df,fE,jH (by omega),fE];congr 2;omega
theorem I5 (p w:List Int) (i:Nat) (x:Int):(p ++ w).set (bA p.length i) x=p ++ w.set i x:=by
 rw [df,List.set_append_right _ _ (by omega)];congr 2;omega
theorem sH:∀ {l:List Int} (m:Nat),(∀ j,m≤j→l.getD j 0=0)→bD l=bD (l.take m)
 | [],m,_=>by simp
 | x :: l,0,h=>by
  have h0:x=0:=h 0 (aG _)
  have:=sH (l:=l) 0 fun j _=>h (j+1) (by omega)
  simp [bD] at this;simp [bD,h0,this]
 | x :: l,m+1,h=>by
  have:=sH (l:=l) m fun j hj=>h (j+1) (by omega)
  simp only [List.take_succ_cons,bD,this]
theorem Kt {l:List Int} (hU:U l) (m:Nat) (h:∀ j,m≤j→l.getD j 0=0):bD l < pw m:=by
 rw [sH m h]
 have h1:=(hU.take m).lt
 rw [oD] at h1
 by_cases hm:m≤l.length
 ·rwa [Nat.min_eq_left hm] at h1
 ·rw [Nat.min_eq_right (by omega)] at h1
  have:pw m=pw l.length * pw (m - l.length):=by rw [← F6];congr 1;omega
  have h2:=lr (m - l.length)
  have h3:=rX (show 1≤pw (m - l.length) by omega) (Int.le_of_lt (lr l.length))
  omega
theorem Gc {l:List Int} (hU:U l) (m:Nat) (h:bD l < pw m):∀ j,m≤j→l.getD j 0=0:=by
 intro j hj
 by_cases hl:j < l.length
 ·have h1:=qL l j (by omega)
  have h2:=nI l j hl
  have h3:=(hU.take j).oY
  have h4:=(hU.drop (j+1)).oY
  have h5:=hU.getD j
  have h6:pw m≤pw j:=by
   have:pw j=pw m * pw (j - m):=by rw [← F6];congr 1;omega
   have h2:=lr (j - m)
   have h3:=rX (show 1≤pw (j - m) by omega) (Int.le_of_lt (lr m))
   omega
  have h7:¬ 0 < bD (l.drop j):=fun h0=>by
   have:=rX (show 1≤bD (l.drop j) by omega) (Int.le_of_lt (lr j))
   omega
  omega
 ·exact tX (by omega)
theorem Ku {N:Nat} {p v:List Int} {q:Int} (hv:U v) (Ed:0≤q) (E2:q < 65536) (hS:SM v.length) (W:Int) :
  ∀ (k x fuel:Nat) (w:List Int) (c br:Int),x+k=v.length+1→k < fuel→v.length+1≤w.length→U w→0≤c→c < 65536→(x=v.length+1→c=0)→(br=0∨br = -1)→(∀ j,v.length+1≤j→w.getD j 0=0) →
   bD w=W - q * bD (v.take x)+pw x * (c - br)→∃ (w':List Int) (S5:Int),w'.length=w.length∧U w'∧(S5=0∨S5 = -1)∧(∀ j,v.length+1≤j→w'.getD j 0=0)∧bD w'=W - q * bD v - pw (v.length+1) * S5 ∧
    gf N p.length (v.length+1) v q fuel (p ++ w) c br (x:Int)=cond (decide (S5 < 0)) (jb N p.length (v.length+1) v q N (p ++ w') 0 0) (kU N (p ++ w') q)
 | 0,x,fuel,w,c,br,hx,hf,hw,hU,xM,tC,Jn,Yc,hz,hinv=>by
  obtain ⟨g,rfl⟩:∃ g,fuel=g+1:=⟨fuel - 1,by omega⟩
  have G6:x=v.length+1:=by omega
  subst G6
  simp only [SM] at hS
  rw [Jn rfl] at hinv
  refine ⟨w,br,rfl,hU,Yc,hz,?_,by rw [gf,aK (by omega),dY,cond_false]⟩
  rw [hinv,js (by omega),Int.zero_sub,Int.mul_neg];omega
 | k+1,x,fuel,w,c,br,hx,hf,hw,hU,xM,tC,Jn,Yc,hz,hinv=>by
  obtain ⟨g,rfl⟩:∃ g,fuel=g+1:=⟨fuel - 1,by omega⟩
  simp only [SM] at hS
  have qj:x < v.length+1:=by omega
  have h1:=hU.getD x
  have hlen:(p ++ w).length=p.length+w.length:=lY
  have step:∀ y:Int,0≤y→y < 4294967296→(x=v.length→y < 65536)→y=q * v.getD x 0+c →
    ∃ (w':List Int) (S5:Int),w'.length=w.length∧U w'∧(S5=0∨S5 = -1)∧(∀ j,v.length+1≤j→w'.getD j 0=0)∧bD w'=W - q * bD v - pw (v.length+1) * S5 ∧
    nM N p.length (v.length+1) v q (p ++ w) br (x:Int) (gf N p.length (v.length+1) v q g) y=cond (decide (S5 < 0)) (jb N p.length (v.length+1) v q N (p ++ w') 0 0) (kU N (p ++ w') q):=by
   intro y Ro hy1 GF hy
   unfold nM
   rw [if_pos (pB qj),if_pos (by omega)]
   simp only [an]
   rw [qS,Qn Ro (by omega),aV (n:=w.getD x 0) (by omega) (by omega),aV (n:=y % 65536) (by omega) (by omega),aV (n:=w.getD x 0 - y % 65536) (by omega) (by omega),
    aV (n:=w.getD x 0 - y % 65536+br) (by omega) (by omega),tv,Kl,N8,aK (by omega),I5]
   generalize hd:w.getD x 0 - y % 65536+br=d
   have V5:-65536≤d∧d < 65536:=by omega
   have:=Ku (N:=N) (p:=p) hv Ed E2 hS W k (x+1) g (w.set x (d % 65536)) (y / 65536) (d / 65536) (by omega) (by omega) (by simp;omega) (hU.set _ (by omega) (by omega)) (by omega) (by omega) (fun h=>by have:=GF (by omega);omega) (by omega) (fun j hj=>?_) ?_
   ·rwa [List.length_set] at this
   ·rw [getD_set_ne _ _ (by omega)];exact hz j hj
   ·rw [m8 _ _ _ (by omega),hinv,gP]
    have hV:bD (v.take (x+1))=bD (v.take x)+v.getD x 0 * pw x:=by
     by_cases h:x < v.length
     ·exact cG v x h
     ·rw [js (by omega),js (by omega),tX (by omega)];simp
    rw [hV]
    have h5:d=d % 65536+65536 * (d / 65536):=by omega
    have h6:y=y % 65536+65536 * (y / 65536):=by omega
    have h7:d * pw x=(d % 65536) * pw x+65536 * (d / 65536) * pw x:=by rw [← eD,← h5]
    have h8:y * pw x=(y % 65536) * pw x+65536 * (y / 65536) * pw x:=by rw [← eD,← h6]
    have h9:d * pw x=w.getD x 0 * pw x - (y % 65536) * pw x+br * pw x:=by rw [← hd,eD,Int.sub_mul]
    have Yb:y * pw x=q * (v.getD x 0 * pw x)+c * pw x:=by rw [hy,eD,kM]
    grind
  rw [gf,aK (by omega),dec_lt qj,cond_true]
  by_cases hxv:x < v.length
  ·have h2:=hv.getD x
   have h3:0≤q * v.getD x 0∧q * v.getD x 0≤4294836225:=F8 Ed E2 h2.1 h2.2
   rw [dec_lt hxv,cond_true,if_pos (pB hxv),an]
   refine step _ ?_ ?_ (fun h=>by omega) ?_<;>rw [ij (n:=v.getD x 0) (by omega) (by omega),ij (n:=q * v.getD x 0) (by omega) (by omega),ij (by omega) (by omega)]<;>omega
  ·have e:decide ((x:Int) < ((v.length:Nat):Int))=false:=by simp;omega
   rw [e,cond_false]
   refine step c xM (by omega) (fun _=>tC) ?_
   rw [tX (show v.length≤x by omega)];simp
theorem Kv {N:Nat} {p v:List Int} {q:Int} (hv:U v) (Ed:0 < q) (E2:q < 65536) (hS:SM v.length) (W:Int) (hV0:0≤W - (q - 1) * bD v) (hV1:W - (q - 1) * bD v < pw v.length) :
  ∀ (k x fuel:Nat) (w:List Int) (c:Int),x+k=v.length→k < fuel→v.length+1≤w.length→U w→0≤c→c≤1→(∀ j,v.length+1≤j→w.getD j 0=0) →
   bD w=W - q * bD v+pw (v.length+1)+bD (v.take x) - pw x * c→∃ w',jb N p.length (v.length+1) v q fuel (p ++ w) c (x:Int)=some (q - 1,p ++ w')∧w'.length=w.length∧U w'∧bD w'=W - (q - 1) * bD v
 | 0,x,fuel,w,c,hx,hf,hw,hU,xM,tC,hz,hinv=>by
  obtain ⟨g,rfl⟩:∃ g,fuel=g+1:=⟨fuel - 1,by omega⟩
  have G6:x=v.length:=by omega
  subst G6
  simp only [SM] at hS
  have h1:=hU.getD v.length
  have hlen:(p ++ w).length=p.length+w.length:=lY
  rw [List.take_length] at hinv
  rw [jb,dY,cond_false,if_pos (by omega),if_pos (by omega),qS,I5,nW xM (by omega),tv]
  unfold kU
  rw [ij (by omega) (by omega),nW (by omega) (by omega)]
  generalize hd:w.getD v.length 0+c=d
  have Ya:U (w.set v.length (d % 65536)):=hU.set _ (by omega) (by omega)
  refine ⟨_,rfl,by simp,Ya,?_⟩
  have h2:=m8 w v.length (d % 65536) (by omega)
  have h3:d % 65536=d - 65536 * (d / 65536):=by omega
  have h4:bD (w.set v.length (d % 65536))=W - (q - 1) * bD v+(1 - d / 65536) * pw (v.length+1):=by
   rw [h2,hinv,gP,h3,← hd];grind
  have h5:d / 65536=0∨d / 65536=1:=by omega
  rcases h5 with h5 | h5
  ·have h6:=Kt Ya (v.length+1) (fun j hj=>by rw [getD_set_ne _ _ (by omega)];exact hz j hj)
   rw [h4,h5] at h6;omega
  ·rw [h4,h5];simp
 | k+1,x,fuel,w,c,hx,hf,hw,hU,xM,tC,hz,hinv=>by
  obtain ⟨g,rfl⟩:∃ g,fuel=g+1:=⟨fuel - 1,by omega⟩
  simp only [SM] at hS
  have qj:x < v.length:=by omega
  have h1:=hU.getD x
  have h2:=hv.getD x
  have hlen:(p ++ w).length=p.length+w.length:=lY
  rw [jb,dec_lt qj,cond_true,if_pos (pB (by omega)),if_pos (by omega),if_pos (pB qj)]
  simp only [an]
  rw [qS,cD (n:=w.getD x 0) (by omega) (by omega),cD (n:=v.getD x 0) (by omega) (by omega),cD (n:=w.getD x 0+v.getD x 0) (by omega) (by omega),cD (n:=c+(w.getD x 0+v.getD x 0)) (by omega) (by omega),
   tv,BN,aK (by omega),I5]
  generalize hd:c+(w.getD x 0+v.getD x 0)=d
  obtain ⟨w',q1,q2,q3,q4⟩:=Kv (N:=N) (p:=p) hv Ed E2 hS W hV0 hV1 k (x+1) g (w.set x (d % 65536)) (d / 65536) (by omega) (by omega) (by simp;omega) (hU.set _ (by omega) (by omega)) (by omega) (by omega)
   (fun j hj=>by rw [getD_set_ne _ _ (by omega)];exact hz j hj) (by
    rw [m8 _ _ _ (by omega),hinv,cG v x qj,gP x]
    have h5:d=d % 65536+65536 * (d / 65536):=by omega
    have h7:d * pw x=(d % 65536) * pw x+65536 * (d / 65536) * pw x:=by rw [← eD,← h5]
    have h9:d * pw x=c * pw x+(w.getD x 0 * pw x+v.getD x 0 * pw x):=by rw [← hd,eD,eD]
    grind)
  exact ⟨w',q1,by simpa using q2,q3,q4⟩
end Go.Den
namespace Go.Den
open Go.Ab
structure OJ (v1 v2 w0 w1 w2 A V W:Int):Prop where
 A0:0 < A
 Yd:32768≤v1
 v1b:v1 < 65536
 v2a:0≤v2
 v2b:v2 < 65536
 w0a:0≤w0
 w0b:w0 < 65536
 w1a:0≤w1
 w1b:w1 < 65536
 w2a:0≤w2
 w2b:w2 < 65536
 V0:(v1 * 65536+v2) * A≤V
 V1:V < (v1 * 65536+v2+1) * A
 W0:((w0 * 65536+w1) * 65536+w2) * A≤W
 W1:W < ((w0 * 65536+w1) * 65536+w2+1) * A
 WV:W < 65536 * V
section
variable {v1 v2 w0 w1 w2 A V W:Int}
theorem OJ.Qv (t:OJ v1 v2 w0 w1 w2 A V W):65536 * A≤V:=by
 have:=t.V0;have:=t.A0;have:=t.Yd;have:=t.v2a
 have h:=kx (show (65536:Int)≤v1 * 65536+v2 by omega) (Int.le_of_lt t.A0)
 omega
theorem wM {x y A:Int} (hA:0 < A) (h:x * A < y * A):x < y:=Int.lt_of_mul_lt_mul_right h (Int.le_of_lt hA)
theorem OJ.aaj (t:OJ v1 v2 w0 w1 w2 A V W):w0≤v1:=by
 have h1:((w0 * 65536+w1) * 65536+w2) * A < (65536 * (v1 * 65536+v2+1)) * A:=by
  rw [kM 65536]
  have:=t.W0;have:=t.WV;have:=t.V1
  omega
 have h2:=wM t.A0 h1
 have:=t.w1a;have:=t.w2a;have:=t.v2b
 omega
theorem OJ.Xh (t:OJ v1 v2 w0 w1 w2 A V W) {q r Q:Int} (hq:q * v1+r=w0 * 65536+w1) (h:q * v2 > r * 65536+w2) (Ed:0≤q) (hQ:Q * V≤W):Q < q:=by
 rcases Int.lt_or_le Q q with h' | h'
 ·exact h'
 ·exfalso
  have hV:=t.Qv
  have hA:=t.A0
  have h1:q * V≤W:=Int.le_trans (kx h' (by omega)) hQ
  have h2:q * ((v1 * 65536+v2) * A)≤q * V:=rX t.V0 Ed
  have h3:(q * (v1 * 65536+v2)) * A < ((w0 * 65536+w1) * 65536+w2+1) * A:=by
   rw [kM];have:=t.W1;omega
  have h4:=wM hA h3
  rw [← hq] at h4
  have h5:q * (v1 * 65536+v2)=q * v1 * 65536+q * v2:=by rw [iA,← kM]
  rw [h5] at h4
  have h6:(q * v1+r) * 65536=q * v1 * 65536+r * 65536:=eD _ _ _
  omega
theorem OJ.Xi (t:OJ v1 v2 w0 w1 w2 A V W) {q r:Int} (hq:q * v1+r=w0 * 65536+w1) (Ed:0≤q) (hr:0≤r) (h:65536≤r∨(q≤65535∧q * v2≤r * 65536+w2)):q≤65535∧q * V < W+V:=by
 have hA:=t.A0
 have E2:q≤65535:=by
  rcases h with h | h
  ·rcases Int.lt_or_le 65535 q with h' | h'
   ·exfalso
    have h1:=kx (show 65536≤q by omega) (show 0≤v1 by have:=t.Yd;omega)
    have:=t.aaj;have:=t.w1b
    omega
   ·exact h'
  ·exact h.1
 refine ⟨E2,?_⟩
 have h2:q * v2≤r * 65536+w2:=by
  rcases h with h | h
  ·have h1:q * v2≤65535 * 65535:=Int.mul_le_mul E2 (by have:=t.v2b;omega) t.v2a (by omega)
   have:=t.w2a
   omega
  ·exact h.2
 -- q V < (q (v1 B + v2) + q) A
 have h3:q * V≤q * ((v1 * 65536+v2+1) * A):=rX (Int.le_of_lt t.V1) Ed
 have h4:q * ((v1 * 65536+v2+1) * A)=(q * v1 * 65536+q * v2+q) * A:=by
  rw [← kM];congr 1
  rw [iA,iA,Int.mul_one,← kM]
 have h5:(q * v1 * 65536+q * v2+q) * A≤(((w0 * 65536+w1) * 65536+w2)+65535) * A:=by
  refine kx ?_ (Int.le_of_lt hA)
  rw [← hq]
  have:(q * v1+r) * 65536=q * v1 * 65536+r * 65536:=eD _ _ _
  omega
 have h6:(((w0 * 65536+w1) * 65536+w2)+65535) * A=((w0 * 65536+w1) * 65536+w2) * A+65535 * A:=eD _ _ _
 have:=t.W0
 have:=t.Qv
 omega
theorem OJ.first (t:OJ v1 v2 w0 w1 w2 A V W) {Q:Int} (Ub:0≤Q) (hQ:Q * V≤W):Q≤(w0 * 65536+w1) / v1:=by
 rw [Int.le_ediv_iff_mul_le (by have:=t.Yd;omega)]
 have h1:Q * ((v1 * 65536+v2) * A)≤Q * V:=rX t.V0 Ub
 have h2:(Q * (v1 * 65536+v2)) * A < ((w0 * 65536+w1) * 65536+w2+1) * A:=by rw [kM];have:=t.W1;omega
 have h3:=wM t.A0 h2
 have h4:Q * (v1 * 65536+v2)=Q * v1 * 65536+Q * v2:=by rw [iA,← kM]
 have h5:0≤Q * v2:=Int.mul_nonneg Ub t.v2a
 have:=t.w2b
 omega
end
theorem Qw {N:Nat} {p v w:List Int} (hv:U v) (hw:U w) (hn:2≤v.length) (Xj:v.length+1≤w.length) (hS:SM (p.length+w.length)) {A V W:Int}
  (t:OJ (v.getD (v.length - 1) 0) (v.getD (v.length - 2) 0) (w.getD v.length 0) (w.getD (v.length - 1) 0) (w.getD (v.length - 2) 0) A V W) {Q:Int} (Ub:0≤Q) (Ye:Q * V≤W) (hQ2:W < Q * V+V) :
  ∀ (k fuel:Nat) (q r:Int),k < fuel→65536≤r+32768 * (k:Int)→0≤r→r < 131072→0≤q→q < 4294967296→Q≤q→q * v.getD (v.length - 1) 0+r=w.getD v.length 0 * 65536+w.getD (v.length - 1) 0 →
   ∃ q',Q≤q'∧q'≤Q+1∧q'≤65535∧kV N p.length (v.length+1) v (p ++ w) fuel q r=gf N p.length (v.length+1) v q' N (p ++ w) 0 0 0:=by
 intro k
 simp only [SM] at hS
 have hlen:(p ++ w).length=p.length+w.length:=lY
 have e2:ah (((v.length:Nat):Int) - 2)=((v.length - 2:Nat):Int):=by rw [aV (by omega) (by omega)];omega
 have e1:ah (((v.length:Nat):Int) - 1)=((v.length - 1:Nat):Int):=by rw [aV (by omega) (by omega)];omega
 have V5:=hv.getD (v.length - 1)
 have S6:=hv.getD (v.length - 2)
 have JD:=hw.getD (v.length - 2)
 induction k with
 | zero =>
  intro fuel q r hf hk I4 Qp Ed E2 hQq hinv
  obtain ⟨g,rfl⟩:∃ g,fuel=g+1:=⟨fuel - 1,by omega⟩
  have hr:65536≤r:=by simpa using hk
  obtain ⟨n1,n2⟩:=t.Xi hinv Ed I4 (.inl hr)
  have dW:q≤Q+1:=by
   rcases Int.lt_or_le (Q+1) q with h | h
   ·exfalso
    have:=kx (show Q+2≤q by omega) (show 0≤V by have:=t.Qv;have:=t.A0;omega)
    rw [eD] at this;omega
   ·exact h
  have ed:decide (r < 65536)=false:=by simp;omega
  refine ⟨q,hQq,dW,n1,?_⟩
  rw [kV]
  simp only [ed,Bool.false_and,cond_false]
  rw [if_pos (fun h=>by cases h),if_pos (fun h=>by cases h),if_pos (fun h=>by cases h)]
 | succ k ih =>
  intro fuel q r hf hk I4 Qp Ed E2 hQq hinv
  obtain ⟨g,rfl⟩:∃ g,fuel=g+1:=⟨fuel - 1,by omega⟩
  rw [kV,e1,e2,if_pos (fun _=>⟨by omega,by omega⟩),if_pos (fun _=>⟨by omega,by omega⟩),if_pos (fun _=>by omega)]
  rw [an,an,qS,if_pos ⟨by omega,by omega⟩,ij (n:=v.getD (v.length - 2) 0) (by omega) (by omega),ij (n:=w.getD (v.length - 2) 0) (by omega) (by omega),ij (n:=v.getD (v.length - 1) 0) (by omega) (by omega)]
  have xC:0≤q * v.getD (v.length - 2) 0:=Int.mul_nonneg Ed S6.1
  have xh:q * v.getD (v.length - 2) 0≤4294967295 * 65535:=Int.mul_le_mul (by omega) (by omega) S6.1 (by omega)
  rw [ij xC (by omega),F5 I4 (by omega),I3 I4 (by omega) JD.1 JD.2]
  have hV:=t.Qv
  have hA:=t.A0
  by_cases hex:65536≤r∨(q≤65535∧q * v.getD (v.length - 2) 0≤r * 65536+w.getD (v.length - 2) 0)
  ·obtain ⟨n1,n2⟩:=t.Xi hinv Ed I4 hex
   have dW:q≤Q+1:=by
    rcases Int.lt_or_le (Q+1) q with h | h
    ·exfalso
     have:=kx (show Q+2≤q by omega) (show 0≤V by omega)
     rw [eD] at this;omega
    ·exact h
   have hc:cond (decide (r < 65536)) (cond (decide (q > 65535)) true (decide (q * v.getD (v.length - 2) 0 > r * 65536+w.getD (v.length - 2) 0))) false=false:=by
    rcases hex with h | ⟨h1,h2⟩
    ·rw [decide_eq_false (show ¬ r < 65536 by omega)];rfl
    ·rw [decide_eq_false (show ¬ q > 65535 by omega),cond_false,decide_eq_false (show ¬ q * v.getD (v.length - 2) 0 > r * 65536+w.getD (v.length - 2) 0 by omega)]
     cases decide (r < 65536)<;>rfl
   exact ⟨q,hQq,dW,n1,by rw [hc,cond_false]⟩
  ·have eJ:r < 65536:=by omega
   have Yf:Q < q:=by
    by_cases h65:65535 < q
    ·rcases Int.lt_or_le Q q with h | h
     ·exact h
     ·exfalso
      have:=kx (show 65536≤Q by omega) (show 0≤V by omega)
      have:=t.WV
      omega
    ·exact t.Xh hinv (by omega) Ed Ye
   have hc:cond (decide (r < 65536)) (cond (decide (q > 65535)) true (decide (q * v.getD (v.length - 2) 0 > r * 65536+w.getD (v.length - 2) 0))) false=true:=by
    rw [decide_eq_true eJ,cond_true]
    by_cases h65:65535 < q
    ·rw [decide_eq_true (show q > 65535 by omega)];rfl
    ·rw [decide_eq_false (show ¬ q > 65535 by omega),cond_false,decide_eq_true];omega
   have GH:=t.Yd
   rw [hc,cond_true,ij (n:=q - 1) (by omega) (by omega),ij (by omega) (by omega)]
   refine ih g _ _ (by omega) (by omega) (by omega) (by omega) (by omega) (by omega) (by omega) ?_
   rw [Int.sub_mul];omega
theorem Qx {N:Nat} {p v w:List Int} (hv:U v) (hw:U w) (hn:2≤v.length) (Xj:v.length+1≤w.length) (hS:SM (p.length+w.length)) (hN:v.length+3 < N) (hb:32768≤v.getD (v.length - 1) 0) (hz:∀ j,v.length+1≤j→w.getD j 0=0)
  (gS:bD w < 65536 * bD v):∃ Q w',uZ N p.length (v.length+1) v (p ++ w)=some (Q,p ++ w')∧w'.length=w.length∧U w'∧0≤Q∧Q < 65536∧bD w'=bD w - Q * bD v∧bD w' < bD v:=by
 have Wc:=hS
 simp only [SM] at Wc
 have hlen:(p ++ w).length=p.length+w.length:=lY
 have e1:ah (((v.length:Nat):Int) - 1)=((v.length - 1:Nat):Int):=by rw [aV (by omega) (by omega)];omega
 obtain ⟨n,Pk⟩:∃ n,v.length=n+2:=⟨v.length - 2,by omega⟩
 have hA:=lr n
 -- the top digits
 have Dy:bD v=bD (v.take n)+pw n * (v.getD n 0+65536 * v.getD (n+1) 0):=by
  rw [qL v n (by omega),nI v n (by omega),nI v (n+1) (by omega),List.drop_eq_nil_of_le (by omega)];simp [bD]
 have Yg:bD w=bD (w.take n)+pw n * (w.getD n 0+65536 * (w.getD (n+1) 0+65536 * w.getD (n+2) 0)):=by
  have h3:bD (w.drop (n+3))=0:=by
   have:=sH (l:=w.drop (n+3)) 0 fun j _=>by
    have:=hz (n+3+j) (by omega)
    rw [fE] at this ⊢
    rw [oE];exact this
   simpa [bD] using this
  rw [qL w n (by omega),nI w n (by omega),nI w (n+1) (by omega),nI w (n+2) (by omega),h3];simp
 have WO:=(hv.take n).lt
 have ac1:=(hv.take n).oY
 have hwt:=(hw.take n).lt
 have ac3:=(hw.take n).oY
 rw [oD,Nat.min_eq_left (by omega)] at WO hwt
 have d1:=hv.getD (n+1)
 have d2:=hv.getD n
 have u0:=hw.getD (n+2)
 have u1:=hw.getD (n+1)
 have u2:=hw.getD n
 have tN:32768≤v.getD (n+1) 0:=by rw [Pk] at hb;exact hb
 have t:OJ (v.getD (v.length - 1) 0) (v.getD (v.length - 2) 0) (w.getD v.length 0) (w.getD (v.length - 1) 0) (w.getD (v.length - 2) 0) (pw n) (bD v) (bD w):=by
  have x1:v.length - 1=n+1:=by omega
  have x2:v.length - 2=n:=by omega
  rw [x1,x2,Pk]
  refine ⟨hA,tN,d1.2,d2.1,d2.2,u0.1,u0.2,u1.1,u1.2,u2.1,u2.2,?_,?_,?_,?_,gS⟩
  ·rw [Dy];grind
  ·rw [Dy];grind
  ·rw [Yg];grind
  ·rw [Yg];grind
 have hVp:0 < bD v:=by have:=t.Qv;omega
 obtain ⟨Q,Qy⟩:∃ Q,Q=bD w / bD v:=⟨_,rfl⟩
 have Ub:0≤Q:=by rw [Qy];exact Int.ediv_nonneg hw.oY (by omega)
 have Ye:Q * bD v≤bD w:=by rw [Qy];exact Int.ediv_mul_le _ (by omega)
 have hQ2:bD w < Q * bD v+bD v:=by
  have:=Int.lt_ediv_add_one_mul_self (bD w) hVp
  rw [Qy];rw [eD] at this;omega
 have hQ3:Q < 65536:=by
  rcases Int.lt_or_le Q 65536 with h | h
  ·exact h
  ·exfalso;have:=kx h (Int.le_of_lt hVp);omega
 have ac5:bD v < pw v.length:=hv.lt
 have hK:∀ q,Q≤q→q≤Q+1→q≤65535→∃ w',gf N p.length (v.length+1) v q N (p ++ w) 0 0 0=some (Q,p ++ w')∧w'.length=w.length∧U w'∧bD w'=bD w - Q * bD v:=by
  intro q Ed E2 dW
  obtain ⟨w',br,q1,q2,q3,q4,q5,q6⟩:=Ku (N:=N) (p:=p) hv (show 0≤q by omega) (show q < 65536 by omega) (by simp only [SM];omega) (bD w) (v.length+1) 0 N w 0 0 (by omega) (by omega) Xj hw (by omega) (by omega) (fun h=>rfl) (.inl rfl) hz
   (by rw [List.take_zero];simp [bD])
  have h1:=q2.oY
  have h2:=Kt q2 _ q4
  have hpv:pw (v.length+1)=65536 * pw v.length:=gP _
  rw [show ((0:Nat):Int)=0 from rfl] at q6
  rw [q6]
  rcases q3 with rfl | rfl
  ·have Yf:q=Q:=by
    rcases Int.lt_or_le Q q with h | h
    ·exfalso
     have:=kx (show Q+1≤q by omega) (Int.le_of_lt hVp)
     rw [eD] at this
     simp at q5
     omega
    ·omega
   subst Yf
   refine ⟨w',?_,q1,q2,by simpa using q5⟩
   rw [decide_eq_false (by decide),cond_false]
   unfold kU
   rw [nW Ub (by omega)]
  ·have Yf:q=Q+1:=by
    rcases Int.lt_or_le Q q with h | h
    ·omega
    ·exfalso
     have:q=Q:=by omega
     subst this
     rw [Int.mul_neg,Int.mul_one] at q5
     omega
   subst Yf
   rw [decide_eq_true (by decide),cond_true]
   have hQV:(Q+1 - 1) * bD v=Q * bD v:=by rw [Int.add_sub_cancel]
   obtain ⟨w2,r1,r2,r3,r4⟩:=Kv (N:=N) (p:=p) hv (show 0 < Q+1 by omega) (show Q+1 < 65536 by omega) (by simp only [SM];omega) (bD w) (by rw [hQV];omega) (by rw [hQV];omega) v.length 0 N w' 0 (by omega) (by omega) (by omega) q2 (by omega) (by omega) q4
    (by rw [q5,List.take_zero];simp [bD])
   rw [hQV] at r4
   refine ⟨w2,?_,by omega,r3,r4⟩
   rw [show ((0:Nat):Int)=0 from rfl] at r1
   rw [r1,Int.add_sub_cancel]
 unfold uZ
 rw [e1,if_pos ⟨by omega,by omega⟩,if_pos (by omega),if_pos ⟨by omega,by omega⟩,if_pos ⟨by omega,by omega⟩,an]
 have b1:32768≤v.getD (v.length - 1) 0:=hb
 have b2:=hv.getD (v.length - 1)
 have c1:=hw.getD v.length
 have c2:=hw.getD (v.length - 1)
 rw [ij (n:=v.getD (v.length - 1) 0) (by omega) (by omega),if_pos (by omega),qS,qS,ij (n:=w.getD v.length 0) (by omega) (by omega),ij (n:=w.getD (v.length - 1) 0) (by omega) (by omega),F5 (by omega) (by omega),I3 (by omega) (by omega) (by omega) (by omega)]
 have Yh:0≤w.getD v.length 0 * 65536+w.getD (v.length - 1) 0:=by omega
 have hT1:w.getD v.length 0 * 65536+w.getD (v.length - 1) 0 < 4294967296:=by omega
 rw [Int.tdiv_eq_ediv_of_nonneg Yh,Int.tmod_eq_emod_of_nonneg Yh]
 have tO:=Int.emod_nonneg (w.getD v.length 0 * 65536+w.getD (v.length - 1) 0) (show v.getD (v.length - 1) 0≠0 by omega)
 have K0:=Int.emod_lt_of_pos (w.getD v.length 0 * 65536+w.getD (v.length - 1) 0) (show 0 < v.getD (v.length - 1) 0 by omega)
 have OI:=Int.ediv_nonneg Yh (show 0≤v.getD (v.length - 1) 0 by omega)
 have hda:=Int.mul_ediv_add_emod (w.getD v.length 0 * 65536+w.getD (v.length - 1) 0) (v.getD (v.length - 1) 0)
 have hdl:(w.getD v.length 0 * 65536+w.getD (v.length - 1) 0) / v.getD (v.length - 1) 0≤w.getD v.length 0 * 65536+w.getD (v.length - 1) 0:=Int.ediv_le_self _ Yh
 rw [ij OI (by omega)]
 obtain ⟨q,h1,h2,h3,h4⟩:=Qw (N:=N) (p:=p) hv hw hn Xj hS t Ub Ye hQ2 2 N ((w.getD v.length 0 * 65536+w.getD (v.length - 1) 0) / v.getD (v.length - 1) 0) ((w.getD v.length 0 * 65536+w.getD (v.length - 1) 0) % v.getD (v.length - 1) 0)
  (by omega) (by omega) tO (by omega) OI (by omega) (t.first Ub Ye) (by rw [gN];exact hda)
 rw [h4]
 obtain ⟨w',k1,k2,k3,k4⟩:=hK q h1 h2 h3
 exact ⟨Q,w',k1,k2,k3,Ub,hQ3,k4,by omega⟩
end Go.Den
namespace Go.Den
open Go.Ab
theorem Qz {a b:Int} (ha:0≤a) (Rr:a < 65536) (hb:0≤b) (o5:b < 65536):sO .u32 b (a * 65536)=a * 65536+b:=by
 have h:=MU ha Rr hb o5
 unfold sO at h ⊢
 rw [BitVec.or_comm];exact h
theorem Vq {n:Int} {s:Nat} (hs:s≤15):oU .u32 n (s:Int)=n / 2 ^ s:=by
 unfold oU
 have:min ((s:Nat):Int).toNat IntKind.u32.bits=s:=by show min s 32=s;omega
 rw [this,Int.fdiv_eq_ediv_of_nonneg _ (Int.le_of_lt (Int.pow_pos (by decide)))]
theorem HT {N:Nat} {b q u:List Int} {s:Nat} (hs:s≤15) (hU:U u) (hb:b.length+1≤u.length) (hS:SM u.length) (hz:u.getD b.length 0=0) (h0:u.getD 0 0 % 2 ^ s=0) (hq:U q) (hqN:q.length < N) (hqS:SM q.length) (hN:b.length < N) :
  ∀ (k x fuel:Nat) (r:List Int),x+k=b.length→k < fuel→r.length=b.length→U r→(∀ j,x≤j→r.getD j 0=0)→2 ^ s * bD r=bD (u.take x)+u.getD x 0 % 2 ^ s * pw x →
   ∃ R:List Int,jS N b (s:Int) q u fuel r (x:Int)=some (lm (bD q).toNat,lm (bD R).toNat)∧U R∧2 ^ s * bD R=bD (u.take b.length)
 | 0,x,fuel,r,hx,hf,hr,Yi,hzr,hinv=>by
  obtain ⟨g,rfl⟩:∃ g,fuel=g+1:=⟨fuel - 1,by omega⟩
  have G6:x=b.length:=by omega
  subst G6
  simp only [SM] at hS hqS
  have hp:(2:Int) ^ s≠0:=Int.ne_of_gt (Int.pow_pos (by decide))
  refine ⟨r,?_,Yi,?_⟩
  ·rw [jS,Nat.sub_zero,dY,cond_false,mj hq hqN (by omega),ct,mj Yi (by omega) (by omega),ct]
  ·rw [hinv,hz];simp
 | k+1,x,fuel,r,hx,hf,hr,Yi,hzr,hinv=>by
  obtain ⟨g,rfl⟩:∃ g,fuel=g+1:=⟨fuel - 1,by omega⟩
  simp only [SM] at hS
  have qj:x < b.length:=by omega
  have h1:=hU.getD x
  have h2:=hU.getD (x+1)
  rw [jS,Nat.sub_zero,dec_lt qj,cond_true,if_pos (pB (by omega)),aK (by omega),if_pos (pB (by omega)),if_pos (by omega),if_pos (pB (by omega))]
  simp only [an]
  rw [cD (n:=u.getD x 0) (by omega) (by omega),cD (n:=u.getD (x+1) 0) (by omega) (by omega),F4 h2.1 h2.2,Qz h2.1 h2.2 h1.1 h1.2,Vq hs,tv]
  generalize hae:u.getD x 0=a at *
  generalize HG:u.getD (x+1) 0=a' at *
  -- 65536 = P c
  obtain ⟨P,hP⟩:∃ P:Int,P=2 ^ s:=⟨_,rfl⟩
  obtain ⟨c,hc⟩:∃ c:Int,c=2 ^ (16 - s):=⟨_,rfl⟩
  have Uc:(65536:Int)=P * c:=by rw [hP,hc,← Int.pow_add,show s+(16 - s)=16 by omega];decide
  have hP0:0 < P:=by rw [hP];exact Int.pow_pos (by decide)
  have xM:0 < c:=by rw [hc];exact Int.pow_pos (by decide)
  rw [← hP] at hinv ⊢
  have e1:(a' * 65536+a) / P=a' * c+a / P:=by
   rw [Uc,show a' * (P * c)+a=a+(a' * c) * P by rw [gN P c,← kM];omega,Int.add_mul_ediv_right _ _ (by omega)];omega
  have e2:a'=P * (a' / P)+a' % P:=(Int.mul_ediv_add_emod a' P).symm
  have l0:=Int.emod_nonneg a' (show P≠0 by omega)
  have l1:=Int.emod_lt_of_pos a' hP0
  have m0:0≤a / P:=Int.ediv_nonneg h1.1 (by omega)
  have m1:a / P < c:=Int.ediv_lt_of_lt_mul hP0 (by rw [gN,← Uc];exact h1.2)
  have e3:(a' * 65536+a) / P % 65536=a' % P * c+a / P:=by
   rw [e1]
   have h3:a' * c=(a' / P) * 65536+a' % P * c:=by
    have:a' * c=(P * (a' / P)+a' % P) * c:=by rw [← e2]
    rw [this,eD,Uc];grind
   have h4:a' % P * c+a / P < 65536:=by
    have:=kx (show a' % P+1≤P by omega) (Int.le_of_lt xM)
    rw [eD,← Uc] at this;omega
   have h5:0≤a' % P * c:=Int.mul_nonneg l0 (Int.le_of_lt xM)
   rw [h3];omega
  rw [e3]
  have h4:a' % P * c+a / P < 65536:=by
   have:=kx (show a' % P+1≤P by omega) (Int.le_of_lt xM)
   rw [eD,← Uc] at this;omega
  have h5:0≤a' % P * c:=Int.mul_nonneg l0 (Int.le_of_lt xM)
  have:=HT (N:=N) (s:=s) hs hU hb (by simp only [SM];omega) hz h0 hq hqN hqS hN k (x+1) g (r.set x (a' % P * c+a / P)) (by omega) (by omega) (by simp [hr]) (Yi.set _ (by omega) h4) (fun j hj=>by rw [getD_set_ne _ _ (by omega)];exact hzr j (by omega))
   (by
    rw [← hP,m8 _ _ _ (by omega),hzr x (aG _),cG u x (by omega),Int.sub_zero,HG,gP,iA,hinv]
    have e4:a=P * (a / P)+a % P:=(Int.mul_ediv_add_emod a P).symm
    rw [hae]
    have e6:P * ((a' % P * c+a / P) * pw x)=a' % P * (P * c) * pw x+P * (a / P) * pw x:=by grind
    rw [e6,← Uc]
    grind)
  rw [← hP] at this
  exact this
theorem Gd {l:List Int} (hU:U l) (n:Nat) (h:bD l < pw n):bD (l.take n)=bD l:=(sH n (Gc hU n h)).symm
theorem HU {N:Nat} {b o2:List Int} {s:Nat} (hs:s≤15) {v:List Int} (hv:v=(o2.take b.length).drop 0) (Vr:U v) (Mm:v.length=b.length) (hn:2≤b.length) (hb:32768≤v.getD (b.length - 1) 0) (cZ:b.length≤o2.length)
  {Lu:Nat} (hLu:b.length+1≤Lu) (hS:SM Lu) (hN:Lu+3 < N) {A B:Int} (hA:0≤A) (hB:0 < B) (hV:bD v=B * 2 ^ s) :
  ∀ (k fuel:Nat) (q u:List Int),k≤Lu - b.length→k < fuel→u.length=Lu→U u→q.length=Lu - b.length→U q→(∀ j,j < k→q.getD j 0=0)→bD (u.drop k) < bD v→A * 2 ^ s=bD q * bD v+bD u →
   jT N b (s:Int) o2 fuel q u ((k:Int) - 1)=some (lm (A / B).toNat,lm (A % B).toNat)
 | 0,fuel,q,u,hk,hf,hu,hU,hq,hqU,hqz,gS,hinv=>by
  obtain ⟨g,rfl⟩:∃ g,fuel=g+1:=⟨fuel - 1,by omega⟩
  simp only [SM] at hS
  have e:decide ((((0:Nat):Int) - 1)≥0)=false:=rfl
  rw [jT,e,cond_false,Nat.sub_zero,if_pos (by omega)]
  rw [List.drop_zero] at gS
  have hp:(0:Int) < 2 ^ s:=Int.pow_pos (by decide)
  have hvp:bD v < pw b.length:=by rw [← Mm];exact Vr.lt
  have hz:=Gc hU b.length (by omega)
  -- nvl u is a multiple of 2^s
  have hR:bD u=(A - bD q * B) * 2 ^ s:=by rw [Int.sub_mul,hinv,hV];grind
  have h0:u.getD 0 0 % 2 ^ s=0:=by
   have h1:=nI u 0 (by omega)
   rw [List.drop_zero] at h1
   obtain ⟨c,hc⟩:∃ c:Int,c=2 ^ (16 - s):=⟨_,rfl⟩
   have Uc:(65536:Int)=2 ^ s * c:=by rw [hc,← Int.pow_add,show s+(16 - s)=16 by omega];decide
   have h2:u.getD 0 0=(A - bD q * B - c * bD (u.drop (0+1))) * 2 ^ s:=by
    have:u.getD 0 0=bD u - 65536 * bD (u.drop (0+1)):=by omega
    rw [this,hR,Uc];grind
   rw [h2];exact Int.mul_emod_left _ _
  obtain ⟨R,r1,r2,r3⟩:=HT (N:=N) (b:=b) (q:=q) hs hU (by omega) (by simp only [SM];omega) (hz _ (aG _)) h0 hqU (by omega) (by simp only [SM];omega) (by omega) b.length 0 N (List.replicate b.length 0) (by omega) (by omega) (by simp) (U.replicate _) (fun j _=>ic _ j)
   (by rw [j7,h0];simp [bD])
  rw [show ((0:Nat):Int)=0 from rfl] at r1
  rw [r1]
  rw [← sH b.length hz,hR,gN] at r3
  have r4:bD R=A - bD q * B:=Int.eq_of_mul_eq_mul_right (Int.ne_of_gt hp) r3
  have r5:=r2.oY
  have r6:bD R < B:=by
   refine wM hp ?_
   rw [r4,← hR,← hV];exact gS
  have E2:A / B=bD q:=by
   rw [show A=bD R+bD q * B by omega,Int.add_mul_ediv_right _ _ (by omega),Int.ediv_eq_zero_of_lt r5 r6];omega
  have dW:A % B=bD R:=by
   rw [show A=bD R+bD q * B by omega,Int.add_mul_emod_self_right,Int.emod_eq_of_lt r5 r6]
  rw [E2,dW]
 | k+1,fuel,q,u,hk,hf,hu,hU,hq,hqU,hqz,gS,hinv=>by
  obtain ⟨g,rfl⟩:∃ g,fuel=g+1:=⟨fuel - 1,by omega⟩
  simp only [SM] at hS
  have e:(((k+1:Nat):Int) - 1)=(k:Int):=by omega
  have e0:decide ((k:Int)≥0)=true:=by simp
  have e1:ah ((ah ((k:Int)+((b.length:Nat):Int)))+1)=((k+b.length+1:Nat):Int):=by rw [aV (n:=(k:Int)+((b.length:Nat):Int)) (by omega) (by omega),aV (by omega) (by omega)];omega
  rw [e,jT,e0,cond_true,Nat.sub_zero,e1]
  simp only [an]
  rw [if_pos ⟨by omega,by omega⟩,if_pos (by omega),if_pos (by omega),if_pos ⟨Nat.zero_le _,cZ⟩,← hv]
  have hp:u.take k ++ u.drop k=u:=List.take_append_drop _ _
  have Dw:(u.take k).length=k:=by rw [oD];omega
  have Xj:(u.drop k).length=Lu - k:=by rw [List.length_drop,hu]
  have hd:=nI u k (by omega)
  have NA:=hU.getD k
  have hvp:bD v < pw b.length:=by rw [← Mm];exact Vr.lt
  have hw1:bD (u.drop k) < 65536 * bD v:=by omega
  have Yg:bD (u.drop k) < pw (v.length+1):=by rw [gP,Mm];omega
  obtain ⟨Q,w',d1,d2,d3,d4,d5,d6,d7⟩:=Qx (N:=N) (p:=u.take k) (v:=v) (w:=u.drop k) Vr (hU.drop k) (by omega) (by omega) (by simp only [SM];omega) (by omega) (by rw [Mm];exact hb) (Gc (hU.drop k) _ Yg) hw1
  rw [Dw,hp,Mm] at d1
  rw [show k+b.length+1 - k=b.length+1 by omega,d1,ct]
  have Xk:(u.take k ++ w').length=u.length:=by rw [lY,Dw,d2,Xj,hu];omega
  simp only [Xk]
  rw [if_pos trivial,if_pos (pB (by omega)),aV (by omega) (by omega)]
  have fZ:∀ j,j < k→(q.set k Q).getD j 0=0:=fun j hj=>by rw [getD_set_ne _ _ (by omega)];exact hqz j (by omega)
  refine HU (A:=A) hs hv Vr Mm hn hb cZ hLu (by simp only [SM];omega) hN hA hB hV k g _ _ (by omega) (by omega) (by rw [Xk,hu]) ((hU.take k).append d3) (by simp [hq]) (hqU.set _ d4 d5) fZ ?_ ?_
  ·have:(u.take k ++ w').drop k=w':=by rw [List.drop_append_of_le_length (by omega),List.drop_of_length_le (by omega)];rfl
   rw [this];exact d7
  ·have h1:=lu (u.take k) w'
   have h2:=qL u k (by omega)
   rw [Dw] at h1
   rw [h1,m8 _ _ _ (by omega),hqz k (by omega),d6,hinv,h2];grind
theorem Dq {A B q r:Nat} (h:A=q * B+r) (hr:r < B):A / B=q∧A % B=r:=by
 subst h
 have hB:0 < B:=by omega
 exact ⟨by rw [pL,Nat.mul_add_div hB,Nat.div_eq_of_lt hr];rfl,by rw [pL,Nat.mul_add_mod,Nat.mod_eq_of_lt hr]⟩
theorem C6 {N a b:Nat} (hb:b≠0) (hs:SM ((lm a).length+(lm b).length+2)) (hN:(lm a).length+(lm b).length+10 < N):oW N (lm a) (lm b)=some (lm (a / b),lm (a % b)):=by
 have G7:=hs
 simp only [SM] at G7
 unfold oW
 obtain ⟨c,hc,tC,Jn,-⟩:=wJ (N:=N) (a:=a) (b:=b) (by omega) (by simp only [SM];omega) (by simp only [SM];omega)
 rw [hc,ct]
 by_cases Ua:a < b
 ·rw [decide_eq_true (tC.2 Ua),cond_true]
  unfold dq
  rw [if_pos (by omega),ct,Nat.div_eq_of_lt Ua,Nat.mod_eq_of_lt Ua,iG];rfl
 ·rw [decide_eq_false (fun h=>Ua (tC.1 h)),cond_false]
  have hbl:=mi.2 hb
  cases h1:(((lm b).length:Nat):Int) == 1 with
  | true =>
   have h1:(lm b).length=1:=by have h1:=eq_of_beq h1;omega
   have rL:b < 65536:=by have:=(jz (n:=b) (k:=1)).1 (by omega);simp [pw] at this;omega
   have e:(lm b).getD 0 0=(b:Int):=by
    rw [rH hb];show ((b % 65536:Nat):Int)=b;omega
   rw [cond_true,if_pos (by omega),e,Qq (by omega) rL (by simp only [SM];omega) (by omega),ct]
   have hm:a % b < 65536:=pJ (Nat.mod_lt _ (by omega)) (by omega)
   rw [mj (U.one (by omega) (by omega)) (by simp;omega) (by simp),ct,qK,Int.toNat_natCast]
  | false =>
   have h2:2≤(lm b).length:=by simp at h1;omega
   rw [cond_false]
   obtain ⟨lb,x,Xf,PT,hlU,hx1,YB⟩:=SX hb
   have M4:(lm b).length=lb.length+1:=by rw [Xf];simp
   have e1:ah ((((lm b).length:Nat):Int) - 1)=((lb.length:Nat):Int):=by rw [aV (by omega) (by omega)];omega
   rw [e1,if_pos (by omega),an]
   have ex:(lm b).getD lb.length 0=x:=by rw [Xf];simp [List.getD]
   rw [ex]
   obtain ⟨X,rfl⟩:=Int.eq_ofNat_of_zero_le hx1
   obtain ⟨s,s1,s2,s3,s4⟩:=Xg (N:=N) (x:=X) (by omega) (by omega)
   rw [s2,ct]
   obtain ⟨o1,p1,p2,p3,p4,p5⟩:=Gb (N:=N) (a:=lm a) (ri a) s1 (by simp only [SM];omega) (by omega)
   obtain ⟨o2,q1,q2,q3,q4,q5⟩:=Gb (N:=N) (a:=lm b) (ri b) s1 (by simp only [SM];omega) (by omega)
   rw [p1,ct,q1,ct,if_pos ⟨Nat.zero_le _,by omega⟩,Nat.sub_zero]
   rw [iy] at p4 q4
   have WC:(lm b).length≤(lm a).length:=iu (by omega)
   have e2:ah (((o1.length:Nat):Int) - (((lm b).length:Nat):Int))=((o1.length - (lm b).length:Nat):Int):=by rw [aV (by omega) (by omega)];omega
   rw [e2,if_pos (by omega)]
   -- the divisor, shifted
   have xh:(0:Int) < 2 ^ s:=Int.pow_pos (by decide)
   have hbv:(b:Int)=bD lb+pw lb.length * X:=by
    have:=iy b
    rw [Xf,lu,qK] at this;omega
   have hs3:(32768:Int)≤X * 2 ^ s:=by
    have e:((X * 2 ^ s:Nat):Int)=(X:Int) * 2 ^ s:=by simp
    omega
   have hs4:(X:Int) * 2 ^ s+2 ^ s≤65536:=by
    have e:((X * 2 ^ s:Nat):Int)=(X:Int) * 2 ^ s:=by simp
    have hdv:(65536:Nat)=2 ^ (16 - s) * 2 ^ s:=by rw [← Nat.pow_add,show 16 - s+s=16 by omega]
    have h9:X < 2 ^ (16 - s):=by
     rw [hdv] at s4;exact Nat.lt_of_mul_lt_mul_right s4
    have Yb:=dH (2 ^ s) (show X+1≤2 ^ (16 - s) by omega)
    rw [← hdv,cz] at Yb
    have e3:((2 ^ s:Nat):Int)=(2:Int) ^ s:=by simp
    omega
   have adh:=hlU.lt
   have aar:=hlU.oY
   have hV:(b:Int) * 2 ^ s=bD lb * 2 ^ s+pw lb.length * (X * 2 ^ s):=by rw [hbv,eD,kM]
   have hV1:(b:Int) * 2 ^ s < pw (lm b).length:=by
    rw [M4,gP,hV]
    have h5:=kx (show bD lb+1≤pw lb.length by omega) (Int.le_of_lt xh)
    have h6:=rX hs4 (Int.le_of_lt (lr lb.length))
    rw [iA] at h6
    rw [eD] at h5
    have:=lr lb.length
    omega
   have hV2:32768 * pw lb.length≤(b:Int) * 2 ^ s:=by
    rw [hV]
    have h6:=rX hs3 (Int.le_of_lt (lr lb.length))
    have h7:0≤bD lb * 2 ^ s:=Int.mul_nonneg aar (Int.le_of_lt xh)
    rw [gN 32768];omega
   have Vr:U ((o2.take (lm b).length).drop 0):=by rw [List.drop_zero];exact q3.take _
   have Mm:((o2.take (lm b).length).drop 0).length=(lm b).length:=by simp;omega
   have hvv:bD ((o2.take (lm b).length).drop 0)=(b:Int) * 2 ^ s:=by rw [List.drop_zero,Gd q3 _ (by rw [q4];exact hV1),q4]
   have Vs:32768≤((o2.take (lm b).length).drop 0).getD ((lm b).length - 1) 0:=by
    have h5:=cG ((o2.take (lm b).length).drop 0) lb.length (by omega)
    have h6:=(Vr.take lb.length).lt
    rw [js (by omega),hvv] at h5
    rw [oD,Nat.min_eq_left (by omega)] at h6
    rw [show (lm b).length - 1=lb.length by omega]
    rcases Int.lt_or_le (((o2.take (lm b).length).drop 0).getD lb.length 0) 32768 with h | h
    ·exfalso
     have:=kx (show ((o2.take (lm b).length).drop 0).getD lb.length 0≤32767 by omega) (Int.le_of_lt (lr lb.length))
     have:=lr lb.length
     omega
    ·exact h
   have e3:ah (((o1.length - (lm b).length:Nat):Int) - 1)=((o1.length - (lm b).length:Nat):Int) - 1:=aV (by omega) (by omega)
   rw [e3,an]
   have Xl:bD (o1.drop (o1.length - (lm b).length)) < bD ((o2.take (lm b).length).drop 0):=by
    -- the top n digits: the last one is below 2 ^ s
    have hl:(o1.drop (o1.length - (lm b).length)).length=(lm b).length:=by rw [List.length_drop];omega
    have hUd:=q3
    have hU1:=p3.drop (o1.length - (lm b).length)
    have h5:=cG (o1.drop (o1.length - (lm b).length)) lb.length (by omega)
    rw [js (by omega)] at h5
    have h6:=(hU1.take lb.length).lt
    rw [oD,Nat.min_eq_left (by omega)] at h6
    have h7:(o1.drop (o1.length - (lm b).length)).getD lb.length 0=o1.getD (lm a).length 0:=by
     rw [fE,oE,fE];congr 2;omega
    rw [h7] at h5
    rw [hvv]
    have h8:o1.getD (lm a).length 0+1≤32768:=by
     have:(2:Int) ^ s≤32768:=by
      have h:=Nat.pow_le_pow_right (n:=2) (by decide) s1
      have e:((2 ^ s:Nat):Int)=(2:Int) ^ s:=by simp
      omega
     omega
    have h9:=kx h8 (Int.le_of_lt (lr lb.length))
    rw [eD] at h9
    omega
   rw [HU (N:=N) (A:=(a:Int)) (B:=(b:Int)) s1 rfl Vr Mm h2 Vs (by omega) (Lu:=o1.length) (by omega) (by simp only [SM];omega) (by omega) (by omega) (by omega) hvv (o1.length - (lm b).length) N _ o1 (aG _) (by omega) rfl p3 (by simp) (U.replicate _)
    (fun j _=>ic _ j) Xl (by rw [j7,p4];simp)]
   rfl
end Go.Den
namespace Go.Den
open Go.Ab
def Gv {α:Type} (f:Nat→Option α) (r:α):Prop:=∃ N0,∀ N,N0≤N→f N=some r
theorem Gv.pure {α:Type} (r:α):Gv (fun _=>some r) r:=⟨0,fun _ _=>rfl⟩
theorem Gv.bind {α β:Type} {f:Nat→Option α} {k:Nat→α→Option β} {r:α} {s:β} (h:Gv f r) (h2:Gv (fun N=>k N r) s):Gv (fun N=>(f N).bind (k N)) s:=by
 obtain ⟨N1,h1⟩:=h
 obtain ⟨N2,h2⟩:=h2
 exact ⟨N1+N2,fun N hN=>by show (f N).bind (k N)=some s;rw [h1 N (by omega)];exact h2 N (by omega)⟩
theorem Gv.congr {α:Type} {f g:Nat→Option α} {r:α} (h:Gv f r) (e:∀ N,g N=f N):Gv g r:=let ⟨N0,h0⟩:=h;⟨N0,fun N hN=>(e N).trans (h0 N hN)⟩
theorem Gv.of {α:Type} {f:Nat→Option α} {r:α} (N0:Nat) (h:∀ N,N0≤N→f N=some r):Gv f r:=⟨N0,h⟩
theorem Gv.aF {α:Type} {f g:Nat→Option α} {r:α} {q:Bool} (hq:q=true) (h:Gv f r):Gv (fun N=>cond q (f N) (g N)) r:=by subst hq;exact h
theorem Gv.aR {α:Type} {f g:Nat→Option α} {r:α} {q:Bool} (hq:q=false) (h:Gv g r):Gv (fun N=>cond q (f N) (g N)) r:=by subst hq;exact h
theorem Gv.if {α:Type} {f:Nat→Option α} {r:α} {p:Prop} [Decidable p] (hp:p) (h:Gv f r):Gv (fun N=>if p then f N else none) r:=h.congr fun _=>if_pos hp
theorem Gv.eq {α:Type} {f:Nat→Option α} {r s:α} (h:Gv f r) (e:r=s):Gv f s:=e ▸ h
theorem Gv.ex {α:Type} {f:Nat→Option α} {r:α} (h:Gv f r):∃ N,f N=some r:=let ⟨N,h⟩:=h;⟨N,h N (aG _)⟩
def sg (neg:Bool) (n:Nat):Int:=cond neg (-(n:Int)) (n:Int)
def zJ (z:Int):bG:=⟨decide (z < 0),lm z.natAbs⟩
def zv (a:bG):Int:=sg a.fG (bD a.fL).toNat
def ZB (z:Int) (n:Nat):Prop:=(lm z.natAbs).length≤n
structure IB (a:bG) (n:Nat):Prop where
 U:U a.fL
 len:a.fL.length≤n
theorem pC (neg:Bool) (n:Nat):(sg neg n).natAbs=n:=by cases neg<;>simp [sg]
theorem lN (a:bG):(zv a).natAbs=(bD a.fL).toNat:=pC _ _
theorem QA (neg:Bool) (n:Nat) (h:n≠0):zJ (sg neg n)=⟨neg,lm n⟩:=by
 unfold zJ
 rw [pC]
 cases neg
 ·rw [decide_eq_false (show ¬ sg false n < 0 by simp [sg])]
 ·rw [decide_eq_true (show sg true n < 0 by simp [sg];omega)]
theorem QB:zJ 0=⟨false,[]⟩:=by unfold zJ;rw [show (0:Int).natAbs=0 from rfl,iG];rfl
theorem M5 (neg:Bool):zJ (sg neg 0)=⟨false,[]⟩:=by cases neg<;>exact QB
theorem mV (z:Int):zv (zJ z)=z:=by
 unfold zv zJ
 simp only [iy,Int.toNat_natCast]
 unfold sg
 by_cases h:z < 0
 ·rw [decide_eq_true h];simp only [cond_true];omega
 ·rw [decide_eq_false h];simp only [cond_false];omega
theorem ZB.le {z:Int} {m n:Nat} (h:ZB z m) (M6:m≤n):ZB z n:=eC h M6
theorem QC {z:Int} {n:Nat}:ZB z n↔(z.natAbs:Int) < pw n:=jz
theorem Kw {z:Int} {n:Nat}:ZB z n↔z.natAbs < 65536 ^ n:=by
 rw [QC];unfold pw
 have:((65536 ^ n:Nat):Int)=65536 ^ n:=by simp
 omega
theorem ZB.neg {z:Int} {n:Nat} (h:ZB z n):ZB (-z) n:=by unfold ZB at *;rwa [Int.natAbs_neg]
theorem ZB.mul {x y:Int} {m n:Nat} (h1:ZB x m) (h2:ZB y n):ZB (x * y) (m+n):=by
 rw [Kw] at *
 rw [Int.natAbs_mul,Nat.pow_add]
 exact Nat.mul_lt_mul'' h1 h2
theorem ZB.add {x y:Int} {n:Nat} (h1:ZB x n) (h2:ZB y n):ZB (x+y) (n+1):=by
 rw [Kw] at *
 have:=Int.natAbs_add_le x y
 have h3:65536 ^ (n+1)=65536 * 65536 ^ n:=by rw [Nat.pow_succ];omega
 have:=Nat.pow_pos (n:=n) (show 0 < 65536 by decide)
 omega
theorem ZB.sub {x y:Int} {n:Nat} (h1:ZB x n) (h2:ZB y n):ZB (x - y) (n+1):=by rw [Int.sub_eq_add_neg];exact h1.add h2.neg
theorem ZB.of_le {x y:Int} {n:Nat} (h:ZB y n) (TZ:x.natAbs≤y.natAbs):ZB x n:=by rw [Kw] at *;omega
theorem ZB.small {x:Int} (h:x.natAbs < 65536):ZB x 1:=by rw [Kw];simpa using h
theorem ZB.word {x:Int} (h:-9223372036854775808≤x) (h2:x≤9223372036854775807):ZB x 4:=by rw [Kw];omega
theorem IB.zb {a:bG} {n:Nat} (h:IB a n):ZB (zv a) n:=by
 rw [QC,lN]
 have h1:=h.U.lt
 have h2:=h.U.oY
 have h3:pw a.fL.length≤pw n:=by
  have e:pw n=pw a.fL.length * pw (n - a.fL.length):=by rw [← F6];congr 1;have:=h.len;omega
  have:=lr (n - a.fL.length)
  have:=rX (show 1≤pw (n - a.fL.length) by omega) (Int.le_of_lt (lr a.fL.length))
  omega
 omega
theorem ZB.ib {z:Int} {n:Nat} (h:ZB z n):IB (zJ z) n:=⟨ri _,h⟩
theorem IB.le {a:bG} {m n:Nat} (h:IB a m) (M6:m≤n):IB a n:=⟨h.U,eC h.len M6⟩
section
variable {a b:bG} {m n:Nat}
theorem wN (ha:IB a n) (hn:SM n):Gv (fun N=>g7 N a.fL) (lm (zv a).natAbs) :=
 .of (n+1) fun N hN=>by
  simp only [SM] at hn
  have:=ha.len
  rw [mj ha.U (by omega) (by omega),lN]
theorem pD (neg:Bool) {k:Nat} (hk:SM (lm k).length):Gv (fun N=>jB N neg (lm k)) (zJ (sg neg k)) :=
 .of ((lm k).length+1) fun N hN=>by
  simp only [SM] at hk
  unfold jB
  rw [mj (ri k) (by omega) (by omega),iy,Int.toNat_natCast,ct]
  by_cases h:k=0
  ·subst h
   rw [iG,M5];rfl
  ·have e:((((lm k).length:Nat):Int) == 0)=false:=by
    have:=mi.2 h
    simp;exact fun h'=>by rw [h'] at this;simp at this
   rw [e,cond_false]
   unfold dq
   rw [if_pos (by omega),ct,QA _ _ h];rfl
theorem Kx (a:bG):Gv (fun N=>sa N a) ⟨!a.fG,a.fL⟩:=.pure _
theorem Ky (a:bG):zv ⟨!a.fG,a.fL⟩ = -zv a:=by unfold zv sg;cases a.fG<;>simp
theorem sign_eq (a b:Bool) (x y:Nat):sg (!(a == b)) (x * y)=sg a x * sg b y:=by
 cases a<;>cases b<;>simp [sg,Int.neg_mul,Int.mul_neg]
theorem yz (ha:IB a m) (hb:IB b n) (hs:SM (m+n)):Gv (fun N=>pR N a b) (zJ (zv a * zv b)):=by
 simp only [SM] at hs
 have HG:=ha.zb
 have tN:=hb.zb
 unfold ZB at HG tN
 refine (wN ha (by simp only [SM];omega)).bind ((wN hb (by simp only [SM];omega)).bind ?_)
 refine Gv.bind (r:=lm ((zv a).natAbs * (zv b).natAbs)) (.of (m+n+1) fun N hN=>Qo (by simp only [SM];omega) (by omega)) ?_
 have hz:=ha.zb.mul hb.zb
 unfold ZB at hz
 rw [Int.natAbs_mul] at hz
 refine (pD _ (by simp only [SM];omega)).bind ((Gv.pure _).eq ?_)
 rw [lN,lN,sign_eq];rfl
theorem QD (ha:IB a n) (hb:IB b n) (hs:SM (n+1)):Gv (fun N=>Bf N a b) (zJ (zv a+zv b)):=by
 simp only [SM] at hs
 have HG:=ha.zb
 have tN:=hb.zb
 have hz:=HG.add tN
 unfold ZB at HG tN
 refine (wN ha (by simp only [SM];omega)).bind ((wN hb (by simp only [SM];omega)).bind ?_)
 have hX:zv a=sg a.fG (zv a).natAbs:=by rw [lN];rfl
 have hY:zv b=sg b.fG (zv b).natAbs:=by rw [lN];rfl
 generalize (zv a).natAbs=x at *
 generalize (zv b).natAbs=y at *
 rw [hX,hY] at hz ⊢
 generalize a.fG=p at *
 generalize b.fG=q at *
 cases OC:(p == q) with
 | true =>
  have OC:p=q:=by simpa using OC
  subst OC
  have e:sg p x+sg p y=sg p (x+y):=by cases p<;>simp [sg]<;>omega
  rw [e] at hz ⊢
  unfold ZB at hz
  rw [pC] at hz
  refine Gv.aF rfl (Gv.bind (r:=lm (x+y)) (.of (n+2) fun N hN=>SZ (by simp only [SM];omega) (by simp only [SM];omega) (by omega) (by omega)) ?_)
  exact (pD _ (by simp only [SM];omega)).bind (Gv.pure _)
 | false =>
  have OC:q=!p:=by cases p<;>cases q<;>simp_all
  subst OC
  refine Gv.aR rfl ?_
  refine Gv.bind (r:=G5 x y) (.of (n+2) fun N hN=>Km (by omega) (by simp only [SM];omega) (by simp only [SM];omega)) ?_
  have gS:=MY (a:=x) (b:=y) (by simp only [SM];omega) (by simp only [SM];omega)
  by_cases TZ:x < y
  ·refine Gv.aR (decide_eq_false (by have:=gS.2 TZ;omega)) (Gv.bind (r:=lm (y - x)) (.of (n+2) fun N hN=>Ko (by omega) (by simp only [SM];omega) (by omega)) ?_)
   have e:sg p x+sg (!p) y=sg (!p) (y - x):=by cases p<;>simp [sg]<;>omega
   rw [e] at hz ⊢
   unfold ZB at hz
   rw [pC] at hz
   exact (pD _ (by simp only [SM];omega)).bind (Gv.pure _)
  ·refine Gv.aF (decide_eq_true (by have:=fun h=>TZ (gS.1 h);omega)) (Gv.bind (r:=lm (x - y)) (.of (n+2) fun N hN=>Ko (by omega) (by simp only [SM];omega) (by omega)) ?_)
   have e:sg p x+sg (!p) y=sg p (x - y):=by cases p<;>simp [sg]<;>omega
   rw [e] at hz ⊢
   unfold ZB at hz
   rw [pC] at hz
   exact (pD _ (by simp only [SM];omega)).bind (Gv.pure _)
theorem IB.opp (ha:IB a n):IB ⟨!a.fG,a.fL⟩ n:=⟨ha.U,ha.len⟩
theorem Et (ha:IB a n) (hn:SM n):Gv (fun N=>sR N a) (zv a).sign:=by
 refine (wN ha hn).bind ?_
 have hX:zv a=sg a.fG (zv a).natAbs:=by rw [lN];rfl
 generalize (zv a).natAbs=x at *
 rw [hX]
 generalize a.fG=p
 by_cases h:x=0
 ·subst h
  refine Gv.aF (by rw [iG];rfl) ((Gv.pure _).eq ?_)
  cases p<;>rfl
 ·refine Gv.aR ?_ ?_
  ·have:=mi.2 h
   simp;exact fun h'=>by rw [h'] at this;simp at this
  ·cases p with
   | true=>exact Gv.aF rfl ((Gv.pure _).eq (by simp only [sg,cond_true];rw [Int.sign_eq_neg_one_of_neg];omega))
   | false=>exact Gv.aR rfl ((Gv.pure _).eq (by simp only [sg,cond_false];rw [Int.sign_eq_one_of_pos];omega))
theorem M7 {z:Int} (h1:-9223372036854775808≤z) (h2:z≤9223372036854775807):Gv (fun N=>wc N z) (zJ z):=by
 have hl:ZB z 4:=ZB.word h1 h2
 unfold ZB at hl
 unfold wc
 by_cases h:z < 0
 ·refine Gv.aF (decide_eq_true h) (Gv.bind (r:=lm z.natAbs) (.of 5 fun N hN=>?_) ?_)
  ·have e:IntKind.u64.wrap (0 - IntKind.u64.wrap z)=((z.natAbs:Nat):Int):=by rw [wrap64,wrap64];omega
   rw [e];exact AG (by omega) (by omega)
  ·refine (pD true (by simp only [SM];omega)).bind ((Gv.pure _).eq ?_)
   have:sg true z.natAbs=z:=by simp [sg];omega
   rw [this]
 ·refine Gv.aR (decide_eq_false h) (Gv.bind (r:=lm z.natAbs) (.of 5 fun N hN=>?_) ?_)
  ·have e:IntKind.u64.wrap z=((z.natAbs:Nat):Int):=by rw [wrap64];omega
   rw [e];exact AG (by omega) (by omega)
  ·refine (pD false (by simp only [SM];omega)).bind ((Gv.pure _).eq ?_)
   have:sg false z.natAbs=z:=by simp [sg];omega
   rw [this]
end
end Go.Den
namespace Go.Den
open Go.Ab
theorem N9 {N:Nat} (K:List Int→List Int→Option (List Int)) (hN:4 < N):∀ (y x fuel:Nat),y < fuel→x < 18446744073709551616→y < 18446744073709551616→ll N K fuel (x:Int) (y:Int)=some (lm (Nat.gcd x y)):=by
 intro y
 induction y using Nat.strongRecOn with
 | _ y ih =>
  intro x fuel hf hx hy
  obtain ⟨g,rfl⟩:∃ g,fuel=g+1:=⟨fuel - 1,by omega⟩
  rw [ll]
  by_cases h:y=0
  ·subst h
   rw [decide_eq_false (by decide),cond_false,AG hN hx,ct,Nat.gcd_zero_right]
  ·rw [decide_eq_true (by omega),cond_true,if_pos (by omega),Int.tmod_eq_emod_of_nonneg (by omega)]
   have e:((x:Int) % (y:Int))=((x % y:Nat):Int):=by simp
   have gS:=Nat.mod_lt x (Nat.pos_of_ne_zero h)
   rw [e,ih (x % y) gS y g (by omega) hy (by omega),Nat.gcd_comm x y,Nat.gcd_rec y x,Nat.gcd_comm]
theorem Oa {N:Nat} {k:Nat} (hk:SM (2 * k+2)) (hN:2 * k+20 < N):∀ (y x fuel:Nat),y < fuel→y < N→(lm x).length≤k→(lm y).length≤k→jU N fuel (lm x) (lm y)=some (lm (Nat.gcd x y)):=by
 intro y
 simp only [SM] at hk
 induction y using Nat.strongRecOn with
 | _ y ih =>
  intro x fuel hf hyN hx hy
  obtain ⟨g,rfl⟩:∃ g,fuel=g+1:=⟨fuel - 1,by omega⟩
  rw [jU]
  by_cases h:y=0
  ·subst h
   rw [iG,Nat.gcd_zero_right];rfl
  ·have hl:=mi.2 h
   rw [decide_eq_true (by omega),cond_true,M3 (by omega) (by simp only [SM];omega),ct,M3 (by omega) (by simp only [SM];omega),ct]
   by_cases h4:(lm x).length≤4∧(lm y).length≤4
   ·rw [if_pos h4.1,if_pos h4.2]
    have b1:=jz.1 h4.1
    have b2:=jz.1 h4.2
    have e4:pw 4=18446744073709551616:=by decide
    exact N9 _ (by omega) y x N hyN (by omega) (by omega)
   ·have e:cond (if (lm x).length≤4 then ((x:Int),true) else (0,false)).2 (if (lm y).length≤4 then ((y:Int),true) else (0,false)).2 false=false:=by
     by_cases h1:(lm x).length≤4
     ·have h2:¬ (lm y).length≤4:=fun h2=>h4 ⟨h1,h2⟩
      rw [if_pos h1,if_neg h2];rfl
     ·rw [if_neg h1];rfl
    rw [e,cond_false,C6 h (by simp only [SM];omega) (by omega),ct]
    have gS:=Nat.mod_lt x (Nat.pos_of_ne_zero h)
    rw [ih (x % y) gS y g (by omega) (by omega) hy (eC (iu (by omega)) hy),Nat.gcd_comm x y,Nat.gcd_rec y x,Nat.gcd_comm]
theorem Oc {x y k:Nat} (hx:(lm x).length≤k) (hy:(lm y).length≤k) (hk:SM (2 * k+2)):Gv (fun N=>we N (lm x) (lm y)) (lm (Nat.gcd x y)) :=
 .of (2 * k+21+y) fun N hN=>Oa hk (by omega) y x N (by omega) (by omega) hx hy
def dv (x:aa):Int:=if zv x.fD=0 then 1 else zv x.fD
def qv (x:aa):Rat:=Rat.divInt (zv x.fN) (dv x)
def bC (q:Rat):aa:=⟨zJ q.num,zJ (q.den:Int)⟩
structure RB (q:Rat) (n:Nat):Prop where
 num:ZB q.num n
 den:ZB (q.den:Int) n
structure IR (x:aa) (n:Nat):Prop where
 num:IB x.fN n
 den:IB x.fD n
theorem tY (x:aa):dv x≠0:=by unfold dv;split<;>omega
theorem RB.le {q:Rat} {m n:Nat} (h:RB q m) (M6:m≤n):RB q n:=⟨h.num.le M6,h.den.le M6⟩
theorem IR.le {x:aa} {m n:Nat} (h:IR x m) (M6:m≤n):IR x n:=⟨h.num.le M6,h.den.le M6⟩
theorem RB.ir {q:Rat} {n:Nat} (h:RB q n):IR (bC q) n:=⟨h.num.ib,h.den.ib⟩
theorem Vt (q:Rat):dv (bC q)=q.den:=by
 unfold dv bC;simp only [mV];rw [if_neg];have:=q.den_nz;omega
theorem ig (q:Rat):qv (bC q)=q:=by
 unfold qv;rw [Vt];simp only [bC,mV];exact Rat.num_divInt_den q
theorem Gf (a:Int) (b:Nat) (hb:b≠0):(a / (b:Int)).natAbs≤a.natAbs:=Int.natAbs_ediv_le_natAbs a b
theorem zg {a b:Int} {n:Nat} (ha:ZB a n) (hb:ZB b n) (h0:b≠0):RB (Rat.divInt a b) n:=by
 have hg:Int.gcd b a≠0:=fun h=>h0 (Int.gcd_eq_zero_iff.1 h).1
 constructor
 ·rw [Rat.num_divInt]
  refine ha.of_le (eC (Gf _ _ hg) ?_)
  rw [Int.natAbs_mul,Int.natAbs_sign_of_ne_zero h0];omega
 ·rw [Rat.den_divInt,if_neg h0]
  refine hb.of_le ?_
  rw [Int.natAbs_natCast]
  exact Nat.div_le_self _ _
theorem IR.rb {x:aa} {n:Nat} (h:IR x n) (hn:1≤n):RB (qv x) n:=by
 refine zg h.num.zb ?_ (tY x)
 unfold dv
 split
 ·exact (ZB.small (by decide)).le hn
 ·exact h.den.zb
theorem RB.int {z:Int} {n:Nat} (h:ZB z n) (hn:1≤n):RB (z:Rat) n:=⟨h,(ZB.small (x:=1) (by decide)).le hn⟩
theorem RB.neg {q:Rat} {n:Nat} (h:RB q n):RB (-q) n:=⟨by rw [Rat.neg_num];exact h.num.neg,by rw [Rat.neg_den];exact h.den⟩
theorem kK (q:Rat):q=Rat.divInt q.num q.den:=(Rat.num_divInt_den q).symm
theorem mW (q:Rat):(q.den:Int)≠0:=by have:=q.den_nz;omega
theorem RB.add {p q:Rat} {m n:Nat} (h1:RB p m) (h2:RB q n):RB (p+q) (m+n+1):=by
 rw [kK p,kK q,Rat.divInt_add_divInt _ _ (mW p) (mW q)]
 refine zg ((h1.num.mul h2.den).add ((h2.num.mul h1.den).le (by omega))) ((h1.den.mul h2.den).le (by omega)) ?_
 exact Int.mul_ne_zero (mW p) (mW q)
theorem RB.sub {p q:Rat} {m n:Nat} (h1:RB p m) (h2:RB q n):RB (p - q) (m+n+1):=by rw [Rat.sub_eq_add_neg];exact h1.add h2.neg
theorem RB.mul {p q:Rat} {m n:Nat} (h1:RB p m) (h2:RB q n):RB (p * q) (m+n):=by
 rw [kK p,kK q,Rat.divInt_mul_divInt]
 exact zg (h1.num.mul h2.num) (h1.den.mul h2.den) (Int.mul_ne_zero (mW p) (mW q))
theorem qd {a b c d:Int} (hb:b≠0) (hd:d≠0):Rat.divInt a b / Rat.divInt c d=Rat.divInt (a * d) (b * c):=by
 rw [Rat.div_def,Rat.inv_divInt,Rat.divInt_mul_divInt]
theorem QE {q:Rat} (h:q≠0):q.num≠0:=fun h'=>h (Rat.num_eq_zero.1 h')
theorem RB.div {p q:Rat} {m n:Nat} (h1:RB p m) (h2:RB q n) (h0:q≠0):RB (p / q) (m+n):=by
 rw [kK p,kK q,qd (mW p) (mW q)]
 exact zg (h1.num.mul h2.den) (h1.den.mul h2.num) (Int.mul_ne_zero (mW p) (QE h0))
section
variable {a b:bG} {x y:aa} {m n:Nat}
theorem nJ (ha:IB a n) (hb:IB b n) (h0:zv b≠0) (hs:SM (2 * n+2)):Gv (fun N=>jc N a b) (bC (Rat.divInt (zv a) (zv b))):=by
 simp only [SM] at hs
 have HG:=ha.zb
 have tN:=hb.zb
 unfold ZB at HG tN
 refine (wN ha (by simp only [SM];omega)).bind ((wN hb (by simp only [SM];omega)).bind ?_)
 have hX:zv a=sg a.fG (zv a).natAbs:=by rw [lN];rfl
 have hY:zv b=sg b.fG (zv b).natAbs:=by rw [lN];rfl
 generalize hxx:(zv a).natAbs=x at *
 generalize Xm:(zv b).natAbs=y at *
 have Ro:y≠0:=by omega
 have hg0:0 < Nat.gcd x y:=Nat.gcd_pos_of_pos_right _ (by omega)
 refine (Oc HG tN (by simp only [SM];omega)).bind ?_
 have TJ:=mi.2 (show Nat.gcd x y≠0 by omega)
 have hgn:(lm (Nat.gcd x y)).length≤n:=eC (iu (Nat.gcd_le_right _ (by omega))) tN
 have fin:∀ u v:Nat,u=x / Nat.gcd x y→v=y / Nat.gcd x y→Gv (fun N=>mq N a b (lm u) (lm v)) (bC (Rat.divInt (zv a) (zv b))):=by
  intro u v hu hv
  have Xk:(lm u).length≤n:=eC (iu (by rw [hu];exact Nat.div_le_self _ _)) HG
  have Mm:(lm v).length≤n:=eC (iu (by rw [hv];exact Nat.div_le_self _ _)) tN
  refine (pD _ (by simp only [SM];omega)).bind ((pD false (by simp only [SM];omega)).bind ((Gv.pure _).eq ?_))
  have Vu:Int.gcd (zv b) (zv a)=Nat.gcd x y:=by unfold Int.gcd;rw [hxx,Xm,Nat.gcd_comm]
  unfold bC
  rw [Rat.num_divInt,Rat.den_divInt,if_neg h0,Vu,Xm]
  have hd:(Nat.gcd x y) ∣ x:=Nat.gcd_dvd_left _ _
  have e1:(zv b).sign * zv a / ((Nat.gcd x y:Nat):Int)=sg (!(a.fG == b.fG)) u:=by
   have S7:(x:Int)=(Nat.gcd x y:Nat) * (u:Int):=by
    have:x=Nat.gcd x y * u:=by rw [hu,Nat.mul_div_cancel' hd]
    exact_mod_cast this
   have e2:(zv b).sign * zv a=(Nat.gcd x y:Nat) * sg (!(a.fG == b.fG)) u:=by
    rw [hX,hY]
    cases a.fG<;>cases b.fG<;>simp only [sg,cond_true,cond_false,Bool.not_true,Bool.not_false,BEq.rfl,show (true == false)=false from rfl,show (false == true)=false from rfl]
    ·rw [Int.sign_eq_one_of_pos (by omega),Int.one_mul,← S7]
    ·rw [Int.sign_eq_neg_one_of_neg (by omega),Int.mul_neg,← S7];omega
    ·rw [Int.sign_eq_one_of_pos (by omega),Int.one_mul,Int.mul_neg,← S7]
    ·rw [Int.sign_eq_neg_one_of_neg (by omega),← S7];omega
   rw [e2,Int.mul_ediv_cancel_left _ (by omega)]
  rw [e1,← hv];rfl
 have e0:(lm (Nat.gcd x y)).getD 0 0=((Nat.gcd x y % 65536:Nat):Int):=by rw [rH (by omega)];rfl
 refine Gv.if (fun _=>⟨by omega,by omega⟩) ?_
 rw [e0]
 by_cases h1:Nat.gcd x y=1
 ·refine Gv.aR ?_ (fin x y (by rw [h1,Nat.div_one]) (by rw [h1,Nat.div_one]))
  rw [h1,rH (by decide)];simp [iG]
 ·refine Gv.aF ?_ ?_
  ·by_cases h2:(lm (Nat.gcd x y)).length=1
   ·have:=jz.1 (show (lm (Nat.gcd x y)).length≤1 by omega)
    have e1:pw 1=65536:=by decide
    rw [h2]
    have h3:(((Nat.gcd x y % 65536:Nat):Int) != 1)=true:=by simp;omega
    rw [h3];rfl
   ·have h3:((((lm (Nat.gcd x y)).length:Nat):Int) != 1)=true:=by simp;omega
    rw [h3];rfl
  ·refine Gv.bind (r:=(lm (x / Nat.gcd x y),lm (x % Nat.gcd x y))) (.of (2 * n+20) fun N hN=>C6 (by omega) (by simp only [SM];omega) (by omega)) ?_
   refine Gv.bind (r:=(lm (y / Nat.gcd x y),lm (y % Nat.gcd x y))) (.of (2 * n+20) fun N hN=>C6 (by omega) (by simp only [SM];omega) (by omega)) ?_
   exact fin _ _ rfl rfl
def B7 (x:aa):bG:=if zv x.fD=0 then ⟨false,[1]⟩ else x.fD
theorem LW:zv ⟨false,[1]⟩=1:=by decide
theorem ku (x:aa):zv (B7 x)=dv x:=by unfold B7 dv;split<;>simp [LW]
theorem QF {n:Nat} (hn:1≤n):IB ⟨false,[1]⟩ n:=⟨U.one (by decide) (by decide),hn⟩
theorem IR.B7 (h:IR x n) (hn:1≤n):IB (B7 x) n:=by
 unfold Go.Den.B7;split
 ·exact QF hn
 ·exact h.den
theorem qe (hx:IR x n) (hs:SM n):Gv (fun N=>kI N x) (B7 x):=by
 refine (Et hx.den hs).bind ?_
 unfold B7
 by_cases h:zv x.fD=0
 ·rw [if_pos h];exact Gv.aF (by rw [h];rfl) (Gv.pure _)
 ·rw [if_neg h]
  exact Gv.aR (by simp;exact h) (Gv.pure _)
theorem C7 (hx:IR x n) (hn:1≤n) (hs:SM (2 * n+2)):Gv (fun N=>ln N x) (bC (qv x)):=by
 have G7:=hs
 simp only [SM] at G7
 refine (qe hx (by simp only [SM];omega)).bind ?_
 refine (nJ hx.num (hx.B7 hn) (by rw [ku];exact tY x) hs).bind ((Gv.pure _).eq ?_)
 rw [ku];rfl
theorem C8 (hx:IR x n) (hs:SM n):Gv (fun N=>g8 N x) (decide (qv x=0)):=by
 refine (Et hx.num hs).bind ((Gv.pure _).eq ?_)
 unfold qv
 by_cases h:zv x.fN=0
 ·rw [h,Rat.zero_divInt];rfl
 ·have:Rat.divInt (zv x.fN) (dv x)≠0:=by
   rw [← Rat.zero_divInt 1,ne_eq,Rat.divInt_eq_divInt_iff (tY x) (by decide)];simpa using h
  rw [decide_eq_false this]
  simp;exact h
theorem HV (hx:IR x m) (hy:IR y n) (hm:1≤m) (hn:1≤n) (hs:SM (2 * (m+n+1)+2)):Gv (fun N=>eY N x y) (bC (qv x+qv y)):=by
 simp only [SM] at hs
 refine (C8 hx (by simp only [SM];omega)).bind ?_
 by_cases h1:qv x=0
 ·refine Gv.aF (decide_eq_true h1) ((C7 hy hn (by simp only [SM];omega)).bind ((Gv.pure _).eq ?_))
  rw [h1,Rat.zero_add]
 ·refine Gv.aR (decide_eq_false h1) ((C8 hy (by simp only [SM];omega)).bind ?_)
  by_cases h2:qv y=0
  ·refine Gv.aF (decide_eq_true h2) ((C7 hx hm (by simp only [SM];omega)).bind ((Gv.pure _).eq ?_))
   rw [h2,Rat.add_zero]
  ·refine Gv.aR (decide_eq_false h2) ((qe hx (by simp only [SM];omega)).bind ((qe hy (by simp only [SM];omega)).bind ?_))
   refine (yz hx.num (hy.B7 hn) (by simp only [SM];omega)).bind ((yz hy.num (hx.B7 hm) (by simp only [SM];omega)).bind ?_)
   have z1:=hx.num.zb.mul (hy.B7 hn).zb
   have z2:=hy.num.zb.mul (hx.B7 hm).zb
   have z3:=(hx.B7 hm).zb.mul (hy.B7 hn).zb
   rw [ku] at z1 z2
   rw [ku,ku] at z3
   refine Gv.bind (r:=zJ (zv x.fN * dv y+zv y.fN * dv x)) ?_ ?_
   ·have:=QD (n:=m+n) (a:=zJ (zv x.fN * zv (B7 y))) (b:=zJ (zv y.fN * zv (B7 x))) (by rw [ku];exact z1.ib) (by rw [ku];exact (z2.le (by omega)).ib) (by simp only [SM];omega)
    rw [mV,mV,ku,ku] at this
    rw [ku,ku];exact this
   ·refine Gv.bind (r:=zJ (dv x * dv y)) ?_ ?_
    ·have:=yz (hx.B7 hm) (hy.B7 hn) (by simp only [SM];omega)
     rwa [ku,ku] at this
    ·have h0:dv x * dv y≠0:=Int.mul_ne_zero (tY x) (tY y)
     refine (nJ (n:=m+n+1) (z1.add (z2.le (by omega))).ib (z3.le (by omega)).ib (by rw [mV];exact h0) (by simp only [SM];omega)).bind ((Gv.pure _).eq ?_)
     rw [mV,mV]
     unfold qv
     rw [Rat.divInt_add_divInt _ _ (tY x) (tY y)]
theorem pE (hx:IR x n) (hn:1≤n) (hs:SM (2 * n+2)):Gv (fun N=>gh N x) (bC (-qv x)):=by
 have G7:=hs
 simp only [SM] at G7
 refine (Kx x.fN).bind ((qe hx (by simp only [SM];omega)).bind ?_)
 refine (nJ hx.num.opp (hx.B7 hn) (by rw [ku];exact tY x) hs).bind ((Gv.pure _).eq ?_)
 rw [Ky,ku];unfold qv;rw [Rat.neg_divInt]
theorem HW (hx:IR x m) (hy:IR y n) (hm:1≤m) (hn:1≤n) (hs:SM (2 * (m+n+1)+2)):Gv (fun N=>eZ N x y) (bC (qv x - qv y)):=by
 have G7:=hs
 simp only [SM] at G7
 refine (pE hy hn (by simp only [SM];omega)).bind ?_
 refine (HV hx (hy.rb hn).neg.ir hm hn hs).bind ((Gv.pure _).eq ?_)
 rw [ig,Rat.sub_eq_add_neg]
theorem Oe (hx:IR x m) (hy:IR y n) (hm:1≤m) (hn:1≤n) (hs:SM (2 * (m+n)+2)):Gv (fun N=>dE N x y) (bC (qv x * qv y)):=by
 simp only [SM] at hs
 refine (yz hx.num hy.num (by simp only [SM];omega)).bind ((qe hx (by simp only [SM];omega)).bind ((qe hy (by simp only [SM];omega)).bind ?_))
 refine (yz (hx.B7 hm) (hy.B7 hn) (by simp only [SM];omega)).bind ?_
 have z1:=hx.num.zb.mul hy.num.zb
 have z3:=(hx.B7 hm).zb.mul (hy.B7 hn).zb
 have h0:dv x * dv y≠0:=Int.mul_ne_zero (tY x) (tY y)
 refine (nJ (n:=m+n) z1.ib z3.ib (by rw [mV,ku,ku];exact h0) (by simp only [SM];omega)).bind ((Gv.pure _).eq ?_)
 rw [mV,mV,ku,ku]
 unfold qv
 rw [Rat.divInt_mul_divInt]
theorem S8 (hx:IR x m) (hy:IR y n) (hm:1≤m) (hn:1≤n) (h0:qv y≠0) (hs:SM (2 * (m+n)+2)):Gv (fun N=>qT N x y) (bC (qv x / qv y)):=by
 simp only [SM] at hs
 refine (qe hy (by simp only [SM];omega)).bind ((yz hx.num (hy.B7 hn) (by simp only [SM];omega)).bind ((qe hx (by simp only [SM];omega)).bind ((yz (hx.B7 hm) hy.num (by simp only [SM];omega)).bind ?_)))
 have z1:=hx.num.zb.mul (hy.B7 hn).zb
 have z3:=(hx.B7 hm).zb.mul hy.num.zb
 have hyn:zv y.fN≠0:=fun h=>h0 (by unfold qv;rw [h,Rat.zero_divInt])
 have h0:dv x * zv y.fN≠0:=Int.mul_ne_zero (tY x) hyn
 refine (nJ (n:=m+n) z1.ib z3.ib (by rw [mV,ku];exact h0) (by simp only [SM];omega)).bind ((Gv.pure _).eq ?_)
 rw [mV,mV,ku,ku]
 unfold qv
 rw [qd (tY x) (tY y)]
def nc (q:Rat):Int:=q.num.sign
theorem Kz {a b:Int} (hb:b≠0):(Rat.divInt a b).num.sign=a.sign * b.sign:=by
 rw [Rat.num_divInt]
 have hg:Int.gcd b a≠0:=fun h=>hb (Int.gcd_eq_zero_iff.1 h).1
 obtain ⟨c,hc⟩:((Int.gcd b a:Nat):Int) ∣ a:=Int.gcd_dvd_right ..
 have e:b.sign * a / ((Int.gcd b a:Nat):Int)=b.sign * c:=by
  have e0:b.sign * a=((Int.gcd b a:Nat):Int) * (b.sign * c):=by rw [Int.mul_left_comm,← hc]
  rw [e0,Int.mul_ediv_cancel_left _ (by omega)]
 rw [e,Int.sign_mul,Int.sign_sign]
 have e2:a.sign=c.sign:=by
  have e0:=congrArg Int.sign hc
  rw [Int.sign_mul,Int.sign_eq_one_of_pos (show 0 < ((Int.gcd b a:Nat):Int) by omega),Int.one_mul] at e0
  exact e0
 rw [e2,gN]
theorem Dr (z:Int):z.sign=0∨z.sign=1∨z.sign = -1:=by
 rcases Int.lt_trichotomy z 0 with h | h | h
 ·right;right;exact Int.sign_eq_neg_one_of_neg h
 ·left;rw [h];rfl
 ·right;left;exact Int.sign_eq_one_of_pos h
theorem HX (hx:IR x n) (hn:1≤n) (hs:SM n):Gv (fun N=>nu N x) (nc (qv x)):=by
 refine (Et hx.num hs).bind ((qe hx hs).bind ((Et (hx.B7 hn) hs).bind ((Gv.pure _).eq ?_)))
 rw [ku]
 unfold nc qv
 rw [Kz (tY x)]
 rcases Dr (zv x.fN) with h | h | h<;>rcases Dr (dv x) with h' | h' | h'<;>rw [h,h']<;>rfl
theorem Of (hx:IR x m) (hy:IR y n) (hm:1≤m) (hn:1≤n) (hs:SM (2 * (m+n+1)+2)):Gv (fun N=>gx N x y) (nc (qv x - qv y)):=by
 have G7:=hs
 simp only [SM] at G7
 refine (HW hx hy hm hn hs).bind ?_
 refine (HX ((hx.rb hm).sub (hy.rb hn)).ir (by omega) (by simp only [SM];omega)).bind ((Gv.pure _).eq ?_)
 rw [ig]
theorem Gg (z:Int):Rat.divInt z 1=(z:Rat):=by
 apply Rat.ext
 ·rw [Rat.num_divInt];simp
 ·rw [Rat.den_divInt];simp
theorem KA (ha:IB a n) (hn:1≤n) (hs:SM (2 * n+2)):Gv (fun N=>qu N a) (bC (zv a:Rat)):=by
 refine (nJ ha (QF hn) (by rw [LW];decide) hs).bind ((Gv.pure _).eq ?_)
 rw [LW,Gg]
theorem zh {z:Int} (h1:-9223372036854775808≤z) (h2:z≤9223372036854775807):Gv (fun N=>gr N z) (bC (z:Rat)):=by
 refine (M7 h1 h2).bind ((KA (n:=4) (ZB.word h1 h2).ib (by decide) (by simp)).bind ((Gv.pure _).eq ?_))
 rw [mV]
theorem QG {a b:Int} (h1:-9223372036854775808≤a) (h2:a≤9223372036854775807) (h3:-9223372036854775808≤b) (h4:b≤9223372036854775807) (h0:b≠0):Gv (fun N=>y6 N a b) (bC (Rat.divInt a b),0):=by
 refine Gv.aR (by simpa using h0) ((M7 h1 h2).bind ((M7 h3 h4).bind ?_))
 refine (nJ (n:=4) (ZB.word h1 h2).ib (ZB.word h3 h4).ib (by rw [mV];exact h0) (by simp)).bind ((Gv.pure _).eq ?_)
 rw [mV,mV]
end
theorem oP {q:Rat}:nc q < 0↔q < 0:=by
 unfold nc;rw [Rat.lt_iff]
 simp
theorem Gh {q:Rat}:nc q=0↔q=0:=by
 unfold nc;rw [Int.sign_eq_zero_iff_zero];exact Rat.num_eq_zero
theorem BO {q:Rat}:0 < nc q↔0 < q:=by
 unfold nc;rw [Rat.lt_iff]
 simp
end Go.Den
namespace Go.Den
open Go.Ab
def aE {α:Type} (f:Nat→Nat→Option α) (r:α):Prop:=∃ N0,∀ N fuel,N0≤N→N0≤fuel→f N fuel=some r
theorem aE.diag {α:Type} {f:Nat→Nat→Option α} {r:α} (h:aE f r):Gv (fun N=>f N N) r:=let ⟨N0,h0⟩:=h;⟨N0,fun N hN=>h0 N N hN hN⟩
theorem aE.step {α:Type} {f:Nat→Nat→Option α} {r:α} (N1:Nat) (h:∀ N g,N1≤N→N1≤g→f N (g+1)=some r):aE f r :=
 ⟨N1+1,fun N fuel hN hf=>by obtain ⟨g,rfl⟩:∃ g,fuel=g+1:=⟨fuel - 1,by omega⟩;exact h N g (by omega) (by omega)⟩
structure adn (RD:Nat→aa→aa→aa→Option aa) (R:Rat→Rat→Rat→Rat) (A B C:Nat):Prop where
 run:∀ (ch fr acc:Rat) (m:Nat),RB ch A→RB fr B→RB acc m→1≤m→m≤100000000→Gv (fun N=>RD N (bC ch) (bC fr) (bC acc)) (bC (R ch fr acc))
 bnd:∀ (ch fr acc:Rat) (m:Nat),RB ch A→RB fr B→RB acc m→RB (R ch fr acc) (m+C)
section
end
end Go.Den
namespace Go.Den
open Go.Ab
end Go.Den
namespace Go.Den
open Go.Ab
structure RQ (x:aa) (p:Rat) (n:Nat):Prop where
 ir:IR x n
 v:qv x=p
 pos:1≤n
structure ZI (a:bG) (z:Int) (n:Nat):Prop where
 ib:IB a n
 v:zv a=z
theorem RQ.rb {x:aa} {p:Rat} {n:Nat} (h:RQ x p n):RB p n:=h.v ▸ h.ir.rb h.pos
theorem RB.rq {p:Rat} {n:Nat} (h:RB p n) (hn:1≤n):RQ (bC p) p n:=⟨h.ir,ig p,hn⟩
theorem RQ.le {x:aa} {p:Rat} {m n:Nat} (h:RQ x p m) (M6:m≤n):RQ x p n:=⟨h.ir.le M6,h.v,eC h.pos M6⟩
theorem ZI.zb {a:bG} {z:Int} {n:Nat} (h:ZI a z n):ZB z n:=h.v ▸ h.ib.zb
theorem ZB.zi {z:Int} {n:Nat} (h:ZB z n):ZI (zJ z) z n:=⟨h.ib,mV z⟩
theorem ZI.le {a:bG} {z:Int} {m n:Nat} (h:ZI a z m) (M6:m≤n):ZI a z n:=⟨h.ib.le M6,h.v⟩
theorem IB.Ud {a:bG} (h:bG.wf a) {n:Nat} (hn:a.fL.length≤n):IB a n :=
 ⟨fun x hx=>by
  have:=h.2.2 x hx
  unfold wK at this
  have e1:IntKind.u16.min=0:=by decide
  have e2:IntKind.u16.max=65535:=by decide
  omega,hn⟩
section
variable {a b:bG} {x y:aa} {m n:Nat} {p q:Rat} {z w:Int}
theorem RQ.add (hx:RQ x p m) (hy:RQ y q n) (hs:SM (2 * (m+n+1)+2)):Gv (fun N=>eY N x y) (bC (p+q)):=by
 have:=HV hx.ir hy.ir hx.pos hy.pos hs;rwa [hx.v,hy.v] at this
theorem RQ.sub (hx:RQ x p m) (hy:RQ y q n) (hs:SM (2 * (m+n+1)+2)):Gv (fun N=>eZ N x y) (bC (p - q)):=by
 have:=HW hx.ir hy.ir hx.pos hy.pos hs;rwa [hx.v,hy.v] at this
theorem RQ.mul (hx:RQ x p m) (hy:RQ y q n) (hs:SM (2 * (m+n)+2)):Gv (fun N=>dE N x y) (bC (p * q)):=by
 have:=Oe hx.ir hy.ir hx.pos hy.pos hs;rwa [hx.v,hy.v] at this
theorem RQ.S9 (hx:RQ x p m) (hy:RQ y q n) (h0:q≠0) (hs:SM (2 * (m+n)+2)):Gv (fun N=>qT N x y) (bC (p / q)):=by
 have:=S8 hx.ir hy.ir hx.pos hy.pos (by rw [hy.v];exact h0) hs;rwa [hx.v,hy.v] at this
theorem RQ.cmp (hx:RQ x p m) (hy:RQ y q n) (hs:SM (2 * (m+n+1)+2)):Gv (fun N=>gx N x y) (nc (p - q)):=by
 have:=Of hx.ir hy.ir hx.pos hy.pos hs;rwa [hx.v,hy.v] at this
theorem RQ.nc (hx:RQ x p m) (hs:SM m):Gv (fun N=>nu N x) (nc p):=by
 have:=HX hx.ir hx.pos hs;rwa [hx.v] at this
theorem RQ.low (hx:RQ x p m) (hs:SM (2 * m+2)):Gv (fun N=>ln N x) (bC p):=by
 have:=C7 hx.ir hx.pos hs;rwa [hx.v] at this
theorem RQ.zero (hx:RQ x p m) (hs:SM m):Gv (fun N=>g8 N x) (decide (p=0)):=by
 have:=C8 hx.ir hs;rwa [hx.v] at this
theorem ZI.whole (ha:ZI a z n) (hn:1≤n) (hs:SM (2 * n+2)):Gv (fun N=>qu N a) (bC (z:Rat)):=by
 have:=KA ha.ib hn hs;rwa [ha.v] at this
theorem ZI.add (ha:ZI a z n) (hb:ZI b w n) (hs:SM (n+1)):Gv (fun N=>Bf N a b) (zJ (z+w)):=by
 have:=QD ha.ib hb.ib hs;rwa [ha.v,hb.v] at this
theorem ZI.mul (ha:ZI a z m) (hb:ZI b w n) (hs:SM (m+n)):Gv (fun N=>pR N a b) (zJ (z * w)):=by
 have:=yz ha.ib hb.ib hs;rwa [ha.v,hb.v] at this
end
end Go.Den
namespace Go.Den
open Go.Ab
theorem KB {N:Nat} {a:List Int} (ha:U a) (hs:SM a.length):∀ (n fuel:Nat),n≤a.length→n < fuel→bD (a.take n)=bD a→jZ N a fuel (n:Int)=some (lm (bD a).toNat)
 | 0,fuel,_,hf,hv=>by
  obtain ⟨g,rfl⟩:∃ g,fuel=g+1:=⟨fuel - 1,by omega⟩
  rw [jZ,if_pos (fun h=>by cases h)]
  have e:bD a=0:=by rw [← hv];simp [bD]
  rw [e]
  have e1:cond (decide (((0:Nat):Int) > 0)) (a.getD (ah (((0:Nat):Int) - 1)).toNat 0 == 0) false=false:=rfl
  rw [e1,cond_false,if_pos ⟨by simp,by simp⟩,if_pos (by simp),if_pos (by simp)]
  simp [iG]
 | n+1,fuel,hn,hf,hv=>by
  obtain ⟨g,rfl⟩:∃ g,fuel=g+1:=⟨fuel - 1,by omega⟩
  simp only [SM] at hs
  have e1:ah (((n+1:Nat):Int) - 1)=(n:Int):=by rw [aV (by omega) (by omega)];omega
  have h1:=cG a n (by omega)
  rw [jZ,e1,if_pos (fun _=>pB (by omega)),decide_eq_true (by omega),cond_true,an]
  cases hx:(a.getD n 0 == 0) with
  | true =>
   have PT:a.getD n 0=0:=eq_of_beq hx
   rw [cond_true]
   exact KB ha hs n g (by omega) (by omega) (by rw [h1,PT] at hv;omega)
  | false =>
   have PT:a.getD n 0≠0:=fun h=>by rw [h] at hx;cases hx
   rw [cond_false,an,if_pos ⟨Nat.zero_le _,hn⟩,if_pos (by omega),if_pos (by omega),List.nil_append,List.drop_zero,← hv]
   congr 1
   refine (MV (ha.take _) fun m x he=>?_).symm
   have hl:m.length=n:=by have:=congrArg List.length he;rw [oD] at this;simp at this;omega
   have:(a.take (n+1)).getD n 0=x:=by rw [he,← hl];simp [List.getD]
   rw [fE,List.getElem?_take_of_lt (by omega),← fE] at this
   rw [← this];exact PT
theorem tw {N:Nat} {a:List Int} (ha:U a) (hs:SM a.length) (hN:a.length < N):l9 N a=some (lm (bD a).toNat) :=
 KB ha hs a.length N (aG _) hN (by rw [List.take_length])
theorem M8 {N:Nat} {a:List Int} (ha:U a) (hs:SM a.length) (hN:a.length < N):∀ (k i fuel:Nat),i+k=a.length→k < fuel→j3 N a fuel (a.take i) (i:Int)=some (lm (bD a).toNat)
 | 0,i,fuel,hi,hf=>by
  obtain ⟨g,rfl⟩:∃ g,fuel=g+1:=⟨fuel - 1,by omega⟩
  have:i=a.length:=by omega
  subst this
  rw [j3,dY,cond_false,List.take_length,tw ha hs hN,ct]
 | k+1,i,fuel,hi,hf=>by
  obtain ⟨g,rfl⟩:∃ g,fuel=g+1:=⟨fuel - 1,by omega⟩
  simp only [SM] at hs
  have h1:=ha.getD i
  rw [j3,dec_lt (by omega),cond_true,if_pos (pB (by omega)),if_pos (by rw [oD];omega),an,aV (by omega) (by omega),aK (by omega)]
  have e:a.take i ++ [a.getD i 0]=a.take (i+1):=by rw [List.take_add_one];simp [List.getD,show i < a.length by omega]
  rw [e]
  exact M8 ha (by simp only [SM];omega) hN k (i+1) g (by omega) (by omega)
theorem Vv {N:Nat} {a:List Int} (ha:U a) (hs:SM a.length) (hN:a.length < N):iU N a=some (lm (bD a).toNat):=by
 have:=M8 ha hs hN a.length 0 N (by omega) hN
 unfold iU
 simpa using this
theorem M9 {N:Nat} {neg:Bool} {a:List Int} (ha:U a) (hs:SM a.length):∀ (k i fuel:Nat),i+k=a.length→k < fuel→jY N neg a fuel (a.take i) (i:Int)=some ⟨cond neg (decide (((a.length:Nat):Int) > 0)) false,a⟩
 | 0,i,fuel,hi,hf=>by
  obtain ⟨g,rfl⟩:∃ g,fuel=g+1:=⟨fuel - 1,by omega⟩
  have:i=a.length:=by omega
  subst this
  rw [jY,dY,cond_false,List.take_length]
 | k+1,i,fuel,hi,hf=>by
  obtain ⟨g,rfl⟩:∃ g,fuel=g+1:=⟨fuel - 1,by omega⟩
  simp only [SM] at hs
  have h1:=ha.getD i
  rw [jY,dec_lt (by omega),cond_true,if_pos (pB (by omega)),if_pos (by rw [oD];omega),an,nW (by omega) (by omega),aK (by omega)]
  have e:a.take i ++ [a.getD i 0]=a.take (i+1):=by rw [List.take_add_one];simp [List.getD,show i < a.length by omega]
  rw [e]
  exact M9 ha (by simp only [SM];omega) k (i+1) g (by omega) (by omega)
theorem Ta (neg:Bool) {k:Nat} (hk:SM (lm k).length):Gv (fun N=>fJ N neg (lm k)) (zJ (sg neg k)) :=
 .of ((lm k).length+1) fun N hN=>by
  have:=M9 (N:=N) (neg:=neg) (ri k) hk (lm k).length 0 N (by omega) (by omega)
  rw [List.take_zero] at this
  unfold fJ
  rw [show ((0:Nat):Int)=0 from rfl] at this
  rw [this]
  by_cases h:k=0
  ·subst h;rw [iG,M5];cases neg<;>rfl
  ·rw [QA _ _ h]
   have:=mi.2 h
   rw [decide_eq_true (by omega)];cases neg<;>rfl
theorem zk (N:Nat) (a:List Int) (i:Nat):lW N a (i:Int)=some (a.getD i 0):=by
 unfold lW
 by_cases h:i < a.length
 ·rw [dec_lt h,cond_true,if_pos (pB h),an]
 ·rw [decide_eq_false (by omega),cond_false,tX (by omega)]
theorem oy (a:List Int) (i:Nat):bD (a.take (i+1))=bD (a.take i)+a.getD i 0 * pw i:=by
 by_cases h:i < a.length
 ·exact cG a i h
 ·rw [js (by omega),js (by omega),tX (by omega)];simp
theorem QH {N:Nat} {a b:List Int} (ha:U a) (hb:U b) (hs:SM (a.length+b.length+2)) (hN:a.length+b.length+2 < N):∀ (k i fuel:Nat) (out:List Int) (c:Int),a.length+b.length+1≤i+k→k < fuel→out.length=i→i≤a.length+b.length+1→U out→0≤c→c≤1 →
  (a.length < i∧b.length < i→c=0)→bD out+pw i * c=bD (a.take i)+bD (b.take i)→j4 N a b fuel out c (i:Int)=some (lm (bD a+bD b).toNat):=by
 intro k
 simp only [SM] at hs
 induction k with
 | zero =>
  intro i fuel out c hi hf ho TQ hU xM tC Jn hinv
  obtain ⟨g,rfl⟩:∃ g,fuel=g+1:=⟨fuel - 1,by omega⟩
  have hc:=Jn ⟨by omega,by omega⟩
  subst hc
  rw [j4,decide_eq_false (by omega),decide_eq_false (by omega),decide_eq_false (by decide)]
  simp only [cond_false]
  rw [tw hU (by simp only [SM];omega) (by omega),ct]
  rw [js (by omega),js (by omega)] at hinv
  rw [show bD out=bD a+bD b by omega]
 | succ k ih =>
  intro i fuel out c hi hf ho TQ hU xM tC Jn hinv
  obtain ⟨g,rfl⟩:∃ g,fuel=g+1:=⟨fuel - 1,by omega⟩
  rw [j4]
  by_cases Yj:i < a.length∨i < b.length∨0 < c
  ·have e:cond (cond (decide ((i:Int) < ((a.length:Nat):Int))) true (decide ((i:Int) < ((b.length:Nat):Int)))) true (decide (c > 0))=true:=by
    rcases Yj with h | h | h
    ·rw [dec_lt h];rfl
    ·rw [dec_lt h];cases decide ((i:Int) < ((a.length:Nat):Int))<;>rfl
    ·rw [decide_eq_true (show c > 0 by omega)];cases cond (decide ((i:Int) < ((a.length:Nat):Int))) true (decide ((i:Int) < ((b.length:Nat):Int)))<;>rfl
   have h1:=ha.getD i
   have h2:=hb.getD i
   have ado:i≤a.length+b.length:=by
    rcases Yj with h | h | h
    ·omega
    ·omega
    ·have:¬ (a.length < i∧b.length < i):=fun h'=>by have:=Jn h';omega
     omega
   rw [e,cond_true,zk,ct,zk,ct,if_pos (by omega),aV (n:=a.getD i 0+b.getD i 0) (by omega) (by omega),aV (n:=a.getD i 0+b.getD i 0+c) (by omega) (by omega),aK (by omega)]
   generalize hsm:a.getD i 0+b.getD i 0+c=s
   have Ry:0≤s:=by omega
   rw [Int.tmod_eq_emod_of_nonneg Ry,Int.tdiv_eq_ediv_of_nonneg Ry,aV (n:=s / 65536) (by omega) (by omega)]
   refine ih (i+1) g _ _ (by omega) (by omega) (by simp [ho]) (by omega) (hU.append (U.one (by omega) (by omega))) (by omega) (by omega) (fun h=>?_) ?_
   ·have e1:=tX (show a.length≤i by omega)
    have e2:=tX (show b.length≤i by omega)
    omega
   ·rw [lu,qK,ho,oy a,oy b,gP]
    have h5:s=s % 65536+65536 * (s / 65536):=by omega
    have h6:pw i * s=pw i * (s % 65536)+pw i * (65536 * (s / 65536)):=by rw [← iA,← h5]
    have h7:pw i * s=a.getD i 0 * pw i+b.getD i 0 * pw i+pw i * c:=by rw [← hsm,iA,iA,gN (pw i) (a.getD i 0),gN (pw i) (b.getD i 0)]
    have h8:65536 * pw i * (s / 65536)=pw i * (65536 * (s / 65536)):=by rw [gN 65536,kM]
    omega
  ·have e:cond (cond (decide ((i:Int) < ((a.length:Nat):Int))) true (decide ((i:Int) < ((b.length:Nat):Int)))) true (decide (c > 0))=false:=by
    rw [decide_eq_false (by omega),decide_eq_false (by omega),decide_eq_false (by omega)];rfl
   have hc:c=0:=by omega
   subst hc
   rw [e,cond_false,tw hU (by simp only [SM];omega) (by omega),ct]
   rw [js (by omega),js (by omega)] at hinv
   rw [show bD out=bD a+bD b by omega]
theorem QI {N a b:Nat} (hs:SM ((lm a).length+(lm b).length+2)) (hN:(lm a).length+(lm b).length+3 < N):wo N (lm a) (lm b)=some (lm (a+b)):=by
 have:=QH (N:=N) (ri a) (ri b) hs (by omega) ((lm a).length+(lm b).length+1) 0 N [] 0 (by omega) (by omega) rfl (by omega) U.nil (by omega) (by omega) (fun _=>rfl) (by simp [bD])
 rw [iy,iy] at this
 exact this
theorem Ds {N:Nat} {a b:List Int} (ha:U a) (hb:U b) (hl:a.length=b.length) (hs:SM a.length):∀ (k fuel:Nat),k≤a.length→k < fuel→gH N a b fuel ((k:Int) - 1)=some (LV a b k)
 | 0,fuel,_,hf=>by
  obtain ⟨g,rfl⟩:∃ g,fuel=g+1:=⟨fuel - 1,by omega⟩
  rw [gH];rfl
 | k+1,fuel,hk,hf=>by
  obtain ⟨g,rfl⟩:∃ g,fuel=g+1:=⟨fuel - 1,by omega⟩
  simp only [SM] at hs
  have e:(((k+1:Nat):Int) - 1)=(k:Int):=by omega
  have h1:=ha.getD k
  have h2:=hb.getD k
  rw [e,gH,decide_eq_true (by omega),cond_true,if_pos (pB (by omega)),if_pos (pB (by omega)),an,aV (n:=a.getD k 0 - b.getD k 0) (by omega) (by omega),aV (n:=(k:Int) - 1) (by omega) (by omega),Ds ha hb hl (by simp only [SM];omega) k g (by omega) (by omega)]
  rw [LV]
  cases (a.getD k 0 != b.getD k 0)<;>rfl
theorem BP {N a b:Nat} (hN:(lm a).length < N) (ha:SM (lm a).length) (hb:SM (lm b).length):mL N (lm a) (lm b)=some (G5 a b):=by
 unfold mL G5
 simp only [SM] at ha hb
 cases hl:((((lm a).length:Nat):Int) != (((lm b).length:Nat):Int)) with
 | true=>rw [cond_true,cond_true,aV (by omega) (by omega)]
 | false =>
  have heq:(lm a).length=(lm b).length:=by simp at hl;omega
  rw [cond_false,cond_false,aV (by omega) (by omega)]
  exact Ds (ri a) (ri b) heq ha _ N (aG _) hN
theorem HY {N:Nat} {a b:List Int} (ha:U a) (hb:U b) (hl:b.length≤a.length) (hle:bD b≤bD a) (hs:SM a.length) (hN:a.length+1 < N):∀ (k x fuel:Nat) (out:List Int) (c:Int),x+k=a.length→k < fuel→out.length=x→U out→0≤c→c≤1 →
  bD out - pw x * c=bD (a.take x) - bD (b.take x)→fX N a b fuel out c (x:Int)=some (lm (bD a - bD b).toNat)
 | 0,x,fuel,out,c,hx,hf,ho,hU,xM,tC,hinv=>by
  obtain ⟨g,rfl⟩:∃ g,fuel=g+1:=⟨fuel - 1,by omega⟩
  have G6:x=a.length:=by omega
  subst G6
  rw [fX,dY,cond_false,tw hU (by simp only [SM] at *;omega) (by omega),ct]
  rw [List.take_length,js hl] at hinv
  have h1:=hU.lt
  rw [ho] at h1
  have hc:c=0:=by
   rcases Int.lt_or_le 0 c with h | h
   ·have:c=1:=by omega
    subst this;omega
   ·omega
  subst hc
  rw [show bD out=bD a - bD b by omega]
 | k+1,x,fuel,out,c,hx,hf,ho,hU,xM,tC,hinv=>by
  obtain ⟨g,rfl⟩:∃ g,fuel=g+1:=⟨fuel - 1,by omega⟩
  simp only [SM] at hs
  have qj:x < a.length:=by omega
  have h1:=ha.getD x
  have h2:=hb.getD x
  rw [fX,dec_lt qj,cond_true,if_pos (pB qj),zk,ct,an,aV (n:=a.getD x 0 - b.getD x 0) (by omega) (by omega),aV (n:=a.getD x 0 - b.getD x 0 - c) (by omega) (by omega)]
  have fin:∀ q s:Int,0≤q→q≤1→s=a.getD x 0 - b.getD x 0 - c+q * 65536→0≤s→s < 65536→lJ N a b out (x:Int) (fX N a b g) q s=some (lm (bD a - bD b).toNat):=by
   intro q s Ed E2 hse Ry ND
   unfold lJ
   rw [if_pos (by omega),aK (by omega)]
   refine HY ha hb hl hle (by simp only [SM];omega) hN k (x+1) g _ _ (by omega) (by omega) (by simp [ho]) (hU.append (U.one Ry ND)) Ed E2 ?_
   rw [lu,qK,ho,oy a,oy b,gP]
   have h3:pw x * s=a.getD x 0 * pw x - b.getD x 0 * pw x - pw x * c+65536 * pw x * q:=by rw [hse];grind
   omega
  cases gS:decide (a.getD x 0 - b.getD x 0 - c < 0) with
  | true =>
   have gS:=qC gS
   rw [cond_true,aV (by omega) (by omega)]
   exact fin 1 _ (by omega) (by omega) (by omega) (by omega) (by omega)
  | false =>
   have gS:=rV gS
   rw [cond_false]
   exact fin 0 _ (by omega) (by omega) (by omega) (by omega) (by omega)
theorem C9 {N a b:Nat} (Ua:b≤a) (hs:SM (lm a).length) (hN:(lm a).length+1 < N):pg N (lm a) (lm b)=some (lm (a - b)):=by
 have:=HY (N:=N) (ri a) (ri b) (iu Ua) (by rw [iy,iy];omega) hs hN (lm a).length 0 N [] 0 (by omega) (by omega) rfl U.nil (by omega) (by omega) (by simp [bD])
 rw [iy,iy] at this
 rw [show (lm (a - b))=lm ((a:Int) - (b:Int)).toNat by congr 1;omega]
 exact this
theorem Og {N:Nat} {a b:List Int} {i:Nat} (ha:U a) (hb:U b) (hi:i < a.length) (hs:SM (a.length+b.length+1)) (K:List Int→Int→Option (List Int)) (R:Option (List Int))
  (hK:∀ out,out.length=a.length+b.length+1→U out→(∀ j,i+1+b.length≤j→out.getD j 0=0)→bD out=bD (a.take (i+1)) * bD b→K out ((i+1:Nat):Int)=R) :
  ∀ (k x fuel:Nat) (out:List Int) (c:Int),x+k=b.length+1→k < fuel→out.length=a.length+b.length+1→U out→0≤c→c < 65536→(x=b.length+1→c=0)→(∀ j,i+b.length≤j→x≤b.length→out.getD j 0=0)→(∀ j,i+1+b.length≤j→out.getD j 0=0) →
   bD out+pw (i+x) * c=bD (a.take i) * bD b+a.getD i 0 * pw i * bD (b.take x)→jq N a b (i:Int) K fuel out c (x:Int)=R:=by
 intro k
 simp only [SM] at hs
 induction k with
 | zero =>
  intro x fuel out c hx hf ho hU xM tC Jn hz LX hinv
  obtain ⟨g,rfl⟩:∃ g,fuel=g+1:=⟨fuel - 1,by omega⟩
  have G6:x=b.length+1:=by omega
  subst G6
  have hc:=Jn rfl
  subst hc
  rw [jq,decide_eq_false (by omega),decide_eq_false (by decide)]
  simp only [cond_false]
  rw [aK (by omega)]
  refine hK out ho hU LX ?_
  rw [show b.take (b.length+1)=b from js (by omega)] at hinv
  rw [cG a i hi,eD];omega
 | succ k ih =>
  intro x fuel out c hx hf ho hU xM tC Jn hz LX hinv
  obtain ⟨g,rfl⟩:∃ g,fuel=g+1:=⟨fuel - 1,by omega⟩
  rw [jq]
  have h1:=ha.getD i
  have h2:=hb.getD x
  have h3:=hU.getD (i+x)
  by_cases Yj:x < b.length∨0 < c
  ·have e:cond (decide ((x:Int) < ((b.length:Nat):Int))) true (decide (c > 0))=true:=by
    rcases Yj with h | h
    ·rw [dec_lt h];rfl
    ·rw [decide_eq_true (show c > 0 by omega)];cases decide ((x:Int) < ((b.length:Nat):Int))<;>rfl
   have ei:ah ((i:Int)+(x:Int))=((i+x:Nat):Int):=by rw [aV (by omega) (by omega)];omega
   have h4:=F8 h1.1 h1.2 h2.1 h2.2
   rw [e,cond_true,ei,if_pos (pB (by omega)),if_pos (pB hi),zk,ct]
   simp only [an]
   rw [aV (n:=a.getD i 0 * b.getD x 0) (by omega) (by omega),aV (n:=out.getD (i+x) 0+a.getD i 0 * b.getD x 0) (by omega) (by omega),aV (n:=out.getD (i+x) 0+a.getD i 0 * b.getD x 0+c) (by omega) (by omega),aK (by omega)]
   generalize SY:out.getD (i+x) 0+a.getD i 0 * b.getD x 0+c=s
   have Ry:0≤s:=by omega
   rw [Int.tmod_eq_emod_of_nonneg Ry,Int.tdiv_eq_ediv_of_nonneg Ry,aV (n:=s / 65536) (by omega) (by omega)]
   refine ih (x+1) g _ _ (by omega) (by omega) (by simp [ho]) (hU.set _ (by omega) (by omega)) (by omega) (by omega) (fun h=>?_) (fun j hj TW=>?_) (fun j hj=>?_) ?_
   ·have e1:=tX (show b.length≤x by omega)
    have e2:=hz (i+x) (by omega) (by omega)
    rw [e1,e2] at SY;simp at SY;omega
   ·rw [getD_set_ne _ _ (by omega)];exact hz j hj (by omega)
   ·rw [getD_set_ne _ _ (by omega)];exact LX j hj
   ·rw [m8 _ _ _ (by omega),oy b,show i+(x+1)=(i+x)+1 by omega,gP]
    have h5:s=s % 65536+65536 * (s / 65536):=by omega
    have h6:pw (i+x) * s=pw (i+x) * (s % 65536)+pw (i+x) * (65536 * (s / 65536)):=by rw [← iA,← h5]
    have h7:pw (i+x) * s=pw (i+x) * c+pw (i+x) * (a.getD i 0 * b.getD x 0)+pw (i+x) * out.getD (i+x) 0:=by rw [← SY,iA,iA];omega
    have h8:65536 * pw (i+x) * (s / 65536)=pw (i+x) * (65536 * (s / 65536)):=by rw [gN 65536,kM]
    have h9:(s % 65536 - out.getD (i+x) 0) * pw (i+x)=pw (i+x) * (s % 65536) - pw (i+x) * out.getD (i+x) 0:=by rw [Int.sub_mul,gN,gN (out.getD (i+x) 0)]
    have Yb:a.getD i 0 * pw i * (bD (b.take x)+b.getD x 0 * pw x)=a.getD i 0 * pw i * bD (b.take x)+pw (i+x) * (a.getD i 0 * b.getD x 0):=by
     rw [F6];grind
    omega
  ·have e:cond (decide ((x:Int) < ((b.length:Nat):Int))) true (decide (c > 0))=false:=by
    rw [decide_eq_false (by omega),decide_eq_false (by omega)];rfl
   have hc:c=0:=by omega
   subst hc
   rw [e,cond_false,aK (by omega)]
   refine hK out ho hU LX ?_
   rw [show b.take x=b from js (by omega)] at hinv
   rw [cG a i hi,eD];omega
theorem HZ {N:Nat} {a b:List Int} (ha:U a) (hb:U b) (hs:SM (a.length+b.length+1)) (hN:a.length+b.length+2 < N):∀ (k x fuel:Nat) (out:List Int),x+k=a.length→k < fuel→out.length=a.length+b.length+1→U out →
  (∀ j,x+b.length≤j→out.getD j 0=0)→bD out=bD (a.take x) * bD b→jr N a b fuel out (x:Int)=some (lm (bD a * bD b).toNat)
 | 0,x,fuel,out,hx,hf,ho,hU,hz,hinv=>by
  obtain ⟨g,rfl⟩:∃ g,fuel=g+1:=⟨fuel - 1,by omega⟩
  have G6:x=a.length:=by omega
  subst G6
  rw [jr,dY,cond_false,tw hU (by simp only [SM] at *;omega) (by omega),ct,hinv,List.take_length]
 | k+1,x,fuel,out,hx,hf,ho,hU,hz,hinv=>by
  obtain ⟨g,rfl⟩:∃ g,fuel=g+1:=⟨fuel - 1,by omega⟩
  have qj:x < a.length:=by omega
  rw [jr,dec_lt qj,cond_true]
  refine Og ha hb qj hs _ _ (fun gu h1 h2 h3 h4=>?_) (b.length+1) 0 N out 0 (by omega) (by omega) ho hU (by omega) (by omega) (fun h=>by omega) (fun j hj _=>hz j hj) (fun j hj=>hz j (by omega)) (by rw [hinv];simp [bD])
  exact HZ ha hb hs hN k (x+1) g gu (by omega) (by omega) h1 h2 h3 h4
theorem KC {N:Nat} {a b:List Int} (ha:U a) (hb:U b) (hs:SM (a.length+b.length+1)) (hN:a.length+b.length+2 < N):lg N a b=some (lm (bD a * bD b).toNat):=by
 unfold lg
 have G7:=hs
 simp only [SM] at G7
 have e:ah (ah (((a.length:Nat):Int)+((b.length:Nat):Int))+1)=((a.length+b.length+1:Nat):Int):=by rw [aV (n:=((a.length:Nat):Int)+((b.length:Nat):Int)) (by omega) (by omega),aV (by omega) (by omega)];omega
 rw [e,if_pos (by omega)]
 exact HZ ha hb hs hN a.length 0 N _ (by omega) (by omega) (by simp;omega) (U.replicate _) (fun j _=>ic _ j) (by rw [j7];simp [bD])
theorem Oh {N a b:Nat} (hs:SM ((lm a).length+(lm b).length+1)) (hN:(lm a).length+(lm b).length+2 < N):lg N (lm a) (lm b)=some (lm (a * b)):=by
 rw [KC (ri a) (ri b) hs hN,iy,iy,uI]
theorem Tb {N:Nat} {a q:List Int} {b i X:Nat} (hb:0 < b) (hX:X < 65536 * b) (hq:i < q.length) (hs:SM ((lm b).length+(lm X).length+3)) (hi:SM i) (hN:(lm b).length+(lm X).length+65546 < N) (K:List Int→List Int→Int→Option (List Int×List Int)) :
  ∀ (d lo hi fuel:Nat),hi - lo≤d→lo≤hi→hi < 65536→d < fuel→lo * b≤X→X < (hi+1) * b→je N a (lm b) q (i:Int) (lm X) K fuel (lo:Int) (hi:Int)=K (lm (X % b)) (q.set i ((X / b:Nat):Int)) ((i:Int) - 1):=by
 intro d
 simp only [SM] at hs hi
 have one:∀ m:Nat,m < 65536→lg N (lm b) [(m:Int)]=some (lm (b * m)):=fun m hm=>by
  rw [KC (ri b) (U.one (by omega) (by omega)) (by simp only [SM,List.length_singleton];omega) (by simp only [List.length_singleton];omega),iy,qK,uI]
 have aav:∀ m:Nat,m < 65536→(lm (b * m)).length≤(lm b).length+1:=fun m hm=>by
  rw [jz,gP]
  have:=(jz (n:=b) (k:=(lm b).length)).1 (aG _)
  have h2:=Nat.mul_le_mul_left b (show m≤65535 by omega)
  have:=lr (lm b).length
  omega
 induction d with
 | zero =>
  intro lo rr fuel hd hle NF hf h1 h2
  obtain ⟨g,rfl⟩:∃ g,fuel=g+1:=⟨fuel - 1,by omega⟩
  have hlh:rr=lo:=by omega
  subst hlh
  have hdiv:X / b=rr:=by
   have h3:X=rr * b+(X - rr * b):=by omega
   have h4:X - rr * b < b:=by rw [cz,Nat.one_mul] at h2;omega
   exact (Dq h3 h4).1
  have Xn:X % b=X - b * rr:=by
   have:=Nat.div_add_mod X b
   rw [hdiv] at this;omega
  rw [je,decide_eq_false (by omega),cond_false,if_pos (pB hq)]
  have h5:b * rr≤X:=by rw [pL];exact h1
  by_cases h0:0 < rr
  ·rw [decide_eq_true (by omega),cond_true,one rr NF,ct,C9 h5 (by simp only [SM];omega) (by omega),ct]
   unfold mM
   rw [an,aV (by omega) (by omega),hdiv,Xn]
  ·have:rr=0:=by omega
   subst this
   rw [decide_eq_false (by decide),cond_false]
   unfold mM
   rw [an,aV (by omega) (by omega),hdiv,Xn];simp
 | succ d ih =>
  intro lo rr fuel hd hle NF hf h1 h2
  obtain ⟨g,rfl⟩:∃ g,fuel=g+1:=⟨fuel - 1,by omega⟩
  by_cases gS:lo < rr
  ·rw [je,decide_eq_true (by omega),cond_true,aV (n:=(lo:Int)+(rr:Int)) (by omega) (by omega),aV (n:=(lo:Int)+(rr:Int)+1) (by omega) (by omega)]
   have em:((lo:Int)+(rr:Int)+1).tdiv 2=(((lo+rr+1) / 2:Nat):Int):=by rw [Int.tdiv_eq_ediv_of_nonneg (by omega)];omega
   rw [em,aV (n:=(((lo+rr+1) / 2:Nat):Int)) (by omega) (by omega)]
   generalize hm:(lo+rr+1) / 2=m
   have hml:=aav m (by omega)
   rw [one m (by omega),ct,BP (by omega) (by simp only [SM];omega) (by simp only [SM];omega),ct]
   have hc:G5 (b * m) X≤0↔b * m≤X:=by
    obtain ⟨c,_,h3,h4,h5⟩:=wJ (N:=(lm (b * m)).length+1) (a:=b * m) (b:=X) (by omega) (by simp only [SM];omega) (by simp only [SM];omega)
    rw [← h5];omega
   by_cases K3:b * m≤X
   ·rw [decide_eq_true (hc.2 K3),cond_true]
    exact ih m rr g (by omega) (by omega) NF (by omega) (by rw [pL];exact K3) h2
   ·rw [decide_eq_false (fun h=>K3 (hc.1 h)),cond_false,aV (by omega) (by omega)]
    have e1:((m:Int) - 1)=((m - 1:Nat):Int):=by omega
    rw [e1]
    refine ih lo (m - 1) g (by omega) (by omega) (by omega) (by omega) h1 ?_
    rw [show m - 1+1=m by omega,pL];omega
  ·have:=ih lo rr (g+1) (by omega) hle NF (by omega) h1 h2
   exact this
theorem Na {N:Nat} {A b:Nat} (hb:0 < b) (hs:SM (2 * (lm A).length+2 * (lm b).length+10)) (hN:(lm A).length+2 * (lm b).length+65560 < N):∀ (k fuel:Nat) (q:List Int) (r:Nat),k≤(lm A).length→k < fuel→q.length=(lm A).length→U q→r < b →
  (∀ j,j < k→q.getD j 0=0)→pw k * bD ((lm A).drop k)=bD q * b+r * pw k→jf N (lm A) (lm b) fuel (lm r) q ((k:Int) - 1)=some (lm (A / b),lm (A % b))
 | 0,fuel,q,r,hk,hf,hq,hU,hr,hz,hinv=>by
  obtain ⟨g,rfl⟩:∃ g,fuel=g+1:=⟨fuel - 1,by omega⟩
  have e:decide ((((0:Nat):Int) - 1)≥0)=false:=rfl
  rw [jf,e,cond_false,tw hU (by simp only [SM] at *;omega) (by omega),ct]
  rw [ze,List.drop_zero,iy] at hinv
  have Ed:=hU.oY
  obtain ⟨Q,hQ⟩:=Int.eq_ofNat_of_zero_le Ed
  rw [hQ] at hinv ⊢
  have h6:A=Q * b+r:=by
   have h9:(A:Int)=Q * b+r:=by omega
   exact_mod_cast h9
  obtain ⟨h7,h8⟩:=Dq h6 hr
  rw [h7,h8];rfl
 | k+1,fuel,q,r,hk,hf,hq,hU,hr,hz,hinv=>by
  obtain ⟨g,rfl⟩:∃ g,fuel=g+1:=⟨fuel - 1,by omega⟩
  have G7:=hs
  simp only [SM] at G7
  have e:(((k+1:Nat):Int) - 1)=(k:Int):=by omega
  have h1:=(ri A).getD k
  have XS:(lm r).length≤(lm b).length:=iu (by omega)
  rw [e,jf,decide_eq_true (by omega),cond_true,if_pos (pB (by omega)),if_pos (by omega),an]
  obtain ⟨D,hD⟩:=Int.eq_ofNat_of_zero_le h1.1
  have hX:lm (bD ([(lm A).getD k 0] ++ lm r)).toNat=lm (D+65536 * r):=by
   have e9:bD ([(lm A).getD k 0] ++ lm r)=((D+65536 * r:Nat):Int):=by rw [lu,qK,iy,hD];simp [pw]
   rw [e9,Int.toNat_natCast]
  have hD2:D < 65536:=by omega
  rw [tw ((U.one h1.1 h1.2).append (ri r)) (by simp only [SM,lY,List.length_singleton];omega) (by simp only [lY,List.length_singleton];omega),ct,hX]
  have hXb:D+65536 * r < 65536 * b:=by omega
  have hXl:(lm (D+65536 * r)).length≤(lm b).length+1:=by
   rw [jz,gP]
   have:=(jz (n:=b) (k:=(lm b).length)).1 (aG _)
   omega
  have:=Tb (N:=N) (a:=lm A) (q:=q) (b:=b) (i:=k) (X:=D+65536 * r) hb hXb (by omega) (by simp only [SM];omega) (by simp only [SM];omega) (by omega) (jf N (lm A) (lm b) g) 65535 0 65535 N (by omega) (by omega) (by omega) (by omega) (by omega) (by omega)
  rw [show ((0:Nat):Int)=0 from rfl,show ((65535:Nat):Int)=65535 from rfl] at this
  rw [this]
  have hdv:(D+65536 * r) / b < 65536:=Nat.div_lt_of_lt_mul (by omega)
  have hml:=Nat.mod_lt (D+65536 * r) hb
  have hdm:=Nat.div_add_mod (D+65536 * r) b
  generalize (D+65536 * r) / b=u at *
  generalize (D+65536 * r) % b=v at *
  refine Na hb hs hN k g _ _ (by omega) (by omega) (by simp [hq]) (hU.set _ (by omega) (by omega)) hml (fun j hj=>by rw [getD_set_ne _ _ (by omega)];exact hz j (by omega)) ?_
  rw [m8 _ _ _ (by omega),hz k (by omega),Int.sub_zero,nI _ k (by omega),hD]
  rw [gP] at hinv
  have h2:(D:Int)+65536 * r=b * u+v:=by
   have:=congrArg (fun x:Nat=>(x:Int)) hdm
   simp only [Int.natCast_add,Int.natCast_mul] at this
   omega
  have h3:pw k * ((D:Int)+65536 * r)=pw k * (b * u+v):=by rw [h2]
  grind
theorem Nb {N A b:Nat} (hb:b≠0) (hs:SM (2 * (lm A).length+2 * (lm b).length+10)) (hN:(lm A).length+2 * (lm b).length+65560 < N):nB N (lm A) (lm b)=some (lm (A / b),lm (A % b)):=by
 have G7:=hs
 simp only [SM] at G7
 unfold nB
 rw [if_pos (by omega),aV (by omega) (by omega)]
 have:=Na (N:=N) (A:=A) (b:=b) (by omega) hs hN (lm A).length N (List.replicate (lm A).length 0) 0 (aG _) (by omega) (by simp) (U.replicate _) (by omega) (fun j _=>ic _ j) (by rw [List.drop_length,j7];simp [bD])
 rw [iG] at this
 exact this
end Go.Den
namespace Go.Den
open Go.Ab
abbrev LM (n:Nat):Prop:=n < 1000000000000
section
variable {a b:bG} {x y:aa} {m n:Nat} {p q:Rat} {z w:Int}
theorem ZI.read (ha:ZI a z n) (hs:LM n):Gv (fun N=>iU N a.fL) (lm z.natAbs) :=
 .of (n+1) fun N hN=>by
  have:=Vv (N:=N) ha.ib.U (by have:=ha.ib.len;simp only [SM,LM] at *;omega) (by have:=ha.ib.len;omega)
  rwa [← lN,ha.v] at this
theorem ZI.I6 (ha:ZI a z n):z=sg a.fG z.natAbs:=by
 have h1:=lN a
 have:zv a=sg a.fG (zv a).natAbs:=by rw [h1];rfl
 rwa [ha.v] at this
theorem oz {neg:Bool} {k:Nat} (hz:ZB (sg neg k) n) (hs:LM n):Gv (fun N=>fJ N neg (lm k)) (zJ (sg neg k)):=by
 unfold ZB at hz
 rw [pC] at hz
 exact Ta neg (by simp only [SM,LM] at *;omega)
theorem QJ {N:Nat} {z:Int}:∀ (fuel n:Nat) (out:List Int) (r:Option bG),(lm n).length < fuel→out.length+(lm n).length < 1000→n < 18446744073709551616→((fJ N (decide (z < 0)) (out ++ lm n)).bind fun r=>some r)=r→lf N z fuel out (n:Int)=r
 | 0,n,out,r,h,_,_,_=>by omega
 | fuel+1,n,out,r,h,h2,h3,hr=>by
  rw [lf]
  by_cases hn:n=0
  ·subst hn
   rw [iG,List.append_nil] at hr
   exact hr
  ·have e:decide ((n:Int) > 0)=true:=by simp;omega
   rw [rH hn] at h h2
   simp only [yH] at h h2
   have e1:((n:Int) / 65536)=((n / 65536:Nat):Int):=by omega
   have e2:((n:Int) % 65536)=((n % 65536:Nat):Int):=by omega
   rw [e,cond_true,if_pos (by omega),Int.tmod_eq_emod_of_nonneg (by omega),Int.tdiv_eq_ediv_of_nonneg (by omega),e1,e2,ij (by omega) (by omega),aV (by omega) (by omega)]
   refine QJ fuel (n / 65536) _ r (by omega) (by simp;omega) (by omega) ?_
   rw [← hr,rH hn,List.append_assoc];rfl
theorem GG (h1:-9223372036854775808≤z) (h2:z≤9223372036854775807):Gv (fun N=>qW N z) (zJ z):=by
 have hl:ZB z 4:=ZB.word h1 h2
 have key:Gv (fun N=>lf N z N [] ((z.natAbs:Nat):Int)) (zJ z):=by
  have hm:Gv (fun N=>(fJ N (decide (z < 0)) (lm z.natAbs)).bind fun r=>some r) (zJ z):=by
   by_cases h:z < 0
   ·have e:sg true z.natAbs=z:=by simp [sg];omega
    have:=oz (neg:=true) (k:=z.natAbs) (n:=4) (by rw [e];exact hl) (by decide)
    rw [e] at this
    rw [decide_eq_true h]
    exact this.bind (Gv.pure _)
   ·have e:sg false z.natAbs=z:=by simp [sg];omega
    have:=oz (neg:=false) (k:=z.natAbs) (n:=4) (by rw [e];exact hl) (by decide)
    rw [e] at this
    rw [decide_eq_false h]
    exact this.bind (Gv.pure _)
  obtain ⟨N0,hm⟩:=hm
  refine .of (N0+5) fun N hN=>?_
  unfold ZB at hl
  exact QJ N z.natAbs [] _ (by omega) (by simp;omega) (by omega) (by have:=hm N (by omega);simpa using this)
 unfold qW
 by_cases h:z < 0
 ·have e:IntKind.u64.wrap (0 - IntKind.u64.wrap z)=((z.natAbs:Nat):Int):=by rw [wrap64,wrap64];omega
  refine Gv.aF (decide_eq_true h) ?_
  rw [e];exact key
 ·have e:IntKind.u64.wrap z=((z.natAbs:Nat):Int):=by rw [wrap64];omega
  refine Gv.aR (decide_eq_false h) ?_
  rw [e];exact key
theorem ZI.Vw (ha:ZI a z n) (hs:LM n):Gv (fun N=>y8 N a) (zJ (-z)):=by
 refine (ha.read hs).bind ?_
 have e:sg (!a.fG) z.natAbs = -z:=by
  have:=ha.I6
  generalize z.natAbs=k at *
  subst this
  cases a.fG<;>simp [sg]
 refine Gv.bind (r:=zJ (-z)) ?_ (Gv.pure _)
 rw [← e]
 exact oz (n:=n) (by rw [e];exact ha.zb.neg) hs
theorem ZI.G8 (ha:ZI a z n) (hb:ZI b w n) (hs:LM (n+1)):Gv (fun N=>y9 N a b) (zJ (z+w)):=by
 simp only [LM] at hs
 have hz:=ha.zb.add hb.zb
 have HG:=ha.zb
 have tN:=hb.zb
 unfold ZB at HG tN
 refine (ha.read (by simp only [LM];omega)).bind ((hb.read (by simp only [LM];omega)).bind ?_)
 have hX:=ha.I6
 have hY:=hb.I6
 clear ha hb
 generalize z.natAbs=x at *
 generalize w.natAbs=y at *
 rw [hX,hY] at hz ⊢
 generalize a.fG=p at *
 generalize b.fG=q at *
 cases OC:(p == q) with
 | true =>
  have OC:p=q:=by simpa using OC
  subst OC
  have e:sg p x+sg p y=sg p (x+y):=by cases p<;>simp [sg]<;>omega
  rw [e] at hz ⊢
  refine Gv.aF rfl (Gv.bind (r:=lm (x+y)) (.of (2 * n+4) fun N hN=>QI (by simp only [SM];omega) (by omega)) ?_)
  exact (oz hz (by simp only [LM];omega)).bind (Gv.pure _)
 | false =>
  have OC:q=!p:=by cases p<;>cases q<;>simp_all
  subst OC
  refine Gv.aR rfl ?_
  refine Gv.bind (r:=G5 x y) (.of (n+2) fun N hN=>BP (by omega) (by simp only [SM];omega) (by simp only [SM];omega)) ?_
  have gS:=MY (a:=x) (b:=y) (by simp only [SM];omega) (by simp only [SM];omega)
  by_cases TZ:x < y
  ·refine Gv.aR (decide_eq_false (by have:=gS.2 TZ;omega)) (Gv.bind (r:=lm (y - x)) (.of (n+2) fun N hN=>C9 (by omega) (by simp only [SM];omega) (by omega)) ?_)
   have e:sg p x+sg (!p) y=sg (!p) (y - x):=by cases p<;>simp [sg]<;>omega
   rw [e] at hz ⊢
   exact (oz hz (by simp only [LM];omega)).bind (Gv.pure _)
  ·refine Gv.aF (decide_eq_true (by have:=fun h=>TZ (gS.1 h);omega)) (Gv.bind (r:=lm (x - y)) (.of (n+2) fun N hN=>C9 (by omega) (by simp only [SM];omega) (by omega)) ?_)
   have e:sg p x+sg (!p) y=sg p (x - y):=by cases p<;>simp [sg]<;>omega
   rw [e] at hz ⊢
   exact (oz hz (by simp only [LM];omega)).bind (Gv.pure _)
theorem ZI.u5 (ha:ZI a z n) (hs:LM n):Gv (fun N=>wm N a) z.sign:=by
 refine (ha.read hs).bind ?_
 have hX:=ha.I6
 clear ha
 generalize z.natAbs=x at *
 rw [hX]
 generalize a.fG=p
 by_cases h:x=0
 ·subst h
  refine Gv.aF (by rw [iG];rfl) ((Gv.pure _).eq ?_)
  cases p<;>rfl
 ·refine Gv.aR ?_ ?_
  ·have:=mi.2 h
   simp;exact fun h'=>by rw [h'] at this;simp at this
  ·cases p with
   | true=>exact Gv.aF rfl ((Gv.pure _).eq (by simp only [sg,cond_true];rw [Int.sign_eq_neg_one_of_neg];omega))
   | false=>exact Gv.aR rfl ((Gv.pure _).eq (by simp only [sg,cond_false];rw [Int.sign_eq_one_of_pos];omega))
theorem ZI.xA (ha:ZI a z m) (hb:ZI b w n) (hs:LM (m+n)):Gv (fun N=>mN N a b) (zJ (z * w)):=by
 simp only [LM] at hs
 have hz:=ha.zb.mul hb.zb
 have HG:=ha.zb
 have tN:=hb.zb
 unfold ZB at HG tN
 refine (ha.read (by simp only [LM];omega)).bind ((hb.read (by simp only [LM];omega)).bind ?_)
 refine Gv.bind (r:=lm (z.natAbs * w.natAbs)) (.of (m+n+3) fun N hN=>Oh (by simp only [SM];omega) (by omega)) ?_
 have e:sg (!(a.fG == b.fG)) (z.natAbs * w.natAbs)=z * w:=by rw [sign_eq,← ha.I6,← hb.I6]
 have:=oz (neg:=!(a.fG == b.fG)) (k:=z.natAbs * w.natAbs) (n:=m+n) (by rw [e];exact hz) hs
 rw [e] at this
 exact this.bind (Gv.pure _)
theorem KD {A B:Nat} (ha:(lm A).length≤m) (hb:(lm B).length≤n) (h0:B≠0) (hs:LM (m+n+10)):Gv (fun N=>nB N (lm A) (lm B)) (lm (A / B),lm (A % B)) :=
 .of (m+2 * n+65561) fun N hN=>Nb h0 (by simp only [SM,LM] at *;omega) (by omega)
end
end Go.Den
namespace Go.Den
open Go.Ab
section
variable {a b:bG} {x y:aa} {m n:Nat} {p q:Rat} {z w:Int}
theorem Tc {N k:Nat} (hk:LM (4 * k+30)) (hN:3 * k+65570 < N):∀ (y x fuel:Nat),y < fuel→(lm x).length≤k→(lm y).length≤k→ma N fuel (lm x) (lm y)=some (lm (Nat.gcd x y)):=by
 intro y
 simp only [LM] at hk
 induction y using Nat.strongRecOn with
 | _ y ih =>
  intro x fuel hf hx hy
  obtain ⟨g,rfl⟩:∃ g,fuel=g+1:=⟨fuel - 1,by omega⟩
  rw [ma]
  by_cases h:y=0
  ·subst h
   rw [iG,Nat.gcd_zero_right];rfl
  ·have hl:=mi.2 h
   rw [decide_eq_true (by omega),cond_true,Nb h (by simp only [SM];omega) (by omega),ct]
   have gS:=Nat.mod_lt x (Nat.pos_of_ne_zero h)
   rw [ih (x % y) gS y g (by omega) hy (eC (iu (by omega)) hy),Nat.gcd_comm x y,Nat.gcd_rec y x,Nat.gcd_comm]
theorem Td {x y k:Nat} (hx:(lm x).length≤k) (hy:(lm y).length≤k) (hk:LM (4 * k+30)):Gv (fun N=>y7 N (lm x) (lm y)) (lm (Nat.gcd x y)) :=
 .of (3 * k+65571+y) fun N hN=>Tc hk (by omega) y x N (by omega) hx hy
theorem ZI.kn (ha:ZI a z n) (hb:ZI b w n) (h0:w≠0) (hs:LM (4 * n+30)):Gv (fun N=>nC N a b) (bC (Rat.divInt z w)):=by
 simp only [LM] at hs
 have HG:=ha.zb
 have tN:=hb.zb
 unfold ZB at HG tN
 refine (ha.read (by simp only [LM];omega)).bind ((hb.read (by simp only [LM];omega)).bind ?_)
 have hX:=ha.I6
 have hY:=hb.I6
 clear ha hb
 generalize hxx:z.natAbs=x at *
 generalize Xm:w.natAbs=y at *
 have Ro:y≠0:=by omega
 have hg0:0 < Nat.gcd x y:=Nat.gcd_pos_of_pos_right _ (by omega)
 refine Gv.aR (by have:=mi.2 Ro;simp;exact fun h'=>by rw [h'] at this;simp at this) ?_
 refine (Td HG tN (by simp only [LM];omega)).bind ?_
 have hgn:(lm (Nat.gcd x y)).length≤n:=eC (iu (Nat.gcd_le_right _ (by omega))) tN
 refine (KD HG hgn (by omega) (by simp only [LM];omega)).bind ((KD tN hgn (by omega) (by simp only [LM];omega)).bind ?_)
 generalize hu:x / Nat.gcd x y=u
 generalize hv:y / Nat.gcd x y=v
 have Xk:(lm u).length≤n:=eC (iu (by rw [← hu];exact Nat.div_le_self _ _)) HG
 have Mm:(lm v).length≤n:=eC (iu (by rw [← hv];exact Nat.div_le_self _ _)) tN
 refine (oz (neg:=!(a.fG == b.fG)) (k:=u) (n:=n) (by unfold ZB;rw [pC];exact Xk) (by simp only [LM];omega)).bind ((oz (neg:=false) (k:=v) (n:=n) (by unfold ZB;rw [pC];exact Mm) (by simp only [LM];omega)).bind ((Gv.pure _).eq ?_))
 have Vu:Int.gcd w z=Nat.gcd x y:=by unfold Int.gcd;rw [hxx,Xm,Nat.gcd_comm]
 unfold bC
 rw [Rat.num_divInt,Rat.den_divInt,if_neg h0,Vu,Xm,hv]
 have hd:(Nat.gcd x y) ∣ x:=Nat.gcd_dvd_left _ _
 have e1:w.sign * z / ((Nat.gcd x y:Nat):Int)=sg (!(a.fG == b.fG)) u:=by
  have S7:(x:Int)=(Nat.gcd x y:Nat) * (u:Int):=by
   have:x=Nat.gcd x y * u:=by rw [← hu,Nat.mul_div_cancel' hd]
   exact_mod_cast this
  have e2:w.sign * z=(Nat.gcd x y:Nat) * sg (!(a.fG == b.fG)) u:=by
   rw [hX,hY]
   cases a.fG<;>cases b.fG<;>simp only [sg,cond_true,cond_false,Bool.not_true,Bool.not_false,BEq.rfl,show (true == false)=false from rfl,show (false == true)=false from rfl]
   ·rw [Int.sign_eq_one_of_pos (by omega),Int.one_mul,← S7]
   ·rw [Int.sign_eq_neg_one_of_neg (by omega),Int.mul_neg,← S7];omega
   ·rw [Int.sign_eq_one_of_pos (by omega),Int.one_mul,Int.mul_neg,← S7]
   ·rw [Int.sign_eq_neg_one_of_neg (by omega),← S7];omega
  rw [e2,Int.mul_ediv_cancel_left _ (by omega)]
 rw [e1];rfl
theorem Xo:Gv (fun N=>qW N 1) (zJ 1):=GG (by decide) (by decide)
theorem ZI.Vx (ha:ZI a z n) (hb:ZI b w n) (h0:w=0) (hs:LM (4 * n+30)):Gv (fun N=>nC N a b) (bC (z:Rat)):=by
 simp only [LM] at hs
 refine (ha.read (by simp only [LM];omega)).bind ((hb.read (by simp only [LM];omega)).bind ?_)
 refine Gv.aF (by rw [h0];show (((lm 0).length:Nat):Int) == 0;rw [iG];rfl) ?_
 have e:=ha.I6
 have:=oz (neg:=a.fG) (k:=z.natAbs) (n:=n) (by rw [← e];exact ha.zb) (by simp only [LM];omega)
 rw [← e] at this
 exact this.bind (Xo.bind (Gv.pure _))
theorem RQ.parts (h:RQ x p n):∃ z w,ZI x.fN z n∧ZI x.fD w n∧p=Rat.divInt z (if w=0 then 1 else w) :=
 ⟨zv x.fN,zv x.fD,⟨h.ir.num,rfl⟩,⟨h.ir.den,rfl⟩,h.v.symm⟩
theorem RQ.Dt (h:RQ x p n) (hs:LM (4 * n+30)):Gv (fun N=>fY N x) (bC p):=by
 obtain ⟨z,w,hz,hw,e⟩:=h.parts
 by_cases h0:w=0
 ·rw [if_pos h0] at e
  refine (hz.Vx hw h0 hs).bind ((Gv.pure _).eq ?_)
  rw [e,Gg]
 ·rw [if_neg h0] at e
  refine (hz.kn hw h0 hs).bind ((Gv.pure _).eq ?_)
  rw [e]
theorem RQ.LY (h:RQ x p n) (hs:LM (4 * n+30)):Gv (fun N=>gW N x) (Go.Den.nc p) :=
 (h.Dt hs).bind ((h.rb.num.zi.u5 (by simp only [LM] at *;omega)).bind (Gv.pure _))
theorem Oi (p q:Rat):Rat.divInt (p.num * q.den+q.num * p.den) (p.den * q.den)=p+q:=by
 conv=>rhs;rw [kK p,kK q]
 rw [Rat.divInt_add_divInt _ _ (mW p) (mW q)]
theorem RQ.G8 (hx:RQ x p m) (hy:RQ y q n) (hs:LM (4 * (m+n+1)+30)):Gv (fun N=>ia N x y) (bC (p+q)):=by
 simp only [LM] at hs
 have bx:=hx.rb
 have K1:=hy.rb
 refine (hx.Dt (by simp only [LM];omega)).bind ((hy.Dt (by simp only [LM];omega)).bind ?_)
 refine (bx.num.zi.xA K1.den.zi (by simp only [LM];omega)).bind ((K1.num.zi.xA bx.den.zi (by simp only [LM];omega)).bind ?_)
 have e1:=(bx.num.mul K1.den).le (show m+n≤m+n by omega)
 have e2:=(K1.num.mul bx.den).le (show n+m≤m+n by omega)
 refine (e1.zi.G8 e2.zi (by simp only [LM];omega)).bind ((bx.den.zi.xA K1.den.zi (by simp only [LM];omega)).bind ?_)
 refine ((e1.add e2).zi.kn ((bx.den.mul K1.den).le (show m+n≤m+n+1 by omega)).zi (Int.mul_ne_zero (mW p) (mW q)) (by simp only [LM];omega)).bind ((Gv.pure _).eq ?_)
 rw [Oi]
theorem RQ.Vw (hx:RQ x p n) (hs:LM (4 * n+30)):Gv (fun N=>sd N x) (bC (-p)):=by
 refine (hx.Dt hs).bind ((hx.rb.num.zi.Vw (by simp only [LM] at *;omega)).bind ((Gv.pure _).eq ?_))
 unfold bC;rw [Rat.neg_num,Rat.neg_den]
theorem RQ.Xp (hx:RQ x p m) (hy:RQ y q n) (hs:LM (4 * (m+n+1)+30)):Gv (fun N=>pZ N x y) (bC (p - q)):=by
 refine (hy.Vw (by simp only [LM] at *;omega)).bind ((hx.G8 (hy.rb.neg.rq hy.pos) hs).bind ((Gv.pure _).eq ?_))
 rw [Rat.sub_eq_add_neg]
theorem RQ.xA (hx:RQ x p m) (hy:RQ y q n) (hs:LM (4 * (m+n+1)+30)):Gv (fun N=>fx N x y) (bC (p * q)):=by
 simp only [LM] at hs
 have bx:=hx.rb
 have K1:=hy.rb
 refine (hx.Dt (by simp only [LM];omega)).bind ((hy.Dt (by simp only [LM];omega)).bind ?_)
 refine (bx.num.zi.xA K1.num.zi (by simp only [LM];omega)).bind ((bx.den.zi.xA K1.den.zi (by simp only [LM];omega)).bind ?_)
 refine ((bx.num.mul K1.num).zi.kn (bx.den.mul K1.den).zi (Int.mul_ne_zero (mW p) (mW q)) (by simp only [LM];omega)).bind ((Gv.pure _).eq ?_)
 conv=>rhs;rw [kK p,kK q]
 rw [Rat.divInt_mul_divInt]
theorem RQ.aaw (hx:RQ x p m) (hy:RQ y q n) (h0:q≠0) (hs:LM (4 * (m+n+1)+30)):Gv (fun N=>sf N x y) (bC (p / q)):=by
 simp only [LM] at hs
 have bx:=hx.rb
 have K1:=hy.rb
 refine (hx.Dt (by simp only [LM];omega)).bind ((hy.Dt (by simp only [LM];omega)).bind ?_)
 refine (bx.num.zi.xA K1.den.zi (by simp only [LM];omega)).bind ((bx.den.zi.xA K1.num.zi (by simp only [LM];omega)).bind ?_)
 refine ((bx.num.mul K1.den).zi.kn (bx.den.mul K1.num).zi (Int.mul_ne_zero (mW p) (QE h0)) (by simp only [LM];omega)).bind ((Gv.pure _).eq ?_)
 conv=>rhs;rw [kK p,kK q]
 rw [qd (mW p) (mW q)]
theorem RQ.aax (hx:RQ x p m) (hy:RQ y q n) (hs:LM (4 * (m+n+1)+30)):Gv (fun N=>se N x y) (Go.Den.nc (p - q)) :=
 (hx.Xp hy hs).bind ((((hx.rb.sub hy.rb).rq (by omega)).LY hs).bind (Gv.pure _))
end
end Go.Den
namespace Go.Den
open Go.Ab
section
variable (t s:Nat→Rat) (n:Nat)
def Xq (i:Nat) (y:Rat):Rat:=if i+1 < n∧t (i+1) < y then t (i+1) else y
def pc (i:Nat) (y:Rat):Rat:=if Xq t n i y≤t i then 0 else Xq t n i y - t i
def vs:Nat→Nat→Rat→Rat
 | 0,_,_=>0
 | k+1,i,y=>s i * pc t n i y+vs k (i+1) y
def fs:Nat→Rat
 | 0=>0
 | i+1=>fs i+s i * (t (i+1) - t i)
def ps (x:Rat):Rat:=if x < 0 then 0 else x
def Up:Prop:=∀ i,i+1 < n→t i < t (i+1)
end
section
variable {t s:Nat→Rat} {n:Nat} (up:Up t n)
include up
end
end Go.Den
namespace Go.Den
open Go.Ab
theorem aE.succ {α:Type} {f f':Nat→Nat→Option α} {r:α} (e:∀ N g,f N (g+1)=f' N g) (h:aE f' r):aE f r :=
 let ⟨N0,h0⟩:=h;.step N0 fun N g hN hg=>(e N g).trans (h0 N g hN hg)
theorem aE.bind {α β:Type} {f:Nat→Option α} {k:Nat→Nat→α→Option β} {r:α} {s:β} (h:Gv f r) (h2:aE (fun N g=>k N g r) s):aE (fun N g=>(f N).bind (k N g)) s:=by
 obtain ⟨N0,h⟩:=h
 obtain ⟨N1,h2⟩:=h2
 exact ⟨N0+N1,fun N g hN hg=>by dsimp only;rw [h N (by omega)];exact h2 N g (by omega) (by omega)⟩
theorem aE.aF {α:Type} {f g:Nat→Nat→Option α} {r:α} {q:Bool} (hq:q=true) (h:aE f r):aE (fun N n=>cond q (f N n) (g N n)) r:=by subst hq;exact h
theorem aE.aR {α:Type} {f g:Nat→Nat→Option α} {r:α} {q:Bool} (hq:q=false) (h:aE g r):aE (fun N n=>cond q (f N n) (g N n)) r:=by subst hq;exact h
theorem aE.if {α:Type} {f:Nat→Nat→Option α} {r:α} {p:Prop} [Decidable p] (hp:p) (h:aE f r):aE (fun N n=>if p then f N n else none) r:=by
 obtain ⟨N0,h⟩:=h
 exact ⟨N0,fun N g hN hg=>by dsimp only;rw [if_pos hp];exact h N g hN hg⟩
theorem aE.one {α:Type} {f:Nat→Option α} {r:α} (h:Gv f r):aE (fun N _=>f N) r:=let ⟨N0,h⟩:=h;⟨N0,fun N _ hN _=>h N hN⟩
theorem aE.eq {α:Type} {f:Nat→Nat→Option α} {r s:α} (h:aE f r) (e:r=s):aE f s:=e ▸ h
end Go.Den
namespace Go.Den
open Go.Ab
theorem RB.zero:RB 0 1:=RB.int (z:=0) (ZB.small (by decide)) (by decide)
section
end
end Go.Den
namespace Go.Den
open Go.Ab
theorem BQ {l:List aa} {i:Nat} (h:l.length≤i):l.getD i aa.d=aa.d:=by
 simp [List.getD,List.getElem?_eq_none_iff.2 h]
end Go.Den
namespace Go.Den
open Go.Ab
abbrev MS:Nat:=1000000000000
def Ev (p:Nat→Nat→Prop):Prop:=∃ N0,∀ N g,N0≤N→N0≤g→p N g
theorem Ev.of {p:Nat→Nat→Prop} (N0:Nat) (h:∀ N g,N0≤N→N0≤g→p N g):Ev p:=⟨N0,h⟩
theorem Gv.ev {α:Type} {f:Nat→Option α} {r:α} (h:Gv f r):Ev fun N _=>f N=some r:=let ⟨N0,h0⟩:=h;⟨N0,fun N _ hN _=>h0 N hN⟩
theorem Ev.and {p q:Nat→Nat→Prop} (h:Ev p) (k:Ev q):Ev fun N g=>p N g∧q N g:=by
 obtain ⟨a,ha⟩:=h;obtain ⟨b,hb⟩:=k
 exact ⟨a+b,fun N g h1 h2=>⟨ha N g (by omega) (by omega),hb N g (by omega) (by omega)⟩⟩
theorem Ev.mono {p q:Nat→Nat→Prop} (h:Ev p) (k:∀ N g,p N g→q N g):Ev q:=let ⟨a,ha⟩:=h;⟨a,fun N g h1 h2=>k N g (ha N g h1 h2)⟩
theorem Ev.succ {p:Nat→Nat→Prop} (h:Ev fun N g=>p N (g+1)):Ev p:=by
 obtain ⟨a,ha⟩:=h
 refine ⟨a+1,fun N g h1 h2=>?_⟩
 obtain ⟨g,rfl⟩:∃ g',g=g'+1:=⟨g - 1,by omega⟩
 exact ha N g (by omega) (by omega)
theorem Ev.diag {p:Nat→Nat→Prop} (h:Ev p):Ev fun N _=>p N N:=let ⟨a,ha⟩:=h;⟨a,fun N _ h1 _=>ha N N h1 h1⟩
theorem Ev.true {p:Nat→Nat→Prop} (h:∀ N g,p N g):Ev p:=⟨0,fun N g _ _=>h N g⟩
def Vy (A:List (List aa)) (i j:Nat):aa:=(A.getD i []).getD j aa.d
structure KE (A:List (List aa)) (n w:Nat) (M:Nat→Nat→Rat):Prop where
 len:A.length=n
 row:∀ i,i < n→(A.getD i []).length=w
 Vy:∀ i j,i < n→j < w→RQ (Vy A i j) (M i j) MS
def ml (M:Nat→Nat→Rat) (i j:Nat) (v:Rat):Nat→Nat→Rat:=fun a b=>if a=i∧b=j then v else M a b
theorem lO {α:Type} (l:List α) (i:Nat) (x d:α) (h:i < l.length):(l.set i x).getD i d=x:=by
 simp [fE,List.getElem?_set_self h]
theorem jA {α:Type} (l:List α) {i j:Nat} (x d:α) (h:i≠j):(l.set i x).getD j d=l.getD j d:=by
 simp [fE,List.getElem?_set_ne h]
theorem KE.set {A:List (List aa)} {n w:Nat} {M:Nat→Nat→Rat} (h:KE A n w M) {i j:Nat} (hi:i < n) (hj:j < w) {x:aa} {v:Rat} (hx:RQ x v MS) :
  KE (A.set i ((A.getD i []).set j x)) n w (ml M i j v):=by
 refine ⟨by rw [List.length_set];exact h.len,fun a ha=>?_,fun a b ha hb=>?_⟩
 ·by_cases e:i=a
  ·subst e;rw [lO _ _ _ _ (by rw [h.len];exact hi),List.length_set];exact h.row i hi
  ·rw [jA _ _ _ e];exact h.row a ha
 ·unfold Go.Den.Vy ml
  by_cases e:i=a
  ·subst e
   rw [lO _ _ _ _ (by rw [h.len];exact hi)]
   by_cases e2:j=b
   ·subst e2
    rw [lO _ _ _ _ (by rw [h.row i hi];exact hj),if_pos ⟨rfl,rfl⟩];exact hx
   ·rw [jA _ _ _ e2,if_neg (fun q=>e2 q.2.symm)];exact h.Vy i b ha hb
  ·rw [jA _ _ _ e,if_neg (fun q=>e q.1.symm)];exact h.Vy a b ha hb
theorem KE.congr {A:List (List aa)} {n w:Nat} {M M':Nat→Nat→Rat} (h:KE A n w M) (e:∀ i j,i < n→j < w→M i j=M' i j):KE A n w M' :=
 ⟨h.len,h.row,fun i j hi hj=>e i j hi hj ▸ h.Vy i j hi hj⟩
def VB (M:Nat→Nat→Rat) (n w s:Nat):Prop:=∀ i j,i < n→j < w→RB (M i j) s
end Go.Den
namespace Go.Den
open Go.Ab
def Rz (M:Nat→Nat→Rat) (c d:Nat):Nat→Nat→Rat:=fun i j=>if i=c then M d j else if i=d then M c j else M i j
def RA (M:Nat→Nat→Rat) (c t:Nat):Nat→Nat→Rat:=fun i j=>if i=c∧j < t then M c j / M c c else M i j
def LZ (M:Nat→Nat→Rat) (g:Nat→Rat) (c t:Nat):Nat→Nat→Rat:=fun i j=>if i < t∧i≠c then M i j - g i * M c j else M i j
def stE (M:Nat→Nat→Rat) (n w c d:Nat):Nat→Nat→Rat:=LZ (RA (Rz M c d) c w) (fun i=>Rz M c d i c) c n
def stR (M:Nat→Nat→Rat) (n c d:Nat):Nat→Nat→Rat:=LZ (Rz M c d) (fun i=>Rz M c d i c / Rz M c d c c) c n
structure Prl (M R:Nat→Nat→Rat) (n w c:Nat) (l:Nat→Rat):Prop where
 ne:∀ i,i < n→l i≠0
 eq:∀ i j,i < n→j < w→R i j=l i * M i j
 one:∀ i j,i < n→j < c→M i j=if i=j then 1 else 0
theorem Prl.step {M R:Nat→Nat→Rat} {n w c:Nat} {l:Nat→Rat} (h:Prl M R n w c l) (hc:c < n) (hw:n≤w) {d:Nat} (V5:c≤d) (S6:d < n) (h0:M d c≠0) :
  ∃ l',Prl (stE M n w c d) (stR R n c d) n w (c+1) l':=by
 let s:Nat→Nat:=fun i=>if i=c then d else if i=d then c else i
 have hs:∀ i,i < n→s i < n:=fun i hi=>by
  show (if i=c then d else if i=d then c else i) < n
  split
  ·exact S6
  ·split<;>omega
 have hM:∀ i j,Rz M c d i j=M (s i) j:=fun i j=>by
  show (if i=c then M d j else if i=d then M c j else M i j)=M (if i=c then d else if i=d then c else i) j
  split
  ·rfl
  ·split<;>rfl
 have hR:∀ i j,Rz R c d i j=R (s i) j:=fun i j=>by
  show (if i=c then R d j else if i=d then R c j else R i j)=R (if i=c then d else if i=d then c else i) j
  split
  ·rfl
  ·split<;>rfl
 have V6:s c=d:=if_pos rfl
 have V7:c < w:=by omega
 refine ⟨fun i=>if i=c then l d * M d c else l (s i),fun i hi=>?_,fun i j hi hj=>?_,fun i j hi hj=>?_⟩
 ·split
  ·intro e
   rcases Rat.mul_eq_zero.1 e with e | e
   ·exact h.ne d S6 e
   ·exact h0 e
  ·exact h.ne _ (hs i hi)
 ·simp only [stE,stR,LZ]
  have e1:=h.eq (s i) j (hs i hi) hj
  have e2:=h.eq d j S6 hj
  have e3:=h.eq (s i) c (hs i hi) V7
  have e4:=h.eq d c S6 V7
  have hl:=h.ne d S6
  by_cases Nc:i=c
  ·have hn:¬ (i < n∧i≠c):=fun q=>q.2 Nc
   simp only [hn,if_false,Nc,if_true,hR,V6,e2,RA,hM,hj,and_self]
   grind
  ·have hn:i < n∧i≠c:=⟨hi,Nc⟩
   simp only [hn,Nc,if_true,if_false,not_false_eq_true,and_self,ne_eq,hR,V6,e1,e2,e3,e4,RA,hM,false_and,hj]
   have:l d * M d c≠0:=fun e=>by
    rcases Rat.mul_eq_zero.1 e with e | e
    ·exact hl e
    ·exact h0 e
   grind
 ·have hz:∀ i,i < n→j < c→M i j=if i=j then 1 else 0:=fun i hi h1=>h.one i j hi h1
  simp only [stE,LZ]
  by_cases hjc:j=c
  ·by_cases Nc:i=c
   ·have hn:¬ (i < n∧i≠c):=fun q=>q.2 Nc
    simp only [hn,if_false,Nc,hjc,if_true,RA,hM,V6,V7,and_self]
    grind
   ·have hn:i < n∧i≠c:=⟨hi,Nc⟩
    simp only [hn,Nc,hjc,if_true,if_false,not_false_eq_true,and_self,ne_eq,RA,hM,V6,false_and,V7]
    grind
  ·have Xr:j < c:=by omega
   have hjw:j < w:=by omega
   have OI:M d j=0:=by rw [hz d S6 Xr,if_neg (by omega)]
   have aaB:M (s i) j=if i=j then 1 else 0:=by
    rw [hz (s i) (hs i hi) Xr]
    have:(s i=j)↔(i=j):=by
     show ((if i=c then d else if i=d then c else i)=j)↔i=j
     split
     ·omega
     ·split<;>omega
    simp only [this]
   by_cases Nc:i=c
   ·have hn:¬ (i < n∧i≠c):=fun q=>q.2 Nc
    have UJ:¬ c=j:=fun q=>hjc q.symm
    simp only [hn,if_false,Nc,if_true,RA,hM,V6,hjw,and_self,OI,UJ]
    grind
   ·have hn:i < n∧i≠c:=⟨hi,Nc⟩
    simp only [hn,Nc,if_true,if_false,not_false_eq_true,and_self,ne_eq,RA,hM,V6,false_and,hjw,aaB,OI]
    grind
theorem VB.Rz {M:Nat→Nat→Rat} {n w s c d:Nat} (h:VB M n w s) (hc:c < n) (hd:d < n):VB (Rz M c d) n w s:=fun i j hi hj=>by
 unfold Go.Den.Rz
 split
 ·exact h d j hd hj
 ·split
  ·exact h c j hc hj
  ·exact h i j hi hj
theorem VB.RA {M:Nat→Nat→Rat} {n w s c t:Nat} (h:VB M n w s) (hc:c < n) (V7:c < w) (h0:M c c≠0):VB (RA M c t) n w (s+s):=fun i j hi hj=>by
 unfold Go.Den.RA
 split
 ·exact (h c j hc hj).div (h c c hc V7) h0
 ·exact (h i j hi hj).le (by omega)
theorem VB.LZ {M:Nat→Nat→Rat} {n w s c t:Nat} {g:Nat→Rat} (h:VB M n w s) (hg:∀ i,i < n→RB (g i) s) (hc:c < n):VB (LZ M g c t) n w (s+(s+s)+1):=fun a j ha hj=>by
 unfold Go.Den.LZ
 split
 ·exact (h a j ha hj).sub ((hg a ha).mul (h c j hc hj))
 ·exact (h a j ha hj).le (by omega)
end Go.Den
namespace Go.Den
open Go.Ab
theorem Jx {a:Nat} (h:a≤MS+MS+1):SM (2 * a+2):=by simp only [SM,MS] at *;omega
theorem KE.at {A:List (List aa)} {n w:Nat} {M:Nat→Nat→Rat} (h:KE A n w M) {i j:Nat} (hi:i < n) (hj:j < w):RQ ((A.getD i []).getD j aa.d) (M i j) MS:=h.Vy i j hi hj
theorem inl {m n k:Nat} (h:m < n) (e:k=n):0≤(m:Int)∧(m:Int) < ((k:Nat):Int):=⟨by omega,by omega⟩
theorem L0 {m n k:Nat} (h:m < n) (e:k=n):decide ((m:Int) < ((k:Nat):Int))=true:=by simp;omega
theorem Nd {m n k:Nat} (h:n≤m) (e:k=n):decide ((m:Int) < ((k:Nat):Int))=false:=by simp;omega
section
variable {A:List (List aa)} {n w c:Nat} {M:Nat→Nat→Rat}
end
end Go.Den
namespace Go.Den
open Go.Ab
def bX:Nat→(Nat→Rat)→Rat
 | 0,_=>0
 | n+1,f=>bX n f+f n
theorem bN {n:Nat} {f g:Nat→Rat} (h:∀ i,i < n→f i=g i):bX n f=bX n g:=by
 induction n with
 | zero=>rfl
 | succ n ih=>rw [bX,bX,ih fun i hi=>h i (by omega),h n (by omega)]
theorem rj (n:Nat) (f g:Nat→Rat):bX n (fun i=>f i+g i)=bX n f+bX n g:=by
 induction n with
 | zero=>show (0:Rat)=0+0;grind
 | succ n ih=>rw [bX,bX,bX,ih];grind
theorem mH (n:Nat) (c:Rat) (f:Nat→Rat):bX n (fun i=>c * f i)=c * bX n f:=by
 induction n with
 | zero=>show (0:Rat)=c * 0;grind
 | succ n ih=>rw [bX,bX,ih];grind
theorem nX (n:Nat):bX n (fun _=>0)=0:=by
 induction n with
 | zero=>rfl
 | succ n ih=>rw [bX,ih];grind
theorem lj {n j:Nat} (hj:j < n) (f:Nat→Rat) (h:∀ i,i < n→i≠j→f i=0):bX n f=f j:=by
 induction n with
 | zero=>omega
 | succ n ih =>
  rw [bX]
  by_cases e:j=n
  ·subst e
   rw [bN (g:=fun _=>0) fun i hi=>h i (by omega) (by omega),nX];grind
  ·rw [ih (by omega) fun i hi fZ=>h i (by omega) fZ,h n (by omega) (by omega)];grind
theorem tx {n j:Nat} (hj:j < n) (f:Nat→Rat):bX n f=f j+bX n (fun i=>if i=j then 0 else f i):=by
 have e:bX n f=bX n (fun i=>(if i=j then f j else 0)+(if i=j then 0 else f i)):=bN fun i _=>by
  split
  ·rename_i h;subst h;grind
  ·grind
 rw [e,rj,lj hj (fun i=>if i=j then f j else 0) fun i _ h=>if_neg h,if_pos rfl]
structure bE where
 ik:Nat→Nat
 fr:Nat→Nat
 a:Nat→Nat→Rat
 b:Nat→Rat
 g:Nat→Rat
 v:Rat
namespace bE
def row (D:bE) (k:Nat) (x:Nat→Rat) (i:Nat):Rat:=D.b i+bX k fun j=>D.a i j * x (D.fr j)
def Jy (D:bE) (m k:Nat) (x:Nat→Rat):Prop:=∀ i,i < m→x (D.ik i)=D.row k x i
def gv (D:bE) (k:Nat) (x:Nat→Rat):Rat:=D.v+bX k fun j=>D.g j * x (D.fr j)
structure WF (D:bE) (m k:Nat):Prop where
 bi:∀ i i',i < m→i' < m→D.ik i=D.ik i'→i=i'
 fi:∀ j j',j < k→j' < k→D.fr j=D.fr j'→j=j'
 bf:∀ i j,i < m→j < k→D.ik i≠D.fr j
 bl:∀ i,i < m→D.ik i < m+k
 fl:∀ j,j < k→D.fr j < m+k
 al:∀ u,u < m+k→(∃ i,i < m∧D.ik i=u)∨∃ j,j < k∧D.fr j=u
def n9 (D:bE) (i j k:Nat):Rat:=if k=j then 1 / D.a i j else -(D.a i k / D.a i j)
def pb (D:bE) (i j:Nat):Rat:=-(D.b i / D.a i j)
def jF (D:bE) (i j:Nat):bE where
 ik:=fun r=>if r=i then D.fr j else D.ik r
 fr:=fun c=>if c=j then D.ik i else D.fr c
 a:=fun r c=>if r=i then D.n9 i j c else if c=j then D.a r j * D.n9 i j c else D.a r c+D.a r j * D.n9 i j c
 b:=fun r=>if r=i then D.pb i j else D.b r+D.a r j * D.pb i j
 g:=fun c=>if c=j then D.g j * D.n9 i j c else D.g c+D.g j * D.n9 i j c
 v:=D.v+D.g j * D.pb i j
theorem WF.jF {D:bE} {m k i j:Nat} (h:D.WF m k) (hi:i < m) (hj:j < k):(D.jF i j).WF m k:=by
 refine ⟨fun r r' hr AQ e=>?_,fun c c' hc oG e=>?_,fun r c hr hc e=>?_,fun r hr=>?_,fun c hc=>?_,fun u hu=>?_⟩
 ·simp only [bE.jF] at e
  split at e<;>split at e
  ·omega
  ·exact absurd e.symm (h.bf _ _ AQ hj)
  ·exact absurd e (h.bf _ _ hr hj)
  ·exact h.bi _ _ hr AQ e
 ·simp only [bE.jF] at e
  split at e<;>split at e
  ·omega
  ·exact absurd e (h.bf _ _ hi oG)
  ·exact absurd e.symm (h.bf _ _ hi hc)
  ·exact h.fi _ _ hc oG e
 ·simp only [bE.jF] at e
  split at e<;>split at e
  ·exact h.bf _ _ hi hj e.symm
  ·rename_i h1 h2;exact h2 (h.fi _ _ hc hj e.symm)
  ·rename_i h1 h2;exact h1 (h.bi _ _ hr hi e)
  ·exact h.bf _ _ hr hc e
 ·simp only [bE.jF];split
  ·exact h.fl j hj
  ·exact h.bl r hr
 ·simp only [bE.jF];split
  ·exact h.bl i hi
  ·exact h.fl c hc
 ·rcases h.al u hu with ⟨r,hr,e⟩ | ⟨c,hc,e⟩
  ·by_cases q:r=i
   ·subst q;exact .inr ⟨j,hj,by simp only [bE.jF,if_pos];exact e⟩
   ·exact .inl ⟨r,hr,by simp only [bE.jF,if_neg q];exact e⟩
  ·by_cases q:c=j
   ·subst q;exact .inl ⟨i,hi,by simp only [bE.jF,if_pos];exact e⟩
   ·exact .inr ⟨c,hc,by simp only [bE.jF,if_neg q];exact e⟩
theorem I7 {D:bE} {k i j:Nat} (hj:j < k) (h0:D.a i j≠0) {x:Nat→Rat} (hs:x (D.ik i)=D.row k x i∨x (D.fr j)=(D.jF i j).row k x i) :
  x (D.fr j)=D.pb i j+bX k fun c=>D.n9 i j c * x ((D.jF i j).fr c):=by
 rcases hs with hs | hs
 ·rw [tx hj]
  have e1:(fun c=>if c=j then (0:Rat) else D.n9 i j c * x ((D.jF i j).fr c))=fun c=>(-(1 / D.a i j)) * (if c=j then 0 else D.a i c * x (D.fr c)):=by
   funext c
   by_cases q:c=j
   ·simp only [q,if_true];grind
   ·simp only [bE.n9,bE.jF,q,if_false];grind
  rw [e1,mH]
  unfold bE.row at hs
  rw [tx hj] at hs
  simp only [bE.n9,bE.jF,if_true,bE.pb]
  rw [hs]
  grind
 ·rw [hs]
  simp only [bE.row,bE.jF,if_true]
theorem KF {D:bE} {k i j:Nat} (hj:j < k) (f:Nat→Rat) {x:Nat→Rat} {p:Rat} (hx:x (D.fr j)=p+bX k fun c=>D.n9 i j c * x ((D.jF i j).fr c)) :
  (f j * p+bX k fun c=>(if c=j then f j * D.n9 i j c else f c+f j * D.n9 i j c) * x ((D.jF i j).fr c))=bX k fun c=>f c * x (D.fr c):=by
 have e1:bX k (fun c=>(if c=j then f j * D.n9 i j c else f c+f j * D.n9 i j c) * x ((D.jF i j).fr c))=bX k (fun c=>(if c=j then 0 else f c * x (D.fr c))+f j * (D.n9 i j c * x ((D.jF i j).fr c))):=bN fun c _=>by
  by_cases q:c=j
  ·simp only [q,if_true];grind
  ·simp only [q,if_false,bE.jF];grind
 rw [e1,rj,mH,tx hj (fun c=>f c * x (D.fr c)),hx]
 grind
theorem Jy.jF {D:bE} {m k i j:Nat} (hi:i < m) (hj:j < k) (h0:D.a i j≠0) {x:Nat→Rat}:(D.jF i j).Jy m k x↔D.Jy m k x:=by
 have key:∀ r,r≠i→x (D.fr j)=D.pb i j+bX k (fun c=>D.n9 i j c * x ((D.jF i j).fr c))→(D.jF i j).row k x r=D.row k x r:=fun r hr hx=>by
  have e:=KF hj (fun c=>D.a r c) hx
  simp only [bE.row]
  rw [← e]
  simp only [bE.jF,hr,if_false]
  grind
 constructor
 ·intro h r hr
  have h1:=h i hi
  have h2:x (D.fr j)=(D.jF i j).row k x i:=by rw [← h1];simp [bE.jF]
  have hx:=I7 hj h0 (.inr h2)
  by_cases q:r=i
  ·subst q
   -- solve for the basic variable
   have e:=hx
   rw [tx hj] at e
   have e1:(fun c=>if c=j then (0:Rat) else D.n9 r j c * x ((D.jF r j).fr c))=fun c=>(-(1 / D.a r j)) * (if c=j then 0 else D.a r c * x (D.fr c)):=by
    funext c
    by_cases q:c=j
    ·simp only [q,if_true];grind
    ·simp only [bE.n9,bE.jF,q,if_false];grind
   rw [e1,mH] at e
   simp only [bE.n9,bE.jF,if_true,bE.pb] at e
   unfold bE.row
   rw [tx hj]
   grind
  ·have h3:=h r hr
   rw [key r q hx] at h3
   rw [← h3]
   simp [bE.jF,q]
 ·intro h r hr
  have hx:=I7 hj h0 (.inl (h i hi))
  by_cases q:r=i
  ·subst q
   simp only [bE.row,bE.jF,if_true]
   exact hx
  ·rw [key r q hx,← h r hr]
   simp [bE.jF,q]
theorem Vz {D:bE} {m k i j:Nat} (hi:i < m) (hj:j < k) (h0:D.a i j≠0) {x:Nat→Rat} (hs:D.Jy m k x):(D.jF i j).gv k x=D.gv k x:=by
 have hx:=I7 hj h0 (.inl (hs i hi))
 have e:=KF hj D.g hx
 simp only [bE.gv]
 rw [← e]
 simp only [bE.jF]
 grind
def OK (D:bE):Nat→Nat→Option Nat
 | 0,_=>none
 | m+1,u=>if D.ik m=u then some m else OK D m u
theorem Eu {D:bE}:∀ {m i:Nat},(∀ i i',i < m→i' < m→D.ik i=D.ik i'→i=i')→i < m→D.OK m (D.ik i)=some i
 | 0,i,_,hi=>by omega
 | m+1,i,h,hi=>by
  rw [OK]
  by_cases e:D.ik m=D.ik i
  ·rw [if_pos e,h m i (by omega) hi e]
  ·rw [if_neg e]
   exact Eu (fun i i' h1 h2=>h i i' (by omega) (by omega)) (Nat.lt_of_le_of_ne (by omega) fun q=>e (by rw [q]))
theorem BR {D:bE} {u:Nat}:∀ {m:Nat},(∀ i,i < m→D.ik i≠u)→D.OK m u=none
 | 0,_=>rfl
 | m+1,h=>by rw [OK,if_neg (h m (by omega))];exact BR fun i hi=>h i (by omega)
def ext (D:bE) (m k:Nat) (y:Nat→Rat) (u:Nat):Rat:=match D.OK m u with
 | some i=>D.row k y i
 | none=>y u
theorem tZ {D:bE} {m k i:Nat} (h:D.WF m k) (hi:i < m) (y:Nat→Rat):D.ext m k y (D.ik i)=D.row k y i:=by unfold ext;rw [Eu h.bi hi]
theorem uJ {D:bE} {m k j:Nat} (h:D.WF m k) (hj:j < k) (y:Nat→Rat):D.ext m k y (D.fr j)=y (D.fr j):=by
 unfold ext;rw [BR fun i hi=>h.bf i j hi hj]
theorem sn {D:bE} {m k:Nat} (h:D.WF m k) (y:Nat→Rat):D.Jy m k (D.ext m k y):=fun i hi=>by
 rw [tZ h hi]
 unfold bE.row
 congr 1
 exact bN fun j hj=>by rw [uJ h hj]
theorem Gi {D:bE} {m k:Nat} (h:D.WF m k) (y:Nat→Rat):D.gv k (D.ext m k y)=D.gv k y:=by
 unfold bE.gv
 congr 1
 exact bN fun j hj=>by rw [uJ h hj]
def one (u:Nat):Nat→Rat:=fun w=>if w=u then 1 else 0
def tM:Nat→Rat:=fun _=>0
theorem sq (D:bE) (k i:Nat):D.row k tM i=D.b i:=by
 unfold row tM
 rw [bN (g:=fun _=>0) fun j _=>by grind,nX];grind
theorem row_one {D:bE} {m k j:Nat} (h:D.WF m k) (hj:j < k) (i:Nat):D.row k (one (D.fr j)) i=D.b i+D.a i j:=by
 unfold row one
 rw [lj hj _ fun c hc fZ=>by rw [if_neg fun e=>fZ (h.fi _ _ hc hj e)];grind]
 rw [if_pos rfl];grind
theorem I8 (D:bE) (k:Nat):D.gv k tM=D.v:=by
 unfold gv tM
 rw [bN (g:=fun _=>0) fun j _=>by grind,nX];grind
theorem L1 {D:bE} {m k j:Nat} (h:D.WF m k) (hj:j < k):D.gv k (one (D.fr j))=D.v+D.g j:=by
 unfold gv one
 rw [lj hj _ fun c hc fZ=>by rw [if_neg fun e=>fZ (h.fi _ _ hc hj e)];grind]
 rw [if_pos rfl];grind
structure B8 (m k:Nat) (D D':bE):Prop where
 Nf:∀ x,D.Jy m k x↔D'.Jy m k x
 gv:∀ x,D.Jy m k x→D.gv k x=D'.gv k x
theorem B8.refl (m k:Nat) (D:bE):B8 m k D D:=⟨fun _=>Iff.rfl,fun _ _=>rfl⟩
theorem B8.symm {m k:Nat} {D D':bE} (h:B8 m k D D'):B8 m k D' D:=⟨fun x=>(h.Nf x).symm,fun x hx=>(h.gv x ((h.Nf x).2 hx)).symm⟩
theorem B8.trans {m k:Nat} {D D' D'':bE} (h:B8 m k D D') (h':B8 m k D' D''):B8 m k D D'' :=
 ⟨fun x=>(h.Nf x).trans (h'.Nf x),fun x hx=>(h.gv x hx).trans (h'.gv x ((h.Nf x).1 hx))⟩
theorem B8.jF {m k i j:Nat} {D:bE} (hi:i < m) (hj:j < k) (h0:D.a i j≠0):B8 m k D (D.jF i j) :=
 ⟨fun _=>(Jy.jF hi hj h0).symm,fun _ hx=>(Vz hi hj h0 hx).symm⟩
def yA (D:bE) (m u:Nat):Prop:=∃ i,i < m∧D.ik i=u
theorem zl {D:bE} {m k:Nat} (h:D.WF m k) {u:Nat} (hu:u < m+k) (hn:¬ D.yA m u):∃ j,j < k∧D.fr j=u:=(h.al u hu).resolve_left hn
theorem yB {D:bE} {m k:Nat} {x y:Nat→Rat} (hx:D.Jy m k x) (hf:∀ j,j < k→x (D.fr j)=y (D.fr j)) {i:Nat} (hi:i < m):x (D.ik i)=D.row k y i:=by
 rw [hx i hi];unfold row;congr 1
 exact bN fun j hj=>by rw [hf j hj]
theorem uniq {D D':bE} {m k:Nat} (h:D.WF m k) (h':D'.WF m k) (e:B8 m k D D') (hb:∀ u,D.yA m u→D'.yA m u) :
  (∀ i i',i < m→i' < m→D.ik i=D'.ik i'→D.b i=D'.b i')∧(∀ i j i' j',i < m→i' < m→j < k→j' < k→D.ik i=D'.ik i'→D.fr j=D'.fr j'→D.a i j=D'.a i' j') ∧
   (∀ j j',j < k→j' < k→D.fr j=D'.fr j'→D.g j=D'.g j')∧D.v=D'.v:=by
 have hf:∀ j',j' < k→∃ j,j < k∧D.fr j=D'.fr j':=fun j' yM=>zl h (h'.fl j' yM) fun q=>by
  obtain ⟨i,hi,e⟩:=hb _ q
  exact h'.bf i j' hi yM e
 have key:∀ y,(∀ i i',i < m→i' < m→D.ik i=D'.ik i'→D.row k y i=D'.row k y i')∧D.gv k y=D'.gv k y:=fun y=>by
  have hs:=sn h y
  have G7:=(e.Nf _).1 hs
  have OF:∀ j',j' < k→D.ext m k y (D'.fr j')=y (D'.fr j'):=fun j' yM=>by
   obtain ⟨j,hj,q⟩:=hf j' yM
   rw [← q,uJ h hj]
  refine ⟨fun i i' hi rr q=>?_,?_⟩
  ·rw [← tZ h hi y,q]
   exact yB G7 OF rr
  ·rw [← Gi h y,e.gv _ hs]
   unfold gv;congr 1
   exact bN fun j hj=>by rw [OF j hj]
 have VA:∀ i i',i < m→i' < m→D.ik i=D'.ik i'→D.b i=D'.b i':=fun i i' hi rr q=>by
  have:=(key tM).1 i i' hi rr q
  rwa [sq,sq] at this
 have hv:D.v=D'.v:=by have:=(key tM).2;rwa [I8,I8] at this
 refine ⟨VA,fun i j i' j' hi rr hj yM q1 q2=>?_,fun j j' hj yM q=>?_,hv⟩
 ·have:=(key (one (D.fr j))).1 i i' hi rr q1
  rw [row_one h hj,q2,row_one h' yM,VA i i' hi rr q1] at this
  grind
 ·have:=(key (one (D.fr j))).2
  rw [L1 h hj,q,L1 h' yM,hv] at this
  grind
end bE
end Go.Den
namespace Go.Den
open Go.Ab
namespace bE
structure Ew (D:bE) (k j:Nat):Prop where
 lt:j < k
 pos:0 < D.g j
 min:∀ j',j' < k→0 < D.g j'→D.fr j≤D.fr j'
def ratio (D:bE) (j i:Nat):Rat:=D.b i / -(D.a i j)
structure BS (D:bE) (m j i:Nat):Prop where
 lt:i < m
 neg:D.a i j < 0
 min:∀ i',i' < m→D.a i' j < 0→D.ratio j i < D.ratio j i'∨D.ratio j i=D.ratio j i'∧D.ik i≤D.ik i'
def KG (D:bE) (m:Nat):Prop:=∀ i,i < m→0≤D.b i
def Step (m k:Nat) (D D':bE):Prop:=∃ j i,D.Ew k j∧D.BS m j i∧D'=D.jF i j
theorem L3 {x y a:Rat} (ha:0 < a) (h:x≤y / a):x * a≤y:=by
 have e:y / a * a=y:=by grind
 have:=Rat.mul_le_mul_of_nonneg_right h (Rat.le_of_lt ha)
 rwa [e] at this
theorem Gj {x a:Rat} (ha:0 < a) (h:0≤x):0≤x / a:=by
 rw [Rat.div_def]
 exact Rat.mul_nonneg h (Rat.le_of_lt (Rat.inv_pos.2 ha))
theorem KH (D:bE) (i j:Nat):D.pb i j=D.ratio j i:=by
 unfold pb ratio
 by_cases h:D.a i j=0
 ·rw [h];simp [Rat.div_def]
 ·have:-(D.a i j)≠0:=by grind
  grind
theorem KG.ratio {D:bE} {m i j:Nat} (h:D.KG m) (hi:i < m) (hn:D.a i j < 0):0≤D.ratio j i:=Gj (by grind) (h i hi)
theorem BS.le {D:bE} {m j i r:Nat} (h:D.BS m j i) (hr:r < m) (hn:D.a r j < 0):D.ratio j i≤D.ratio j r:=by
 rcases h.min r hr hn with h1 | ⟨h1,_⟩
 ·exact Rat.le_of_lt h1
 ·rw [h1];exact Rat.le_refl
theorem KG.jF {D:bE} {m i j:Nat} (h:D.KG m) (hl:D.BS m j i):(D.jF i j).KG m:=fun r hr=>by
 have h0:=h.ratio hl.lt hl.neg
 simp only [bE.jF,KH]
 split
 ·exact h0
 ·by_cases hn:D.a r j < 0
  ·have h1:=L3 (a:=-(D.a r j)) (by grind) (hl.le hr hn)
   have:=h r hr
   grind
  ·have h1:=Rat.mul_nonneg (Rat.not_lt.1 hn) h0
   have:=h r hr
   grind
theorem I9 {D:bE} {m k i j u:Nat} (h:D.WF m k) (hi:i < m):(D.jF i j).yA m u↔(D.yA m u∧u≠D.ik i)∨u=D.fr j:=by
 constructor
 ·rintro ⟨r,hr,e⟩
  simp only [bE.jF] at e
  split at e
  ·exact .inr e.symm
  ·rename_i hn
   exact .inl ⟨⟨r,hr,e⟩,fun q=>hn (h.bi _ _ hr hi (e.trans q))⟩
 ·rintro (⟨⟨r,hr,e⟩,hn⟩ | e)
  ·exact ⟨r,hr,by simp only [bE.jF];rw [if_neg fun q=>hn (by rw [← e,q])];exact e⟩
  ·exact ⟨i,hi,by simp only [bE.jF,if_pos];exact e.symm⟩
theorem QK:∀ (M:Nat) (f:Nat→Nat),(∀ i,f i < M)→∃ i j,i < j∧f i=f j
 | 0,f,h=>absurd (h 0) (dX _)
 | M+1,f,h=>by
  by_cases hM:∃ N,∀ i,N≤i→f i≠M
  ·obtain ⟨N,hN⟩:=hM
   obtain ⟨i,j,h1,h2⟩:=QK M (fun i=>f (i+N)) fun i=>by
    have:=h (i+N);have:=hN (i+N) (by omega);omega
   exact ⟨i+N,j+N,by omega,h2⟩
  ·have hM:∀ N,∃ i,N≤i∧f i=M:=fun N=>pH fun q=>hM ⟨N,fun i hi e=>q ⟨i,hi,e⟩⟩
   obtain ⟨i,_,h1⟩:=hM 0
   obtain ⟨j,h2,h3⟩:=hM (i+1)
   exact ⟨i,j,by omega,h1.trans h3.symm⟩
open Classical in
noncomputable def enc (p:Nat→Prop):Nat→Nat
 | 0=>0
 | n+1=>2 * enc p n+if p n then 1 else 0
theorem QL (p:Nat→Prop):∀ n,enc p n < 2 ^ n
 | 0=>by simp [enc]
 | n+1=>by
  have:=QL p n
  rw [enc,Nat.pow_succ]
  split<;>omega
theorem Ja {p q:Nat→Prop}:∀ {n:Nat},enc p n=enc q n→∀ u,u < n→(p u↔q u)
 | 0,_,u,hu=>by omega
 | n+1,h,u,hu=>by
  rw [enc,enc] at h
  by_cases e:u=n
  ·subst e
   by_cases h1:p u<;>by_cases h2:q u<;>simp only [h1,h2,if_true,if_false] at h ⊢<;>omega
  ·refine Ja (n:=n) ?_ u (by omega)
   split at h<;>split at h<;>omega
theorem QM {f:Nat→Nat} {a:Nat}:∀ n,∃ x,a≤x∧x≤a+n∧∀ y,a≤y→y≤a+n→f y≤f x
 | 0=>⟨a,aG _,aG _,fun y h1 h2=>by rw [show y=a by omega];exact aG _⟩
 | n+1=>by
  obtain ⟨x,h1,h2,h3⟩:=QM (f:=f) (a:=a) n
  by_cases h:f x≤f (a+(n+1))
  ·refine ⟨a+(n+1),by omega,aG _,fun y q1 q2=>?_⟩
   by_cases e:y=a+(n+1)
   ·rw [e];exact aG _
   ·exact eC (h3 y q1 (by omega)) h
  ·refine ⟨x,h1,by omega,fun y q1 q2=>?_⟩
   by_cases e:y=a+(n+1)
   ·rw [e];omega
   ·exact h3 y q1 (by omega)
theorem KI:∀ {n:Nat} {f:Nat→Rat},0 < bX n f→∃ j,j < n∧0 < f j
 | 0,f,h=>by simp only [bX] at h;exact absurd h (by decide)
 | n+1,f,h=>by
  by_cases h1:0 < f n
  ·exact ⟨n,by omega,h1⟩
  ·rw [bX] at h
   obtain ⟨j,hj,h2⟩:=KI (n:=n) (f:=f) (by grind)
   exact ⟨j,by omega,h2⟩
theorem L4 {m k:Nat} {s:Nat→bE} (hw:(s 0).WF m k) (hf:(s 0).KG m) (hs:∀ n,Step m k (s n) (s (n+1))):False:=by
 obtain ⟨J,hJ⟩:=Classical.axiomOfChoice hs
 obtain ⟨I,st⟩:=Classical.axiomOfChoice hJ
 clear hJ hs
 have h0:∀ n,(s n).a (I n) (J n)≠0:=fun n=>by have:=(st n).2.1.neg;grind
 have Gk:∀ n,(s n).WF m k:=fun n=>by
  induction n with
  | zero=>exact hw
  | succ n ih=>rw [(st n).2.2];exact ih.jF (st n).2.1.lt (st n).1.lt
 have YU:∀ n,(s n).KG m:=fun n=>by
  induction n with
  | zero=>exact hf
  | succ n ih=>rw [(st n).2.2];exact ih.jF (st n).2.1
 have he:∀ n,B8 m k (s 0) (s n):=fun n=>by
  induction n with
  | zero=>exact .refl _ _ _
  | succ n ih=>rw [(st n).2.2];exact ih.trans (.jF (st n).2.1.lt (st n).1.lt (h0 n))
 have Yk:∀ a b,B8 m k (s a) (s b):=fun a b=>(he a).symm.trans (he b)
 have hB:∀ n u,(s (n+1)).yA m u↔((s n).yA m u∧u≠(s n).ik (I n))∨u=(s n).fr (J n):=fun n u=>by
  rw [(st n).2.2];exact I9 (Gk n) (st n).2.1.lt
 have Xs:∀ n j,j < k→¬ (s n).yA m ((s n).fr j):=fun n j hj ⟨i,hi,e⟩=>(Gk n).bf i j hi hj e
 -- a basis comes again
 obtain ⟨A,B,hAB,hen⟩:=QK (2 ^ (m+k)) (fun n=>enc (fun u=>(s n).yA m u) (m+k)) fun n=>QL _ _
 have hbs:∀ u,(s A).yA m u→(s B).yA m u:=fun u hu=>by
  obtain ⟨i,hi,e⟩:=id hu
  exact (Ja hen u (e ▸ (Gk A).bl i hi)).1 hu
 have aaC:∀ u,(s B).yA m u→(s A).yA m u:=fun u hu=>by
  obtain ⟨i,hi,e⟩:=id hu
  exact (Ja hen u (e ▸ (Gk B).bl i hi)).2 hu
 have hv:(s A).v=(s B).v:=(uniq (Gk A) (Gk B) (Yk A B) hbs).2.2.2
 have hpb:∀ n,0≤(s n).ratio (J n) (I n):=fun n=>(YU n).ratio (st n).2.1.lt (st n).2.1.neg
 have UY:∀ n,(s (n+1)).v=(s n).v+(s n).g (J n) * (s n).ratio (J n) (I n):=fun n=>by rw [(st n).2.2,← KH];rfl
 have Xt:∀ n,(s n).v≤(s (n+1)).v:=fun n=>by
  have:=Rat.mul_nonneg (Rat.le_of_lt (st n).1.pos) (hpb n)
  have:=UY n
  grind
 have Xu:∀ a d,(s a).v≤(s (a+d)).v:=fun a d=>by
  induction d with
  | zero=>exact Rat.le_refl
  | succ d ih=>exact Rat.le_trans ih (Xt _)
 have VA:∀ n,A≤n→n < B→(s n).ratio (J n) (I n)=0:=fun n h1 h2=>by
  have e1:=Xu A (n - A)
  have e2:=Xu (n+1) (B - (n+1))
  rw [show A+(n - A)=n by omega] at e1
  rw [show n+1+(B - (n+1))=B by omega] at e2
  have e3:=UY n
  have e4:=hpb n
  have e5:=(st n).1.pos
  have e6:(s n).g (J n) * (s n).ratio (J n) (I n)=0:=by
   have:=Rat.mul_nonneg (Rat.le_of_lt e5) e4
   grind
  rcases Rat.mul_eq_zero.1 e6 with h | h
  ·rw [h] at e5;exact absurd e5 (by decide)
  ·exact h
 have hbi:∀ n,A≤n→n < B→(s n).b (I n)=0:=fun n h1 h2=>by
  have e:=VA n h1 h2
  have hn:=(st n).2.1.neg
  unfold ratio at e
  have:(s n).b (I n) / -((s n).a (I n) (J n)) * -((s n).a (I n) (J n))=(s n).b (I n):=by grind
  rw [e] at this
  grind
 -- one point for all
 let x0:=(s A).ext m k tM
 have PT:∀ n,(s n).Jy m k x0:=fun n=>((Yk A n).Nf _).1 (sn (Gk A) tM)
 have Yl:∀ d,A+d≤B→∀ j,j < k→x0 ((s (A+d)).fr j)=0:=fun d=>by
  induction d with
  | zero=>intro _ j hj;exact uJ (Gk A) hj tM
  | succ d ih =>
   intro hd j hj
   have ih:=ih (by omega)
   show x0 ((s (A+d+1)).fr j)=0
   rw [(st (A+d)).2.2]
   simp only [bE.jF]
   split
   ·rw [yB (y:=tM) (PT (A+d)) ih (st (A+d)).2.1.lt,sq]
    exact hbi _ (by omega) (by omega)
   ·exact ih j hj
 have Yl:∀ n,A≤n→n≤B→∀ j,j < k→x0 ((s n).fr j)=0:=fun n h1 h2=>by
  have:=Yl (n - A) (by omega)
  rwa [show A+(n - A)=n by omega] at this
 have hxb:∀ n,A≤n→n≤B→∀ i,i < m→(s n).b i=x0 ((s n).ik i):=fun n h1 h2 i hi=>by
  rw [yB (y:=tM) (PT n) (Yl n h1 h2) hi,sq]
 -- what stays out, what stays in
 have out:∀ a d u,¬ (s a).yA m u→(∀ n,a≤n→n < a+d→(s n).fr (J n)≠u)→¬ (s (a+d)).yA m u:=fun a d u h1=>by
  induction d with
  | zero=>intro _;exact h1
  | succ d ih =>
   intro h2 h3
   rcases (hB (a+d) u).1 h3 with ⟨h4,_⟩ | h4
   ·exact ih (fun n q1 q2=>h2 n q1 (by omega)) h4
   ·exact h2 (a+d) (by omega) (by omega) h4.symm
 have inn:∀ a d u,(s a).yA m u→(∀ n,a≤n→n < a+d→(s n).ik (I n)≠u)→(s (a+d)).yA m u:=fun a d u h1=>by
  induction d with
  | zero=>intro _;exact h1
  | succ d ih =>
   intro h2
   exact (hB (a+d) u).2 (.inl ⟨ih (fun n q1 q2=>h2 n q1 (by omega)),fun q=>h2 (a+d) (by omega) (by omega) q.symm⟩)
 -- the greatest one that comes in
 obtain ⟨q,E2,dW,jh⟩:=QM (f:=fun n=>(s n).fr (J n)) (a:=A) (B - A - 1)
 have dW:q < B:=by omega
 have jh:∀ n,A≤n→n < B→(s n).fr (J n)≤(s q).fr (J q):=fun n h1 h2=>jh n h1 (by omega)
 generalize ht:(s q).fr (J q)=t at jh
 have htq:¬ (s q).yA m t:=ht ▸ Xs q _ (st q).1.lt
 have enters:∀ u p,A≤p→p < B→(s p).yA m u→¬ (s q).yA m u→∃ n,A≤n∧n < B∧(s n).fr (J n)=u:=fun u p h1 h2 h3 h4=>pH fun fZ=>by
  have fZ:∀ n,A≤n→n < B→(s n).fr (J n)≠u:=fun n q1 q2 e=>fZ ⟨n,q1,q2,e⟩
  have e1:=out q (B - q) u h4 fun n q1 q2=>fZ n (by omega) (by omega)
  rw [show q+(B - q)=B by omega] at e1
  have e2:=out A (p - A) u (fun h=>e1 (hbs u h)) fun n q1 q2=>fZ n (by omega) (by omega)
  rw [show A+(p - A)=p by omega] at e2
  exact e2 h3
 obtain ⟨p,xC,xh,hp3⟩:∃ p,A≤p∧p < B∧(s p).ik (I p)=t:=pH fun fZ=>by
  have fZ:∀ n,A≤n→n < B→(s n).ik (I n)≠t:=fun n q1 q2 e=>fZ ⟨n,q1,q2,e⟩
  have e0:(s (q+1)).yA m t:=(hB q t).2 (.inr ht.symm)
  have e1:=inn (q+1) (B - (q+1)) t e0 fun n q1 q2=>fZ n (by omega) (by omega)
  rw [show q+1+(B - (q+1))=B by omega] at e1
  have e2:=inn A (q - A) t (aaC t e1) fun n q1 q2=>fZ n (by omega) (by omega)
  rw [show A+(q - A)=q by omega] at e2
  exact htq e2
 -- the direction of the step in which it goes out
 have hjp:=(st p).1.lt
 have y1:=sn (Gk p) (one ((s p).fr (J p)))
 have y0:=sn (Gk p) tM
 have g1:(s p).v+(s p).g (J p)=(s q).gv k ((s p).ext m k (one ((s p).fr (J p)))):=by
  rw [← (Yk p q).gv _ y1,Gi (Gk p),L1 (Gk p) hjp]
 have g0:(s p).v=(s q).gv k ((s p).ext m k tM):=by rw [← (Yk p q).gv _ y0,Gi (Gk p),I8]
 let d:Nat→Rat:=fun u=>(s p).ext m k (one ((s p).fr (J p))) u - (s p).ext m k tM u
 have hd:(s p).g (J p)=bX k fun j=>(s q).g j * d ((s q).fr j):=by
  have e:bX k (fun j=>(s q).g j * (s p).ext m k (one ((s p).fr (J p))) ((s q).fr j))=bX k (fun j=>(s q).g j * d ((s q).fr j)+(s q).g j * (s p).ext m k tM ((s q).fr j)):=bN fun j _=>by
   show _=_ * (_ - _)+_
   grind
  rw [rj] at e
  unfold gv at g1 g0
  rw [e] at g1
  rw [g0] at g1
  grind
 obtain ⟨j,hj,Oj⟩:=KI (by rw [← hd];exact (st p).1.pos)
 generalize hr:(s q).fr j=r at Oj
 have hrq:¬ (s q).yA m r:=hr ▸ Xs q j hj
 have hru:r < m+k:=hr ▸ (Gk q).fl j hj
 -- Bland's choice at q
 have blq:t≤r∨(s q).g j≤0:=by
  by_cases h:0 < (s q).g j
  ·exact .inl (by rw [← ht,← hr];exact (st q).1.min j hj h)
  ·exact .inr (Rat.not_lt.1 h)
 have aaF:∀ i,i < m→(s p).ik i=t→(s p).a i (J p) < 0:=fun i hi e=>by
  rw [(Gk p).bi i (I p) hi (st p).2.1.lt (e.trans hp3.symm)];exact (st p).2.1.neg
 rcases (Gk p).al r hru with ⟨i,hi,e⟩ | ⟨c,hc,e⟩
 ·have hdr:d r=(s p).a i (J p):=by
   show (s p).ext m k _ r - (s p).ext m k tM r=_
   rw [← e,tZ (Gk p) hi,tZ (Gk p) hi,row_one (Gk p) hjp,sq];grind
  rw [hdr] at Oj
  obtain ⟨n,n1,n2,n3⟩:=enters r p xC xh ⟨i,hi,e⟩ hrq
  have hrt:r≤t:=n3 ▸ jh n n1 n2
  by_cases Xv:r=t
  ·have h1:=aaF i hi (e.trans Xv)
   have h2:0 < (s q).g j:=by
    rw [(Gk q).fi j (J q) hj (st q).1.lt (hr.trans (Xv.trans ht.symm))];exact (st q).1.pos
   have:=Rat.mul_pos h2 (show 0 < -((s p).a i (J p)) by grind)
   grind
  ·have hg:(s q).g j≤0:=blq.resolve_left (by omega)
   have ha:(s p).a i (J p) < 0:=Rat.not_le.1 fun h=>by
    have:=Rat.mul_nonneg (show 0≤-((s q).g j) by grind) h
    grind
   have Yc:(s p).b i=0:=by
    rw [hxb p xC (by omega) i hi,e,← hr];exact Yl q E2 (by omega) j hj
   have hz:(s p).ratio (J p) i=0:=by unfold ratio;rw [Yc];grind
   rcases (st p).2.1.min i hi ha with h | ⟨_,h⟩
   ·rw [VA p xC xh,hz] at h;exact absurd h (by decide)
   ·rw [hp3,e] at h;omega
 ·have hdr:d r=one ((s p).fr (J p)) r:=by
   show (s p).ext m k _ r - (s p).ext m k tM r=_
   rw [← e,uJ (Gk p) hc,uJ (Gk p) hc];unfold tM;grind
  rw [hdr] at Oj
  unfold one at Oj
  split at Oj
  ·rename_i WT
   have hle:r≤t:=WT ▸ jh p xC xh
   have fZ:r≠t:=fun h=>(Gk p).bf (I p) (J p) (st p).2.1.lt hjp (by rw [hp3,← WT,h])
   have hg:(s q).g j≤0:=blq.resolve_left (by omega)
   grind
  ·grind
theorem QN {m k:Nat} {D:bE} (hw:D.WF m k) (hf:D.KG m):Acc (fun a b=>Step m k b a) D:=pH fun hn=>by
 have nx:∀ x:{ x:bE // ¬ Acc (fun a b=>Step m k b a) x },∃ y:{ x:bE // ¬ Acc (fun a b=>Step m k b a) x },Step m k x.1 y.1:=fun x=>pH fun q=>x.2 (.intro _ fun y hy=>pH fun GF=>q ⟨⟨y,GF⟩,hy⟩)
 let s:Nat→{ x:bE // ¬ Acc (fun a b=>Step m k b a) x }:=fun n=>Nat.rec ⟨D,hn⟩ (fun _ x=>Classical.choose (nx x)) n
 exact L4 (s:=fun n=>(s n).1) hw hf fun n=>Classical.choose_spec (nx (s n))
end bE
end Go.Den
