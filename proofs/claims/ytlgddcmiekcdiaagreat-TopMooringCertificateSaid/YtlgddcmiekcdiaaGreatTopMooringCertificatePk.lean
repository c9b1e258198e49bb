/- The plain law: the Lean function of the law returns true for every input, and what it needs. No conditions. -/
import Derived.Test.YtlgddcmiekcdiaaGreatTopMooringCertificateDen
set_option linter.unusedVariables false
set_option linter.unusedSimpArgs false
namespace Go.Den
open Go.Ab
theorem TF (n:Int):ai n=if n % 18446744073709551616≥9223372036854775808 then n % 18446744073709551616 - 18446744073709551616 else n % 18446744073709551616:=by
 have e:ai n=(if (true && decide (n % 18446744073709551616≥9223372036854775808))=true then n % 18446744073709551616 - 18446744073709551616 else n % 18446744073709551616):=rfl
 rw [e];simp
theorem aV {n:Int} (h1:-9223372036854775808≤n) (h2:n≤9223372036854775807):ai n=n:=by
 rw [TF];split<;>omega
theorem zK {m:Nat} (h:m≤9223372036854775807):ai (m:Int)=m:=aV (by omega) (by omega)
theorem aN {m:Nat} (h:m < 9223372036854775807):ai ((m:Int)+1)=((m+1:Nat):Int):=by rw [aV (by omega) (by omega)];simp
theorem toList_inj {a b:ByteArray} (h:a.toList=b.toList):a=b:=by
 have e:∀ x:ByteArray,x.toList=x.data.toList:=fun x=>ByteArray.toList_eq x
 rw [e,e] at h
 cases a;cases b;simp_all [Array.toList_inj]
theorem OU {a b:ByteArray}:lU a b=true↔a=b:=by
 unfold lU;simp only [beq_iff_eq]
 exact ⟨toList_inj,fun h=>h ▸ rfl⟩
def scan {R:Type} (f:Nat→Option R) (z:R):Nat→Nat→R
 | 0,_=>z
 | k+1,m=>match f m with
  | some r=>r
  | none=>scan f z k (m+1)
theorem Ix {R:Type} {L:Nat→Int→Option R} (f:Nat→Option R) (z:R) {n:Nat}
  (Cc:∀ fuel m,m < n→L (fuel+1) (m:Int)=(match f m with | some r=>some r | none=>L fuel ((m+1:Nat):Int)))
  (JG:∀ fuel,L (fuel+1) (n:Int)=some z):∀ k m fuel,m+k=n→k < fuel→L fuel (m:Int)=some (scan f z k m)
 | 0,m,fuel,h,hf=>by
  obtain ⟨g,rfl⟩:∃ g,fuel=g+1:=⟨fuel - 1,by omega⟩
  have:m=n:=by omega
  subst this;exact JG g
 | k+1,m,fuel,h,hf=>by
  obtain ⟨g,rfl⟩:∃ g,fuel=g+1:=⟨fuel - 1,by omega⟩
  rw [Cc g m (by omega)]
  unfold scan
  cases Y0:f m with
  | some r=>rfl
  | none=>exact Ix f z Cc JG k (m+1) g (by omega) (by omega)
theorem tX {R:Type} {L:Nat→Int→Option R} (f:Nat→Option R) (z:R) {n fuel:Nat} (hf:n < fuel)
  (Cc:∀ fuel m,m < n→L (fuel+1) (m:Int)=(match f m with | some r=>some r | none=>L fuel ((m+1:Nat):Int)))
  (JG:∀ fuel,L (fuel+1) (n:Int)=some z):L fuel 0=some (scan f z n 0) :=
 Ix f z Cc JG n 0 fuel (by omega) hf
theorem KX {R:Type} {f:Nat→Option R} {z:R}:∀ (k m:Nat),(∃ i r,m≤i∧i < m+k∧f i=some r∧(∀ j,m≤j→j < i→f j=none)∧scan f z k m=r)∨((∀ i,m≤i→i < m+k→f i=none)∧scan f z k m=z)
 | 0,m=>.inr ⟨fun i h1 h2=>by omega,rfl⟩
 | k+1,m=>by
  cases hm:f m with
  | some r=>exact .inl ⟨m,r,az _,by omega,hm,fun j h1 h2=>by omega,by unfold scan;rw [hm]⟩
  | none =>
   have e:scan f z (k+1) m=scan f z k (m+1):=by rw [scan,hm]
   rcases KX (f:=f) (z:=z) k (m+1) with ⟨i,r,h1,h2,h3,h4,h5⟩ | ⟨h1,h2⟩
   ·refine .inl ⟨i,r,by omega,by omega,h3,fun j hj1 UG=>?_,e.trans h5⟩
    by_cases hj:j=m
    ·subst hj;exact hm
    ·exact h4 j (by omega) UG
   ·refine .inr ⟨fun i hi1 UA=>?_,e.trans h2⟩
    by_cases hj:i=m
    ·subst hj;exact hm
    ·exact h1 i (by omega) (by omega)
theorem Gy {R:Type} {L:Nat→Int→R} (f:Nat→Option R) (z:R) {n:Nat}
  (Cc:∀ fuel m,m < n→L (fuel+1) (m:Int)=(match f m with | some r=>r | none=>L fuel ((m+1:Nat):Int)))
  (JG:∀ fuel,L (fuel+1) (n:Int)=z):∀ k m fuel,m+k=n→k < fuel→L fuel (m:Int)=scan f z k m
 | 0,m,fuel,h,hf=>by
  obtain ⟨g,rfl⟩:∃ g,fuel=g+1:=⟨fuel - 1,by omega⟩
  have:m=n:=by omega
  subst this;exact JG g
 | k+1,m,fuel,h,hf=>by
  obtain ⟨g,rfl⟩:∃ g,fuel=g+1:=⟨fuel - 1,by omega⟩
  rw [Cc g m (by omega)]
  unfold scan
  cases Y0:f m with
  | some r=>rfl
  | none=>exact Gy f z Cc JG k (m+1) g (by omega) (by omega)
theorem KY {R:Type} {L:Nat→Int→R} (f:Nat→Option R) (z:R) {n fuel:Nat} (hf:n < fuel)
  (Cc:∀ fuel m,m < n→L (fuel+1) (m:Int)=(match f m with | some r=>r | none=>L fuel ((m+1:Nat):Int)))
  (JG:∀ fuel,L (fuel+1) (n:Int)=z):L fuel 0=scan f z n 0 :=
 Gy f z Cc JG n 0 fuel (by omega) hf
theorem Gz {p:Nat→Bool}:∀ (n m:Nat),decide (scan (fun k=>cond (p k) (some (k:Int)) none) (-1) n m≥0)=scan (fun k=>cond (p k) (some true) none) false n m
 | 0,m=>rfl
 | n+1,m=>by
  unfold scan
  cases p m with
  | true=>simp
  | false=>exact Gz n (m+1)
theorem Iy {R:Type} {p:Nat→Bool} {a z:R}:∀ (n m:Nat),scan (fun k=>cond (p k) (some a) none) z n m=cond (scan (fun k=>cond (p k) (some true) none) false n m) a z
 | 0,m=>rfl
 | n+1,m=>by
  unfold scan
  cases p m with
  | true=>rfl
  | false=>exact Iy n (m+1)
theorem zL {α:Type} (q:Bool) (a b:α):cond q (some a) (some b)=some (cond q a b):=by cases q<;>rfl
theorem OV {α:Type} (l:List α) (m k:Nat) (d:α) (h:k < m):((l.take m).drop 0).getD k d=l.getD k d:=by
 simp [List.getD,h]
theorem yZ {α:Type} (l:List α) (m:Nat) (d:α) (h:m < l.length):l.getD m d∈l:=by
 simp [List.getD,h]
theorem sq_nonneg (x:Int):0≤x * x:=by
 by_cases h:0≤x
 ·exact Int.mul_nonneg h h
 ·have:=Int.mul_nonneg (show 0≤-x by omega) (show 0≤-x by omega)
  rwa [Int.neg_mul_neg] at this
theorem UP {x M:Int} (h1:-M≤x) (h2:x≤M):x * x≤M * M:=by
 by_cases h:0≤x
 ·exact Int.mul_le_mul h2 h2 h (by omega)
 ·have:=Int.mul_le_mul (show -x≤M by omega) (show -x≤M by omega) (by omega) (by omega)
  rwa [Int.neg_mul_neg] at this
theorem TG {a b:Nat} (ha:a < 9223372036854775808) (hb:b < 9223372036854775808):tw .i64 (a:Int) (b:Int)=((a ||| b:Nat):Int):=by
 have h:a ||| b < 2 ^ 63:=Nat.or_lt_two_pow (by omega) (by omega)
 have e:(BitVec.ofInt IntKind.i64.bits (a:Int) ||| BitVec.ofInt IntKind.i64.bits (b:Int)).toNat=a ||| b:=by
  show (BitVec.ofInt 64 (a:Int) ||| BitVec.ofInt 64 (b:Int)).toNat=_
  rw [BitVec.ofInt_natCast,BitVec.ofInt_natCast,BitVec.toNat_or,BitVec.toNat_ofNat,BitVec.toNat_ofNat,Nat.mod_eq_of_lt (by omega),Nat.mod_eq_of_lt (by omega)]
 unfold tw
 rw [e]
 exact zK (by omega)
theorem Q4 {k:Nat} (hk:k < 63):hO .i64 1 (k:Int)=((2 ^ k:Nat):Int):=by
 have h:2 ^ k < 2 ^ 63:=Nat.pow_lt_pow_right (by omega) hk
 have e:min ((k:Int).toNat) IntKind.i64.bits=k:=by
  show min k 64=k
  omega
 unfold hO
 rw [e]
 have e2:(1:Int) * 2 ^ k=((2 ^ k:Nat):Int):=by simp
 rw [e2]
 exact zK (by omega)
theorem ao (m:Nat):((m:Int)).toNat=m:=rfl
theorem pS {m n:Nat} (h:m < n):0≤(m:Int)∧(m:Int) < ((n:Nat):Int):=⟨by omega,by omega⟩
theorem dec_lt {m n:Nat} (h:m < n):decide ((m:Int) < ((n:Nat):Int))=true:=by simp;omega
theorem ep {n:Nat}:decide ((n:Int) < ((n:Nat):Int))=false:=by simp
end Go.Den
namespace Go.Den
open Go.Ab
theorem si (n:Int):IntKind.u16.wrap n=n % 65536:=by
 have e:IntKind.u16.wrap n=(if (false && decide (n % 65536≥32768))=true then n % 65536 - 65536 else n % 65536):=rfl
 rw [e];simp
theorem wrap32 (n:Int):IntKind.u32.wrap n=n % 4294967296:=by
 have e:IntKind.u32.wrap n=(if (false && decide (n % 4294967296≥2147483648))=true then n % 4294967296 - 4294967296 else n % 4294967296):=rfl
 rw [e];simp
theorem wrap64 (n:Int):IntKind.u64.wrap n=n % 18446744073709551616:=by
 have e:IntKind.u64.wrap n=(if (false && decide (n % 18446744073709551616≥9223372036854775808))=true then n % 18446744073709551616 - 18446744073709551616 else n % 18446744073709551616):=rfl
 rw [e];simp
theorem oe {n:Int} (h:0≤n) (h2:n < 65536):IntKind.u16.wrap n=n:=by rw [si];omega
theorem cJ {n:Int} (h:0≤n) (h2:n < 4294967296):IntKind.u32.wrap n=n:=by rw [wrap32];omega
theorem iv {n:Int} (h:0≤n) (h2:n < 18446744073709551616):IntKind.u64.wrap n=n:=by rw [wrap64];omega
theorem Cd (n:Int):oB .u32 n 16=n / 65536:=by
 unfold oB
 have:(2:Int) ^ (min (16:Int).toNat IntKind.u32.bits)=65536:=by decide
 rw [this,Int.fdiv_eq_ediv_of_nonneg _ (by decide)]
theorem GA (n:Int):oB .u64 n 16=n / 65536:=by
 unfold oB
 have:(2:Int) ^ (min (16:Int).toNat IntKind.u64.bits)=65536:=by decide
 rw [this,Int.fdiv_eq_ediv_of_nonneg _ (by decide)]
theorem OW (n:Int):oB .i64 n 16=n / 65536:=by
 unfold oB
 have:(2:Int) ^ (min (16:Int).toNat IntKind.i64.bits)=65536:=by decide
 rw [this,Int.fdiv_eq_ediv_of_nonneg _ (by decide)]
theorem GB {n:Int} (h:0≤n) (h2:n < 65536):hO .u32 n 16=n * 65536:=by
 unfold hO
 have:(2:Int) ^ (min (16:Int).toNat IntKind.u32.bits)=65536:=by decide
 rw [this,wrap32];omega
theorem GC {n:Int} (h:0≤n) (h2:n < 281474976710656):hO .u64 n 16=n * 65536:=by
 unfold hO
 have:(2:Int) ^ (min (16:Int).toNat IntKind.u64.bits)=65536:=by decide
 rw [this,wrap64];omega
theorem Q5 {n:Nat} (a b:Nat) (ha:a < 2 ^ n) (hb:b < 2 ^ n):(BitVec.ofInt n (a:Int) ||| BitVec.ofInt n (b:Int)).toNat=a ||| b:=by
 rw [BitVec.ofInt_natCast,BitVec.ofInt_natCast,BitVec.toNat_or,BitVec.toNat_ofNat,BitVec.toNat_ofNat,Nat.mod_eq_of_lt ha,Nat.mod_eq_of_lt hb]
theorem bv_and {n:Nat} (a b:Nat) (ha:a < 2 ^ n) (hb:b < 2 ^ n):(BitVec.ofInt n (a:Int) &&& BitVec.ofInt n (b:Int)).toNat=a &&& b:=by
 rw [BitVec.ofInt_natCast,BitVec.ofInt_natCast,BitVec.toNat_and,BitVec.toNat_ofNat,BitVec.toNat_ofNat,Nat.mod_eq_of_lt ha,Nat.mod_eq_of_lt hb]
theorem A9 (a b k:Nat) (hb:b < 2 ^ k):(a * 2 ^ k) ||| b=a * 2 ^ k+b:=by
 have:=Nat.shiftLeft_add_eq_or_of_lt hb a
 rw [Nat.shiftLeft_eq] at this
 exact this.symm
theorem NI {a b:Int} (ha:0≤a) (Se:a < 65536) (hb:0≤b) (pB:b < 65536):tw .u32 (a * 65536) b=a * 65536+b:=by
 obtain ⟨a,rfl⟩:=Int.eq_ofNat_of_zero_le ha
 obtain ⟨b,rfl⟩:=Int.eq_ofNat_of_zero_le hb
 unfold tw
 have e:((a:Int) * 65536)=((a * 2 ^ 16:Nat):Int):=by simp
 rw [e,show IntKind.u32.bits=32 from rfl,Q5 _ _ (by omega) (by omega),A9 _ _ 16 (by omega),wrap32]
 omega
theorem JH {a b:Int} (ha:0≤a) (Se:a < 281474976710656) (hb:0≤b) (pB:b < 65536):tw .u64 (a * 65536) b=a * 65536+b:=by
 obtain ⟨a,rfl⟩:=Int.eq_ofNat_of_zero_le ha
 obtain ⟨b,rfl⟩:=Int.eq_ofNat_of_zero_le hb
 unfold tw
 have e:((a:Int) * 65536)=((a * 2 ^ 16:Nat):Int):=by simp
 rw [e,show IntKind.u64.bits=64 from rfl,Q5 _ _ (by omega) (by omega),A9 _ _ 16 (by omega),wrap64]
 omega
theorem KZ {a:Int} (ha:0≤a) (Se:a < 18446744073709551616):vH .u64 a 65535=a % 65536:=by
 obtain ⟨a,rfl⟩:=Int.eq_ofNat_of_zero_le ha
 unfold vH
 have e:(65535:Int)=((65535:Nat):Int):=rfl
 rw [e,show IntKind.u64.bits=64 from rfl,bv_and _ _ (by omega) (by omega),show (65535:Nat)=2 ^ 16 - 1 from rfl,Nat.and_two_pow_sub_one_eq_mod,wrap64]
 omega
def bI:List Int→Int
 | []=>0
 | x :: l=>x+65536 * bI l
def U (l:List Int):Prop:=∀ x,x∈l→0≤x∧x < 65536
def lm (n:Nat):List Int:=if h:n=0 then [] else ((n % 65536:Nat):Int) :: lm (n / 65536)
termination_by n
decreasing_by omega
def pw (k:Nat):Int:=65536 ^ k
theorem zM:pw 0=1:=rfl
theorem gW (k:Nat):pw (k+1)=65536 * pw k:=by unfold pw;rw [Int.pow_succ];omega
theorem lK (k:Nat):0 < pw k:=by
 induction k with
 | zero=>decide
 | succ k ih=>rw [gW];omega
theorem GD (j k:Nat):pw (j+k)=pw j * pw k:=Int.pow_add _ _ _
theorem U.nil:U []:=fun x h=>by simp at h
theorem U.cons {x:Int} {l:List Int} (h1:0≤x) (h2:x < 65536) (h:U l):U (x :: l):=fun y hy=>by
 rcases kI.1 hy with rfl | hy
 ·exact ⟨h1,h2⟩
 ·exact h y hy
theorem U.tail {x:Int} {l:List Int} (h:U (x :: l)):U l:=fun y hy=>h y (List.mem_cons_of_mem _ hy)
theorem U.head {x:Int} {l:List Int} (h:U (x :: l)):0≤x∧x < 65536:=h x (by simp)
theorem U.append {l m:List Int} (h1:U l) (h2:U m):U (l ++ m):=fun y hy=>by
 rcases List.mem_append.1 hy with hy | hy
 ·exact h1 y hy
 ·exact h2 y hy
theorem U.left {l m:List Int} (h:U (l ++ m)):U l:=fun y hy=>h y (List.mem_append_left _ hy)
theorem U.right {l m:List Int} (h:U (l ++ m)):U m:=fun y hy=>h y (List.mem_append_right _ hy)
theorem U.one {x:Int} (h1:0≤x) (h2:x < 65536):U [x]:=U.cons h1 h2 U.nil
theorem U.take {l:List Int} (h:U l) (k:Nat):U (l.take k):=fun y hy=>h y (List.mem_of_mem_take hy)
theorem U.drop {l:List Int} (h:U l) (k:Nat):U (l.drop k):=fun y hy=>h y (List.mem_of_mem_drop hy)
theorem U.getD {l:List Int} (h:U l) (i:Nat):0≤l.getD i 0∧l.getD i 0 < 65536:=by
 by_cases hi:i < l.length
 ·exact h _ (yZ l i 0 hi)
 ·rw [fB,oP (by omega)];decide
theorem U.set {l:List Int} (h:U l) (i:Nat) {x:Int} (h1:0≤x) (h2:x < 65536):U (l.set i x):=fun y hy=>by
 rcases List.mem_or_eq_of_mem_set hy with hy | rfl
 ·exact h y hy
 ·exact ⟨h1,h2⟩
theorem U.replicate (n:Nat):U (List.replicate n 0):=fun y hy=>by
 rw [(List.mem_replicate.1 hy).2];decide
theorem lL (l m:List Int):bI (l ++ m)=bI l+pw l.length * bI m:=by
 induction l with
 | nil=>simp [bI,zM]
 | cons x l ih =>
  simp only [List.cons_append,bI,ih,wC,gW]
  rw [iI,← kZ];omega
theorem q8 (x:Int):bI [x]=x:=by simp [bI]
theorem kj (n:Nat):bI (List.replicate n 0)=0:=by
 induction n with
 | zero=>rfl
 | succ n ih=>simp [List.replicate_succ,bI,ih]
theorem U.pz:∀ {l:List Int},U l→0≤bI l
 | [],_=>by simp [bI]
 | x :: l,h=>by have:=U.pz h.tail;have:=h.head;simp only [bI];omega
theorem U.lt:∀ {l:List Int},U l→bI l < pw l.length
 | [],_=>by simp [bI,zM]
 | x :: l,h=>by have:=U.lt h.tail;have:=h.head;simp only [bI,wC,gW];omega
theorem nr:∀ (l:List Int) (i:Nat) (x:Int),i < l.length→bI (l.set i x)=bI l+(x - l.getD i 0) * pw i
 | [],i,x,h=>by simp at h
 | y :: l,0,x,h=>by simp [bI,zM];omega
 | y :: l,i+1,x,h=>by
  simp only [List.set_cons_succ,bI,nr l i x (by simpa using h),gW]
  rw [show (y :: l).getD (i+1) 0=l.getD i 0 from rfl,iI,show (x - l.getD i 0) * (65536 * pw i)=65536 * ((x - l.getD i 0) * pw i) by rw [Int.mul_left_comm]]
  omega
theorem cM (l:List Int) (i:Nat) (h:i < l.length):bI (l.take (i+1))=bI (l.take i)+l.getD i 0 * pw i:=by
 have e:l.take (i+1)=l.take i ++ [l.getD i 0]:=by
  rw [List.take_add_one];simp [List.getD,h]
 rw [e,lL,q8,oQ,Nat.min_eq_left (by omega),gU]
theorem nW (l:List Int) (i:Nat) (h:i < l.length):bI (l.drop i)=l.getD i 0+65536 * bI (l.drop (i+1)):=by
 rw [List.drop_eq_getElem_cons h];simp [bI,List.getD,h]
theorem q9 (l:List Int) (i:Nat) (h:i≤l.length):bI l=bI (l.take i)+pw i * bI (l.drop i):=by
 have:=lL (l.take i) (l.drop i)
 rwa [List.take_append_drop,oQ,Nat.min_eq_left h] at this
theorem iQ:lm 0=[]:=by rw [lm];rfl
theorem qn {n:Nat} (h:n≠0):lm n=((n % 65536:Nat):Int) :: lm (n / 65536):=by rw [lm,dif_neg h]
theorem rH (n:Nat):U (lm n):=by
 induction n using Nat.strongRecOn with
 | _ n ih =>
  by_cases h:n=0
  ·subst h;rw [iQ];exact U.nil
  ·rw [qn h];exact U.cons (by omega) (by omega) (ih _ (by omega))
theorem iG (n:Nat):bI (lm n)=n:=by
 induction n using Nat.strongRecOn with
 | _ n ih =>
  by_cases h:n=0
  ·subst h;rw [iQ];rfl
  ·rw [qn h,bI,ih _ (by omega)];omega
theorem ML {n:Nat}:lm n=[]↔n=0:=by
 constructor
 ·intro h
  have:=iG n
  rw [h] at this;simp [bI] at this;omega
 ·rintro rfl;exact iQ
theorem nX {n:Nat}:0 < (lm n).length↔n≠0:=by
 rw [List.length_pos_iff,ne_eq,ML]
theorem jH {n k:Nat}:(lm n).length≤k↔(n:Int) < pw k:=by
 induction k generalizing n with
 | zero =>
  rw [zM]
  constructor
  ·intro h;have:lm n=[]:=List.length_eq_zero_iff.1 (by omega);rw [ML] at this;omega
  ·intro h;have:n=0:=by omega
   rw [ML.2 this];simp
 | succ k ih =>
  by_cases h:n=0
  ·subst h;rw [iQ];have:=lK (k+1);simp;omega
  ·rw [qn h,wC,gW]
   have:=ih (n:=n / 65536)
   constructor
   ·intro h;have:=this.1 (by omega);omega
   ·intro h;have:=this.2 (by omega);omega
theorem TH {n:Nat} (h:n≠0):∃ l x,lm n=l ++ [x]∧x≠0∧U l∧0≤x∧x < 65536:=by
 induction n using Nat.strongRecOn with
 | _ n ih =>
  rw [qn h]
  by_cases h2:n / 65536=0
  ·rw [h2,iQ];exact ⟨[],_,rfl,by omega,U.nil,by omega,by omega⟩
  ·obtain ⟨l,x,e,hx,hl,h3,h4⟩:=ih _ (by omega) h2
   rw [e];exact ⟨_ :: l,x,rfl,hx,U.cons (by omega) (by omega) hl,h3,h4⟩
theorem NJ:∀ {l:List Int},U l→(∀ m x,l=m ++ [x]→x≠0)→lm (bI l).toNat=l
 | [],_,_=>by simp [bI,iQ]
 | x :: l,h,hn=>by
  have h1:=h.head
  have h2:=h.tail.pz
  have e:bI (x :: l)=x+65536 * bI l:=rfl
  have fx:(bI (x :: l)).toNat≠0:=by
   rw [e]
   cases l with
   | nil=>have:=hn [] x rfl;simp [bI];omega
   | cons y l =>
    have hl:=NJ (l:=y :: l) h.tail fun m z hz=>hn (x :: m) z (by rw [hz];rfl)
    have:bI (y :: l)≠0:=fun h0=>by rw [h0] at hl;simp [iQ] at hl
    omega
  rw [qn fx]
  have hl:=NJ (l:=l) h.tail fun m z hz=>hn (x :: m) z (by rw [hz];rfl)
  have e1:(((bI (x :: l)).toNat % 65536:Nat):Int)=x:=by rw [e];omega
  have e2:(bI (x :: l)).toNat / 65536=(bI l).toNat:=by rw [e];omega
  rw [e1,e2,hl]
theorem NK {N:Nat}:∀ (fuel:Nat) (l:List Int),U l→l.length < fuel→l.length < 9223372036854775807→nD N fuel l=some (lm (bI l).toNat)
 | 0,l,_,h,_=>by omega
 | fuel+1,l,hU,h,hs=>by
  rw [nD]
  rcases List.eq_nil_or_concat l with rfl | ⟨m,x,Uk⟩
  ·simp [bI,iQ]
  ·rw [List.concat_eq_append] at Uk
   subst Uk
   have hlen:(m ++ [x]).length=m.length+1:=by simp
   have e1:ai ((((m ++ [x]).length:Nat):Int) - 1)=(m.length:Int):=by rw [hlen,aV (by omega) (by rw [hlen] at hs;omega)];omega
   have e2:(m ++ [x]).getD m.length 0=x:=by simp [List.getD]
   have e3:decide ((((m ++ [x]).length:Nat):Int) > 0)=true:=by simp
   rw [e1,e3]
   rw [if_pos (fun _=>⟨by omega,by rw [hlen];omega⟩),cond_true]
   simp only [ao,e2]
   cases hx:(x == 0) with
   | true =>
    have Qy:x=0:=by simpa using hx
    subst Qy
    rw [cond_true,if_pos ⟨Nat.zero_le _,by rw [hlen];omega⟩,if_pos (by omega)]
    have e4:((m ++ [(0:Int)]).take m.length).drop 0=m:=by simp
    rw [e4,NK fuel m hU.left (by rw [hlen] at h;omega) (by rw [hlen] at hs;omega),lL,q8];simp
   | false =>
    rw [cond_false,NJ hU]
    intro m' x' he
    have:=(List.append_inj' he rfl).2
    simp at this hx
    omega
theorem mD {N:Nat} {l:List Int} (hU:U l) (hN:l.length < N) (hs:l.length < 9223372036854775807):ia N l=some (lm (bI l).toNat):=NK N l hU hN hs
end Go.Den
namespace Go.Den
open Go.Ab
abbrev SM (n:Nat):Prop:=n < 10000000000000
def MM (a b:List Int):Nat→Int
 | 0=>0
 | k+1=>cond (a.getD k 0 != b.getD k 0) (a.getD k 0 - b.getD k 0) (MM a b k)
def HD (a b:Nat):Int:=cond ((((lm a).length:Nat):Int) != (((lm b).length:Nat):Int)) ((((lm a).length:Nat):Int) - (((lm b).length:Nat):Int)) (MM (lm a) (lm b) (lm a).length)
theorem GF {N:Nat} {a b:List Int} (ha:U a) (hb:U b) (hl:a.length=b.length) (hs:SM a.length):∀ (k fuel:Nat),k≤a.length→k < fuel →
  ∃ c,jr N a b fuel ((k:Int) - 1)=some c∧(c < 0↔bI (a.take k) < bI (b.take k))∧(c=0↔bI (a.take k)=bI (b.take k))∧c=MM a b k
 | 0,fuel,_,hf=>by
  obtain ⟨g,rfl⟩:∃ g,fuel=g+1:=⟨fuel - 1,by omega⟩
  exact ⟨0,by rw [jr];rfl,by simp,by simp,rfl⟩
 | k+1,fuel,hk,hf=>by
  obtain ⟨g,rfl⟩:∃ g,fuel=g+1:=⟨fuel - 1,by omega⟩
  have e:(((k+1:Nat):Int) - 1)=(k:Int):=by omega
  rw [e,jr]
  have hA:=cM a k (by omega)
  have hB:=cM b k (by omega)
  have h1:=ha.getD k
  have h2:=hb.getD k
  have hla:=(ha.take k).lt
  have XY:=(hb.take k).lt
  have hna:=(ha.take k).pz
  have hnb:=(hb.take k).pz
  rw [oQ,Nat.min_eq_left (by omega)] at hla XY
  have e0:decide ((k:Int)≥0)=true:=by simp
  rw [e0,cond_true,if_pos ⟨by omega,by omega⟩,if_pos ⟨by omega,by omega⟩]
  simp only [ao]
  cases hd:(a.getD k 0 != b.getD k 0) with
  | true =>
   have fx:a.getD k 0≠b.getD k 0:=by simpa using hd
   refine ⟨a.getD k 0 - b.getD k 0,?_,?_,?_,by rw [MM,hd];rfl⟩
   ·rw [cond_true]
    congr 1
    rw [aV (by rw [aV (by omega) (by omega),aV (by omega) (by omega)];omega) (by rw [aV (by omega) (by omega),aV (by omega) (by omega)];omega),aV (by omega) (by omega),aV (by omega) (by omega)]
   ·rw [hA,hB]
    generalize a.getD k 0=x at *
    generalize b.getD k 0=y at *
    rcases Int.lt_or_lt_of_ne fx with h | h
    ·have:=kG (show x+1≤y by omega) (Int.le_of_lt (lK k))
     rw [eM] at this
     constructor<;>intro<;>omega
    ·have:=kG (show y+1≤x by omega) (Int.le_of_lt (lK k))
     rw [eM] at this
     constructor<;>intro<;>omega
   ·rw [hA,hB]
    generalize a.getD k 0=x at *
    generalize b.getD k 0=y at *
    rcases Int.lt_or_lt_of_ne fx with h | h
    ·have:=kG (show x+1≤y by omega) (Int.le_of_lt (lK k))
     rw [eM] at this
     constructor<;>intro<;>omega
    ·have:=kG (show y+1≤x by omega) (Int.le_of_lt (lK k))
     rw [eM] at this
     constructor<;>intro<;>omega
  | false =>
   have heq:a.getD k 0=b.getD k 0:=by simpa using hd
   obtain ⟨c,h3,h4,h5,h6⟩:=GF ha hb hl hs k g (by omega) (by omega)
   refine ⟨c,?_,?_,?_,by rw [MM,hd];exact h6⟩
   ·rw [cond_false,aV (by omega) (by simp only [SM] at hs;omega)];exact h3
   ·rw [hA,hB,heq,h4];omega
   ·rw [hA,hB,heq,h5];omega
theorem zN {a b:Nat} (h:(lm a).length < (lm b).length):a < b:=by
 have h1:=jH (n:=a) (k:=(lm a).length)
 have h2:=jH (n:=b) (k:=(lm a).length)
 have:=h1.1 (az _)
 have:¬ (b:Int) < pw (lm a).length:=fun h'=>by have:=h2.2 h';omega
 omega
theorem xn {N:Nat} {a b:Nat} (hN:(lm a).length < N) (ha:SM (lm a).length) (hb:SM (lm b).length):∃ c,nF N (lm a) (lm b)=some c∧(c < 0↔a < b)∧(c=0↔a=b)∧c=HD a b:=by
 unfold nF
 simp only [SM] at ha hb
 cases hl:((((lm a).length:Nat):Int) != (((lm b).length:Nat):Int)) with
 | true =>
  have fx:(lm a).length≠(lm b).length:=by intro h;rw [h] at hl;simp at hl
  refine ⟨_,cond_true _ _,?_,?_,by unfold HD;rw [hl,cond_true,aV (by omega) (by omega)]⟩
  ·rw [aV (by omega) (by omega)]
   rcases Nat.lt_or_gt_of_ne fx with h | h
   ·have:=zN h;omega
   ·have:=zN h;omega
  ·rw [aV (by omega) (by omega)]
   rcases Nat.lt_or_gt_of_ne fx with h | h
   ·have:=zN h;omega
   ·have:=zN h;omega
 | false =>
  have heq:(lm a).length=(lm b).length:=by simp at hl;omega
  rw [cond_false,aV (by omega) (by omega)]
  obtain ⟨c,h1,h2,h3,h4⟩:=GF (N:=N) (rH a) (rH b) heq ha (lm a).length N (az _) hN
  rw [List.take_length,heq,List.take_length,iG,iG] at h2 h3
  exact ⟨c,h1,by omega,by omega,by unfold HD;rw [hl];exact h4⟩
theorem K0 {N a b:Nat} (hN:(lm a).length < N) (ha:SM (lm a).length) (hb:SM (lm b).length):nF N (lm a) (lm b)=some (HD a b):=by
 obtain ⟨c,h1,_,_,rfl⟩:=xn hN ha hb
 exact h1
theorem NL {a b:Nat} (ha:SM (lm a).length) (hb:SM (lm b).length):HD a b < 0↔a < b:=by
 obtain ⟨c,_,h,_,rfl⟩:=xn (N:=(lm a).length+1) (by omega) ha hb
 exact h
theorem NM {N:Nat} {a b:List Int} (ha:U a) (hb:U b) (hl:b.length≤a.length) (hs:SM a.length) (hN:a.length+1 < N):∀ (k x fuel:Nat) (out:List Int) (c:Int),x+k=a.length→k < fuel→out.length=x→U out→0≤c→c≤1 →
  bI out+pw x * c=bI (a.take x)+bI (b.take x)→j8 N a b fuel out c (x:Int)=some (lm (bI a+bI b).toNat)
 | 0,x,fuel,out,c,hx,hf,ho,hU,yk,uc,hinv=>by
  obtain ⟨g,rfl⟩:∃ g,fuel=g+1:=⟨fuel - 1,by omega⟩
  have HE:x=a.length:=by omega
  subst HE
  rw [j8]
  simp only [SM] at hs
  rw [ep,cond_false,if_pos (by omega),oe yk (by omega)]
  have Y1:U (out ++ [c]):=hU.append (U.one yk (by omega))
  have hlen:(out ++ [c]).length=a.length+1:=by simp [ho]
  rw [mD Y1 (by rw [hlen];omega) (by rw [hlen];omega),cF,lL,q8,ho,hinv,List.take_length,jy hl]
 | k+1,x,fuel,out,c,hx,hf,ho,hU,yk,uc,hinv=>by
  obtain ⟨g,rfl⟩:∃ g,fuel=g+1:=⟨fuel - 1,by omega⟩
  simp only [SM] at hs
  have mE:x < a.length:=by omega
  have h1:=ha.getD x
  have h2:=hb.getD x
  rw [j8,dec_lt mE,cond_true,if_pos (pS mE)]
  simp only [ao]
  have hA:=cM a x mE
  have hB:bI (b.take (x+1))=bI (b.take x)+b.getD x 0 * pw x:=by
   by_cases h:x < b.length
   ·exact cM b x h
   ·rw [jy (by omega),jy (by omega),fB,oP (by omega)];simp
  have step:∀ s:Int,s=c+a.getD x 0+b.getD x 0→(pF N a b out (x:Int) (j8 N a b g) s)=some (lm (bI a+bI b).toNat):=by
   intro s hse
   unfold pF
   rw [if_pos (by omega),si,Cd,aN (by omega)]
   refine NM ha hb hl hs hN k (x+1) g _ _ (by omega) (by omega) (by simp [ho]) (hU.append (U.one (by omega) (by omega))) (by omega) (by omega) ?_
   rw [lL,q8,ho,hA,hB,gW]
   have h5:s=s % 65536+65536 * (s / 65536):=by omega
   have h6:pw x * s=pw x * (s % 65536)+pw x * (65536 * (s / 65536)):=by rw [← iI,← h5]
   have h7:pw x * s=pw x * c+a.getD x 0 * pw x+b.getD x 0 * pw x:=by rw [hse,iI,iI,gU (pw x) (a.getD x 0),gU (pw x) (b.getD x 0)]
   have h8:65536 * pw x * (s / 65536)=pw x * (65536 * (s / 65536)):=by rw [gU 65536,kZ]
   omega
  by_cases pB:x < b.length
  ·rw [dec_lt pB,cond_true,if_pos (pS pB)]
   refine step _ ?_
   rw [cJ (n:=a.getD x 0) (by omega) (by omega),cJ (n:=b.getD x 0) (by omega) (by omega),cJ (n:=c+a.getD x 0) (by omega) (by omega),cJ (by omega) (by omega)]
  ·have e:decide ((x:Int) < ((b.length:Nat):Int))=false:=by simp;omega
   rw [e,cond_false]
   refine step _ ?_
   have h0:b.getD x 0=0:=by rw [fB,oP (by omega)];rfl
   rw [cJ (n:=a.getD x 0) (by omega) (by omega),cJ (n:=c+a.getD x 0) (by omega) (by omega),h0];omega
theorem NN {N:Nat} {a b:List Int} (ha:U a) (hb:U b) (hl:b.length≤a.length) (hs:SM a.length) (hN:a.length+1 < N):pG N a b=some (lm (bI a+bI b).toNat):=by
 unfold pG
 simp only [SM] at hs
 rw [if_pos (by rw [aV (by omega) (by omega)];omega)]
 exact NM ha hb hl hs hN a.length 0 N _ 0 (by omega) (by omega) rfl (U.replicate 0) (by omega) (by omega) (by simp [bI])
theorem V2 {N:Nat} {a b:List Int} (ha:U a) (hb:U b) (hs:SM a.length) (TI:SM b.length) (hN:a.length+1 < N) (hN2:b.length+1 < N):vM N a b=some (lm (bI a+bI b).toNat):=by
 unfold vM
 cases h:decide (((a.length:Nat):Int) < ((b.length:Nat):Int)) with
 | true =>
  simp at h
  rw [cond_true,NN hb ha (by omega) TI hN2,Int.add_comm]
 | false =>
  simp at h
  rw [cond_false,NN ha hb (by omega) hs hN]
theorem TJ {N a b:Nat} (hs:SM (lm a).length) (TI:SM (lm b).length) (hN:(lm a).length+1 < N) (hN2:(lm b).length+1 < N):vM N (lm a) (lm b)=some (lm (a+b)):=by
 rw [V2 (rH a) (rH b) hs TI hN hN2,iG,iG];congr 1
theorem K1 {N:Nat} {a b:List Int} (ha:U a) (hb:U b) (hl:b.length≤a.length) (hle:bI b≤bI a) (hs:SM a.length) (hN:a.length+1 < N):∀ (k x fuel:Nat) (out:List Int) (c:Int),x+k=a.length→k < fuel→out.length=a.length→U out→0≤c→c≤1 →
  (∀ j,x≤j→out.getD j 0=0)→bI out - pw x * c=bI (a.take x) - bI (b.take x)→ig N a b fuel out c (x:Int)=some (lm (bI a - bI b).toNat)
 | 0,x,fuel,out,c,hx,hf,ho,hU,yk,uc,hz,hinv=>by
  obtain ⟨g,rfl⟩:∃ g,fuel=g+1:=⟨fuel - 1,by omega⟩
  have HE:x=a.length:=by omega
  subst HE
  simp only [SM] at hs
  rw [ig,ep,cond_false,mD hU (by omega) (by omega),cF]
  rw [List.take_length,jy hl] at hinv
  have h1:=hU.lt
  rw [ho] at h1
  have hc:c=0:=by
   rcases Int.lt_or_le 0 c with h | h
   ·have:c=1:=by omega
    subst this;omega
   ·omega
  subst hc
  have:bI out=bI a - bI b:=by omega
  rw [this]
 | k+1,x,fuel,out,c,hx,hf,ho,hU,yk,uc,hz,hinv=>by
  obtain ⟨g,rfl⟩:∃ g,fuel=g+1:=⟨fuel - 1,by omega⟩
  simp only [SM] at hs
  have mE:x < a.length:=by omega
  have h1:=ha.getD x
  have h2:=hb.getD x
  rw [ig,dec_lt mE,cond_true,if_pos (pS mE)]
  simp only [ao]
  have hA:=cM a x mE
  have hB:bI (b.take (x+1))=bI (b.take x)+b.getD x 0 * pw x:=by
   by_cases h:x < b.length
   ·exact cM b x h
   ·rw [jy (by omega),jy (by omega),fB,oP (by omega)];simp
  have step:∀ y:Int,y=c+b.getD x 0→(n8 N a b out (x:Int) (ig N a b g) y)=some (lm (bI a - bI b).toNat):=by
   intro y hy
   unfold n8
   have fin:∀ q:Int,0≤q→q≤1→0≤a.getD x 0+q * 65536 - y→a.getD x 0+q * 65536 - y < 65536→n7 N a b out (x:Int) y (ig N a b g) q=some (lm (bI a - bI b).toNat):=by
    intro q EH FC Pp WN
    unfold n7
    rw [if_pos ⟨by omega,by omega⟩,GB (by omega) (by omega),ao,cJ (n:=a.getD x 0) (by omega) (by omega),cJ (n:=a.getD x 0+q * 65536) (by omega) (by omega),cJ (by omega) (by omega),oe (by omega) (by omega),aN (by omega)]
    refine K1 ha hb hl hle hs hN k (x+1) g _ _ (by omega) (by omega) (by simp [ho]) (hU.set x (by omega) (by omega)) EH FC ?_ ?_
    ·intro j hj
     have:=hz j (by omega)
     rw [fB] at this ⊢
     rw [List.getElem?_set_ne (by omega)];exact this
    ·rw [nr _ _ _ (by omega),hz x (az _),hA,hB,gW]
     have h3:(a.getD x 0+q * 65536 - y - 0) * pw x=a.getD x 0 * pw x+q * 65536 * pw x - y * pw x:=by rw [Int.sub_zero,Int.sub_mul,eM]
     have h4:y * pw x=c * pw x+b.getD x 0 * pw x:=by rw [hy,eM]
     have h5:q * 65536 * pw x=65536 * pw x * q:=by rw [gU q 65536,kZ,kZ,gU q]
     have h6:c * pw x=pw x * c:=gU _ _
     omega
   rw [ao,cJ (n:=a.getD x 0) (by omega) (by omega)]
   cases gY:decide (a.getD x 0 < y) with
   | true=>have gY:=qS gY;rw [cond_true];exact fin 1 (by omega) (by omega) (by omega) (by omega)
   | false=>have gY:=sG gY;rw [cond_false];exact fin 0 (by omega) (by omega) (by omega) (by omega)
  by_cases pB:x < b.length
  ·rw [dec_lt pB,cond_true,if_pos (pS pB)]
   refine step _ ?_
   rw [cJ (n:=b.getD x 0) (by omega) (by omega),cJ (by omega) (by omega)]
  ·have e:decide ((x:Int) < ((b.length:Nat):Int))=false:=by simp;omega
   rw [e,cond_false]
   refine step _ ?_
   have h0:b.getD x 0=0:=by rw [fB,oP (by omega)];rfl
   omega
theorem iu (n j:Nat):(List.replicate n (0:Int)).getD j 0=0:=by
 rw [fB,List.getElem?_replicate];split<;>rfl
theorem TK {N:Nat} {a b:List Int} (ha:U a) (hb:U b) (hl:b.length≤a.length) (hle:bI b≤bI a) (hs:SM a.length) (hN:a.length+1 < N):qI N a b=some (lm (bI a - bI b).toNat):=by
 unfold qI
 simp only [SM] at hs
 rw [if_pos (by omega)]
 exact K1 ha hb hl hle hs hN a.length 0 N _ 0 (by omega) (by omega) (by simp) (U.replicate _) (by omega) (by omega) (fun j _=>iu _ j) (by rw [kj];simp [bI])
theorem iE {a b:Nat} (h:a≤b):(lm a).length≤(lm b).length:=jH.2 (by have:=(jH (n:=b) (k:=(lm b).length)).1 (az _);omega)
theorem K2 {N a b:Nat} (UQ:b≤a) (hs:SM (lm a).length) (hN:(lm a).length+1 < N):qI N (lm a) (lm b)=some (lm (a - b)):=by
 rw [TK (rH a) (rH b) (iE UQ) (by rw [iG,iG];omega) hs hN,iG,iG]
 congr 2;omega
end Go.Den
namespace Go.Den
open Go.Ab
theorem getD_set_ne (l:List Int) {i j:Nat} (x:Int) (h:i≠j):(l.set i x).getD j 0=l.getD j 0:=by
 rw [fB,List.getElem?_set_ne h,← fB]
theorem K3 (l:List Int) {i:Nat} (x:Int) (h:i < l.length):(l.set i x).getD i 0=x:=by
 rw [fB,List.getElem?_set_self h];rfl
theorem uE {l:List Int} {i:Nat} (h:l.length≤i):l.getD i 0=0:=by
 rw [fB,oP h];rfl
theorem GG {x y:Int} (h1:0≤x) (h2:x < 65536) (h3:0≤y) (h4:y < 65536):0≤x * y∧x * y≤4294836225:=by
 refine ⟨Int.mul_nonneg h1 h3,?_⟩
 have:=Int.mul_le_mul (show x≤65535 by omega) (show y≤65535 by omega) h3 (by omega)
 omega
theorem K4 {N:Nat} {a b:List Int} {i:Nat} (ha:U a) (hb:U b) (hi:i < a.length) (hs:SM (a.length+b.length)) (K:List Int→Int→Option (List Int)) (R:Option (List Int))
  (hK:∀ out,out.length=a.length+b.length→U out→(∀ j,i+b.length < j→out.getD j 0=0)→bI out=bI (a.take (i+1)) * bI b→K out ((i+1:Nat):Int)=R) :
  ∀ (k x fuel:Nat) (out:List Int) (c:Int),x+k=b.length→k < fuel→out.length=a.length+b.length→U out→0≤c→c < 65536→(∀ j,i+b.length≤j→out.getD j 0=0) →
   bI out+pw (i+x) * c=bI (a.take i) * bI b+a.getD i 0 * pw i * bI (b.take x)→lj N a b (i:Int) K fuel out c (x:Int)=R
 | 0,x,fuel,out,c,hx,hf,ho,hU,yk,uc,hz,hinv=>by
  obtain ⟨g,rfl⟩:∃ g,fuel=g+1:=⟨fuel - 1,by omega⟩
  have HE:x=b.length:=by omega
  subst HE
  simp only [SM] at hs
  have e:ai ((i:Int)+((b.length:Nat):Int))=((i+b.length:Nat):Int):=by rw [aV (by omega) (by omega)];omega
  rw [lj,ep,cond_false,e,if_pos (pS (by omega)),ao,oe yk uc,aN (by omega)]
  refine hK _ (by simp [ho]) (hU.set _ yk uc) (fun j hj=>?_) ?_
  ·rw [getD_set_ne _ _ (by omega)];exact hz j (by omega)
  ·rw [nr _ _ _ (by omega),hz _ (az _),Int.sub_zero,cM a i hi,eM,gU c]
   rw [List.take_length] at hinv
   exact hinv
 | k+1,x,fuel,out,c,hx,hf,ho,hU,yk,uc,hz,hinv=>by
  obtain ⟨g,rfl⟩:∃ g,fuel=g+1:=⟨fuel - 1,by omega⟩
  simp only [SM] at hs
  have mE:x < b.length:=by omega
  have h1:=ha.getD i
  have h2:=hb.getD x
  have h3:=hU.getD (i+x)
  have e:ai ((i:Int)+(x:Int))=((i+x:Nat):Int):=by rw [aV (by omega) (by omega)];omega
  have h4:=GG h1.1 h1.2 h2.1 h2.2
  rw [lj,dec_lt mE,cond_true,if_pos (pS mE),e,if_pos (pS (by omega))]
  simp only [ao]
  rw [cJ (n:=a.getD i 0) (by omega) (by omega),cJ (n:=b.getD x 0) (by omega) (by omega),cJ (n:=out.getD (i+x) 0) (by omega) (by omega),cJ (n:=a.getD i 0 * b.getD x 0) (by omega) (by omega),
   cJ (n:=a.getD i 0 * b.getD x 0+out.getD (i+x) 0) (by omega) (by omega),cJ (n:=c+(a.getD i 0 * b.getD x 0+out.getD (i+x) 0)) (by omega) (by omega),si,Cd,aN (by omega)]
  generalize TI:c+(a.getD i 0 * b.getD x 0+out.getD (i+x) 0)=s
  refine K4 ha hb hi hs K R hK k (x+1) g _ _ (by omega) (by omega) (by simp [ho]) (hU.set _ (by omega) (by omega)) (by omega) (by omega) (fun j hj=>?_) ?_
  ·rw [getD_set_ne _ _ (by omega)];exact hz j hj
  ·rw [nr _ _ _ (by omega),cM b x mE,show i+(x+1)=(i+x)+1 by omega,gW]
   have h5:s=s % 65536+65536 * (s / 65536):=by omega
   have h6:pw (i+x) * s=pw (i+x) * (s % 65536)+pw (i+x) * (65536 * (s / 65536)):=by rw [← iI,← h5]
   have h7:pw (i+x) * s=pw (i+x) * c+pw (i+x) * (a.getD i 0 * b.getD x 0)+pw (i+x) * out.getD (i+x) 0:=by rw [← TI,iI,iI];omega
   have h8:65536 * pw (i+x) * (s / 65536)=pw (i+x) * (65536 * (s / 65536)):=by rw [gU 65536,kZ]
   have h9:(s % 65536 - out.getD (i+x) 0) * pw (i+x)=pw (i+x) * (s % 65536) - pw (i+x) * out.getD (i+x) 0:=by rw [Int.sub_mul,gU,gU (out.getD (i+x) 0)]
   have Y2:a.getD i 0 * pw i * (bI (b.take x)+b.getD x 0 * pw x)=a.getD i 0 * pw i * bI (b.take x)+pw (i+x) * (a.getD i 0 * b.getD x 0):=by
    rw [GD];grind
   omega
theorem K5 {N:Nat} {a b:List Int} (ha:U a) (hb:U b) (hs:SM (a.length+b.length)) (hN:a.length+b.length < N):∀ (k x fuel:Nat) (out:List Int),x+k=a.length→k < fuel→out.length=a.length+b.length→U out →
  (∀ j,x+b.length≤j→out.getD j 0=0)→bI out=bI (a.take x) * bI b→lk N a b fuel out (x:Int)=some (lm (bI a * bI b).toNat)
 | 0,x,fuel,out,hx,hf,ho,hU,hz,hinv=>by
  obtain ⟨g,rfl⟩:∃ g,fuel=g+1:=⟨fuel - 1,by omega⟩
  have HE:x=a.length:=by omega
  subst HE
  simp only [SM] at hs
  rw [lk,ep,cond_false,mD hU (by omega) (by omega),cF,hinv,List.take_length]
 | k+1,x,fuel,out,hx,hf,ho,hU,hz,hinv=>by
  obtain ⟨g,rfl⟩:∃ g,fuel=g+1:=⟨fuel - 1,by omega⟩
  have mE:x < a.length:=by omega
  rw [lk,dec_lt mE,cond_true,if_pos (pS mE)]
  refine K4 ha hb mE hs _ _ (fun gy h1 h2 h3 h4=>?_) b.length 0 N out 0 (by omega) (by omega) ho hU (by omega) (by omega) hz (by rw [hinv];simp [bI])
  exact K5 ha hb hs hN k (x+1) g gy (by omega) (by omega) h1 h2 (fun j hj=>h3 j (by omega)) h4
theorem TL {N:Nat} {a b:List Int} (ha:U a) (hb:U b) (hs:SM (a.length+b.length)) (hN:a.length+b.length < N):th N a b=some (lm (bI a * bI b).toNat):=by
 unfold th
 have HF:=hs
 simp only [SM] at HF
 have e:ai (((a.length:Nat):Int)+((b.length:Nat):Int))=((a.length+b.length:Nat):Int):=by rw [aV (by omega) (by omega)];omega
 rw [e,if_pos (by omega)]
 exact K5 ha hb hs hN a.length 0 N _ (by omega) (by omega) (by simp;omega) (U.replicate _) (fun j _=>iu _ j) (by rw [kj];simp [bI])
theorem vo (a b:Nat):((a:Int) * (b:Int)).toNat=a * b:=by rw [← Int.natCast_mul];rfl
theorem Q6 {N a b:Nat} (hs:SM ((lm a).length+(lm b).length)) (hN:(lm a).length+(lm b).length < N):th N (lm a) (lm b)=some (lm (a * b)):=by
 rw [TL (rH a) (rH b) hs hN,iG,iG,vo]
theorem K6 {N:Nat} {a:List Int} {d:Int} (ha:U a) (Pp:0 < d) (WN:d < 65536) (hs:SM a.length) (hN:a.length < N):∀ (k fuel:Nat) (q:List Int) (r:Int),k≤a.length→k < fuel→q.length=a.length→U q→0≤r→r < d →
  (∀ j,j < k→q.getD j 0=0)→pw k * bI (a.drop k)=bI q * d+r * pw k→∃ Q R:Int,0≤Q∧0≤R∧R < d∧bI a=Q * d+R∧k9 N a d fuel q r ((k:Int) - 1)=some (lm Q.toNat,R)
 | 0,fuel,q,r,hk,hf,ho,hU,JI,Q7,hz,hinv=>by
  obtain ⟨g,rfl⟩:∃ g,fuel=g+1:=⟨fuel - 1,by omega⟩
  simp only [SM] at hs
  refine ⟨bI q,r,hU.pz,JI,Q7,by rw [zM] at hinv;simpa using hinv,?_⟩
  rw [k9]
  have e:decide ((((0:Nat):Int) - 1)≥0)=false:=rfl
  rw [e,cond_false,mD hU (by omega) (by omega),cF,oe JI (by omega)]
 | k+1,fuel,q,r,hk,hf,ho,hU,JI,Q7,hz,hinv=>by
  obtain ⟨g,rfl⟩:∃ g,fuel=g+1:=⟨fuel - 1,by omega⟩
  simp only [SM] at hs
  have e:(((k+1:Nat):Int) - 1)=(k:Int):=by omega
  have h1:=ha.getD k
  have e0:decide ((k:Int)≥0)=true:=by simp
  rw [e,k9,e0,cond_true,if_pos (pS (by omega)),cJ (n:=d) (by omega) (by omega),if_pos (by omega),if_pos (pS (by omega))]
  simp only [ao]
  rw [cJ (n:=a.getD k 0) (by omega) (by omega),GB JI (by omega),NI JI (by omega) h1.1 h1.2,aV (by omega) (by omega)]
  have Sb:0≤r * 65536+a.getD k 0:=by omega
  have PG:r * 65536+a.getD k 0 < d * 65536:=by omega
  generalize hn:r * 65536+a.getD k 0=n at Sb PG ⊢
  rw [Int.tdiv_eq_ediv_of_nonneg Sb,Int.tmod_eq_emod_of_nonneg Sb]
  have FC:n / d < 65536:=Int.ediv_lt_of_lt_mul Pp (by rw [gU];exact PG)
  have EH:0≤n / d:=Int.ediv_nonneg Sb (by omega)
  rw [cJ EH (by omega),oe EH FC]
  refine K6 ha Pp WN hs hN k g _ _ (by omega) (by omega) (by simp [ho]) (hU.set _ EH FC) (Int.emod_nonneg _ (by omega)) (Int.emod_lt_of_pos _ Pp) (fun j hj=>?_) ?_
  ·rw [getD_set_ne _ _ (by omega)];exact hz j (by omega)
  ·rw [nr _ _ _ (by omega),hz k (by omega),Int.sub_zero,nW a k (by omega)]
   have h2:=Int.mul_ediv_add_emod n d
   rw [gW] at hinv
   have h3:pw k * n=pw k * (d * (n / d))+pw k * (n % d):=by rw [← iI,h2]
   have h4:pw k * n=pw k * (r * 65536)+pw k * a.getD k 0:=by rw [← hn,iI]
   grind
theorem Q8 {N a d:Nat} (Pp:0 < d) (WN:d < 65536) (hs:SM (lm a).length) (hN:(lm a).length < N):vK N (lm a) (d:Int)=some (lm (a / d),((a % d:Nat):Int)):=by
 unfold vK
 have HF:=hs
 simp only [SM] at HF
 rw [if_pos (by omega),aV (by omega) (by omega)]
 obtain ⟨Q,R,h1,h2,h3,h4,h5⟩:=K6 (N:=N) (d:=(d:Int)) (rH a) (by omega) (by omega) hs hN (lm a).length N (List.replicate (lm a).length 0) 0 (az _) hN (by simp) (U.replicate _) (by omega) (by omega) (fun j _=>iu _ j)
  (by rw [List.drop_length,kj];simp [bI])
 rw [h5]
 rw [iG] at h4
 obtain ⟨Q,rfl⟩:=Int.eq_ofNat_of_zero_le h1
 obtain ⟨R,rfl⟩:=Int.eq_ofNat_of_zero_le h2
 have h6:a=Q * d+R:=by exact_mod_cast h4
 have h7:R < d:=by omega
 have h8:a / d=Q:=by rw [h6,pX,Nat.mul_add_div Pp,Nat.div_eq_of_lt h7];rfl
 have h9:a % d=R:=by rw [h6,pX,Nat.mul_add_mod,Nat.mod_eq_of_lt h7]
 rw [h8,h9];rfl
theorem GH {N:Nat}:∀ (fuel n:Nat) (out:List Int),(lm n).length < fuel→out.length+(lm n).length < 1000→n < 18446744073709551616→kA N fuel (n:Int) out=some (out ++ lm n)
 | 0,n,out,h,_,_=>by omega
 | fuel+1,n,out,h,h2,h3=>by
  rw [kA]
  by_cases hn:n=0
  ·subst hn;rw [iQ];simp
  ·have e:decide ((n:Int) > 0)=true:=by simp;omega
   rw [qn hn] at h h2
   simp only [wC] at h h2
   rw [e,cond_true,if_pos (by omega),GA,si]
   have e1:((n:Int) / 65536)=((n / 65536:Nat):Int):=by omega
   have e2:((n:Int) % 65536)=((n % 65536:Nat):Int):=by omega
   rw [e1,e2,GH fuel (n / 65536) _ (by omega) (by simp;omega) (by omega),qn hn,wD];rfl
theorem K7 {n:Nat} (h:n < 18446744073709551616):(lm n).length≤4:=jH.2 (by show (n:Int) < 65536 ^ 4;omega)
theorem Ba {N n:Nat} (hN:4 < N) (h:n < 18446744073709551616):nC N (n:Int)=some (lm n):=by
 unfold nC
 have:=K7 h
 rw [GH N n [] (by omega) (by simp;omega) h];rfl
theorem K8 {N:Nat}:∀ (fuel n:Nat) (out:List Int),(lm n).length < fuel→out.length+(lm n).length < 1000→n < 18446744073709551616→mv N fuel (n:Int) out=some (out ++ lm n)
 | 0,n,out,h,_,_=>by omega
 | fuel+1,n,out,h,h2,h3=>by
  rw [mv]
  by_cases hn:n=0
  ·subst hn;rw [iQ];simp
  ·have e:decide ((n:Int) > 0)=true:=by simp;omega
   rw [qn hn] at h h2
   simp only [wC] at h h2
   rw [e,cond_true,if_pos (by omega),GA,KZ (by omega) (by omega),si]
   have e1:((n:Int) / 65536)=((n / 65536:Nat):Int):=by omega
   have e2:((n:Int) % 65536 % 65536)=((n % 65536:Nat):Int):=by omega
   rw [e1,e2,K8 fuel (n / 65536) _ (by omega) (by simp;omega) (by omega),qn hn,wD];rfl
theorem K9 {N n:Nat} (hN:4 < N) (h:n < 18446744073709551616):tj N (n:Int)=some (lm n):=by
 unfold tj
 have:=K7 h
 rw [K8 N n [] (by omega) (by simp;omega) h];rfl
theorem NO {N:Nat} {a:List Int} (ha:U a) (hs:a.length≤4):∀ (k fuel:Nat) (r:Int),k≤a.length→k < fuel→0≤r→r < pw (4 - k)→bI (a.drop k)=r→l9 N a fuel r ((k:Int) - 1)=some (bI a,true)
 | 0,fuel,r,hk,hf,JI,Q7,hinv=>by
  obtain ⟨g,rfl⟩:∃ g,fuel=g+1:=⟨fuel - 1,by omega⟩
  rw [l9]
  have e:decide ((((0:Nat):Int) - 1)≥0)=false:=rfl
  rw [e,cond_false,← hinv,List.drop_zero]
 | k+1,fuel,r,hk,hf,JI,Q7,hinv=>by
  obtain ⟨g,rfl⟩:∃ g,fuel=g+1:=⟨fuel - 1,by omega⟩
  have e:(((k+1:Nat):Int) - 1)=(k:Int):=by omega
  have h1:=ha.getD k
  have e0:decide ((k:Int)≥0)=true:=by simp
  have hp:pw (4 - k)=65536 * pw (4 - (k+1)):=by rw [← gW];congr 1;omega
  have hle:pw (4 - (k+1))≤281474976710656:=by
   have:k=0∨k=1∨k=2∨k=3:=by omega
   rcases this with rfl | rfl | rfl | rfl<;>decide
  rw [e,l9,e0,cond_true,if_pos (pS (by omega)),ao,iv (n:=a.getD k 0) (by omega) (by omega),GC JI (by omega),JH JI (by omega) h1.1 h1.2,aV (by omega) (by omega)]
  refine NO ha hs k g _ (by omega) (by omega) (by omega) (by omega) ?_
  rw [nW a k (by omega),hinv];omega
theorem NP {N a:Nat} (hN:5 < N) (hs:SM (lm a).length):vJ N (lm a)=some (if (lm a).length≤4 then ((a:Int),true) else (0,false)):=by
 unfold vJ
 by_cases h:(lm a).length≤4
 ·rw [if_pos h]
  have e:decide ((((lm a).length:Nat):Int) > 4)=false:=by simp;omega
  rw [e,cond_false,aV (by omega) (by omega),NO (rH a) h (lm a).length N 0 (az _) (by omega) (by omega) (lK _) (by rw [List.drop_length];rfl),iG]
 ·rw [if_neg h]
  have e:decide ((((lm a).length:Nat):Int) > 4)=true:=by simp;omega
  rw [e];rfl
end Go.Den
namespace Go.Den
open Go.Ab
theorem Q9:∀ x:Fin 256,(match cG 0 ((x.val:Nat):Int) 0 with | some L=>decide (0≤L∧L≤8∧(x.val≠0→1≤L∧2 ^ (L.toNat - 1)≤x.val∧x.val < 2 ^ L.toNat)) | none=>false)=true:=by decide +kernel
theorem Ra:∀ x:Fin 256,(match cG 0 ((x.val:Nat):Int) 8 with | some L=>decide (8≤L∧L≤16∧(x.val≠0→9≤L∧2 ^ (L.toNat - 1 - 8)≤x.val∧x.val < 2 ^ (L.toNat - 8))) | none=>false)=true:=by decide +kernel
theorem Rb {N x:Nat} (h0:0 < x) (h1:x < 65536):∃ L:Nat,1≤L∧L≤16∧la N (x:Int)=some (L:Int)∧2 ^ (L - 1)≤x∧x < 2 ^ L:=by
 unfold la
 by_cases h:x < 256
 ·have e:decide ((x:Int)≥256)=false:=by simp;omega
  rw [e,cond_false]
  have:=Q9 ⟨x,h⟩
  simp only at this
  show ∃ L:Nat,1≤L∧L≤16∧cG 0 (x:Int) 0=some (L:Int)∧2 ^ (L - 1)≤x∧x < 2 ^ L
  cases hr:cG 0 (x:Int) 0 with
  | none=>rw [hr] at this;cases this
  | some L =>
   rw [hr] at this
   obtain ⟨q1,q2,q3⟩:=qS this
   obtain ⟨q4,q5,q6⟩:=q3 (by omega)
   obtain ⟨L,rfl⟩:=Int.eq_ofNat_of_zero_le q1
   exact ⟨L,by omega,by omega,rfl,q5,q6⟩
 ·have e:decide ((x:Int)≥256)=true:=by simp;omega
  rw [e,cond_true]
  have e2:oB .u16 (x:Int) 8=((x / 256:Nat):Int):=by
   unfold oB
   have:(2:Int) ^ (min (8:Int).toNat IntKind.u16.bits)=256:=by decide
   rw [this,Int.fdiv_eq_ediv_of_nonneg _ (by decide)];omega
  rw [e2]
  have:=Ra ⟨x / 256,by omega⟩
  simp only at this
  have hJ:cG N ((x / 256:Nat):Int) 8=cG 0 ((x / 256:Nat):Int) 8:=rfl
  rw [hJ]
  cases hr:cG 0 ((x / 256:Nat):Int) 8 with
  | none=>rw [hr] at this;cases this
  | some L =>
   rw [hr] at this
   obtain ⟨q1,q2,q3⟩:=qS this
   obtain ⟨q4,q5,q6⟩:=q3 (by omega)
   obtain ⟨L,rfl⟩:=Int.eq_ofNat_of_zero_le (show 0≤L by omega)
   simp only [Int.toNat_natCast] at q5 q6
   refine ⟨L,by omega,by omega,rfl,?_,?_⟩
   ·have:2 ^ (L - 1 - 8+8)=2 ^ (L - 1 - 8) * 2 ^ 8:=Nat.pow_add _ _ _
    have h8:(2:Nat) ^ 8=256:=by decide
    have h9:L - 1 - 8+8=L - 1:=by omega
    rw [h8,h9] at this
    omega
   ·have:2 ^ (L - 8+8)=2 ^ (L - 8) * 2 ^ 8:=Nat.pow_add _ _ _
    have h8:(2:Nat) ^ 8=256:=by decide
    have h9:L - 8+8=L:=by omega
    rw [h8,h9] at this
    omega
theorem XZ {N x:Nat} (h0:0 < x) (h1:x < 65536):∃ s:Nat,s≤15∧fb N (x:Int)=some (s:Int)∧32768≤x * 2 ^ s∧x * 2 ^ s < 65536:=by
 obtain ⟨L,h2,h3,h4,h5,h6⟩:=Rb (N:=N) h0 h1
 refine ⟨16 - L,by omega,?_,?_,?_⟩
 ·unfold fb
  rw [h4,cF,aV (by omega) (by omega)];congr 1;omega
 ·have e:2 ^ (L - 1) * 2 ^ (16 - L)=32768:=by rw [← Nat.pow_add,show L - 1+(16 - L)=15 by omega]
  have:=dS (2 ^ (16 - L)) h5
  omega
 ·have e:2 ^ L * 2 ^ (16 - L)=65536:=by rw [← Nat.pow_add,show L+(16 - L)=16 by omega]
  have:=Nat.mul_lt_mul_of_pos_right h6 (Nat.two_pow_pos (16 - L))
  omega
theorem V3 {n:Int} {s:Nat} (h:0≤n) (h2:n < 65536) (hs:s≤15):hO .u32 n (s:Int)=n * 2 ^ s∧0≤n * 2 ^ s∧n * 2 ^ s < 65536 * 2 ^ s∧n * 2 ^ s < 2147483648:=by
 have hp:(0:Int) < 2 ^ s:=Int.pow_pos (by decide)
 have xN:(2:Int) ^ s≤32768:=by
  have:=Nat.pow_le_pow_right (n:=2) (by decide) hs
  have e:((2 ^ s:Nat):Int)=(2:Int) ^ s:=by simp
  omega
 have h3:0≤n * 2 ^ s:=Int.mul_nonneg h (by omega)
 have h4:n * 2 ^ s < 65536 * 2 ^ s:=Int.mul_lt_mul_of_pos_right h2 hp
 refine ⟨?_,h3,h4,by omega⟩
 unfold hO
 have:min ((s:Nat):Int).toNat IntKind.u32.bits=s:=by show min s 32=s;omega
 rw [this,cJ h3 (by omega)]
theorem V4 {c a:Int} {s:Nat} (hs:s≤15) (yk:0≤c) (uc:c < 2 ^ s) (ha0:0≤a):tw .u16 c (a * 2 ^ s % 65536)=c+a * 2 ^ s % 65536∧c+a * 2 ^ s % 65536 < 65536:=by
 obtain ⟨c,rfl⟩:=Int.eq_ofNat_of_zero_le yk
 obtain ⟨a,rfl⟩:=Int.eq_ofNat_of_zero_le ha0
 have hc:c < 2 ^ s:=by
  have e:((2 ^ s:Nat):Int)=(2:Int) ^ s:=by simp
  omega
 have hp:2 ^ s≤32768:=Nat.pow_le_pow_right (n:=2) (by decide) hs
 have e1:(a:Int) * 2 ^ s % 65536=((a * 2 ^ s % 65536:Nat):Int):=by simp
 have e2:a * 2 ^ s % 65536=a % 2 ^ (16 - s) * 2 ^ s:=by
  have:65536=2 ^ (16 - s) * 2 ^ s:=by rw [← Nat.pow_add,show 16 - s+s=16 by omega]
  rw [this,Nat.mul_mod_mul_right]
 have e3:a % 2 ^ (16 - s) * 2 ^ s+2 ^ s≤65536:=by
  have h1:a % 2 ^ (16 - s)+1≤2 ^ (16 - s):=Nat.mod_lt _ (Nat.two_pow_pos _)
  have h2:=dS (2 ^ s) h1
  rw [← Nat.pow_add,show 16 - s+s=16 by omega,cD] at h2
  omega
 rw [e1,e2]
 generalize a % 2 ^ (16 - s)=m at *
 constructor
 ·unfold tw
  rw [show IntKind.u16.bits=16 from rfl,Q5 _ _ (by omega) (by omega),Nat.or_comm,A9 _ _ s hc,si]
  omega
 ·omega
theorem GI {N:Nat} {a:List Int} {s:Nat} (ha:U a) (hs:s≤15) (hS:SM a.length):∀ (k x fuel:Nat) (out:List Int),x+k=a.length→k < fuel→out.length=a.length+1→U out→out.getD x 0 < 2 ^ s→(∀ j,x < j→out.getD j 0=0) →
  bI out=bI (a.take x) * 2 ^ s→∃ o,js N a (s:Int) fuel out (x:Int)=some o∧o.length=a.length+1∧U o∧bI o=bI a * 2 ^ s∧o.getD a.length 0 < 2 ^ s
 | 0,x,fuel,out,hx,hf,ho,hU,hc,hz,hinv=>by
  obtain ⟨g,rfl⟩:∃ g,fuel=g+1:=⟨fuel - 1,by omega⟩
  have HE:x=a.length:=by omega
  subst HE
  exact ⟨out,by rw [js,ep,cond_false],ho,hU,by rw [hinv,List.take_length],hc⟩
 | k+1,x,fuel,out,hx,hf,ho,hU,hc,hz,hinv=>by
  obtain ⟨g,rfl⟩:∃ g,fuel=g+1:=⟨fuel - 1,by omega⟩
  simp only [SM] at hS
  have mE:x < a.length:=by omega
  have h1:=ha.getD x
  have h2:=hU.getD x
  obtain ⟨w1,w2,w3,w4⟩:=V3 h1.1 h1.2 hs
  obtain ⟨o1,o2⟩:=V4 hs h2.1 hc h1.1
  rw [js,dec_lt mE,cond_true,if_pos (pS mE),if_pos (by omega),if_pos (pS (by omega)),aN (by omega)]
  simp only [ao]
  rw [cJ (n:=a.getD x 0) (by omega) (by omega),w1,si,Cd,si,o1]
  rw [if_pos ⟨by omega,by simp;omega⟩]
  generalize hw:a.getD x 0 * 2 ^ s=w at *
  have hw5:w / 65536 < 2 ^ s:=by omega
  have hw6:w / 65536 % 65536=w / 65536:=by omega
  rw [hw6]
  have hU1:U (out.set x (out.getD x 0+w % 65536)):=hU.set x (by omega) o2
  refine GI ha hs hS k (x+1) g _ (by omega) (by omega) (by simp [ho]) (hU1.set (x+1) (by omega) (by omega)) ?_ (fun j hj=>?_) ?_
  ·rw [K3 _ _ (by simp;omega)];exact hw5
  ·rw [getD_set_ne _ _ (by omega),getD_set_ne _ _ (by omega)];exact hz j (by omega)
  ·rw [nr _ _ _ (by simp;omega),getD_set_ne _ _ (by omega),hz (x+1) (by omega),nr _ _ _ (by omega),cM a x mE,hinv,gW,eM]
   have h3:w=w % 65536+65536 * (w / 65536):=by omega
   have h4:w * pw x=(w % 65536+65536 * (w / 65536)) * pw x:=by rw [← h3]
   have h5:a.getD x 0 * pw x * 2 ^ s=w * pw x:=by rw [← hw];grind
   grind
theorem GJ {N:Nat} {a:List Int} {s:Nat} (ha:U a) (hs:s≤15) (hS:SM a.length) (hN:a.length < N):∃ o,pE N a (s:Int)=some o∧o.length=a.length+1∧U o∧bI o=bI a * 2 ^ s∧o.getD a.length 0 < 2 ^ s:=by
 unfold pE
 have UY:=hS
 simp only [SM] at UY
 have e:ai (((a.length:Nat):Int)+1)=((a.length+1:Nat):Int):=aN (by omega)
 rw [e,if_pos (by omega)]
 exact GI ha hs hS a.length 0 N _ (by omega) hN (by simp) (U.replicate _) (by rw [iu];exact Int.pow_pos (by decide)) (fun j _=>iu _ j) (by rw [kj];simp [bI])
theorem rk (p w:List Int) (i:Nat):(p ++ w).getD (bC p.length i) 0=w.getD i 0:=by
 rw [dp,fB,jS (by omega),fB];congr 2;omega
theorem JJ (p w:List Int) (i:Nat) (x:Int):(p ++ w).set (bC p.length i) x=p ++ w.set i x:=by
 rw [dp,List.set_append_right _ _ (by omega)];congr 2;omega
theorem tk:∀ {l:List Int} (m:Nat),(∀ j,m≤j→l.getD j 0=0)→bI l=bI (l.take m)
 | [],m,_=>by simp
 | x :: l,0,h=>by
  have h0:x=0:=h 0 (az _)
  have:=tk (l:=l) 0 fun j _=>h (j+1) (by omega)
  simp [bI] at this;simp [bI,h0,this]
 | x :: l,m+1,h=>by
  have:=tk (l:=l) m fun j hj=>h (j+1) (by omega)
  simp only [List.take_succ_cons,bI,this]
theorem La {l:List Int} (hU:U l) (m:Nat) (h:∀ j,m≤j→l.getD j 0=0):bI l < pw m:=by
 rw [tk m h]
 have h1:=(hU.take m).lt
 rw [oQ] at h1
 by_cases hm:m≤l.length
 ·rwa [Nat.min_eq_left hm] at h1
 ·rw [Nat.min_eq_right (by omega)] at h1
  have:pw m=pw l.length * pw (m - l.length):=by rw [← GD];congr 1;omega
  have h2:=lK (m - l.length)
  have h3:=sH (show 1≤pw (m - l.length) by omega) (Int.le_of_lt (lK l.length))
  omega
theorem GK {l:List Int} (hU:U l) (m:Nat) (h:bI l < pw m):∀ j,m≤j→l.getD j 0=0:=by
 intro j hj
 by_cases hl:j < l.length
 ·have h1:=q9 l j (by omega)
  have h2:=nW l j hl
  have h3:=(hU.take j).pz
  have h4:=(hU.drop (j+1)).pz
  have h5:=hU.getD j
  have h6:pw m≤pw j:=by
   have:pw j=pw m * pw (j - m):=by rw [← GD];congr 1;omega
   have h2:=lK (j - m)
   have h3:=sH (show 1≤pw (j - m) by omega) (Int.le_of_lt (lK m))
   omega
  have h7:¬ 0 < bI (l.drop j):=fun h0=>by
   have:=sH (show 1≤bI (l.drop j) by omega) (Int.le_of_lt (lK j))
   omega
  omega
 ·exact uE (by omega)
theorem Lb {N:Nat} {p v:List Int} {q:Int} (hv:U v) (EH:0≤q) (FC:q < 65536) (hS:SM v.length) (W:Int) :
  ∀ (k x fuel:Nat) (w:List Int) (c br:Int),x+k=v.length+1→k < fuel→v.length+1≤w.length→U w→0≤c→c < 65536→(x=v.length+1→c=0)→(br=0∨br = -1)→(∀ j,v.length+1≤j→w.getD j 0=0) →
   bI w=W - q * bI (v.take x)+pw x * (c - br)→∃ (w':List Int) (TM:Int),w'.length=w.length∧U w'∧(TM=0∨TM = -1)∧(∀ j,v.length+1≤j→w'.getD j 0=0)∧bI w'=W - q * bI v - pw (v.length+1) * TM ∧
    gj N p.length (v.length+1) v q fuel (p ++ w) c br (x:Int)=cond (decide (TM < 0)) (jf N p.length (v.length+1) v q N (p ++ w') 0 0) (ld N (p ++ w') q)
 | 0,x,fuel,w,c,br,hx,hf,hw,hU,yk,uc,J2,Y3,hz,hinv=>by
  obtain ⟨g,rfl⟩:∃ g,fuel=g+1:=⟨fuel - 1,by omega⟩
  have HE:x=v.length+1:=by omega
  subst HE
  simp only [SM] at hS
  rw [J2 rfl] at hinv
  refine ⟨w,br,rfl,hU,Y3,hz,?_,by rw [gj,aN (by omega),ep,cond_false]⟩
  rw [hinv,jy (by omega),Int.zero_sub,Int.mul_neg];omega
 | k+1,x,fuel,w,c,br,hx,hf,hw,hU,yk,uc,J2,Y3,hz,hinv=>by
  obtain ⟨g,rfl⟩:∃ g,fuel=g+1:=⟨fuel - 1,by omega⟩
  simp only [SM] at hS
  have mE:x < v.length+1:=by omega
  have h1:=hU.getD x
  have hlen:(p ++ w).length=p.length+w.length:=kH
  have step:∀ y:Int,0≤y→y < 4294967296→(x=v.length→y < 65536)→y=q * v.getD x 0+c →
    ∃ (w':List Int) (TM:Int),w'.length=w.length∧U w'∧(TM=0∨TM = -1)∧(∀ j,v.length+1≤j→w'.getD j 0=0)∧bI w'=W - q * bI v - pw (v.length+1) * TM ∧
    n5 N p.length (v.length+1) v q (p ++ w) br (x:Int) (gj N p.length (v.length+1) v q g) y=cond (decide (TM < 0)) (jf N p.length (v.length+1) v q N (p ++ w') 0 0) (ld N (p ++ w') q):=by
   intro y Sa hy1 Hb hy
   unfold n5
   rw [if_pos (pS mE),if_pos (by omega)]
   simp only [ao]
   rw [rk,KZ Sa (by omega),aV (n:=w.getD x 0) (by omega) (by omega),aV (n:=y % 65536) (by omega) (by omega),aV (n:=w.getD x 0 - y % 65536) (by omega) (by omega),
    aV (n:=w.getD x 0 - y % 65536+br) (by omega) (by omega),si,GA,OW,aN (by omega),JJ]
   generalize hd:w.getD x 0 - y % 65536+br=d
   have WN:-65536≤d∧d < 65536:=by omega
   have:=Lb (N:=N) (p:=p) hv EH FC hS W k (x+1) g (w.set x (d % 65536)) (y / 65536) (d / 65536) (by omega) (by omega) (by simp;omega) (hU.set _ (by omega) (by omega)) (by omega) (by omega) (fun h=>by have:=Hb (by omega);omega) (by omega) (fun j hj=>?_) ?_
   ·rwa [List.length_set] at this
   ·rw [getD_set_ne _ _ (by omega)];exact hz j hj
   ·rw [nr _ _ _ (by omega),hinv,gW]
    have hV:bI (v.take (x+1))=bI (v.take x)+v.getD x 0 * pw x:=by
     by_cases h:x < v.length
     ·exact cM v x h
     ·rw [jy (by omega),jy (by omega),uE (by omega)];simp
    rw [hV]
    have h5:d=d % 65536+65536 * (d / 65536):=by omega
    have h6:y=y % 65536+65536 * (y / 65536):=by omega
    have h7:d * pw x=(d % 65536) * pw x+65536 * (d / 65536) * pw x:=by rw [← eM,← h5]
    have h8:y * pw x=(y % 65536) * pw x+65536 * (y / 65536) * pw x:=by rw [← eM,← h6]
    have h9:d * pw x=w.getD x 0 * pw x - (y % 65536) * pw x+br * pw x:=by rw [← hd,eM,Int.sub_mul]
    have Y2:y * pw x=q * (v.getD x 0 * pw x)+c * pw x:=by rw [hy,eM,kZ]
    grind
  rw [gj,aN (by omega),dec_lt mE,cond_true]
  by_cases hxv:x < v.length
  ·have h2:=hv.getD x
   have h3:0≤q * v.getD x 0∧q * v.getD x 0≤4294836225:=GG EH FC h2.1 h2.2
   rw [dec_lt hxv,cond_true,if_pos (pS hxv),ao]
   refine step _ ?_ ?_ (fun h=>by omega) ?_<;>rw [iv (n:=v.getD x 0) (by omega) (by omega),iv (n:=q * v.getD x 0) (by omega) (by omega),iv (by omega) (by omega)]<;>omega
  ·have e:decide ((x:Int) < ((v.length:Nat):Int))=false:=by simp;omega
   rw [e,cond_false]
   refine step c yk (by omega) (fun _=>uc) ?_
   rw [uE (show v.length≤x by omega)];simp
theorem Lc {N:Nat} {p v:List Int} {q:Int} (hv:U v) (EH:0 < q) (FC:q < 65536) (hS:SM v.length) (W:Int) (hV0:0≤W - (q - 1) * bI v) (hV1:W - (q - 1) * bI v < pw v.length) :
  ∀ (k x fuel:Nat) (w:List Int) (c:Int),x+k=v.length→k < fuel→v.length+1≤w.length→U w→0≤c→c≤1→(∀ j,v.length+1≤j→w.getD j 0=0) →
   bI w=W - q * bI v+pw (v.length+1)+bI (v.take x) - pw x * c→∃ w',jf N p.length (v.length+1) v q fuel (p ++ w) c (x:Int)=some (q - 1,p ++ w')∧w'.length=w.length∧U w'∧bI w'=W - (q - 1) * bI v
 | 0,x,fuel,w,c,hx,hf,hw,hU,yk,uc,hz,hinv=>by
  obtain ⟨g,rfl⟩:∃ g,fuel=g+1:=⟨fuel - 1,by omega⟩
  have HE:x=v.length:=by omega
  subst HE
  simp only [SM] at hS
  have h1:=hU.getD v.length
  have hlen:(p ++ w).length=p.length+w.length:=kH
  rw [List.take_length] at hinv
  rw [jf,ep,cond_false,if_pos (by omega),if_pos (by omega),rk,JJ,oe yk (by omega),si]
  unfold ld
  rw [iv (by omega) (by omega),oe (by omega) (by omega)]
  generalize hd:w.getD v.length 0+c=d
  have Y1:U (w.set v.length (d % 65536)):=hU.set _ (by omega) (by omega)
  refine ⟨_,rfl,by simp,Y1,?_⟩
  have h2:=nr w v.length (d % 65536) (by omega)
  have h3:d % 65536=d - 65536 * (d / 65536):=by omega
  have h4:bI (w.set v.length (d % 65536))=W - (q - 1) * bI v+(1 - d / 65536) * pw (v.length+1):=by
   rw [h2,hinv,gW,h3,← hd];grind
  have h5:d / 65536=0∨d / 65536=1:=by omega
  rcases h5 with h5 | h5
  ·have h6:=La Y1 (v.length+1) (fun j hj=>by rw [getD_set_ne _ _ (by omega)];exact hz j hj)
   rw [h4,h5] at h6;omega
  ·rw [h4,h5];simp
 | k+1,x,fuel,w,c,hx,hf,hw,hU,yk,uc,hz,hinv=>by
  obtain ⟨g,rfl⟩:∃ g,fuel=g+1:=⟨fuel - 1,by omega⟩
  simp only [SM] at hS
  have mE:x < v.length:=by omega
  have h1:=hU.getD x
  have h2:=hv.getD x
  have hlen:(p ++ w).length=p.length+w.length:=kH
  rw [jf,dec_lt mE,cond_true,if_pos (pS (by omega)),if_pos (by omega),if_pos (pS mE)]
  simp only [ao]
  rw [rk,cJ (n:=w.getD x 0) (by omega) (by omega),cJ (n:=v.getD x 0) (by omega) (by omega),cJ (n:=w.getD x 0+v.getD x 0) (by omega) (by omega),cJ (n:=c+(w.getD x 0+v.getD x 0)) (by omega) (by omega),
   si,Cd,aN (by omega),JJ]
  generalize hd:c+(w.getD x 0+v.getD x 0)=d
  obtain ⟨w',q1,q2,q3,q4⟩:=Lc (N:=N) (p:=p) hv EH FC hS W hV0 hV1 k (x+1) g (w.set x (d % 65536)) (d / 65536) (by omega) (by omega) (by simp;omega) (hU.set _ (by omega) (by omega)) (by omega) (by omega)
   (fun j hj=>by rw [getD_set_ne _ _ (by omega)];exact hz j hj) (by
    rw [nr _ _ _ (by omega),hinv,cM v x mE,gW x]
    have h5:d=d % 65536+65536 * (d / 65536):=by omega
    have h7:d * pw x=(d % 65536) * pw x+65536 * (d / 65536) * pw x:=by rw [← eM,← h5]
    have h9:d * pw x=c * pw x+(w.getD x 0 * pw x+v.getD x 0 * pw x):=by rw [← hd,eM,eM]
    grind)
  exact ⟨w',q1,by simpa using q2,q3,q4⟩
end Go.Den
namespace Go.Den
open Go.Ab
structure Pq (v1 v2 w0 w1 w2 A V W:Int):Prop where
 A0:0 < A
 Y4:32768≤v1
 v1b:v1 < 65536
 v2a:0≤v2
 v2b:v2 < 65536
 w0a:0≤w0
 w0b:w0 < 65536
 w1a:0≤w1
 w1b:w1 < 65536
 w2a:0≤w2
 w2b:w2 < 65536
 V0:(v1 * 65536+v2) * A≤V
 V1:V < (v1 * 65536+v2+1) * A
 W0:((w0 * 65536+w1) * 65536+w2) * A≤W
 W1:W < ((w0 * 65536+w1) * 65536+w2+1) * A
 WV:W < 65536 * V
section
variable {v1 v2 w0 w1 w2 A V W:Int}
theorem Pq.Rc (t:Pq v1 v2 w0 w1 w2 A V W):65536 * A≤V:=by
 have:=t.V0;have:=t.A0;have:=t.Y4;have:=t.v2a
 have h:=kG (show (65536:Int)≤v1 * 65536+v2 by omega) (Int.le_of_lt t.A0)
 omega
theorem xp {x y A:Int} (hA:0 < A) (h:x * A < y * A):x < y:=Int.lt_of_mul_lt_mul_right h (Int.le_of_lt hA)
theorem Pq.aa4 (t:Pq v1 v2 w0 w1 w2 A V W):w0≤v1:=by
 have h1:((w0 * 65536+w1) * 65536+w2) * A < (65536 * (v1 * 65536+v2+1)) * A:=by
  rw [kZ 65536]
  have:=t.W0;have:=t.WV;have:=t.V1
  omega
 have h2:=xp t.A0 h1
 have:=t.w1a;have:=t.w2a;have:=t.v2b
 omega
theorem Pq.X0 (t:Pq v1 v2 w0 w1 w2 A V W) {q r Q:Int} (hq:q * v1+r=w0 * 65536+w1) (h:q * v2 > r * 65536+w2) (EH:0≤q) (hQ:Q * V≤W):Q < q:=by
 rcases Int.lt_or_le Q q with h' | h'
 ·exact h'
 ·exfalso
  have hV:=t.Rc
  have hA:=t.A0
  have h1:q * V≤W:=Int.le_trans (kG h' (by omega)) hQ
  have h2:q * ((v1 * 65536+v2) * A)≤q * V:=sH t.V0 EH
  have h3:(q * (v1 * 65536+v2)) * A < ((w0 * 65536+w1) * 65536+w2+1) * A:=by
   rw [kZ];have:=t.W1;omega
  have h4:=xp hA h3
  rw [← hq] at h4
  have h5:q * (v1 * 65536+v2)=q * v1 * 65536+q * v2:=by rw [iI,← kZ]
  rw [h5] at h4
  have h6:(q * v1+r) * 65536=q * v1 * 65536+r * 65536:=eM _ _ _
  omega
theorem Pq.X1 (t:Pq v1 v2 w0 w1 w2 A V W) {q r:Int} (hq:q * v1+r=w0 * 65536+w1) (EH:0≤q) (hr:0≤r) (h:65536≤r∨(q≤65535∧q * v2≤r * 65536+w2)):q≤65535∧q * V < W+V:=by
 have hA:=t.A0
 have FC:q≤65535:=by
  rcases h with h | h
  ·rcases Int.lt_or_le 65535 q with h' | h'
   ·exfalso
    have h1:=kG (show 65536≤q by omega) (show 0≤v1 by have:=t.Y4;omega)
    have:=t.aa4;have:=t.w1b
    omega
   ·exact h'
  ·exact h.1
 refine ⟨FC,?_⟩
 have h2:q * v2≤r * 65536+w2:=by
  rcases h with h | h
  ·have h1:q * v2≤65535 * 65535:=Int.mul_le_mul FC (by have:=t.v2b;omega) t.v2a (by omega)
   have:=t.w2a
   omega
  ·exact h.2
 -- q V < (q (v1 B + v2) + q) A
 have h3:q * V≤q * ((v1 * 65536+v2+1) * A):=sH (Int.le_of_lt t.V1) EH
 have h4:q * ((v1 * 65536+v2+1) * A)=(q * v1 * 65536+q * v2+q) * A:=by
  rw [← kZ];congr 1
  rw [iI,iI,Int.mul_one,← kZ]
 have h5:(q * v1 * 65536+q * v2+q) * A≤(((w0 * 65536+w1) * 65536+w2)+65535) * A:=by
  refine kG ?_ (Int.le_of_lt hA)
  rw [← hq]
  have:(q * v1+r) * 65536=q * v1 * 65536+r * 65536:=eM _ _ _
  omega
 have h6:(((w0 * 65536+w1) * 65536+w2)+65535) * A=((w0 * 65536+w1) * 65536+w2) * A+65535 * A:=eM _ _ _
 have:=t.W0
 have:=t.Rc
 omega
theorem Pq.first (t:Pq v1 v2 w0 w1 w2 A V W) {Q:Int} (UR:0≤Q) (hQ:Q * V≤W):Q≤(w0 * 65536+w1) / v1:=by
 rw [Int.le_ediv_iff_mul_le (by have:=t.Y4;omega)]
 have h1:Q * ((v1 * 65536+v2) * A)≤Q * V:=sH t.V0 UR
 have h2:(Q * (v1 * 65536+v2)) * A < ((w0 * 65536+w1) * 65536+w2+1) * A:=by rw [kZ];have:=t.W1;omega
 have h3:=xp t.A0 h2
 have h4:Q * (v1 * 65536+v2)=Q * v1 * 65536+Q * v2:=by rw [iI,← kZ]
 have h5:0≤Q * v2:=Int.mul_nonneg UR t.v2a
 have:=t.w2b
 omega
end
theorem Rd {N:Nat} {p v w:List Int} (hv:U v) (hw:U w) (hn:2≤v.length) (X2:v.length+1≤w.length) (hS:SM (p.length+w.length)) {A V W:Int}
  (t:Pq (v.getD (v.length - 1) 0) (v.getD (v.length - 2) 0) (w.getD v.length 0) (w.getD (v.length - 1) 0) (w.getD (v.length - 2) 0) A V W) {Q:Int} (UR:0≤Q) (Y5:Q * V≤W) (hQ2:W < Q * V+V) :
  ∀ (k fuel:Nat) (q r:Int),k < fuel→65536≤r+32768 * (k:Int)→0≤r→r < 131072→0≤q→q < 4294967296→Q≤q→q * v.getD (v.length - 1) 0+r=w.getD v.length 0 * 65536+w.getD (v.length - 1) 0 →
   ∃ q',Q≤q'∧q'≤Q+1∧q'≤65535∧lf N p.length (v.length+1) v (p ++ w) fuel q r=gj N p.length (v.length+1) v q' N (p ++ w) 0 0 0:=by
 intro k
 simp only [SM] at hS
 have hlen:(p ++ w).length=p.length+w.length:=kH
 have e2:ai (((v.length:Nat):Int) - 2)=((v.length - 2:Nat):Int):=by rw [aV (by omega) (by omega)];omega
 have e1:ai (((v.length:Nat):Int) - 1)=((v.length - 1:Nat):Int):=by rw [aV (by omega) (by omega)];omega
 have WN:=hv.getD (v.length - 1)
 have TN:=hv.getD (v.length - 2)
 have Ke:=hw.getD (v.length - 2)
 induction k with
 | zero =>
  intro fuel q r hf hk JI Q7 EH FC hQq hinv
  obtain ⟨g,rfl⟩:∃ g,fuel=g+1:=⟨fuel - 1,by omega⟩
  have hr:65536≤r:=by simpa using hk
  obtain ⟨n1,n2⟩:=t.X1 hinv EH JI (.inl hr)
  have ee:q≤Q+1:=by
   rcases Int.lt_or_le (Q+1) q with h | h
   ·exfalso
    have:=kG (show Q+2≤q by omega) (show 0≤V by have:=t.Rc;have:=t.A0;omega)
    rw [eM] at this;omega
   ·exact h
  have ed:decide (r < 65536)=false:=by simp;omega
  refine ⟨q,hQq,ee,n1,?_⟩
  rw [lf]
  simp only [ed,Bool.false_and,cond_false]
  rw [if_pos (fun h=>by cases h),if_pos (fun h=>by cases h),if_pos (fun h=>by cases h)]
 | succ k ih =>
  intro fuel q r hf hk JI Q7 EH FC hQq hinv
  obtain ⟨g,rfl⟩:∃ g,fuel=g+1:=⟨fuel - 1,by omega⟩
  rw [lf,e1,e2,if_pos (fun _=>⟨by omega,by omega⟩),if_pos (fun _=>⟨by omega,by omega⟩),if_pos (fun _=>by omega)]
  rw [ao,ao,rk,if_pos ⟨by omega,by omega⟩,iv (n:=v.getD (v.length - 2) 0) (by omega) (by omega),iv (n:=w.getD (v.length - 2) 0) (by omega) (by omega),iv (n:=v.getD (v.length - 1) 0) (by omega) (by omega)]
  have x8:0≤q * v.getD (v.length - 2) 0:=Int.mul_nonneg EH TN.1
  have xN:q * v.getD (v.length - 2) 0≤4294967295 * 65535:=Int.mul_le_mul (by omega) (by omega) TN.1 (by omega)
  rw [iv x8 (by omega),GC JI (by omega),JH JI (by omega) Ke.1 Ke.2]
  have hV:=t.Rc
  have hA:=t.A0
  by_cases hex:65536≤r∨(q≤65535∧q * v.getD (v.length - 2) 0≤r * 65536+w.getD (v.length - 2) 0)
  ·obtain ⟨n1,n2⟩:=t.X1 hinv EH JI hex
   have ee:q≤Q+1:=by
    rcases Int.lt_or_le (Q+1) q with h | h
    ·exfalso
     have:=kG (show Q+2≤q by omega) (show 0≤V by omega)
     rw [eM] at this;omega
    ·exact h
   have hc:cond (decide (r < 65536)) (cond (decide (q > 65535)) true (decide (q * v.getD (v.length - 2) 0 > r * 65536+w.getD (v.length - 2) 0))) false=false:=by
    rcases hex with h | ⟨h1,h2⟩
    ·rw [decide_eq_false (show ¬ r < 65536 by omega)];rfl
    ·rw [decide_eq_false (show ¬ q > 65535 by omega),cond_false,decide_eq_false (show ¬ q * v.getD (v.length - 2) 0 > r * 65536+w.getD (v.length - 2) 0 by omega)]
     cases decide (r < 65536)<;>rfl
   exact ⟨q,hQq,ee,n1,by rw [hc,cond_false]⟩
  ·have eX:r < 65536:=by omega
   have Y6:Q < q:=by
    by_cases h65:65535 < q
    ·rcases Int.lt_or_le Q q with h | h
     ·exact h
     ·exfalso
      have:=kG (show 65536≤Q by omega) (show 0≤V by omega)
      have:=t.WV
      omega
    ·exact t.X0 hinv (by omega) EH Y5
   have hc:cond (decide (r < 65536)) (cond (decide (q > 65535)) true (decide (q * v.getD (v.length - 2) 0 > r * 65536+w.getD (v.length - 2) 0))) false=true:=by
    rw [decide_eq_true eX,cond_true]
    by_cases h65:65535 < q
    ·rw [decide_eq_true (show q > 65535 by omega)];rfl
    ·rw [decide_eq_false (show ¬ q > 65535 by omega),cond_false,decide_eq_true];omega
   have He:=t.Y4
   rw [hc,cond_true,iv (n:=q - 1) (by omega) (by omega),iv (by omega) (by omega)]
   refine ih g _ _ (by omega) (by omega) (by omega) (by omega) (by omega) (by omega) (by omega) ?_
   rw [Int.sub_mul];omega
theorem Re {N:Nat} {p v w:List Int} (hv:U v) (hw:U w) (hn:2≤v.length) (X2:v.length+1≤w.length) (hS:SM (p.length+w.length)) (hN:v.length+3 < N) (hb:32768≤v.getD (v.length - 1) 0) (hz:∀ j,v.length+1≤j→w.getD j 0=0)
  (gY:bI w < 65536 * bI v):∃ Q w',vL N p.length (v.length+1) v (p ++ w)=some (Q,p ++ w')∧w'.length=w.length∧U w'∧0≤Q∧Q < 65536∧bI w'=bI w - Q * bI v∧bI w' < bI v:=by
 have UY:=hS
 simp only [SM] at UY
 have hlen:(p ++ w).length=p.length+w.length:=kH
 have e1:ai (((v.length:Nat):Int) - 1)=((v.length - 1:Nat):Int):=by rw [aV (by omega) (by omega)];omega
 obtain ⟨n,P2⟩:∃ n,v.length=n+2:=⟨v.length - 2,by omega⟩
 have hA:=lK n
 -- the top digits
 have D1:bI v=bI (v.take n)+pw n * (v.getD n 0+65536 * v.getD (n+1) 0):=by
  rw [q9 v n (by omega),nW v n (by omega),nW v (n+1) (by omega),List.drop_eq_nil_of_le (by omega)];simp [bI]
 have Y7:bI w=bI (w.take n)+pw n * (w.getD n 0+65536 * (w.getD (n+1) 0+65536 * w.getD (n+2) 0)):=by
  have h3:bI (w.drop (n+3))=0:=by
   have:=tk (l:=w.drop (n+3)) 0 fun j _=>by
    have:=hz (n+3+j) (by omega)
    rw [fB] at this ⊢
    rw [oS];exact this
   simpa [bI] using this
  rw [q9 w n (by omega),nW w n (by omega),nW w (n+1) (by omega),nW w (n+2) (by omega),h3];simp
 have Xx:=(hv.take n).lt
 have adT:=(hv.take n).pz
 have hwt:=(hw.take n).lt
 have adV:=(hw.take n).pz
 rw [oQ,Nat.min_eq_left (by omega)] at Xx hwt
 have d1:=hv.getD (n+1)
 have d2:=hv.getD n
 have u0:=hw.getD (n+2)
 have u1:=hw.getD (n+1)
 have u2:=hw.getD n
 have ur:32768≤v.getD (n+1) 0:=by rw [P2] at hb;exact hb
 have t:Pq (v.getD (v.length - 1) 0) (v.getD (v.length - 2) 0) (w.getD v.length 0) (w.getD (v.length - 1) 0) (w.getD (v.length - 2) 0) (pw n) (bI v) (bI w):=by
  have x1:v.length - 1=n+1:=by omega
  have x2:v.length - 2=n:=by omega
  rw [x1,x2,P2]
  refine ⟨hA,ur,d1.2,d2.1,d2.2,u0.1,u0.2,u1.1,u1.2,u2.1,u2.2,?_,?_,?_,?_,gY⟩
  ·rw [D1];grind
  ·rw [D1];grind
  ·rw [Y7];grind
  ·rw [Y7];grind
 have hVp:0 < bI v:=by have:=t.Rc;omega
 obtain ⟨Q,Rf⟩:∃ Q,Q=bI w / bI v:=⟨_,rfl⟩
 have UR:0≤Q:=by rw [Rf];exact Int.ediv_nonneg hw.pz (by omega)
 have Y5:Q * bI v≤bI w:=by rw [Rf];exact Int.ediv_mul_le _ (by omega)
 have hQ2:bI w < Q * bI v+bI v:=by
  have:=Int.lt_ediv_add_one_mul_self (bI w) hVp
  rw [Rf];rw [eM] at this;omega
 have hQ3:Q < 65536:=by
  rcases Int.lt_or_le Q 65536 with h | h
  ·exact h
  ·exfalso;have:=kG h (Int.le_of_lt hVp);omega
 have adX:bI v < pw v.length:=hv.lt
 have hK:∀ q,Q≤q→q≤Q+1→q≤65535→∃ w',gj N p.length (v.length+1) v q N (p ++ w) 0 0 0=some (Q,p ++ w')∧w'.length=w.length∧U w'∧bI w'=bI w - Q * bI v:=by
  intro q EH FC ee
  obtain ⟨w',br,q1,q2,q3,q4,q5,q6⟩:=Lb (N:=N) (p:=p) hv (show 0≤q by omega) (show q < 65536 by omega) (by simp only [SM];omega) (bI w) (v.length+1) 0 N w 0 0 (by omega) (by omega) X2 hw (by omega) (by omega) (fun h=>rfl) (.inl rfl) hz
   (by rw [List.take_zero];simp [bI])
  have h1:=q2.pz
  have h2:=La q2 _ q4
  have hpv:pw (v.length+1)=65536 * pw v.length:=gW _
  rw [show ((0:Nat):Int)=0 from rfl] at q6
  rw [q6]
  rcases q3 with rfl | rfl
  ·have Y6:q=Q:=by
    rcases Int.lt_or_le Q q with h | h
    ·exfalso
     have:=kG (show Q+1≤q by omega) (Int.le_of_lt hVp)
     rw [eM] at this
     simp at q5
     omega
    ·omega
   subst Y6
   refine ⟨w',?_,q1,q2,by simpa using q5⟩
   rw [decide_eq_false (by decide),cond_false]
   unfold ld
   rw [oe UR (by omega)]
  ·have Y6:q=Q+1:=by
    rcases Int.lt_or_le Q q with h | h
    ·omega
    ·exfalso
     have:q=Q:=by omega
     subst this
     rw [Int.mul_neg,Int.mul_one] at q5
     omega
   subst Y6
   rw [decide_eq_true (by decide),cond_true]
   have hQV:(Q+1 - 1) * bI v=Q * bI v:=by rw [Int.add_sub_cancel]
   obtain ⟨w2,r1,r2,r3,r4⟩:=Lc (N:=N) (p:=p) hv (show 0 < Q+1 by omega) (show Q+1 < 65536 by omega) (by simp only [SM];omega) (bI w) (by rw [hQV];omega) (by rw [hQV];omega) v.length 0 N w' 0 (by omega) (by omega) (by omega) q2 (by omega) (by omega) q4
    (by rw [q5,List.take_zero];simp [bI])
   rw [hQV] at r4
   refine ⟨w2,?_,by omega,r3,r4⟩
   rw [show ((0:Nat):Int)=0 from rfl] at r1
   rw [r1,Int.add_sub_cancel]
 unfold vL
 rw [e1,if_pos ⟨by omega,by omega⟩,if_pos (by omega),if_pos ⟨by omega,by omega⟩,if_pos ⟨by omega,by omega⟩,ao]
 have b1:32768≤v.getD (v.length - 1) 0:=hb
 have b2:=hv.getD (v.length - 1)
 have c1:=hw.getD v.length
 have c2:=hw.getD (v.length - 1)
 rw [iv (n:=v.getD (v.length - 1) 0) (by omega) (by omega),if_pos (by omega),rk,rk,iv (n:=w.getD v.length 0) (by omega) (by omega),iv (n:=w.getD (v.length - 1) 0) (by omega) (by omega),GC (by omega) (by omega),JH (by omega) (by omega) (by omega) (by omega)]
 have Y8:0≤w.getD v.length 0 * 65536+w.getD (v.length - 1) 0:=by omega
 have hT1:w.getD v.length 0 * 65536+w.getD (v.length - 1) 0 < 4294967296:=by omega
 rw [Int.tdiv_eq_ediv_of_nonneg Y8,Int.tmod_eq_emod_of_nonneg Y8]
 have uu:=Int.emod_nonneg (w.getD v.length 0 * 65536+w.getD (v.length - 1) 0) (show v.getD (v.length - 1) 0≠0 by omega)
 have LW:=Int.emod_lt_of_pos (w.getD v.length 0 * 65536+w.getD (v.length - 1) 0) (show 0 < v.getD (v.length - 1) 0 by omega)
 have Pp:=Int.ediv_nonneg Y8 (show 0≤v.getD (v.length - 1) 0 by omega)
 have hda:=Int.mul_ediv_add_emod (w.getD v.length 0 * 65536+w.getD (v.length - 1) 0) (v.getD (v.length - 1) 0)
 have hdl:(w.getD v.length 0 * 65536+w.getD (v.length - 1) 0) / v.getD (v.length - 1) 0≤w.getD v.length 0 * 65536+w.getD (v.length - 1) 0:=Int.ediv_le_self _ Y8
 rw [iv Pp (by omega)]
 obtain ⟨q,h1,h2,h3,h4⟩:=Rd (N:=N) (p:=p) hv hw hn X2 hS t UR Y5 hQ2 2 N ((w.getD v.length 0 * 65536+w.getD (v.length - 1) 0) / v.getD (v.length - 1) 0) ((w.getD v.length 0 * 65536+w.getD (v.length - 1) 0) % v.getD (v.length - 1) 0)
  (by omega) (by omega) uu (by omega) Pp (by omega) (t.first UR Y5) (by rw [gU];exact hda)
 rw [h4]
 obtain ⟨w',k1,k2,k3,k4⟩:=hK q h1 h2 h3
 exact ⟨Q,w',k1,k2,k3,UR,hQ3,k4,by omega⟩
end Go.Den
namespace Go.Den
open Go.Ab
theorem Rg {a b:Int} (ha:0≤a) (Se:a < 65536) (hb:0≤b) (pB:b < 65536):tw .u32 b (a * 65536)=a * 65536+b:=by
 have h:=NI ha Se hb pB
 unfold tw at h ⊢
 rw [BitVec.or_comm];exact h
theorem V5 {n:Int} {s:Nat} (hs:s≤15):oB .u32 n (s:Int)=n / 2 ^ s:=by
 unfold oB
 have:min ((s:Nat):Int).toNat IntKind.u32.bits=s:=by show min s 32=s;omega
 rw [this,Int.fdiv_eq_ediv_of_nonneg _ (Int.le_of_lt (Int.pow_pos (by decide)))]
theorem Iz {N:Nat} {b q u:List Int} {s:Nat} (hs:s≤15) (hU:U u) (hb:b.length+1≤u.length) (hS:SM u.length) (hz:u.getD b.length 0=0) (h0:u.getD 0 0 % 2 ^ s=0) (hq:U q) (hqN:q.length < N) (hqS:SM q.length) (hN:b.length < N) :
  ∀ (k x fuel:Nat) (r:List Int),x+k=b.length→k < fuel→r.length=b.length→U r→(∀ j,x≤j→r.getD j 0=0)→2 ^ s * bI r=bI (u.take x)+u.getD x 0 % 2 ^ s * pw x →
   ∃ R:List Int,j5 N b (s:Int) q u fuel r (x:Int)=some (lm (bI q).toNat,lm (bI R).toNat)∧U R∧2 ^ s * bI R=bI (u.take b.length)
 | 0,x,fuel,r,hx,hf,hr,Y9,hzr,hinv=>by
  obtain ⟨g,rfl⟩:∃ g,fuel=g+1:=⟨fuel - 1,by omega⟩
  have HE:x=b.length:=by omega
  subst HE
  simp only [SM] at hS hqS
  have hp:(2:Int) ^ s≠0:=Int.ne_of_gt (Int.pow_pos (by decide))
  refine ⟨r,?_,Y9,?_⟩
  ·rw [j5,Nat.sub_zero,ep,cond_false,mD hq hqN (by omega),cF,mD Y9 (by omega) (by omega),cF]
  ·rw [hinv,hz];simp
 | k+1,x,fuel,r,hx,hf,hr,Y9,hzr,hinv=>by
  obtain ⟨g,rfl⟩:∃ g,fuel=g+1:=⟨fuel - 1,by omega⟩
  simp only [SM] at hS
  have mE:x < b.length:=by omega
  have h1:=hU.getD x
  have h2:=hU.getD (x+1)
  rw [j5,Nat.sub_zero,dec_lt mE,cond_true,if_pos (pS (by omega)),aN (by omega),if_pos (pS (by omega)),if_pos (by omega),if_pos (pS (by omega))]
  simp only [ao]
  rw [cJ (n:=u.getD x 0) (by omega) (by omega),cJ (n:=u.getD (x+1) 0) (by omega) (by omega),GB h2.1 h2.2,Rg h2.1 h2.2 h1.1 h1.2,V5 hs,si]
  generalize hae:u.getD x 0=a at *
  generalize Ib:u.getD (x+1) 0=a' at *
  -- 65536 = P c
  obtain ⟨P,hP⟩:∃ P:Int,P=2 ^ s:=⟨_,rfl⟩
  obtain ⟨c,hc⟩:∃ c:Int,c=2 ^ (16 - s):=⟨_,rfl⟩
  have US:(65536:Int)=P * c:=by rw [hP,hc,← Int.pow_add,show s+(16 - s)=16 by omega];decide
  have hP0:0 < P:=by rw [hP];exact Int.pow_pos (by decide)
  have yk:0 < c:=by rw [hc];exact Int.pow_pos (by decide)
  rw [← hP] at hinv ⊢
  have e1:(a' * 65536+a) / P=a' * c+a / P:=by
   rw [US,show a' * (P * c)+a=a+(a' * c) * P by rw [gU P c,← kZ];omega,Int.add_mul_ediv_right _ _ (by omega)];omega
  have e2:a'=P * (a' / P)+a' % P:=(Int.mul_ediv_add_emod a' P).symm
  have l0:=Int.emod_nonneg a' (show P≠0 by omega)
  have l1:=Int.emod_lt_of_pos a' hP0
  have m0:0≤a / P:=Int.ediv_nonneg h1.1 (by omega)
  have m1:a / P < c:=Int.ediv_lt_of_lt_mul hP0 (by rw [gU,← US];exact h1.2)
  have e3:(a' * 65536+a) / P % 65536=a' % P * c+a / P:=by
   rw [e1]
   have h3:a' * c=(a' / P) * 65536+a' % P * c:=by
    have:a' * c=(P * (a' / P)+a' % P) * c:=by rw [← e2]
    rw [this,eM,US];grind
   have h4:a' % P * c+a / P < 65536:=by
    have:=kG (show a' % P+1≤P by omega) (Int.le_of_lt yk)
    rw [eM,← US] at this;omega
   have h5:0≤a' % P * c:=Int.mul_nonneg l0 (Int.le_of_lt yk)
   rw [h3];omega
  rw [e3]
  have h4:a' % P * c+a / P < 65536:=by
   have:=kG (show a' % P+1≤P by omega) (Int.le_of_lt yk)
   rw [eM,← US] at this;omega
  have h5:0≤a' % P * c:=Int.mul_nonneg l0 (Int.le_of_lt yk)
  have:=Iz (N:=N) (s:=s) hs hU hb (by simp only [SM];omega) hz h0 hq hqN hqS hN k (x+1) g (r.set x (a' % P * c+a / P)) (by omega) (by omega) (by simp [hr]) (Y9.set _ (by omega) h4) (fun j hj=>by rw [getD_set_ne _ _ (by omega)];exact hzr j (by omega))
   (by
    rw [← hP,nr _ _ _ (by omega),hzr x (az _),cM u x (by omega),Int.sub_zero,Ib,gW,iI,hinv]
    have e4:a=P * (a / P)+a % P:=(Int.mul_ediv_add_emod a P).symm
    rw [hae]
    have e6:P * ((a' % P * c+a / P) * pw x)=a' % P * (P * c) * pw x+P * (a / P) * pw x:=by grind
    rw [e6,← US]
    grind)
  rw [← hP] at this
  exact this
theorem GL {l:List Int} (hU:U l) (n:Nat) (h:bI l < pw n):bI (l.take n)=bI l:=(tk n (GK hU n h)).symm
theorem IA {N:Nat} {b o2:List Int} {s:Nat} (hs:s≤15) {v:List Int} (hv:v=(o2.take b.length).drop 0) (V6:U v) (Nb:v.length=b.length) (hn:2≤b.length) (hb:32768≤v.getD (b.length - 1) 0) (dh:b.length≤o2.length)
  {Lu:Nat} (hLu:b.length+1≤Lu) (hS:SM Lu) (hN:Lu+3 < N) {A B:Int} (hA:0≤A) (hB:0 < B) (hV:bI v=B * 2 ^ s) :
  ∀ (k fuel:Nat) (q u:List Int),k≤Lu - b.length→k < fuel→u.length=Lu→U u→q.length=Lu - b.length→U q→(∀ j,j < k→q.getD j 0=0)→bI (u.drop k) < bI v→A * 2 ^ s=bI q * bI v+bI u →
   j6 N b (s:Int) o2 fuel q u ((k:Int) - 1)=some (lm (A / B).toNat,lm (A % B).toNat)
 | 0,fuel,q,u,hk,hf,hu,hU,hq,hqU,hqz,gY,hinv=>by
  obtain ⟨g,rfl⟩:∃ g,fuel=g+1:=⟨fuel - 1,by omega⟩
  simp only [SM] at hS
  have e:decide ((((0:Nat):Int) - 1)≥0)=false:=rfl
  rw [j6,e,cond_false,Nat.sub_zero,if_pos (by omega)]
  rw [List.drop_zero] at gY
  have hp:(0:Int) < 2 ^ s:=Int.pow_pos (by decide)
  have hvp:bI v < pw b.length:=by rw [← Nb];exact V6.lt
  have hz:=GK hU b.length (by omega)
  -- nvl u is a multiple of 2^s
  have hR:bI u=(A - bI q * B) * 2 ^ s:=by rw [Int.sub_mul,hinv,hV];grind
  have h0:u.getD 0 0 % 2 ^ s=0:=by
   have h1:=nW u 0 (by omega)
   rw [List.drop_zero] at h1
   obtain ⟨c,hc⟩:∃ c:Int,c=2 ^ (16 - s):=⟨_,rfl⟩
   have US:(65536:Int)=2 ^ s * c:=by rw [hc,← Int.pow_add,show s+(16 - s)=16 by omega];decide
   have h2:u.getD 0 0=(A - bI q * B - c * bI (u.drop (0+1))) * 2 ^ s:=by
    have:u.getD 0 0=bI u - 65536 * bI (u.drop (0+1)):=by omega
    rw [this,hR,US];grind
   rw [h2];exact Int.mul_emod_left _ _
  obtain ⟨R,r1,r2,r3⟩:=Iz (N:=N) (b:=b) (q:=q) hs hU (by omega) (by simp only [SM];omega) (hz _ (az _)) h0 hqU (by omega) (by simp only [SM];omega) (by omega) b.length 0 N (List.replicate b.length 0) (by omega) (by omega) (by simp) (U.replicate _) (fun j _=>iu _ j)
   (by rw [kj,h0];simp [bI])
  rw [show ((0:Nat):Int)=0 from rfl] at r1
  rw [r1]
  rw [← tk b.length hz,hR,gU] at r3
  have r4:bI R=A - bI q * B:=Int.eq_of_mul_eq_mul_right (Int.ne_of_gt hp) r3
  have r5:=r2.pz
  have r6:bI R < B:=by
   refine xp hp ?_
   rw [r4,← hR,← hV];exact gY
  have FC:A / B=bI q:=by
   rw [show A=bI R+bI q * B by omega,Int.add_mul_ediv_right _ _ (by omega),Int.ediv_eq_zero_of_lt r5 r6];omega
  have ee:A % B=bI R:=by
   rw [show A=bI R+bI q * B by omega,Int.add_mul_emod_self_right,Int.emod_eq_of_lt r5 r6]
  rw [FC,ee]
 | k+1,fuel,q,u,hk,hf,hu,hU,hq,hqU,hqz,gY,hinv=>by
  obtain ⟨g,rfl⟩:∃ g,fuel=g+1:=⟨fuel - 1,by omega⟩
  simp only [SM] at hS
  have e:(((k+1:Nat):Int) - 1)=(k:Int):=by omega
  have e0:decide ((k:Int)≥0)=true:=by simp
  have e1:ai ((ai ((k:Int)+((b.length:Nat):Int)))+1)=((k+b.length+1:Nat):Int):=by rw [aV (n:=(k:Int)+((b.length:Nat):Int)) (by omega) (by omega),aV (by omega) (by omega)];omega
  rw [e,j6,e0,cond_true,Nat.sub_zero,e1]
  simp only [ao]
  rw [if_pos ⟨by omega,by omega⟩,if_pos (by omega),if_pos (by omega),if_pos ⟨Nat.zero_le _,dh⟩,← hv]
  have hp:u.take k ++ u.drop k=u:=List.take_append_drop _ _
  have DY:(u.take k).length=k:=by rw [oQ];omega
  have X2:(u.drop k).length=Lu - k:=by rw [List.length_drop,hu]
  have hd:=nW u k (by omega)
  have Oq:=hU.getD k
  have hvp:bI v < pw b.length:=by rw [← Nb];exact V6.lt
  have hw1:bI (u.drop k) < 65536 * bI v:=by omega
  have Y7:bI (u.drop k) < pw (v.length+1):=by rw [gW,Nb];omega
  obtain ⟨Q,w',d1,d2,d3,d4,d5,d6,d7⟩:=Re (N:=N) (p:=u.take k) (v:=v) (w:=u.drop k) V6 (hU.drop k) (by omega) (by omega) (by simp only [SM];omega) (by omega) (by rw [Nb];exact hb) (GK (hU.drop k) _ Y7) hw1
  rw [DY,hp,Nb] at d1
  rw [show k+b.length+1 - k=b.length+1 by omega,d1,cF]
  have X3:(u.take k ++ w').length=u.length:=by rw [kH,DY,d2,X2,hu];omega
  simp only [X3]
  rw [if_pos trivial,if_pos (pS (by omega)),aV (by omega) (by omega)]
  have fx:∀ j,j < k→(q.set k Q).getD j 0=0:=fun j hj=>by rw [getD_set_ne _ _ (by omega)];exact hqz j (by omega)
  refine IA (A:=A) hs hv V6 Nb hn hb dh hLu (by simp only [SM];omega) hN hA hB hV k g _ _ (by omega) (by omega) (by rw [X3,hu]) ((hU.take k).append d3) (by simp [hq]) (hqU.set _ d4 d5) fx ?_ ?_
  ·have:(u.take k ++ w').drop k=w':=by rw [List.drop_append_of_le_length (by omega),List.drop_of_length_le (by omega)];rfl
   rw [this];exact d7
  ·have h1:=lL (u.take k) w'
   have h2:=q9 u k (by omega)
   rw [DY] at h1
   rw [h1,nr _ _ _ (by omega),hqz k (by omega),d6,hinv,h2];grind
theorem DT {A B q r:Nat} (h:A=q * B+r) (hr:r < B):A / B=q∧A % B=r:=by
 subst h
 have hB:0 < B:=by omega
 exact ⟨by rw [pX,Nat.mul_add_div hB,Nat.div_eq_of_lt hr];rfl,by rw [pX,Nat.mul_add_mod,Nat.mod_eq_of_lt hr]⟩
theorem Dw {N a b:Nat} (hb:b≠0) (hs:SM ((lm a).length+(lm b).length+2)) (hN:(lm a).length+(lm b).length+10 < N):pk N (lm a) (lm b)=some (lm (a / b),lm (a % b)):=by
 have HF:=hs
 simp only [SM] at HF
 unfold pk
 obtain ⟨c,hc,uc,J2,-⟩:=xn (N:=N) (a:=a) (b:=b) (by omega) (by simp only [SM];omega) (by simp only [SM];omega)
 rw [hc,cF]
 by_cases UQ:a < b
 ·rw [decide_eq_true (uc.2 UQ),cond_true]
  unfold dA
  rw [if_pos (by omega),cF,Nat.div_eq_of_lt UQ,Nat.mod_eq_of_lt UQ,iQ];rfl
 ·rw [decide_eq_false (fun h=>UQ (uc.1 h)),cond_false]
  have hbl:=nX.2 hb
  cases h1:(((lm b).length:Nat):Int) == 1 with
  | true =>
   have h1:(lm b).length=1:=by have h1:=eq_of_beq h1;omega
   have ss:b < 65536:=by have:=(jH (n:=b) (k:=1)).1 (by omega);simp [pw] at this;omega
   have e:(lm b).getD 0 0=(b:Int):=by
    rw [qn hb];show ((b % 65536:Nat):Int)=b;omega
   rw [cond_true,if_pos (by omega),e,Q8 (by omega) ss (by simp only [SM];omega) (by omega),cF]
   have hm:a % b < 65536:=pV (Nat.mod_lt _ (by omega)) (by omega)
   rw [mD (U.one (by omega) (by omega)) (by simp;omega) (by simp),cF,q8,Int.toNat_natCast]
  | false =>
   have h2:2≤(lm b).length:=by simp at h1;omega
   rw [cond_false]
   obtain ⟨lb,x,XY,Qy,hlU,hx1,Zr⟩:=TH hb
   have NQ:(lm b).length=lb.length+1:=by rw [XY];simp
   have e1:ai ((((lm b).length:Nat):Int) - 1)=((lb.length:Nat):Int):=by rw [aV (by omega) (by omega)];omega
   rw [e1,if_pos (by omega),ao]
   have ex:(lm b).getD lb.length 0=x:=by rw [XY];simp [List.getD]
   rw [ex]
   obtain ⟨X,rfl⟩:=Int.eq_ofNat_of_zero_le hx1
   obtain ⟨s,s1,s2,s3,s4⟩:=XZ (N:=N) (x:=X) (by omega) (by omega)
   rw [s2,cF]
   obtain ⟨o1,p1,p2,p3,p4,p5⟩:=GJ (N:=N) (a:=lm a) (rH a) s1 (by simp only [SM];omega) (by omega)
   obtain ⟨o2,q1,q2,q3,q4,q5⟩:=GJ (N:=N) (a:=lm b) (rH b) s1 (by simp only [SM];omega) (by omega)
   rw [p1,cF,q1,cF,if_pos ⟨Nat.zero_le _,by omega⟩,Nat.sub_zero]
   rw [iG] at p4 q4
   have Xn:(lm b).length≤(lm a).length:=iE (by omega)
   have e2:ai (((o1.length:Nat):Int) - (((lm b).length:Nat):Int))=((o1.length - (lm b).length:Nat):Int):=by rw [aV (by omega) (by omega)];omega
   rw [e2,if_pos (by omega)]
   -- the divisor, shifted
   have xN:(0:Int) < 2 ^ s:=Int.pow_pos (by decide)
   have hbv:(b:Int)=bI lb+pw lb.length * X:=by
    have:=iG b
    rw [XY,lL,q8] at this;omega
   have hs3:(32768:Int)≤X * 2 ^ s:=by
    have e:((X * 2 ^ s:Nat):Int)=(X:Int) * 2 ^ s:=by simp
    omega
   have hs4:(X:Int) * 2 ^ s+2 ^ s≤65536:=by
    have e:((X * 2 ^ s:Nat):Int)=(X:Int) * 2 ^ s:=by simp
    have hdv:(65536:Nat)=2 ^ (16 - s) * 2 ^ s:=by rw [← Nat.pow_add,show 16 - s+s=16 by omega]
    have h9:X < 2 ^ (16 - s):=by
     rw [hdv] at s4;exact Nat.lt_of_mul_lt_mul_right s4
    have Y2:=dS (2 ^ s) (show X+1≤2 ^ (16 - s) by omega)
    rw [← hdv,cD] at Y2
    have e3:((2 ^ s:Nat):Int)=(2:Int) ^ s:=by simp
    omega
   have ad7:=hlU.lt
   have abc:=hlU.pz
   have hV:(b:Int) * 2 ^ s=bI lb * 2 ^ s+pw lb.length * (X * 2 ^ s):=by rw [hbv,eM,kZ]
   have hV1:(b:Int) * 2 ^ s < pw (lm b).length:=by
    rw [NQ,gW,hV]
    have h5:=kG (show bI lb+1≤pw lb.length by omega) (Int.le_of_lt xN)
    have h6:=sH hs4 (Int.le_of_lt (lK lb.length))
    rw [iI] at h6
    rw [eM] at h5
    have:=lK lb.length
    omega
   have hV2:32768 * pw lb.length≤(b:Int) * 2 ^ s:=by
    rw [hV]
    have h6:=sH hs3 (Int.le_of_lt (lK lb.length))
    have h7:0≤bI lb * 2 ^ s:=Int.mul_nonneg abc (Int.le_of_lt xN)
    rw [gU 32768];omega
   have V6:U ((o2.take (lm b).length).drop 0):=by rw [List.drop_zero];exact q3.take _
   have Nb:((o2.take (lm b).length).drop 0).length=(lm b).length:=by simp;omega
   have hvv:bI ((o2.take (lm b).length).drop 0)=(b:Int) * 2 ^ s:=by rw [List.drop_zero,GL q3 _ (by rw [q4];exact hV1),q4]
   have V7:32768≤((o2.take (lm b).length).drop 0).getD ((lm b).length - 1) 0:=by
    have h5:=cM ((o2.take (lm b).length).drop 0) lb.length (by omega)
    have h6:=(V6.take lb.length).lt
    rw [jy (by omega),hvv] at h5
    rw [oQ,Nat.min_eq_left (by omega)] at h6
    rw [show (lm b).length - 1=lb.length by omega]
    rcases Int.lt_or_le (((o2.take (lm b).length).drop 0).getD lb.length 0) 32768 with h | h
    ·exfalso
     have:=kG (show ((o2.take (lm b).length).drop 0).getD lb.length 0≤32767 by omega) (Int.le_of_lt (lK lb.length))
     have:=lK lb.length
     omega
    ·exact h
   have e3:ai (((o1.length - (lm b).length:Nat):Int) - 1)=((o1.length - (lm b).length:Nat):Int) - 1:=aV (by omega) (by omega)
   rw [e3,ao]
   have X4:bI (o1.drop (o1.length - (lm b).length)) < bI ((o2.take (lm b).length).drop 0):=by
    -- the top n digits: the last one is below 2 ^ s
    have hl:(o1.drop (o1.length - (lm b).length)).length=(lm b).length:=by rw [List.length_drop];omega
    have hUd:=q3
    have hU1:=p3.drop (o1.length - (lm b).length)
    have h5:=cM (o1.drop (o1.length - (lm b).length)) lb.length (by omega)
    rw [jy (by omega)] at h5
    have h6:=(hU1.take lb.length).lt
    rw [oQ,Nat.min_eq_left (by omega)] at h6
    have h7:(o1.drop (o1.length - (lm b).length)).getD lb.length 0=o1.getD (lm a).length 0:=by
     rw [fB,oS,fB];congr 2;omega
    rw [h7] at h5
    rw [hvv]
    have h8:o1.getD (lm a).length 0+1≤32768:=by
     have:(2:Int) ^ s≤32768:=by
      have h:=Nat.pow_le_pow_right (n:=2) (by decide) s1
      have e:((2 ^ s:Nat):Int)=(2:Int) ^ s:=by simp
      omega
     omega
    have h9:=kG h8 (Int.le_of_lt (lK lb.length))
    rw [eM] at h9
    omega
   rw [IA (N:=N) (A:=(a:Int)) (B:=(b:Int)) s1 rfl V6 Nb h2 V7 (by omega) (Lu:=o1.length) (by omega) (by simp only [SM];omega) (by omega) (by omega) (by omega) hvv (o1.length - (lm b).length) N _ o1 (az _) (by omega) rfl p3 (by simp) (U.replicate _)
    (fun j _=>iu _ j) X4 (by rw [kj,p4];simp)]
   rfl
end Go.Den
namespace Go.Den
open Go.Ab
def Gv {α:Type} (f:Nat→Option α) (r:α):Prop:=∃ N0,∀ N,N0≤N→f N=some r
theorem Gv.pure {α:Type} (r:α):Gv (fun _=>some r) r:=⟨0,fun _ _=>rfl⟩
theorem Gv.bind {α β:Type} {f:Nat→Option α} {k:Nat→α→Option β} {r:α} {s:β} (h:Gv f r) (h2:Gv (fun N=>k N r) s):Gv (fun N=>(f N).bind (k N)) s:=by
 obtain ⟨N1,h1⟩:=h
 obtain ⟨N2,h2⟩:=h2
 exact ⟨N1+N2,fun N hN=>by show (f N).bind (k N)=some s;rw [h1 N (by omega)];exact h2 N (by omega)⟩
theorem Gv.congr {α:Type} {f g:Nat→Option α} {r:α} (h:Gv f r) (e:∀ N,g N=f N):Gv g r:=let ⟨N0,h0⟩:=h;⟨N0,fun N hN=>(e N).trans (h0 N hN)⟩
theorem Gv.of {α:Type} {f:Nat→Option α} {r:α} (N0:Nat) (h:∀ N,N0≤N→f N=some r):Gv f r:=⟨N0,h⟩
theorem Gv.aR {α:Type} {f g:Nat→Option α} {r:α} {q:Bool} (hq:q=true) (h:Gv f r):Gv (fun N=>cond q (f N) (g N)) r:=by subst hq;exact h
theorem Gv.bh {α:Type} {f g:Nat→Option α} {r:α} {q:Bool} (hq:q=false) (h:Gv g r):Gv (fun N=>cond q (f N) (g N)) r:=by subst hq;exact h
theorem Gv.if {α:Type} {f:Nat→Option α} {r:α} {p:Prop} [Decidable p] (hp:p) (h:Gv f r):Gv (fun N=>if p then f N else none) r:=h.congr fun _=>if_pos hp
theorem Gv.eq {α:Type} {f:Nat→Option α} {r s:α} (h:Gv f r) (e:r=s):Gv f s:=e ▸ h
theorem Gv.ex {α:Type} {f:Nat→Option α} {r:α} (h:Gv f r):∃ N,f N=some r:=let ⟨N,h⟩:=h;⟨N,h N (az _)⟩
def sg (neg:Bool) (n:Nat):Int:=cond neg (-(n:Int)) (n:Int)
def ya (z:Int):bP:=⟨decide (z < 0),lm z.natAbs⟩
def zv (a:bP):Int:=sg a.fG (bI a.fL).toNat
def ZB (z:Int) (n:Nat):Prop:=(lm z.natAbs).length≤n
structure IB (a:bP) (n:Nat):Prop where
 U:U a.fL
 len:a.fL.length≤n
theorem pP (neg:Bool) (n:Nat):(sg neg n).natAbs=n:=by cases neg<;>simp [sg]
theorem l6 (a:bP):(zv a).natAbs=(bI a.fL).toNat:=pP _ _
theorem Rh (neg:Bool) (n:Nat) (h:n≠0):ya (sg neg n)=⟨neg,lm n⟩:=by
 unfold ya
 rw [pP]
 cases neg
 ·rw [decide_eq_false (show ¬ sg false n < 0 by simp [sg])]
 ·rw [decide_eq_true (show sg true n < 0 by simp [sg];omega)]
theorem Ri:ya 0=⟨false,[]⟩:=by unfold ya;rw [show (0:Int).natAbs=0 from rfl,iQ];rfl
theorem NR (neg:Bool):ya (sg neg 0)=⟨false,[]⟩:=by cases neg<;>exact Ri
theorem nf (z:Int):zv (ya z)=z:=by
 unfold zv ya
 simp only [iG,Int.toNat_natCast]
 unfold sg
 by_cases h:z < 0
 ·rw [decide_eq_true h];simp only [cond_true];omega
 ·rw [decide_eq_false h];simp only [cond_false];omega
theorem ZB.le {z:Int} {m n:Nat} (h:ZB z m) (NS:m≤n):ZB z n:=eZ h NS
theorem Rj {z:Int} {n:Nat}:ZB z n↔(z.natAbs:Int) < pw n:=jH
theorem Ld {z:Int} {n:Nat}:ZB z n↔z.natAbs < 65536 ^ n:=by
 rw [Rj];unfold pw
 have:((65536 ^ n:Nat):Int)=65536 ^ n:=by simp
 omega
theorem ZB.neg {z:Int} {n:Nat} (h:ZB z n):ZB (-z) n:=by unfold ZB at *;rwa [Int.natAbs_neg]
theorem ZB.mul {x y:Int} {m n:Nat} (h1:ZB x m) (h2:ZB y n):ZB (x * y) (m+n):=by
 rw [Ld] at *
 rw [Int.natAbs_mul,Nat.pow_add]
 exact Nat.mul_lt_mul'' h1 h2
theorem ZB.add {x y:Int} {n:Nat} (h1:ZB x n) (h2:ZB y n):ZB (x+y) (n+1):=by
 rw [Ld] at *
 have:=Int.natAbs_add_le x y
 have h3:65536 ^ (n+1)=65536 * 65536 ^ n:=by rw [Nat.pow_succ];omega
 have:=Nat.pow_pos (n:=n) (show 0 < 65536 by decide)
 omega
theorem ZB.sub {x y:Int} {n:Nat} (h1:ZB x n) (h2:ZB y n):ZB (x - y) (n+1):=by rw [Int.sub_eq_add_neg];exact h1.add h2.neg
theorem ZB.of_le {x y:Int} {n:Nat} (h:ZB y n) (UJ:x.natAbs≤y.natAbs):ZB x n:=by rw [Ld] at *;omega
theorem ZB.small {x:Int} (h:x.natAbs < 65536):ZB x 1:=by rw [Ld];simpa using h
theorem ZB.word {x:Int} (h:-9223372036854775808≤x) (h2:x≤9223372036854775807):ZB x 4:=by rw [Ld];omega
theorem IB.zb {a:bP} {n:Nat} (h:IB a n):ZB (zv a) n:=by
 rw [Rj,l6]
 have h1:=h.U.lt
 have h2:=h.U.pz
 have h3:pw a.fL.length≤pw n:=by
  have e:pw n=pw a.fL.length * pw (n - a.fL.length):=by rw [← GD];congr 1;have:=h.len;omega
  have:=lK (n - a.fL.length)
  have:=sH (show 1≤pw (n - a.fL.length) by omega) (Int.le_of_lt (lK a.fL.length))
  omega
 omega
theorem ZB.ib {z:Int} {n:Nat} (h:ZB z n):IB (ya z) n:=⟨rH _,h⟩
theorem IB.le {a:bP} {m n:Nat} (h:IB a m) (NS:m≤n):IB a n:=⟨h.U,eZ h.len NS⟩
section
variable {a b:bP} {m n:Nat}
theorem xq (ha:IB a n) (hn:SM n):Gv (fun N=>ia N a.fL) (lm (zv a).natAbs) :=
 .of (n+1) fun N hN=>by
  simp only [SM] at hn
  have:=ha.len
  rw [mD ha.U (by omega) (by omega),l6]
theorem pQ (neg:Bool) {k:Nat} (hk:SM (lm k).length):Gv (fun N=>jK N neg (lm k)) (ya (sg neg k)) :=
 .of ((lm k).length+1) fun N hN=>by
  simp only [SM] at hk
  unfold jK
  rw [mD (rH k) (by omega) (by omega),iG,Int.toNat_natCast,cF]
  by_cases h:k=0
  ·subst h
   rw [iQ,NR];rfl
  ·have e:((((lm k).length:Nat):Int) == 0)=false:=by
    have:=nX.2 h
    simp;exact fun h'=>by rw [h'] at this;simp at this
   rw [e,cond_false]
   unfold dA
   rw [if_pos (by omega),cF,Rh _ _ h];rfl
theorem Lf (a:bP):Gv (fun N=>sN N a) ⟨!a.fG,a.fL⟩:=.pure _
theorem Lg (a:bP):zv ⟨!a.fG,a.fL⟩ = -zv a:=by unfold zv sg;cases a.fG<;>simp
theorem sign_eq (a b:Bool) (x y:Nat):sg (!(a == b)) (x * y)=sg a x * sg b y:=by
 cases a<;>cases b<;>simp [sg,Int.neg_mul,Int.mul_neg]
theorem y6 (ha:IB a m) (hb:IB b n) (hs:SM (m+n)):Gv (fun N=>qc N a b) (ya (zv a * zv b)):=by
 simp only [SM] at hs
 have Ib:=ha.zb
 have ur:=hb.zb
 unfold ZB at Ib ur
 refine (xq ha (by simp only [SM];omega)).bind ((xq hb (by simp only [SM];omega)).bind ?_)
 refine Gv.bind (r:=lm ((zv a).natAbs * (zv b).natAbs)) (.of (m+n+1) fun N hN=>Q6 (by simp only [SM];omega) (by omega)) ?_
 have hz:=ha.zb.mul hb.zb
 unfold ZB at hz
 rw [Int.natAbs_mul] at hz
 refine (pQ _ (by simp only [SM];omega)).bind ((Gv.pure _).eq ?_)
 rw [l6,l6,sign_eq];rfl
theorem Rk (ha:IB a n) (hb:IB b n) (hs:SM (n+1)):Gv (fun N=>BI N a b) (ya (zv a+zv b)):=by
 simp only [SM] at hs
 have Ib:=ha.zb
 have ur:=hb.zb
 have hz:=Ib.add ur
 unfold ZB at Ib ur
 refine (xq ha (by simp only [SM];omega)).bind ((xq hb (by simp only [SM];omega)).bind ?_)
 have hX:zv a=sg a.fG (zv a).natAbs:=by rw [l6];rfl
 have hY:zv b=sg b.fG (zv b).natAbs:=by rw [l6];rfl
 generalize (zv a).natAbs=x at *
 generalize (zv b).natAbs=y at *
 rw [hX,hY] at hz ⊢
 generalize a.fG=p at *
 generalize b.fG=q at *
 cases Ph:(p == q) with
 | true =>
  have Ph:p=q:=by simpa using Ph
  subst Ph
  have e:sg p x+sg p y=sg p (x+y):=by cases p<;>simp [sg]<;>omega
  rw [e] at hz ⊢
  unfold ZB at hz
  rw [pP] at hz
  refine Gv.aR rfl (Gv.bind (r:=lm (x+y)) (.of (n+2) fun N hN=>TJ (by simp only [SM];omega) (by simp only [SM];omega) (by omega) (by omega)) ?_)
  exact (pQ _ (by simp only [SM];omega)).bind (Gv.pure _)
 | false =>
  have Ph:q=!p:=by cases p<;>cases q<;>simp_all
  subst Ph
  refine Gv.bh rfl ?_
  refine Gv.bind (r:=HD x y) (.of (n+2) fun N hN=>K0 (by omega) (by simp only [SM];omega) (by simp only [SM];omega)) ?_
  have gY:=NL (a:=x) (b:=y) (by simp only [SM];omega) (by simp only [SM];omega)
  by_cases UJ:x < y
  ·refine Gv.bh (decide_eq_false (by have:=gY.2 UJ;omega)) (Gv.bind (r:=lm (y - x)) (.of (n+2) fun N hN=>K2 (by omega) (by simp only [SM];omega) (by omega)) ?_)
   have e:sg p x+sg (!p) y=sg (!p) (y - x):=by cases p<;>simp [sg]<;>omega
   rw [e] at hz ⊢
   unfold ZB at hz
   rw [pP] at hz
   exact (pQ _ (by simp only [SM];omega)).bind (Gv.pure _)
  ·refine Gv.aR (decide_eq_true (by have:=fun h=>UJ (gY.1 h);omega)) (Gv.bind (r:=lm (x - y)) (.of (n+2) fun N hN=>K2 (by omega) (by simp only [SM];omega) (by omega)) ?_)
   have e:sg p x+sg (!p) y=sg p (x - y):=by cases p<;>simp [sg]<;>omega
   rw [e] at hz ⊢
   unfold ZB at hz
   rw [pP] at hz
   exact (pQ _ (by simp only [SM];omega)).bind (Gv.pure _)
theorem IB.opp (ha:IB a n):IB ⟨!a.fG,a.fL⟩ n:=⟨ha.U,ha.len⟩
theorem E0 (ha:IB a n) (hn:SM n):Gv (fun N=>tz N a) (zv a).sign:=by
 refine (xq ha hn).bind ?_
 have hX:zv a=sg a.fG (zv a).natAbs:=by rw [l6];rfl
 generalize (zv a).natAbs=x at *
 rw [hX]
 generalize a.fG=p
 by_cases h:x=0
 ·subst h
  refine Gv.aR (by rw [iQ];rfl) ((Gv.pure _).eq ?_)
  cases p<;>rfl
 ·refine Gv.bh ?_ ?_
  ·have:=nX.2 h
   simp;exact fun h'=>by rw [h'] at this;simp at this
  ·cases p with
   | true=>exact Gv.aR rfl ((Gv.pure _).eq (by simp only [sg,cond_true];rw [Int.sign_eq_neg_one_of_neg];omega))
   | false=>exact Gv.bh rfl ((Gv.pure _).eq (by simp only [sg,cond_false];rw [Int.sign_eq_one_of_pos];omega))
theorem NT {z:Int} (h1:-9223372036854775808≤z) (h2:z≤9223372036854775807):Gv (fun N=>wX N z) (ya z):=by
 have hl:ZB z 4:=ZB.word h1 h2
 unfold ZB at hl
 unfold wX
 by_cases h:z < 0
 ·refine Gv.aR (decide_eq_true h) (Gv.bind (r:=lm z.natAbs) (.of 5 fun N hN=>?_) ?_)
  ·have e:IntKind.u64.wrap (0 - IntKind.u64.wrap z)=((z.natAbs:Nat):Int):=by rw [wrap64,wrap64];omega
   rw [e];exact Ba (by omega) (by omega)
  ·refine (pQ true (by simp only [SM];omega)).bind ((Gv.pure _).eq ?_)
   have:sg true z.natAbs=z:=by simp [sg];omega
   rw [this]
 ·refine Gv.bh (decide_eq_false h) (Gv.bind (r:=lm z.natAbs) (.of 5 fun N hN=>?_) ?_)
  ·have e:IntKind.u64.wrap z=((z.natAbs:Nat):Int):=by rw [wrap64];omega
   rw [e];exact Ba (by omega) (by omega)
  ·refine (pQ false (by simp only [SM];omega)).bind ((Gv.pure _).eq ?_)
   have:sg false z.natAbs=z:=by simp [sg];omega
   rw [this]
theorem X5 {z:Int} (h1:-9223372036854775808≤z) (h2:z≤9223372036854775807):Gv (fun N=>Ir N z) (ya z):=by
 unfold Ir
 by_cases h:z < 0
 ·refine Gv.aR (decide_eq_true h) (Gv.bind (r:=lm z.natAbs) (.of 5 fun N hN=>?_) ?_)
  ·have e:IntKind.u64.wrap ((IntKind.u64.wrap ((ai (0 - (ai (z+1))))))+1)=((z.natAbs:Nat):Int):=by rw [aV (n:=z+1) (by omega) (by omega),aV (by omega) (by omega),wrap64,wrap64];omega
   rw [e];exact K9 (by omega) (by omega)
  ·refine (Gv.pure _).eq ?_
   unfold ya;rw [decide_eq_true h]
 ·refine Gv.bh (decide_eq_false h) (Gv.bind (r:=lm z.natAbs) (.of 5 fun N hN=>?_) ?_)
  ·have e:IntKind.u64.wrap z=((z.natAbs:Nat):Int):=by rw [wrap64];omega
   rw [e];exact K9 (by omega) (by omega)
  ·refine (Gv.pure _).eq ?_
   unfold ya;rw [decide_eq_false h]
end
end Go.Den
namespace Go.Den
open Go.Ab
theorem OX {N:Nat} (K:List Int→List Int→Option (List Int)) (hN:4 < N):∀ (y x fuel:Nat),y < fuel→x < 18446744073709551616→y < 18446744073709551616→lC N K fuel (x:Int) (y:Int)=some (lm (Nat.gcd x y)):=by
 intro y
 induction y using Nat.strongRecOn with
 | _ y ih =>
  intro x fuel hf hx hy
  obtain ⟨g,rfl⟩:∃ g,fuel=g+1:=⟨fuel - 1,by omega⟩
  rw [lC]
  by_cases h:y=0
  ·subst h
   rw [decide_eq_false (by decide),cond_false,Ba hN hx,cF,Nat.gcd_zero_right]
  ·rw [decide_eq_true (by omega),cond_true,if_pos (by omega),Int.tmod_eq_emod_of_nonneg (by omega)]
   have e:((x:Int) % (y:Int))=((x % y:Nat):Int):=by simp
   have gY:=Nat.mod_lt x (Nat.pos_of_ne_zero h)
   rw [e,ih (x % y) gY y g (by omega) hy (by omega),Nat.gcd_comm x y,Nat.gcd_rec y x,Nat.gcd_comm]
theorem OY {N:Nat} {k:Nat} (hk:SM (2 * k+2)) (hN:2 * k+20 < N):∀ (y x fuel:Nat),y < fuel→y < N→(lm x).length≤k→(lm y).length≤k→j7 N fuel (lm x) (lm y)=some (lm (Nat.gcd x y)):=by
 intro y
 simp only [SM] at hk
 induction y using Nat.strongRecOn with
 | _ y ih =>
  intro x fuel hf hyN hx hy
  obtain ⟨g,rfl⟩:∃ g,fuel=g+1:=⟨fuel - 1,by omega⟩
  rw [j7]
  by_cases h:y=0
  ·subst h
   rw [iQ,Nat.gcd_zero_right];rfl
  ·have hl:=nX.2 h
   rw [decide_eq_true (by omega),cond_true,NP (by omega) (by simp only [SM];omega),cF,NP (by omega) (by simp only [SM];omega),cF]
   by_cases h4:(lm x).length≤4∧(lm y).length≤4
   ·rw [if_pos h4.1,if_pos h4.2]
    have b1:=jH.1 h4.1
    have b2:=jH.1 h4.2
    have e4:pw 4=18446744073709551616:=by decide
    exact OX _ (by omega) y x N hyN (by omega) (by omega)
   ·have e:cond (if (lm x).length≤4 then ((x:Int),true) else (0,false)).2 (if (lm y).length≤4 then ((y:Int),true) else (0,false)).2 false=false:=by
     by_cases h1:(lm x).length≤4
     ·have h2:¬ (lm y).length≤4:=fun h2=>h4 ⟨h1,h2⟩
      rw [if_pos h1,if_neg h2];rfl
     ·rw [if_neg h1];rfl
    rw [e,cond_false,Dw h (by simp only [SM];omega) (by omega),cF]
    have gY:=Nat.mod_lt x (Nat.pos_of_ne_zero h)
    rw [ih (x % y) gY y g (by omega) (by omega) hy (eZ (iE (by omega)) hy),Nat.gcd_comm x y,Nat.gcd_rec y x,Nat.gcd_comm]
theorem OZ {x y k:Nat} (hx:(lm x).length≤k) (hy:(lm y).length≤k) (hk:SM (2 * k+2)):Gv (fun N=>wY N (lm x) (lm y)) (lm (Nat.gcd x y)) :=
 .of (2 * k+21+y) fun N hN=>OY hk (by omega) y x N (by omega) (by omega) hx hy
def dv (x:aa):Int:=if zv x.fD=0 then 1 else zv x.fD
def qv (x:aa):Rat:=Rat.divInt (zv x.fN) (dv x)
def bA (q:Rat):aa:=⟨ya q.num,ya (q.den:Int)⟩
structure RB (q:Rat) (n:Nat):Prop where
 num:ZB q.num n
 den:ZB (q.den:Int) n
structure IR (x:aa) (n:Nat):Prop where
 num:IB x.fN n
 den:IB x.fD n
theorem uF (x:aa):dv x≠0:=by unfold dv;split<;>omega
theorem RB.le {q:Rat} {m n:Nat} (h:RB q m) (NS:m≤n):RB q n:=⟨h.num.le NS,h.den.le NS⟩
theorem IR.le {x:aa} {m n:Nat} (h:IR x m) (NS:m≤n):IR x n:=⟨h.num.le NS,h.den.le NS⟩
theorem RB.ir {q:Rat} {n:Nat} (h:RB q n):IR (bA q) n:=⟨h.num.ib,h.den.ib⟩
theorem V8 (q:Rat):dv (bA q)=q.den:=by
 unfold dv bA;simp only [nf];rw [if_neg];have:=q.den_nz;omega
theorem eJ (q:Rat):qv (bA q)=q:=by
 unfold qv;rw [V8];simp only [bA,nf];exact Rat.num_divInt_den q
theorem GM (a:Int) (b:Nat) (hb:b≠0):(a / (b:Int)).natAbs≤a.natAbs:=Int.natAbs_ediv_le_natAbs a b
theorem zO {a b:Int} {n:Nat} (ha:ZB a n) (hb:ZB b n) (h0:b≠0):RB (Rat.divInt a b) n:=by
 have hg:Int.gcd b a≠0:=fun h=>h0 (Int.gcd_eq_zero_iff.1 h).1
 constructor
 ·rw [Rat.num_divInt]
  refine ha.of_le (eZ (GM _ _ hg) ?_)
  rw [Int.natAbs_mul,Int.natAbs_sign_of_ne_zero h0];omega
 ·rw [Rat.den_divInt,if_neg h0]
  refine hb.of_le ?_
  rw [Int.natAbs_natCast]
  exact Nat.div_le_self _ _
theorem IR.rb {x:aa} {n:Nat} (h:IR x n) (hn:1≤n):RB (qv x) n:=by
 refine zO h.num.zb ?_ (uF x)
 unfold dv
 split
 ·exact (ZB.small (by decide)).le hn
 ·exact h.den.zb
theorem RB.int {z:Int} {n:Nat} (h:ZB z n) (hn:1≤n):RB (z:Rat) n:=⟨h,(ZB.small (x:=1) (by decide)).le hn⟩
theorem RB.neg {q:Rat} {n:Nat} (h:RB q n):RB (-q) n:=⟨by rw [Rat.neg_num];exact h.num.neg,by rw [Rat.neg_den];exact h.den⟩
theorem kW (q:Rat):q=Rat.divInt q.num q.den:=(Rat.num_divInt_den q).symm
theorem nh (q:Rat):(q.den:Int)≠0:=by have:=q.den_nz;omega
theorem RB.add {p q:Rat} {m n:Nat} (h1:RB p m) (h2:RB q n):RB (p+q) (m+n+1):=by
 rw [kW p,kW q,Rat.divInt_add_divInt _ _ (nh p) (nh q)]
 refine zO ((h1.num.mul h2.den).add ((h2.num.mul h1.den).le (by omega))) ((h1.den.mul h2.den).le (by omega)) ?_
 exact Int.mul_ne_zero (nh p) (nh q)
theorem RB.sub {p q:Rat} {m n:Nat} (h1:RB p m) (h2:RB q n):RB (p - q) (m+n+1):=by rw [Rat.sub_eq_add_neg];exact h1.add h2.neg
theorem RB.mul {p q:Rat} {m n:Nat} (h1:RB p m) (h2:RB q n):RB (p * q) (m+n):=by
 rw [kW p,kW q,Rat.divInt_mul_divInt]
 exact zO (h1.num.mul h2.num) (h1.den.mul h2.den) (Int.mul_ne_zero (nh p) (nh q))
theorem qo {a b c d:Int} (hb:b≠0) (hd:d≠0):Rat.divInt a b / Rat.divInt c d=Rat.divInt (a * d) (b * c):=by
 rw [Rat.div_def,Rat.inv_divInt,Rat.divInt_mul_divInt]
theorem Rl {q:Rat} (h:q≠0):q.num≠0:=fun h'=>h (Rat.num_eq_zero.1 h')
theorem RB.div {p q:Rat} {m n:Nat} (h1:RB p m) (h2:RB q n) (h0:q≠0):RB (p / q) (m+n):=by
 rw [kW p,kW q,qo (nh p) (nh q)]
 exact zO (h1.num.mul h2.den) (h1.den.mul h2.num) (Int.mul_ne_zero (nh p) (Rl h0))
section
variable {a b:bP} {x y:aa} {m n:Nat}
theorem nY (ha:IB a n) (hb:IB b n) (h0:zv b≠0) (hs:SM (2 * n+2)):Gv (fun N=>jg N a b) (bA (Rat.divInt (zv a) (zv b))):=by
 simp only [SM] at hs
 have Ib:=ha.zb
 have ur:=hb.zb
 unfold ZB at Ib ur
 refine (xq ha (by simp only [SM];omega)).bind ((xq hb (by simp only [SM];omega)).bind ?_)
 have hX:zv a=sg a.fG (zv a).natAbs:=by rw [l6];rfl
 have hY:zv b=sg b.fG (zv b).natAbs:=by rw [l6];rfl
 generalize hxx:(zv a).natAbs=x at *
 generalize X6:(zv b).natAbs=y at *
 have Sa:y≠0:=by omega
 have hg0:0 < Nat.gcd x y:=Nat.gcd_pos_of_pos_right _ (by omega)
 refine (OZ Ib ur (by simp only [SM];omega)).bind ?_
 have Us:=nX.2 (show Nat.gcd x y≠0 by omega)
 have hgn:(lm (Nat.gcd x y)).length≤n:=eZ (iE (Nat.gcd_le_right _ (by omega))) ur
 have fin:∀ u v:Nat,u=x / Nat.gcd x y→v=y / Nat.gcd x y→Gv (fun N=>mN N a b (lm u) (lm v)) (bA (Rat.divInt (zv a) (zv b))):=by
  intro u v hu hv
  have X3:(lm u).length≤n:=eZ (iE (by rw [hu];exact Nat.div_le_self _ _)) Ib
  have Nb:(lm v).length≤n:=eZ (iE (by rw [hv];exact Nat.div_le_self _ _)) ur
  refine (pQ _ (by simp only [SM];omega)).bind ((pQ false (by simp only [SM];omega)).bind ((Gv.pure _).eq ?_))
  have V9:Int.gcd (zv b) (zv a)=Nat.gcd x y:=by unfold Int.gcd;rw [hxx,X6,Nat.gcd_comm]
  unfold bA
  rw [Rat.num_divInt,Rat.den_divInt,if_neg h0,V9,X6]
  have hd:(Nat.gcd x y) ∣ x:=Nat.gcd_dvd_left _ _
  have e1:(zv b).sign * zv a / ((Nat.gcd x y:Nat):Int)=sg (!(a.fG == b.fG)) u:=by
   have TO:(x:Int)=(Nat.gcd x y:Nat) * (u:Int):=by
    have:x=Nat.gcd x y * u:=by rw [hu,Nat.mul_div_cancel' hd]
    exact_mod_cast this
   have e2:(zv b).sign * zv a=(Nat.gcd x y:Nat) * sg (!(a.fG == b.fG)) u:=by
    rw [hX,hY]
    cases a.fG<;>cases b.fG<;>simp only [sg,cond_true,cond_false,Bool.not_true,Bool.not_false,BEq.rfl,show (true == false)=false from rfl,show (false == true)=false from rfl]
    ·rw [Int.sign_eq_one_of_pos (by omega),Int.one_mul,← TO]
    ·rw [Int.sign_eq_neg_one_of_neg (by omega),Int.mul_neg,← TO];omega
    ·rw [Int.sign_eq_one_of_pos (by omega),Int.one_mul,Int.mul_neg,← TO]
    ·rw [Int.sign_eq_neg_one_of_neg (by omega),← TO];omega
   rw [e2,Int.mul_ediv_cancel_left _ (by omega)]
  rw [e1,← hv];rfl
 have e0:(lm (Nat.gcd x y)).getD 0 0=((Nat.gcd x y % 65536:Nat):Int):=by rw [qn (by omega)];rfl
 refine Gv.if (fun _=>⟨by omega,by omega⟩) ?_
 rw [e0]
 by_cases h1:Nat.gcd x y=1
 ·refine Gv.bh ?_ (fin x y (by rw [h1,Nat.div_one]) (by rw [h1,Nat.div_one]))
  rw [h1,qn (by decide)];simp [iQ]
 ·refine Gv.aR ?_ ?_
  ·by_cases h2:(lm (Nat.gcd x y)).length=1
   ·have:=jH.1 (show (lm (Nat.gcd x y)).length≤1 by omega)
    have e1:pw 1=65536:=by decide
    rw [h2]
    have h3:(((Nat.gcd x y % 65536:Nat):Int) != 1)=true:=by simp;omega
    rw [h3];rfl
   ·have h3:((((lm (Nat.gcd x y)).length:Nat):Int) != 1)=true:=by simp;omega
    rw [h3];rfl
  ·refine Gv.bind (r:=(lm (x / Nat.gcd x y),lm (x % Nat.gcd x y))) (.of (2 * n+20) fun N hN=>Dw (by omega) (by simp only [SM];omega) (by omega)) ?_
   refine Gv.bind (r:=(lm (y / Nat.gcd x y),lm (y % Nat.gcd x y))) (.of (2 * n+20) fun N hN=>Dw (by omega) (by simp only [SM];omega) (by omega)) ?_
   exact fin _ _ rfl rfl
def Cs (x:aa):bP:=if zv x.fD=0 then ⟨false,[1]⟩ else x.fD
theorem MN:zv ⟨false,[1]⟩=1:=by decide
theorem kF (x:aa):zv (Cs x)=dv x:=by unfold Cs dv;split<;>simp [MN]
theorem Rm {n:Nat} (hn:1≤n):IB ⟨false,[1]⟩ n:=⟨U.one (by decide) (by decide),hn⟩
theorem IR.Cs (h:IR x n) (hn:1≤n):IB (Cs x) n:=by
 unfold Go.Den.Cs;split
 ·exact Rm hn
 ·exact h.den
theorem qp (hx:IR x n) (hs:SM n):Gv (fun N=>kT N x) (Cs x):=by
 refine (E0 hx.den hs).bind ?_
 unfold Cs
 by_cases h:zv x.fD=0
 ·rw [if_pos h];exact Gv.aR (by rw [h];rfl) (Gv.pure _)
 ·rw [if_neg h]
  exact Gv.bh (by simp;exact h) (Gv.pure _)
theorem Dx (hx:IR x n) (hn:1≤n) (hs:SM (2 * n+2)):Gv (fun N=>lD N x) (bA (qv x)):=by
 have HF:=hs
 simp only [SM] at HF
 refine (qp hx (by simp only [SM];omega)).bind ?_
 refine (nY hx.num (hx.Cs hn) (by rw [kF];exact uF x) hs).bind ((Gv.pure _).eq ?_)
 rw [kF];rfl
theorem Dy (hx:IR x n) (hs:SM n):Gv (fun N=>ic N x) (decide (qv x=0)):=by
 refine (E0 hx.num hs).bind ((Gv.pure _).eq ?_)
 unfold qv
 by_cases h:zv x.fN=0
 ·rw [h,Rat.zero_divInt];rfl
 ·have:Rat.divInt (zv x.fN) (dv x)≠0:=by
   rw [← Rat.zero_divInt 1,ne_eq,Rat.divInt_eq_divInt_iff (uF x) (by decide)];simpa using h
  rw [decide_eq_false this]
  simp;exact h
theorem IC (hx:IR x m) (hy:IR y n) (hm:1≤m) (hn:1≤n) (hs:SM (2 * (m+n+1)+2)):Gv (fun N=>fc N x y) (bA (qv x+qv y)):=by
 simp only [SM] at hs
 refine (Dy hx (by simp only [SM];omega)).bind ?_
 by_cases h1:qv x=0
 ·refine Gv.aR (decide_eq_true h1) ((Dx hy hn (by simp only [SM];omega)).bind ((Gv.pure _).eq ?_))
  rw [h1,Rat.zero_add]
 ·refine Gv.bh (decide_eq_false h1) ((Dy hy (by simp only [SM];omega)).bind ?_)
  by_cases h2:qv y=0
  ·refine Gv.aR (decide_eq_true h2) ((Dx hx hm (by simp only [SM];omega)).bind ((Gv.pure _).eq ?_))
   rw [h2,Rat.add_zero]
  ·refine Gv.bh (decide_eq_false h2) ((qp hx (by simp only [SM];omega)).bind ((qp hy (by simp only [SM];omega)).bind ?_))
   refine (y6 hx.num (hy.Cs hn) (by simp only [SM];omega)).bind ((y6 hy.num (hx.Cs hm) (by simp only [SM];omega)).bind ?_)
   have z1:=hx.num.zb.mul (hy.Cs hn).zb
   have z2:=hy.num.zb.mul (hx.Cs hm).zb
   have z3:=(hx.Cs hm).zb.mul (hy.Cs hn).zb
   rw [kF] at z1 z2
   rw [kF,kF] at z3
   refine Gv.bind (r:=ya (zv x.fN * dv y+zv y.fN * dv x)) ?_ ?_
   ·have:=Rk (n:=m+n) (a:=ya (zv x.fN * zv (Cs y))) (b:=ya (zv y.fN * zv (Cs x))) (by rw [kF];exact z1.ib) (by rw [kF];exact (z2.le (by omega)).ib) (by simp only [SM];omega)
    rw [nf,nf,kF,kF] at this
    rw [kF,kF];exact this
   ·refine Gv.bind (r:=ya (dv x * dv y)) ?_ ?_
    ·have:=y6 (hx.Cs hm) (hy.Cs hn) (by simp only [SM];omega)
     rwa [kF,kF] at this
    ·have h0:dv x * dv y≠0:=Int.mul_ne_zero (uF x) (uF y)
     refine (nY (n:=m+n+1) (z1.add (z2.le (by omega))).ib (z3.le (by omega)).ib (by rw [nf];exact h0) (by simp only [SM];omega)).bind ((Gv.pure _).eq ?_)
     rw [nf,nf]
     unfold qv
     rw [Rat.divInt_add_divInt _ _ (uF x) (uF y)]
theorem pR (hx:IR x n) (hn:1≤n) (hs:SM (2 * n+2)):Gv (fun N=>gk N x) (bA (-qv x)):=by
 have HF:=hs
 simp only [SM] at HF
 refine (Lf x.fN).bind ((qp hx (by simp only [SM];omega)).bind ?_)
 refine (nY hx.num.opp (hx.Cs hn) (by rw [kF];exact uF x) hs).bind ((Gv.pure _).eq ?_)
 rw [Lg,kF];unfold qv;rw [Rat.neg_divInt]
theorem IE (hx:IR x m) (hy:IR y n) (hm:1≤m) (hn:1≤n) (hs:SM (2 * (m+n+1)+2)):Gv (fun N=>fe N x y) (bA (qv x - qv y)):=by
 have HF:=hs
 simp only [SM] at HF
 refine (pR hy hn (by simp only [SM];omega)).bind ?_
 refine (IC hx (hy.rb hn).neg.ir hm hn hs).bind ((Gv.pure _).eq ?_)
 rw [eJ,Rat.sub_eq_add_neg]
theorem O0 (hx:IR x m) (hy:IR y n) (hm:1≤m) (hn:1≤n) (hs:SM (2 * (m+n)+2)):Gv (fun N=>dQ N x y) (bA (qv x * qv y)):=by
 simp only [SM] at hs
 refine (y6 hx.num hy.num (by simp only [SM];omega)).bind ((qp hx (by simp only [SM];omega)).bind ((qp hy (by simp only [SM];omega)).bind ?_))
 refine (y6 (hx.Cs hm) (hy.Cs hn) (by simp only [SM];omega)).bind ?_
 have z1:=hx.num.zb.mul hy.num.zb
 have z3:=(hx.Cs hm).zb.mul (hy.Cs hn).zb
 have h0:dv x * dv y≠0:=Int.mul_ne_zero (uF x) (uF y)
 refine (nY (n:=m+n) z1.ib z3.ib (by rw [nf,kF,kF];exact h0) (by simp only [SM];omega)).bind ((Gv.pure _).eq ?_)
 rw [nf,nf,kF,kF]
 unfold qv
 rw [Rat.divInt_mul_divInt]
theorem TP (hx:IR x m) (hy:IR y n) (hm:1≤m) (hn:1≤n) (h0:qv y≠0) (hs:SM (2 * (m+n)+2)):Gv (fun N=>rl N x y) (bA (qv x / qv y)):=by
 simp only [SM] at hs
 refine (qp hy (by simp only [SM];omega)).bind ((y6 hx.num (hy.Cs hn) (by simp only [SM];omega)).bind ((qp hx (by simp only [SM];omega)).bind ((y6 (hx.Cs hm) hy.num (by simp only [SM];omega)).bind ?_)))
 have z1:=hx.num.zb.mul (hy.Cs hn).zb
 have z3:=(hx.Cs hm).zb.mul hy.num.zb
 have hyn:zv y.fN≠0:=fun h=>h0 (by unfold qv;rw [h,Rat.zero_divInt])
 have h0:dv x * zv y.fN≠0:=Int.mul_ne_zero (uF x) hyn
 refine (nY (n:=m+n) z1.ib z3.ib (by rw [nf,kF];exact h0) (by simp only [SM];omega)).bind ((Gv.pure _).eq ?_)
 rw [nf,nf,kF,kF]
 unfold qv
 rw [qo (uF x) (uF y)]
def o9 (q:Rat):Int:=q.num.sign
theorem Lh {a b:Int} (hb:b≠0):(Rat.divInt a b).num.sign=a.sign * b.sign:=by
 rw [Rat.num_divInt]
 have hg:Int.gcd b a≠0:=fun h=>hb (Int.gcd_eq_zero_iff.1 h).1
 obtain ⟨c,hc⟩:((Int.gcd b a:Nat):Int) ∣ a:=Int.gcd_dvd_right ..
 have e:b.sign * a / ((Int.gcd b a:Nat):Int)=b.sign * c:=by
  have e0:b.sign * a=((Int.gcd b a:Nat):Int) * (b.sign * c):=by rw [Int.mul_left_comm,← hc]
  rw [e0,Int.mul_ediv_cancel_left _ (by omega)]
 rw [e,Int.sign_mul,Int.sign_sign]
 have e2:a.sign=c.sign:=by
  have e0:=congrArg Int.sign hc
  rw [Int.sign_mul,Int.sign_eq_one_of_pos (show 0 < ((Int.gcd b a:Nat):Int) by omega),Int.one_mul] at e0
  exact e0
 rw [e2,gU]
theorem DU (z:Int):z.sign=0∨z.sign=1∨z.sign = -1:=by
 rcases Int.lt_trichotomy z 0 with h | h | h
 ·right;right;exact Int.sign_eq_neg_one_of_neg h
 ·left;rw [h];rfl
 ·right;left;exact Int.sign_eq_one_of_pos h
theorem IG (hx:IR x n) (hn:1≤n) (hs:SM n):Gv (fun N=>nG N x) (o9 (qv x)):=by
 refine (E0 hx.num hs).bind ((qp hx hs).bind ((E0 (hx.Cs hn) hs).bind ((Gv.pure _).eq ?_)))
 rw [kF]
 unfold o9 qv
 rw [Lh (uF x)]
 rcases DU (zv x.fN) with h | h | h<;>rcases DU (dv x) with h' | h' | h'<;>rw [h,h']<;>rfl
theorem O1 (hx:IR x m) (hy:IR y n) (hm:1≤m) (hn:1≤n) (hs:SM (2 * (m+n+1)+2)):Gv (fun N=>gz N x y) (o9 (qv x - qv y)):=by
 have HF:=hs
 simp only [SM] at HF
 refine (IE hx hy hm hn hs).bind ?_
 refine (IG ((hx.rb hm).sub (hy.rb hn)).ir (by omega) (by simp only [SM];omega)).bind ((Gv.pure _).eq ?_)
 rw [eJ]
theorem GN (z:Int):Rat.divInt z 1=(z:Rat):=by
 apply Rat.ext
 ·rw [Rat.num_divInt];simp
 ·rw [Rat.den_divInt];simp
theorem Li (ha:IB a n) (hn:1≤n) (hs:SM (2 * n+2)):Gv (fun N=>qH N a) (bA (zv a:Rat)):=by
 refine (nY ha (Rm hn) (by rw [MN];decide) hs).bind ((Gv.pure _).eq ?_)
 rw [MN,GN]
theorem zP {z:Int} (h1:-9223372036854775808≤z) (h2:z≤9223372036854775807):Gv (fun N=>gx N z) (bA (z:Rat)):=by
 refine (NT h1 h2).bind ((Li (n:=4) (ZB.word h1 h2).ib (by decide) (by simp)).bind ((Gv.pure _).eq ?_))
 rw [nf]
theorem MO {z:Int} (h1:-9223372036854775808≤z) (h2:z≤9223372036854775807):Gv (fun N=>Am N z) (bA (z:Rat)) :=
 (X5 h1 h2).bind ((X5 (by decide) (by decide)).bind ((Gv.pure _).eq rfl))
theorem Rn {a b:Int} (h1:-9223372036854775808≤a) (h2:a≤9223372036854775807) (h3:-9223372036854775808≤b) (h4:b≤9223372036854775807) (h0:b≠0):Gv (fun N=>zF N a b) (bA (Rat.divInt a b),0):=by
 refine Gv.bh (by simpa using h0) ((NT h1 h2).bind ((NT h3 h4).bind ?_))
 refine (nY (n:=4) (ZB.word h1 h2).ib (ZB.word h3 h4).ib (by rw [nf];exact h0) (by simp)).bind ((Gv.pure _).eq ?_)
 rw [nf,nf]
end
theorem pe {q:Rat}:o9 q < 0↔q < 0:=by
 unfold o9;rw [Rat.lt_iff]
 simp
theorem GO {q:Rat}:o9 q=0↔q=0:=by
 unfold o9;rw [Int.sign_eq_zero_iff_zero];exact Rat.num_eq_zero
theorem Ce {q:Rat}:0 < o9 q↔0 < q:=by
 unfold o9;rw [Rat.lt_iff]
 simp
end Go.Den
namespace Go.Den
open Go.Ab
def aF {α:Type} (f:Nat→Nat→Option α) (r:α):Prop:=∃ N0,∀ N fuel,N0≤N→N0≤fuel→f N fuel=some r
theorem aF.diag {α:Type} {f:Nat→Nat→Option α} {r:α} (h:aF f r):Gv (fun N=>f N N) r:=let ⟨N0,h0⟩:=h;⟨N0,fun N hN=>h0 N N hN hN⟩
theorem aF.step {α:Type} {f:Nat→Nat→Option α} {r:α} (N1:Nat) (h:∀ N g,N1≤N→N1≤g→f N (g+1)=some r):aF f r :=
 ⟨N1+1,fun N fuel hN hf=>by obtain ⟨g,rfl⟩:∃ g,fuel=g+1:=⟨fuel - 1,by omega⟩;exact h N g (by omega) (by omega)⟩
structure aec (RD:Nat→aa→aa→aa→Option aa) (R:Rat→Rat→Rat→Rat) (A B C:Nat):Prop where
 run:∀ (ch fr acc:Rat) (m:Nat),RB ch A→RB fr B→RB acc m→1≤m→m≤100000000→Gv (fun N=>RD N (bA ch) (bA fr) (bA acc)) (bA (R ch fr acc))
 bnd:∀ (ch fr acc:Rat) (m:Nat),RB ch A→RB fr B→RB acc m→RB (R ch fr acc) (m+C)
section
end
end Go.Den
namespace Go.Den
open Go.Ab
end Go.Den
namespace Go.Den
open Go.Ab
structure RQ (x:aa) (p:Rat) (n:Nat):Prop where
 ir:IR x n
 v:qv x=p
 pos:1≤n
structure ZI (a:bP) (z:Int) (n:Nat):Prop where
 ib:IB a n
 v:zv a=z
theorem RQ.rb {x:aa} {p:Rat} {n:Nat} (h:RQ x p n):RB p n:=h.v ▸ h.ir.rb h.pos
theorem RB.rq {p:Rat} {n:Nat} (h:RB p n) (hn:1≤n):RQ (bA p) p n:=⟨h.ir,eJ p,hn⟩
theorem RQ.le {x:aa} {p:Rat} {m n:Nat} (h:RQ x p m) (NS:m≤n):RQ x p n:=⟨h.ir.le NS,h.v,eZ h.pos NS⟩
theorem ZI.zb {a:bP} {z:Int} {n:Nat} (h:ZI a z n):ZB z n:=h.v ▸ h.ib.zb
theorem ZB.zi {z:Int} {n:Nat} (h:ZB z n):ZI (ya z) z n:=⟨h.ib,nf z⟩
theorem ZI.le {a:bP} {z:Int} {m n:Nat} (h:ZI a z m) (NS:m≤n):ZI a z n:=⟨h.ib.le NS,h.v⟩
section
variable {a b:bP} {x y:aa} {m n:Nat} {p q:Rat} {z w:Int}
theorem RQ.add (hx:RQ x p m) (hy:RQ y q n) (hs:SM (2 * (m+n+1)+2)):Gv (fun N=>fc N x y) (bA (p+q)):=by
 have:=IC hx.ir hy.ir hx.pos hy.pos hs;rwa [hx.v,hy.v] at this
theorem RQ.sub (hx:RQ x p m) (hy:RQ y q n) (hs:SM (2 * (m+n+1)+2)):Gv (fun N=>fe N x y) (bA (p - q)):=by
 have:=IE hx.ir hy.ir hx.pos hy.pos hs;rwa [hx.v,hy.v] at this
theorem RQ.mul (hx:RQ x p m) (hy:RQ y q n) (hs:SM (2 * (m+n)+2)):Gv (fun N=>dQ N x y) (bA (p * q)):=by
 have:=O0 hx.ir hy.ir hx.pos hy.pos hs;rwa [hx.v,hy.v] at this
theorem RQ.TQ (hx:RQ x p m) (hy:RQ y q n) (h0:q≠0) (hs:SM (2 * (m+n)+2)):Gv (fun N=>rl N x y) (bA (p / q)):=by
 have:=TP hx.ir hy.ir hx.pos hy.pos (by rw [hy.v];exact h0) hs;rwa [hx.v,hy.v] at this
theorem RQ.cmp (hx:RQ x p m) (hy:RQ y q n) (hs:SM (2 * (m+n+1)+2)):Gv (fun N=>gz N x y) (o9 (p - q)):=by
 have:=O1 hx.ir hy.ir hx.pos hy.pos hs;rwa [hx.v,hy.v] at this
theorem RQ.o9 (hx:RQ x p m) (hs:SM m):Gv (fun N=>nG N x) (o9 p):=by
 have:=IG hx.ir hx.pos hs;rwa [hx.v] at this
theorem RQ.low (hx:RQ x p m) (hs:SM (2 * m+2)):Gv (fun N=>lD N x) (bA p):=by
 have:=Dx hx.ir hx.pos hs;rwa [hx.v] at this
theorem RQ.zero (hx:RQ x p m) (hs:SM m):Gv (fun N=>ic N x) (decide (p=0)):=by
 have:=Dy hx.ir hs;rwa [hx.v] at this
theorem ZI.whole (ha:ZI a z n) (hn:1≤n) (hs:SM (2 * n+2)):Gv (fun N=>qH N a) (bA (z:Rat)):=by
 have:=Li ha.ib hn hs;rwa [ha.v] at this
theorem ZI.add (ha:ZI a z n) (hb:ZI b w n) (hs:SM (n+1)):Gv (fun N=>BI N a b) (ya (z+w)):=by
 have:=Rk ha.ib hb.ib hs;rwa [ha.v,hb.v] at this
theorem ZI.mul (ha:ZI a z m) (hb:ZI b w n) (hs:SM (m+n)):Gv (fun N=>qc N a b) (ya (z * w)):=by
 have:=y6 ha.ib hb.ib hs;rwa [ha.v,hb.v] at this
end
end Go.Den
namespace Go.Den
open Go.Ab
theorem Lj {N:Nat} {a:List Int} (ha:U a) (hs:SM a.length):∀ (n fuel:Nat),n≤a.length→n < fuel→bI (a.take n)=bI a→ke N a fuel (n:Int)=some (lm (bI a).toNat)
 | 0,fuel,_,hf,hv=>by
  obtain ⟨g,rfl⟩:∃ g,fuel=g+1:=⟨fuel - 1,by omega⟩
  rw [ke,if_pos (fun h=>by cases h)]
  have e:bI a=0:=by rw [← hv];simp [bI]
  rw [e]
  have e1:cond (decide (((0:Nat):Int) > 0)) (a.getD (ai (((0:Nat):Int) - 1)).toNat 0 == 0) false=false:=rfl
  rw [e1,cond_false,if_pos ⟨by simp,by simp⟩,if_pos (by simp),if_pos (by simp)]
  simp [iQ]
 | n+1,fuel,hn,hf,hv=>by
  obtain ⟨g,rfl⟩:∃ g,fuel=g+1:=⟨fuel - 1,by omega⟩
  simp only [SM] at hs
  have e1:ai (((n+1:Nat):Int) - 1)=(n:Int):=by rw [aV (by omega) (by omega)];omega
  have h1:=cM a n (by omega)
  rw [ke,e1,if_pos (fun _=>pS (by omega)),decide_eq_true (by omega),cond_true,ao]
  cases hx:(a.getD n 0 == 0) with
  | true =>
   have Qy:a.getD n 0=0:=eq_of_beq hx
   rw [cond_true]
   exact Lj ha hs n g (by omega) (by omega) (by rw [h1,Qy] at hv;omega)
  | false =>
   have Qy:a.getD n 0≠0:=fun h=>by rw [h] at hx;cases hx
   rw [cond_false,ao,if_pos ⟨Nat.zero_le _,hn⟩,if_pos (by omega),if_pos (by omega),List.nil_append,List.drop_zero,← hv]
   congr 1
   refine (NJ (ha.take _) fun m x he=>?_).symm
   have hl:m.length=n:=by have:=congrArg List.length he;rw [oQ] at this;simp at this;omega
   have:(a.take (n+1)).getD n 0=x:=by rw [he,← hl];simp [List.getD]
   rw [fB,List.getElem?_take_of_lt (by omega),← fB] at this
   rw [← this];exact Qy
theorem tY {N:Nat} {a:List Int} (ha:U a) (hs:SM a.length) (hN:a.length < N):ml N a=some (lm (bI a).toNat) :=
 Lj ha hs a.length N (az _) hN (by rw [List.take_length])
theorem NU {N:Nat} {a:List Int} (ha:U a) (hs:SM a.length) (hN:a.length < N):∀ (k i fuel:Nat),i+k=a.length→k < fuel→kf N a fuel (a.take i) (i:Int)=some (lm (bI a).toNat)
 | 0,i,fuel,hi,hf=>by
  obtain ⟨g,rfl⟩:∃ g,fuel=g+1:=⟨fuel - 1,by omega⟩
  have:i=a.length:=by omega
  subst this
  rw [kf,ep,cond_false,List.take_length,tY ha hs hN,cF]
 | k+1,i,fuel,hi,hf=>by
  obtain ⟨g,rfl⟩:∃ g,fuel=g+1:=⟨fuel - 1,by omega⟩
  simp only [SM] at hs
  have h1:=ha.getD i
  rw [kf,dec_lt (by omega),cond_true,if_pos (pS (by omega)),if_pos (by rw [oQ];omega),ao,aV (by omega) (by omega),aN (by omega)]
  have e:a.take i ++ [a.getD i 0]=a.take (i+1):=by rw [List.take_add_one];simp [List.getD,show i < a.length by omega]
  rw [e]
  exact NU ha (by simp only [SM];omega) hN k (i+1) g (by omega) (by omega)
theorem Wa {N:Nat} {a:List Int} (ha:U a) (hs:SM a.length) (hN:a.length < N):jL N a=some (lm (bI a).toNat):=by
 have:=NU ha hs hN a.length 0 N (by omega) hN
 unfold jL
 simpa using this
theorem NV {N:Nat} {neg:Bool} {a:List Int} (ha:U a) (hs:SM a.length):∀ (k i fuel:Nat),i+k=a.length→k < fuel→kc N neg a fuel (a.take i) (i:Int)=some ⟨cond neg (decide (((a.length:Nat):Int) > 0)) false,a⟩
 | 0,i,fuel,hi,hf=>by
  obtain ⟨g,rfl⟩:∃ g,fuel=g+1:=⟨fuel - 1,by omega⟩
  have:i=a.length:=by omega
  subst this
  rw [kc,ep,cond_false,List.take_length]
 | k+1,i,fuel,hi,hf=>by
  obtain ⟨g,rfl⟩:∃ g,fuel=g+1:=⟨fuel - 1,by omega⟩
  simp only [SM] at hs
  have h1:=ha.getD i
  rw [kc,dec_lt (by omega),cond_true,if_pos (pS (by omega)),if_pos (by rw [oQ];omega),ao,oe (by omega) (by omega),aN (by omega)]
  have e:a.take i ++ [a.getD i 0]=a.take (i+1):=by rw [List.take_add_one];simp [List.getD,show i < a.length by omega]
  rw [e]
  exact NV ha (by simp only [SM];omega) k (i+1) g (by omega) (by omega)
theorem TR (neg:Bool) {k:Nat} (hk:SM (lm k).length):Gv (fun N=>fR N neg (lm k)) (ya (sg neg k)) :=
 .of ((lm k).length+1) fun N hN=>by
  have:=NV (N:=N) (neg:=neg) (rH k) hk (lm k).length 0 N (by omega) (by omega)
  rw [List.take_zero] at this
  unfold fR
  rw [show ((0:Nat):Int)=0 from rfl] at this
  rw [this]
  by_cases h:k=0
  ·subst h;rw [iQ,NR];cases neg<;>rfl
  ·rw [Rh _ _ h]
   have:=nX.2 h
   rw [decide_eq_true (by omega)];cases neg<;>rfl
theorem zQ (N:Nat) (a:List Int) (i:Nat):ma N a (i:Int)=some (a.getD i 0):=by
 unfold ma
 by_cases h:i < a.length
 ·rw [dec_lt h,cond_true,if_pos (pS h),ao]
 ·rw [decide_eq_false (by omega),cond_false,uE (by omega)]
theorem oM (a:List Int) (i:Nat):bI (a.take (i+1))=bI (a.take i)+a.getD i 0 * pw i:=by
 by_cases h:i < a.length
 ·exact cM a i h
 ·rw [jy (by omega),jy (by omega),uE (by omega)];simp
theorem Ro {N:Nat} {a b:List Int} (ha:U a) (hb:U b) (hs:SM (a.length+b.length+2)) (hN:a.length+b.length+2 < N):∀ (k i fuel:Nat) (out:List Int) (c:Int),a.length+b.length+1≤i+k→k < fuel→out.length=i→i≤a.length+b.length+1→U out→0≤c→c≤1 →
  (a.length < i∧b.length < i→c=0)→bI out+pw i * c=bI (a.take i)+bI (b.take i)→kg N a b fuel out c (i:Int)=some (lm (bI a+bI b).toNat):=by
 intro k
 simp only [SM] at hs
 induction k with
 | zero =>
  intro i fuel out c hi hf ho UA hU yk uc J2 hinv
  obtain ⟨g,rfl⟩:∃ g,fuel=g+1:=⟨fuel - 1,by omega⟩
  have hc:=J2 ⟨by omega,by omega⟩
  subst hc
  rw [kg,decide_eq_false (by omega),decide_eq_false (by omega),decide_eq_false (by decide)]
  simp only [cond_false]
  rw [tY hU (by simp only [SM];omega) (by omega),cF]
  rw [jy (by omega),jy (by omega)] at hinv
  rw [show bI out=bI a+bI b by omega]
 | succ k ih =>
  intro i fuel out c hi hf ho UA hU yk uc J2 hinv
  obtain ⟨g,rfl⟩:∃ g,fuel=g+1:=⟨fuel - 1,by omega⟩
  rw [kg]
  by_cases Za:i < a.length∨i < b.length∨0 < c
  ·have e:cond (cond (decide ((i:Int) < ((a.length:Nat):Int))) true (decide ((i:Int) < ((b.length:Nat):Int)))) true (decide (c > 0))=true:=by
    rcases Za with h | h | h
    ·rw [dec_lt h];rfl
    ·rw [dec_lt h];cases decide ((i:Int) < ((a.length:Nat):Int))<;>rfl
    ·rw [decide_eq_true (show c > 0 by omega)];cases cond (decide ((i:Int) < ((a.length:Nat):Int))) true (decide ((i:Int) < ((b.length:Nat):Int)))<;>rfl
   have h1:=ha.getD i
   have h2:=hb.getD i
   have aed:i≤a.length+b.length:=by
    rcases Za with h | h | h
    ·omega
    ·omega
    ·have:¬ (a.length < i∧b.length < i):=fun h'=>by have:=J2 h';omega
     omega
   rw [e,cond_true,zQ,cF,zQ,cF,if_pos (by omega),aV (n:=a.getD i 0+b.getD i 0) (by omega) (by omega),aV (n:=a.getD i 0+b.getD i 0+c) (by omega) (by omega),aN (by omega)]
   generalize hsm:a.getD i 0+b.getD i 0+c=s
   have Sk:0≤s:=by omega
   rw [Int.tmod_eq_emod_of_nonneg Sk,Int.tdiv_eq_ediv_of_nonneg Sk,aV (n:=s / 65536) (by omega) (by omega)]
   refine ih (i+1) g _ _ (by omega) (by omega) (by simp [ho]) (by omega) (hU.append (U.one (by omega) (by omega))) (by omega) (by omega) (fun h=>?_) ?_
   ·have e1:=uE (show a.length≤i by omega)
    have e2:=uE (show b.length≤i by omega)
    omega
   ·rw [lL,q8,ho,oM a,oM b,gW]
    have h5:s=s % 65536+65536 * (s / 65536):=by omega
    have h6:pw i * s=pw i * (s % 65536)+pw i * (65536 * (s / 65536)):=by rw [← iI,← h5]
    have h7:pw i * s=a.getD i 0 * pw i+b.getD i 0 * pw i+pw i * c:=by rw [← hsm,iI,iI,gU (pw i) (a.getD i 0),gU (pw i) (b.getD i 0)]
    have h8:65536 * pw i * (s / 65536)=pw i * (65536 * (s / 65536)):=by rw [gU 65536,kZ]
    omega
  ·have e:cond (cond (decide ((i:Int) < ((a.length:Nat):Int))) true (decide ((i:Int) < ((b.length:Nat):Int)))) true (decide (c > 0))=false:=by
    rw [decide_eq_false (by omega),decide_eq_false (by omega),decide_eq_false (by omega)];rfl
   have hc:c=0:=by omega
   subst hc
   rw [e,cond_false,tY hU (by simp only [SM];omega) (by omega),cF]
   rw [jy (by omega),jy (by omega)] at hinv
   rw [show bI out=bI a+bI b by omega]
theorem Rp {N a b:Nat} (hs:SM ((lm a).length+(lm b).length+2)) (hN:(lm a).length+(lm b).length+3 < N):w7 N (lm a) (lm b)=some (lm (a+b)):=by
 have:=Ro (N:=N) (rH a) (rH b) hs (by omega) ((lm a).length+(lm b).length+1) 0 N [] 0 (by omega) (by omega) rfl (by omega) U.nil (by omega) (by omega) (fun _=>rfl) (by simp [bI])
 rw [iG,iG] at this
 exact this
theorem DV {N:Nat} {a b:List Int} (ha:U a) (hb:U b) (hl:a.length=b.length) (hs:SM a.length):∀ (k fuel:Nat),k≤a.length→k < fuel→gK N a b fuel ((k:Int) - 1)=some (MM a b k)
 | 0,fuel,_,hf=>by
  obtain ⟨g,rfl⟩:∃ g,fuel=g+1:=⟨fuel - 1,by omega⟩
  rw [gK];rfl
 | k+1,fuel,hk,hf=>by
  obtain ⟨g,rfl⟩:∃ g,fuel=g+1:=⟨fuel - 1,by omega⟩
  simp only [SM] at hs
  have e:(((k+1:Nat):Int) - 1)=(k:Int):=by omega
  have h1:=ha.getD k
  have h2:=hb.getD k
  rw [e,gK,decide_eq_true (by omega),cond_true,if_pos (pS (by omega)),if_pos (pS (by omega)),ao,aV (n:=a.getD k 0 - b.getD k 0) (by omega) (by omega),aV (n:=(k:Int) - 1) (by omega) (by omega),DV ha hb hl (by simp only [SM];omega) k g (by omega) (by omega)]
  rw [MM]
  cases (a.getD k 0 != b.getD k 0)<;>rfl
theorem Cf {N a b:Nat} (hN:(lm a).length < N) (ha:SM (lm a).length) (hb:SM (lm b).length):m5 N (lm a) (lm b)=some (HD a b):=by
 unfold m5 HD
 simp only [SM] at ha hb
 cases hl:((((lm a).length:Nat):Int) != (((lm b).length:Nat):Int)) with
 | true=>rw [cond_true,cond_true,aV (by omega) (by omega)]
 | false =>
  have heq:(lm a).length=(lm b).length:=by simp at hl;omega
  rw [cond_false,cond_false,aV (by omega) (by omega)]
  exact DV (rH a) (rH b) heq ha _ N (az _) hN
theorem IH {N:Nat} {a b:List Int} (ha:U a) (hb:U b) (hl:b.length≤a.length) (hle:bI b≤bI a) (hs:SM a.length) (hN:a.length+1 < N):∀ (k x fuel:Nat) (out:List Int) (c:Int),x+k=a.length→k < fuel→out.length=x→U out→0≤c→c≤1 →
  bI out - pw x * c=bI (a.take x) - bI (b.take x)→gi N a b fuel out c (x:Int)=some (lm (bI a - bI b).toNat)
 | 0,x,fuel,out,c,hx,hf,ho,hU,yk,uc,hinv=>by
  obtain ⟨g,rfl⟩:∃ g,fuel=g+1:=⟨fuel - 1,by omega⟩
  have HE:x=a.length:=by omega
  subst HE
  rw [gi,ep,cond_false,tY hU (by simp only [SM] at *;omega) (by omega),cF]
  rw [List.take_length,jy hl] at hinv
  have h1:=hU.lt
  rw [ho] at h1
  have hc:c=0:=by
   rcases Int.lt_or_le 0 c with h | h
   ·have:c=1:=by omega
    subst this;omega
   ·omega
  subst hc
  rw [show bI out=bI a - bI b by omega]
 | k+1,x,fuel,out,c,hx,hf,ho,hU,yk,uc,hinv=>by
  obtain ⟨g,rfl⟩:∃ g,fuel=g+1:=⟨fuel - 1,by omega⟩
  simp only [SM] at hs
  have mE:x < a.length:=by omega
  have h1:=ha.getD x
  have h2:=hb.getD x
  rw [gi,dec_lt mE,cond_true,if_pos (pS mE),zQ,cF,ao,aV (n:=a.getD x 0 - b.getD x 0) (by omega) (by omega),aV (n:=a.getD x 0 - b.getD x 0 - c) (by omega) (by omega)]
  have fin:∀ q s:Int,0≤q→q≤1→s=a.getD x 0 - b.getD x 0 - c+q * 65536→0≤s→s < 65536→lZ N a b out (x:Int) (gi N a b g) q s=some (lm (bI a - bI b).toNat):=by
   intro q s EH FC hse Sk Ov
   unfold lZ
   rw [if_pos (by omega),aN (by omega)]
   refine IH ha hb hl hle (by simp only [SM];omega) hN k (x+1) g _ _ (by omega) (by omega) (by simp [ho]) (hU.append (U.one Sk Ov)) EH FC ?_
   rw [lL,q8,ho,oM a,oM b,gW]
   have h3:pw x * s=a.getD x 0 * pw x - b.getD x 0 * pw x - pw x * c+65536 * pw x * q:=by rw [hse];grind
   omega
  cases gY:decide (a.getD x 0 - b.getD x 0 - c < 0) with
  | true =>
   have gY:=qS gY
   rw [cond_true,aV (by omega) (by omega)]
   exact fin 1 _ (by omega) (by omega) (by omega) (by omega) (by omega)
  | false =>
   have gY:=sG gY
   rw [cond_false]
   exact fin 0 _ (by omega) (by omega) (by omega) (by omega) (by omega)
theorem Dz {N a b:Nat} (UQ:b≤a) (hs:SM (lm a).length) (hN:(lm a).length+1 < N):pH N (lm a) (lm b)=some (lm (a - b)):=by
 have:=IH (N:=N) (rH a) (rH b) (iE UQ) (by rw [iG,iG];omega) hs hN (lm a).length 0 N [] 0 (by omega) (by omega) rfl U.nil (by omega) (by omega) (by simp [bI])
 rw [iG,iG] at this
 rw [show (lm (a - b))=lm ((a:Int) - (b:Int)).toNat by congr 1;omega]
 exact this
theorem O2 {N:Nat} {a b:List Int} {i:Nat} (ha:U a) (hb:U b) (hi:i < a.length) (hs:SM (a.length+b.length+1)) (K:List Int→Int→Option (List Int)) (R:Option (List Int))
  (hK:∀ out,out.length=a.length+b.length+1→U out→(∀ j,i+1+b.length≤j→out.getD j 0=0)→bI out=bI (a.take (i+1)) * bI b→K out ((i+1:Nat):Int)=R) :
  ∀ (k x fuel:Nat) (out:List Int) (c:Int),x+k=b.length+1→k < fuel→out.length=a.length+b.length+1→U out→0≤c→c < 65536→(x=b.length+1→c=0)→(∀ j,i+b.length≤j→x≤b.length→out.getD j 0=0)→(∀ j,i+1+b.length≤j→out.getD j 0=0) →
   bI out+pw (i+x) * c=bI (a.take i) * bI b+a.getD i 0 * pw i * bI (b.take x)→jv N a b (i:Int) K fuel out c (x:Int)=R:=by
 intro k
 simp only [SM] at hs
 induction k with
 | zero =>
  intro x fuel out c hx hf ho hU yk uc J2 hz Sl hinv
  obtain ⟨g,rfl⟩:∃ g,fuel=g+1:=⟨fuel - 1,by omega⟩
  have HE:x=b.length+1:=by omega
  subst HE
  have hc:=J2 rfl
  subst hc
  rw [jv,decide_eq_false (by omega),decide_eq_false (by decide)]
  simp only [cond_false]
  rw [aN (by omega)]
  refine hK out ho hU Sl ?_
  rw [show b.take (b.length+1)=b from jy (by omega)] at hinv
  rw [cM a i hi,eM];omega
 | succ k ih =>
  intro x fuel out c hx hf ho hU yk uc J2 hz Sl hinv
  obtain ⟨g,rfl⟩:∃ g,fuel=g+1:=⟨fuel - 1,by omega⟩
  rw [jv]
  have h1:=ha.getD i
  have h2:=hb.getD x
  have h3:=hU.getD (i+x)
  by_cases Za:x < b.length∨0 < c
  ·have e:cond (decide ((x:Int) < ((b.length:Nat):Int))) true (decide (c > 0))=true:=by
    rcases Za with h | h
    ·rw [dec_lt h];rfl
    ·rw [decide_eq_true (show c > 0 by omega)];cases decide ((x:Int) < ((b.length:Nat):Int))<;>rfl
   have ei:ai ((i:Int)+(x:Int))=((i+x:Nat):Int):=by rw [aV (by omega) (by omega)];omega
   have h4:=GG h1.1 h1.2 h2.1 h2.2
   rw [e,cond_true,ei,if_pos (pS (by omega)),if_pos (pS hi),zQ,cF]
   simp only [ao]
   rw [aV (n:=a.getD i 0 * b.getD x 0) (by omega) (by omega),aV (n:=out.getD (i+x) 0+a.getD i 0 * b.getD x 0) (by omega) (by omega),aV (n:=out.getD (i+x) 0+a.getD i 0 * b.getD x 0+c) (by omega) (by omega),aN (by omega)]
   generalize TI:out.getD (i+x) 0+a.getD i 0 * b.getD x 0+c=s
   have Sk:0≤s:=by omega
   rw [Int.tmod_eq_emod_of_nonneg Sk,Int.tdiv_eq_ediv_of_nonneg Sk,aV (n:=s / 65536) (by omega) (by omega)]
   refine ih (x+1) g _ _ (by omega) (by omega) (by simp [ho]) (hU.set _ (by omega) (by omega)) (by omega) (by omega) (fun h=>?_) (fun j hj UG=>?_) (fun j hj=>?_) ?_
   ·have e1:=uE (show b.length≤x by omega)
    have e2:=hz (i+x) (by omega) (by omega)
    rw [e1,e2] at TI;simp at TI;omega
   ·rw [getD_set_ne _ _ (by omega)];exact hz j hj (by omega)
   ·rw [getD_set_ne _ _ (by omega)];exact Sl j hj
   ·rw [nr _ _ _ (by omega),oM b,show i+(x+1)=(i+x)+1 by omega,gW]
    have h5:s=s % 65536+65536 * (s / 65536):=by omega
    have h6:pw (i+x) * s=pw (i+x) * (s % 65536)+pw (i+x) * (65536 * (s / 65536)):=by rw [← iI,← h5]
    have h7:pw (i+x) * s=pw (i+x) * c+pw (i+x) * (a.getD i 0 * b.getD x 0)+pw (i+x) * out.getD (i+x) 0:=by rw [← TI,iI,iI];omega
    have h8:65536 * pw (i+x) * (s / 65536)=pw (i+x) * (65536 * (s / 65536)):=by rw [gU 65536,kZ]
    have h9:(s % 65536 - out.getD (i+x) 0) * pw (i+x)=pw (i+x) * (s % 65536) - pw (i+x) * out.getD (i+x) 0:=by rw [Int.sub_mul,gU,gU (out.getD (i+x) 0)]
    have Y2:a.getD i 0 * pw i * (bI (b.take x)+b.getD x 0 * pw x)=a.getD i 0 * pw i * bI (b.take x)+pw (i+x) * (a.getD i 0 * b.getD x 0):=by
     rw [GD];grind
    omega
  ·have e:cond (decide ((x:Int) < ((b.length:Nat):Int))) true (decide (c > 0))=false:=by
    rw [decide_eq_false (by omega),decide_eq_false (by omega)];rfl
   have hc:c=0:=by omega
   subst hc
   rw [e,cond_false,aN (by omega)]
   refine hK out ho hU Sl ?_
   rw [show b.take x=b from jy (by omega)] at hinv
   rw [cM a i hi,eM];omega
theorem II {N:Nat} {a b:List Int} (ha:U a) (hb:U b) (hs:SM (a.length+b.length+1)) (hN:a.length+b.length+2 < N):∀ (k x fuel:Nat) (out:List Int),x+k=a.length→k < fuel→out.length=a.length+b.length+1→U out →
  (∀ j,x+b.length≤j→out.getD j 0=0)→bI out=bI (a.take x) * bI b→jw N a b fuel out (x:Int)=some (lm (bI a * bI b).toNat)
 | 0,x,fuel,out,hx,hf,ho,hU,hz,hinv=>by
  obtain ⟨g,rfl⟩:∃ g,fuel=g+1:=⟨fuel - 1,by omega⟩
  have HE:x=a.length:=by omega
  subst HE
  rw [jw,ep,cond_false,tY hU (by simp only [SM] at *;omega) (by omega),cF,hinv,List.take_length]
 | k+1,x,fuel,out,hx,hf,ho,hU,hz,hinv=>by
  obtain ⟨g,rfl⟩:∃ g,fuel=g+1:=⟨fuel - 1,by omega⟩
  have mE:x < a.length:=by omega
  rw [jw,dec_lt mE,cond_true]
  refine O2 ha hb mE hs _ _ (fun gy h1 h2 h3 h4=>?_) (b.length+1) 0 N out 0 (by omega) (by omega) ho hU (by omega) (by omega) (fun h=>by omega) (fun j hj _=>hz j hj) (fun j hj=>hz j (by omega)) (by rw [hinv];simp [bI])
  exact II ha hb hs hN k (x+1) g gy (by omega) (by omega) h1 h2 h3 h4
theorem Lk {N:Nat} {a b:List Int} (ha:U a) (hb:U b) (hs:SM (a.length+b.length+1)) (hN:a.length+b.length+2 < N):lA N a b=some (lm (bI a * bI b).toNat):=by
 unfold lA
 have HF:=hs
 simp only [SM] at HF
 have e:ai (ai (((a.length:Nat):Int)+((b.length:Nat):Int))+1)=((a.length+b.length+1:Nat):Int):=by rw [aV (n:=((a.length:Nat):Int)+((b.length:Nat):Int)) (by omega) (by omega),aV (by omega) (by omega)];omega
 rw [e,if_pos (by omega)]
 exact II ha hb hs hN a.length 0 N _ (by omega) (by omega) (by simp;omega) (U.replicate _) (fun j _=>iu _ j) (by rw [kj];simp [bI])
theorem O3 {N a b:Nat} (hs:SM ((lm a).length+(lm b).length+1)) (hN:(lm a).length+(lm b).length+2 < N):lA N (lm a) (lm b)=some (lm (a * b)):=by
 rw [Lk (rH a) (rH b) hs hN,iG,iG,vo]
theorem TS {N:Nat} {a q:List Int} {b i X:Nat} (hb:0 < b) (hX:X < 65536 * b) (hq:i < q.length) (hs:SM ((lm b).length+(lm X).length+3)) (hi:SM i) (hN:(lm b).length+(lm X).length+65546 < N) (K:List Int→List Int→Int→Option (List Int×List Int)) :
  ∀ (d lo hi fuel:Nat),hi - lo≤d→lo≤hi→hi < 65536→d < fuel→lo * b≤X→X < (hi+1) * b→ji N a (lm b) q (i:Int) (lm X) K fuel (lo:Int) (hi:Int)=K (lm (X % b)) (q.set i ((X / b:Nat):Int)) ((i:Int) - 1):=by
 intro d
 simp only [SM] at hs hi
 have one:∀ m:Nat,m < 65536→lA N (lm b) [(m:Int)]=some (lm (b * m)):=fun m hm=>by
  rw [Lk (rH b) (U.one (by omega) (by omega)) (by simp only [SM,List.length_singleton];omega) (by simp only [List.length_singleton];omega),iG,q8,vo]
 have abg:∀ m:Nat,m < 65536→(lm (b * m)).length≤(lm b).length+1:=fun m hm=>by
  rw [jH,gW]
  have:=(jH (n:=b) (k:=(lm b).length)).1 (az _)
  have h2:=Nat.mul_le_mul_left b (show m≤65535 by omega)
  have:=lK (lm b).length
  omega
 induction d with
 | zero =>
  intro lo rN fuel hd hle Ow hf h1 h2
  obtain ⟨g,rfl⟩:∃ g,fuel=g+1:=⟨fuel - 1,by omega⟩
  have hlh:rN=lo:=by omega
  subst hlh
  have hdiv:X / b=rN:=by
   have h3:X=rN * b+(X - rN * b):=by omega
   have h4:X - rN * b < b:=by rw [cD,Nat.one_mul] at h2;omega
   exact (DT h3 h4).1
  have X7:X % b=X - b * rN:=by
   have:=Nat.div_add_mod X b
   rw [hdiv] at this;omega
  rw [ji,decide_eq_false (by omega),cond_false,if_pos (pS hq)]
  have h5:b * rN≤X:=by rw [pX];exact h1
  by_cases h0:0 < rN
  ·rw [decide_eq_true (by omega),cond_true,one rN Ow,cF,Dz h5 (by simp only [SM];omega) (by omega),cF]
   unfold m6
   rw [ao,aV (by omega) (by omega),hdiv,X7]
  ·have:rN=0:=by omega
   subst this
   rw [decide_eq_false (by decide),cond_false]
   unfold m6
   rw [ao,aV (by omega) (by omega),hdiv,X7];simp
 | succ d ih =>
  intro lo rN fuel hd hle Ow hf h1 h2
  obtain ⟨g,rfl⟩:∃ g,fuel=g+1:=⟨fuel - 1,by omega⟩
  by_cases gY:lo < rN
  ·rw [ji,decide_eq_true (by omega),cond_true,aV (n:=(lo:Int)+(rN:Int)) (by omega) (by omega),aV (n:=(lo:Int)+(rN:Int)+1) (by omega) (by omega)]
   have em:((lo:Int)+(rN:Int)+1).tdiv 2=(((lo+rN+1) / 2:Nat):Int):=by rw [Int.tdiv_eq_ediv_of_nonneg (by omega)];omega
   rw [em,aV (n:=(((lo+rN+1) / 2:Nat):Int)) (by omega) (by omega)]
   generalize hm:(lo+rN+1) / 2=m
   have hml:=abg m (by omega)
   rw [one m (by omega),cF,Cf (by omega) (by simp only [SM];omega) (by simp only [SM];omega),cF]
   have hc:HD (b * m) X≤0↔b * m≤X:=by
    obtain ⟨c,_,h3,h4,h5⟩:=xn (N:=(lm (b * m)).length+1) (a:=b * m) (b:=X) (by omega) (by simp only [SM];omega) (by simp only [SM];omega)
    rw [← h5];omega
   by_cases L0:b * m≤X
   ·rw [decide_eq_true (hc.2 L0),cond_true]
    exact ih m rN g (by omega) (by omega) Ow (by omega) (by rw [pX];exact L0) h2
   ·rw [decide_eq_false (fun h=>L0 (hc.1 h)),cond_false,aV (by omega) (by omega)]
    have e1:((m:Int) - 1)=((m - 1:Nat):Int):=by omega
    rw [e1]
    refine ih lo (m - 1) g (by omega) (by omega) (by omega) (by omega) h1 ?_
    rw [show m - 1+1=m by omega,pX];omega
  ·have:=ih lo rN (g+1) (by omega) hle Ow (by omega) h1 h2
   exact this
theorem NW {N:Nat} {A b:Nat} (hb:0 < b) (hs:SM (2 * (lm A).length+2 * (lm b).length+10)) (hN:(lm A).length+2 * (lm b).length+65560 < N):∀ (k fuel:Nat) (q:List Int) (r:Nat),k≤(lm A).length→k < fuel→q.length=(lm A).length→U q→r < b →
  (∀ j,j < k→q.getD j 0=0)→pw k * bI ((lm A).drop k)=bI q * b+r * pw k→jj N (lm A) (lm b) fuel (lm r) q ((k:Int) - 1)=some (lm (A / b),lm (A % b))
 | 0,fuel,q,r,hk,hf,hq,hU,hr,hz,hinv=>by
  obtain ⟨g,rfl⟩:∃ g,fuel=g+1:=⟨fuel - 1,by omega⟩
  have e:decide ((((0:Nat):Int) - 1)≥0)=false:=rfl
  rw [jj,e,cond_false,tY hU (by simp only [SM] at *;omega) (by omega),cF]
  rw [zM,List.drop_zero,iG] at hinv
  have EH:=hU.pz
  obtain ⟨Q,hQ⟩:=Int.eq_ofNat_of_zero_le EH
  rw [hQ] at hinv ⊢
  have h6:A=Q * b+r:=by
   have h9:(A:Int)=Q * b+r:=by omega
   exact_mod_cast h9
  obtain ⟨h7,h8⟩:=DT h6 hr
  rw [h7,h8];rfl
 | k+1,fuel,q,r,hk,hf,hq,hU,hr,hz,hinv=>by
  obtain ⟨g,rfl⟩:∃ g,fuel=g+1:=⟨fuel - 1,by omega⟩
  have HF:=hs
  simp only [SM] at HF
  have e:(((k+1:Nat):Int) - 1)=(k:Int):=by omega
  have h1:=(rH A).getD k
  have YK:(lm r).length≤(lm b).length:=iE (by omega)
  rw [e,jj,decide_eq_true (by omega),cond_true,if_pos (pS (by omega)),if_pos (by omega),ao]
  obtain ⟨D,hD⟩:=Int.eq_ofNat_of_zero_le h1.1
  have hX:lm (bI ([(lm A).getD k 0] ++ lm r)).toNat=lm (D+65536 * r):=by
   have e9:bI ([(lm A).getD k 0] ++ lm r)=((D+65536 * r:Nat):Int):=by rw [lL,q8,iG,hD];simp [pw]
   rw [e9,Int.toNat_natCast]
  have hD2:D < 65536:=by omega
  rw [tY ((U.one h1.1 h1.2).append (rH r)) (by simp only [SM,kH,List.length_singleton];omega) (by simp only [kH,List.length_singleton];omega),cF,hX]
  have hXb:D+65536 * r < 65536 * b:=by omega
  have hXl:(lm (D+65536 * r)).length≤(lm b).length+1:=by
   rw [jH,gW]
   have:=(jH (n:=b) (k:=(lm b).length)).1 (az _)
   omega
  have:=TS (N:=N) (a:=lm A) (q:=q) (b:=b) (i:=k) (X:=D+65536 * r) hb hXb (by omega) (by simp only [SM];omega) (by simp only [SM];omega) (by omega) (jj N (lm A) (lm b) g) 65535 0 65535 N (by omega) (by omega) (by omega) (by omega) (by omega) (by omega)
  rw [show ((0:Nat):Int)=0 from rfl,show ((65535:Nat):Int)=65535 from rfl] at this
  rw [this]
  have hdv:(D+65536 * r) / b < 65536:=Nat.div_lt_of_lt_mul (by omega)
  have hml:=Nat.mod_lt (D+65536 * r) hb
  have hdm:=Nat.div_add_mod (D+65536 * r) b
  generalize (D+65536 * r) / b=u at *
  generalize (D+65536 * r) % b=v at *
  refine NW hb hs hN k g _ _ (by omega) (by omega) (by simp [hq]) (hU.set _ (by omega) (by omega)) hml (fun j hj=>by rw [getD_set_ne _ _ (by omega)];exact hz j (by omega)) ?_
  rw [nr _ _ _ (by omega),hz k (by omega),Int.sub_zero,nW _ k (by omega),hD]
  rw [gW] at hinv
  have h2:(D:Int)+65536 * r=b * u+v:=by
   have:=congrArg (fun x:Nat=>(x:Int)) hdm
   simp only [Int.natCast_add,Int.natCast_mul] at this
   omega
  have h3:pw k * ((D:Int)+65536 * r)=pw k * (b * u+v):=by rw [h2]
  grind
theorem NX {N A b:Nat} (hb:b≠0) (hs:SM (2 * (lm A).length+2 * (lm b).length+10)) (hN:(lm A).length+2 * (lm b).length+65560 < N):nN N (lm A) (lm b)=some (lm (A / b),lm (A % b)):=by
 have HF:=hs
 simp only [SM] at HF
 unfold nN
 rw [if_pos (by omega),aV (by omega) (by omega)]
 have:=NW (N:=N) (A:=A) (b:=b) (by omega) hs hN (lm A).length N (List.replicate (lm A).length 0) 0 (az _) (by omega) (by simp) (U.replicate _) (by omega) (fun j _=>iu _ j) (by rw [List.drop_length,kj];simp [bI])
 rw [iQ] at this
 exact this
end Go.Den
namespace Go.Den
open Go.Ab
abbrev LM (n:Nat):Prop:=n < 1000000000000
section
variable {a b:bP} {x y:aa} {m n:Nat} {p q:Rat} {z w:Int}
theorem ZI.read (ha:ZI a z n) (hs:LM n):Gv (fun N=>jL N a.fL) (lm z.natAbs) :=
 .of (n+1) fun N hN=>by
  have:=Wa (N:=N) ha.ib.U (by have:=ha.ib.len;simp only [SM,LM] at *;omega) (by have:=ha.ib.len;omega)
  rwa [← l6,ha.v] at this
theorem ZI.Ll (ha:ZI a z n):z=sg a.fG z.natAbs:=by
 have h1:=l6 a
 have:zv a=sg a.fG (zv a).natAbs:=by rw [h1];rfl
 rwa [ha.v] at this
theorem oN {neg:Bool} {k:Nat} (hz:ZB (sg neg k) n) (hs:LM n):Gv (fun N=>fR N neg (lm k)) (ya (sg neg k)):=by
 unfold ZB at hz
 rw [pP] at hz
 exact TR neg (by simp only [SM,LM] at *;omega)
theorem Rq {N:Nat} {z:Int}:∀ (fuel n:Nat) (out:List Int) (r:Option bP),(lm n).length < fuel→out.length+(lm n).length < 1000→n < 18446744073709551616→((fR N (decide (z < 0)) (out ++ lm n)).bind fun r=>some r)=r→lz N z fuel out (n:Int)=r
 | 0,n,out,r,h,_,_,_=>by omega
 | fuel+1,n,out,r,h,h2,h3,hr=>by
  rw [lz]
  by_cases hn:n=0
  ·subst hn
   rw [iQ,List.append_nil] at hr
   exact hr
  ·have e:decide ((n:Int) > 0)=true:=by simp;omega
   rw [qn hn] at h h2
   simp only [wC] at h h2
   have e1:((n:Int) / 65536)=((n / 65536:Nat):Int):=by omega
   have e2:((n:Int) % 65536)=((n % 65536:Nat):Int):=by omega
   rw [e,cond_true,if_pos (by omega),Int.tmod_eq_emod_of_nonneg (by omega),Int.tdiv_eq_ediv_of_nonneg (by omega),e1,e2,iv (by omega) (by omega),aV (by omega) (by omega)]
   refine Rq fuel (n / 65536) _ r (by omega) (by simp;omega) (by omega) ?_
   rw [← hr,qn hn,wD];rfl
theorem Hc (h1:-9223372036854775808≤z) (h2:z≤9223372036854775807):Gv (fun N=>rm N z) (ya z):=by
 have hl:ZB z 4:=ZB.word h1 h2
 have key:Gv (fun N=>lz N z N [] ((z.natAbs:Nat):Int)) (ya z):=by
  have hm:Gv (fun N=>(fR N (decide (z < 0)) (lm z.natAbs)).bind fun r=>some r) (ya z):=by
   by_cases h:z < 0
   ·have e:sg true z.natAbs=z:=by simp [sg];omega
    have:=oN (neg:=true) (k:=z.natAbs) (n:=4) (by rw [e];exact hl) (by decide)
    rw [e] at this
    rw [decide_eq_true h]
    exact this.bind (Gv.pure _)
   ·have e:sg false z.natAbs=z:=by simp [sg];omega
    have:=oN (neg:=false) (k:=z.natAbs) (n:=4) (by rw [e];exact hl) (by decide)
    rw [e] at this
    rw [decide_eq_false h]
    exact this.bind (Gv.pure _)
  obtain ⟨N0,hm⟩:=hm
  refine .of (N0+5) fun N hN=>?_
  unfold ZB at hl
  exact Rq N z.natAbs [] _ (by omega) (by simp;omega) (by omega) (by have:=hm N (by omega);simpa using this)
 unfold rm
 by_cases h:z < 0
 ·have e:IntKind.u64.wrap (0 - IntKind.u64.wrap z)=((z.natAbs:Nat):Int):=by rw [wrap64,wrap64];omega
  refine Gv.aR (decide_eq_true h) ?_
  rw [e];exact key
 ·have e:IntKind.u64.wrap z=((z.natAbs:Nat):Int):=by rw [wrap64];omega
  refine Gv.bh (decide_eq_false h) ?_
  rw [e];exact key
theorem ZI.TT (ha:ZI a z n) (hs:LM n):Gv (fun N=>zH N a) (ya (-z)):=by
 refine (ha.read hs).bind ?_
 have e:sg (!a.fG) z.natAbs = -z:=by
  have:=ha.Ll
  generalize z.natAbs=k at *
  subst this
  cases a.fG<;>simp [sg]
 refine Gv.bind (r:=ya (-z)) ?_ (Gv.pure _)
 rw [← e]
 exact oN (n:=n) (by rw [e];exact ha.zb.neg) hs
theorem ZI.Wb (ha:ZI a z n) (hb:ZI b w n) (hs:LM (n+1)):Gv (fun N=>zI N a b) (ya (z+w)):=by
 simp only [LM] at hs
 have hz:=ha.zb.add hb.zb
 have Ib:=ha.zb
 have ur:=hb.zb
 unfold ZB at Ib ur
 refine (ha.read (by simp only [LM];omega)).bind ((hb.read (by simp only [LM];omega)).bind ?_)
 have hX:=ha.Ll
 have hY:=hb.Ll
 clear ha hb
 generalize z.natAbs=x at *
 generalize w.natAbs=y at *
 rw [hX,hY] at hz ⊢
 generalize a.fG=p at *
 generalize b.fG=q at *
 cases Ph:(p == q) with
 | true =>
  have Ph:p=q:=by simpa using Ph
  subst Ph
  have e:sg p x+sg p y=sg p (x+y):=by cases p<;>simp [sg]<;>omega
  rw [e] at hz ⊢
  refine Gv.aR rfl (Gv.bind (r:=lm (x+y)) (.of (2 * n+4) fun N hN=>Rp (by simp only [SM];omega) (by omega)) ?_)
  exact (oN hz (by simp only [LM];omega)).bind (Gv.pure _)
 | false =>
  have Ph:q=!p:=by cases p<;>cases q<;>simp_all
  subst Ph
  refine Gv.bh rfl ?_
  refine Gv.bind (r:=HD x y) (.of (n+2) fun N hN=>Cf (by omega) (by simp only [SM];omega) (by simp only [SM];omega)) ?_
  have gY:=NL (a:=x) (b:=y) (by simp only [SM];omega) (by simp only [SM];omega)
  by_cases UJ:x < y
  ·refine Gv.bh (decide_eq_false (by have:=gY.2 UJ;omega)) (Gv.bind (r:=lm (y - x)) (.of (n+2) fun N hN=>Dz (by omega) (by simp only [SM];omega) (by omega)) ?_)
   have e:sg p x+sg (!p) y=sg (!p) (y - x):=by cases p<;>simp [sg]<;>omega
   rw [e] at hz ⊢
   exact (oN hz (by simp only [LM];omega)).bind (Gv.pure _)
  ·refine Gv.aR (decide_eq_true (by have:=fun h=>UJ (gY.1 h);omega)) (Gv.bind (r:=lm (x - y)) (.of (n+2) fun N hN=>Dz (by omega) (by simp only [SM];omega) (by omega)) ?_)
   have e:sg p x+sg (!p) y=sg p (x - y):=by cases p<;>simp [sg]<;>omega
   rw [e] at hz ⊢
   exact (oN hz (by simp only [LM];omega)).bind (Gv.pure _)
theorem ZI.EI (ha:ZI a z m) (hb:ZI b w n) (hs:LM (m+n)):Gv (fun N=>m7 N a b) (ya (z * w)):=by
 simp only [LM] at hs
 have hz:=ha.zb.mul hb.zb
 have Ib:=ha.zb
 have ur:=hb.zb
 unfold ZB at Ib ur
 refine (ha.read (by simp only [LM];omega)).bind ((hb.read (by simp only [LM];omega)).bind ?_)
 refine Gv.bind (r:=lm (z.natAbs * w.natAbs)) (.of (m+n+3) fun N hN=>O3 (by simp only [SM];omega) (by omega)) ?_
 have e:sg (!(a.fG == b.fG)) (z.natAbs * w.natAbs)=z * w:=by rw [sign_eq,← ha.Ll,← hb.Ll]
 have:=oN (neg:=!(a.fG == b.fG)) (k:=z.natAbs * w.natAbs) (n:=m+n) (by rw [e];exact hz) hs
 rw [e] at this
 exact this.bind (Gv.pure _)
theorem Lm {A B:Nat} (ha:(lm A).length≤m) (hb:(lm B).length≤n) (h0:B≠0) (hs:LM (m+n+10)):Gv (fun N=>nN N (lm A) (lm B)) (lm (A / B),lm (A % B)) :=
 .of (m+2 * n+65561) fun N hN=>NX h0 (by simp only [SM,LM] at *;omega) (by omega)
end
end Go.Den
namespace Go.Den
open Go.Ab
section
variable {a b:bP} {x y:aa} {m n:Nat} {p q:Rat} {z w:Int}
theorem TU {N k:Nat} (hk:LM (4 * k+30)) (hN:3 * k+65570 < N):∀ (y x fuel:Nat),y < fuel→(lm x).length≤k→(lm y).length≤k→mm N fuel (lm x) (lm y)=some (lm (Nat.gcd x y)):=by
 intro y
 simp only [LM] at hk
 induction y using Nat.strongRecOn with
 | _ y ih =>
  intro x fuel hf hx hy
  obtain ⟨g,rfl⟩:∃ g,fuel=g+1:=⟨fuel - 1,by omega⟩
  rw [mm]
  by_cases h:y=0
  ·subst h
   rw [iQ,Nat.gcd_zero_right];rfl
  ·have hl:=nX.2 h
   rw [decide_eq_true (by omega),cond_true,NX h (by simp only [SM];omega) (by omega),cF]
   have gY:=Nat.mod_lt x (Nat.pos_of_ne_zero h)
   rw [ih (x % y) gY y g (by omega) hy (eZ (iE (by omega)) hy),Nat.gcd_comm x y,Nat.gcd_rec y x,Nat.gcd_comm]
theorem TV {x y k:Nat} (hx:(lm x).length≤k) (hy:(lm y).length≤k) (hk:LM (4 * k+30)):Gv (fun N=>zG N (lm x) (lm y)) (lm (Nat.gcd x y)) :=
 .of (3 * k+65571+y) fun N hN=>TU hk (by omega) y x N (by omega) hx hy
theorem ZI.kD (ha:ZI a z n) (hb:ZI b w n) (h0:w≠0) (hs:LM (4 * n+30)):Gv (fun N=>nO N a b) (bA (Rat.divInt z w)):=by
 simp only [LM] at hs
 have Ib:=ha.zb
 have ur:=hb.zb
 unfold ZB at Ib ur
 refine (ha.read (by simp only [LM];omega)).bind ((hb.read (by simp only [LM];omega)).bind ?_)
 have hX:=ha.Ll
 have hY:=hb.Ll
 clear ha hb
 generalize hxx:z.natAbs=x at *
 generalize X6:w.natAbs=y at *
 have Sa:y≠0:=by omega
 have hg0:0 < Nat.gcd x y:=Nat.gcd_pos_of_pos_right _ (by omega)
 refine Gv.bh (by have:=nX.2 Sa;simp;exact fun h'=>by rw [h'] at this;simp at this) ?_
 refine (TV Ib ur (by simp only [LM];omega)).bind ?_
 have hgn:(lm (Nat.gcd x y)).length≤n:=eZ (iE (Nat.gcd_le_right _ (by omega))) ur
 refine (Lm Ib hgn (by omega) (by simp only [LM];omega)).bind ((Lm ur hgn (by omega) (by simp only [LM];omega)).bind ?_)
 generalize hu:x / Nat.gcd x y=u
 generalize hv:y / Nat.gcd x y=v
 have X3:(lm u).length≤n:=eZ (iE (by rw [← hu];exact Nat.div_le_self _ _)) Ib
 have Nb:(lm v).length≤n:=eZ (iE (by rw [← hv];exact Nat.div_le_self _ _)) ur
 refine (oN (neg:=!(a.fG == b.fG)) (k:=u) (n:=n) (by unfold ZB;rw [pP];exact X3) (by simp only [LM];omega)).bind ((oN (neg:=false) (k:=v) (n:=n) (by unfold ZB;rw [pP];exact Nb) (by simp only [LM];omega)).bind ((Gv.pure _).eq ?_))
 have V9:Int.gcd w z=Nat.gcd x y:=by unfold Int.gcd;rw [hxx,X6,Nat.gcd_comm]
 unfold bA
 rw [Rat.num_divInt,Rat.den_divInt,if_neg h0,V9,X6,hv]
 have hd:(Nat.gcd x y) ∣ x:=Nat.gcd_dvd_left _ _
 have e1:w.sign * z / ((Nat.gcd x y:Nat):Int)=sg (!(a.fG == b.fG)) u:=by
  have TO:(x:Int)=(Nat.gcd x y:Nat) * (u:Int):=by
   have:x=Nat.gcd x y * u:=by rw [← hu,Nat.mul_div_cancel' hd]
   exact_mod_cast this
  have e2:w.sign * z=(Nat.gcd x y:Nat) * sg (!(a.fG == b.fG)) u:=by
   rw [hX,hY]
   cases a.fG<;>cases b.fG<;>simp only [sg,cond_true,cond_false,Bool.not_true,Bool.not_false,BEq.rfl,show (true == false)=false from rfl,show (false == true)=false from rfl]
   ·rw [Int.sign_eq_one_of_pos (by omega),Int.one_mul,← TO]
   ·rw [Int.sign_eq_neg_one_of_neg (by omega),Int.mul_neg,← TO];omega
   ·rw [Int.sign_eq_one_of_pos (by omega),Int.one_mul,Int.mul_neg,← TO]
   ·rw [Int.sign_eq_neg_one_of_neg (by omega),← TO];omega
  rw [e2,Int.mul_ediv_cancel_left _ (by omega)]
 rw [e1];rfl
theorem X8:Gv (fun N=>rm N 1) (ya 1):=Hc (by decide) (by decide)
theorem ZI.Wc (ha:ZI a z n) (hb:ZI b w n) (h0:w=0) (hs:LM (4 * n+30)):Gv (fun N=>nO N a b) (bA (z:Rat)):=by
 simp only [LM] at hs
 refine (ha.read (by simp only [LM];omega)).bind ((hb.read (by simp only [LM];omega)).bind ?_)
 refine Gv.aR (by rw [h0];show (((lm 0).length:Nat):Int) == 0;rw [iQ];rfl) ?_
 have e:=ha.Ll
 have:=oN (neg:=a.fG) (k:=z.natAbs) (n:=n) (by rw [← e];exact ha.zb) (by simp only [LM];omega)
 rw [← e] at this
 exact this.bind (X8.bind (Gv.pure _))
theorem RQ.parts (h:RQ x p n):∃ z w,ZI x.fN z n∧ZI x.fD w n∧p=Rat.divInt z (if w=0 then 1 else w) :=
 ⟨zv x.fN,zv x.fD,⟨h.ir.num,rfl⟩,⟨h.ir.den,rfl⟩,h.v.symm⟩
theorem RQ.GP (h:RQ x p n) (hs:LM (4 * n+30)):Gv (fun N=>g7 N x) (bA p):=by
 obtain ⟨z,w,hz,hw,e⟩:=h.parts
 by_cases h0:w=0
 ·rw [if_pos h0] at e
  refine (hz.Wc hw h0 hs).bind ((Gv.pure _).eq ?_)
  rw [e,GN]
 ·rw [if_neg h0] at e
  refine (hz.kD hw h0 hs).bind ((Gv.pure _).eq ?_)
  rw [e]
theorem O4 (p q:Rat):Rat.divInt (p.num * q.den+q.num * p.den) (p.den * q.den)=p+q:=by
 conv=>rhs;rw [kW p,kW q]
 rw [Rat.divInt_add_divInt _ _ (nh p) (nh q)]
theorem RQ.Wb (hx:RQ x p m) (hy:RQ y q n) (hs:LM (4 * (m+n+1)+30)):Gv (fun N=>sQ N x y) (bA (p+q)):=by
 simp only [LM] at hs
 have bx:=hx.rb
 have LY:=hy.rb
 refine (hx.GP (by simp only [LM];omega)).bind ((hy.GP (by simp only [LM];omega)).bind ?_)
 refine (bx.num.zi.EI LY.den.zi (by simp only [LM];omega)).bind ((LY.num.zi.EI bx.den.zi (by simp only [LM];omega)).bind ?_)
 have e1:=(bx.num.mul LY.den).le (show m+n≤m+n by omega)
 have e2:=(LY.num.mul bx.den).le (show n+m≤m+n by omega)
 refine (e1.zi.Wb e2.zi (by simp only [LM];omega)).bind ((bx.den.zi.EI LY.den.zi (by simp only [LM];omega)).bind ?_)
 refine ((e1.add e2).zi.kD ((bx.den.mul LY.den).le (show m+n≤m+n+1 by omega)).zi (Int.mul_ne_zero (nh p) (nh q)) (by simp only [LM];omega)).bind ((Gv.pure _).eq ?_)
 rw [O4]
theorem RQ.TT (hx:RQ x p n) (hs:LM (4 * n+30)):Gv (fun N=>il N x) (bA (-p)):=by
 refine (hx.GP hs).bind ((hx.rb.num.zi.TT (by simp only [LM] at *;omega)).bind ((Gv.pure _).eq ?_))
 unfold bA;rw [Rat.neg_num,Rat.neg_den]
theorem RQ.abh (hx:RQ x p m) (hy:RQ y q n) (hs:LM (4 * (m+n+1)+30)):Gv (fun N=>sR N x y) (bA (p - q)):=by
 refine (hy.TT (by simp only [LM] at *;omega)).bind ((hx.Wb (hy.rb.neg.rq hy.pos) hs).bind ((Gv.pure _).eq ?_))
 rw [Rat.sub_eq_add_neg]
theorem RQ.EI (hx:RQ x p m) (hy:RQ y q n) (hs:LM (4 * (m+n+1)+30)):Gv (fun N=>mo N x y) (bA (p * q)):=by
 simp only [LM] at hs
 have bx:=hx.rb
 have LY:=hy.rb
 refine (hx.GP (by simp only [LM];omega)).bind ((hy.GP (by simp only [LM];omega)).bind ?_)
 refine (bx.num.zi.EI LY.num.zi (by simp only [LM];omega)).bind ((bx.den.zi.EI LY.den.zi (by simp only [LM];omega)).bind ?_)
 refine ((bx.num.mul LY.num).zi.kD (bx.den.mul LY.den).zi (Int.mul_ne_zero (nh p) (nh q)) (by simp only [LM];omega)).bind ((Gv.pure _).eq ?_)
 conv=>rhs;rw [kW p,kW q]
 rw [Rat.divInt_mul_divInt]
theorem RQ.abi (hx:RQ x p m) (hy:RQ y q n) (h0:q≠0) (hs:LM (4 * (m+n+1)+30)):Gv (fun N=>sS N x y) (bA (p / q)):=by
 simp only [LM] at hs
 have bx:=hx.rb
 have LY:=hy.rb
 refine (hx.GP (by simp only [LM];omega)).bind ((hy.GP (by simp only [LM];omega)).bind ?_)
 refine (bx.num.zi.EI LY.den.zi (by simp only [LM];omega)).bind ((bx.den.zi.EI LY.num.zi (by simp only [LM];omega)).bind ?_)
 refine ((bx.num.mul LY.den).zi.kD (bx.den.mul LY.num).zi (Int.mul_ne_zero (nh p) (Rl h0)) (by simp only [LM];omega)).bind ((Gv.pure _).eq ?_)
 conv=>rhs;rw [kW p,kW q]
 rw [qo (nh p) (nh q)]
end
end Go.Den
namespace Go.Den
open Go.Ab
section
variable (t s:Nat→Rat) (n:Nat)
def X9 (i:Nat) (y:Rat):Rat:=if i+1 < n∧t (i+1) < y then t (i+1) else y
def pc (i:Nat) (y:Rat):Rat:=if X9 t n i y≤t i then 0 else X9 t n i y - t i
def vs:Nat→Nat→Rat→Rat
 | 0,_,_=>0
 | k+1,i,y=>s i * pc t n i y+vs k (i+1) y
def fs:Nat→Rat
 | 0=>0
 | i+1=>fs i+s i * (t (i+1) - t i)
def ps (x:Rat):Rat:=if x < 0 then 0 else x
def Up:Prop:=∀ i,i+1 < n→t i < t (i+1)
end
section
variable {t s:Nat→Rat} {n:Nat} (up:Up t n)
include up
end
end Go.Den
namespace Go.Den
open Go.Ab
theorem aF.succ {α:Type} {f f':Nat→Nat→Option α} {r:α} (e:∀ N g,f N (g+1)=f' N g) (h:aF f' r):aF f r :=
 let ⟨N0,h0⟩:=h;.step N0 fun N g hN hg=>(e N g).trans (h0 N g hN hg)
theorem aF.bind {α β:Type} {f:Nat→Option α} {k:Nat→Nat→α→Option β} {r:α} {s:β} (h:Gv f r) (h2:aF (fun N g=>k N g r) s):aF (fun N g=>(f N).bind (k N g)) s:=by
 obtain ⟨N0,h⟩:=h
 obtain ⟨N1,h2⟩:=h2
 exact ⟨N0+N1,fun N g hN hg=>by dsimp only;rw [h N (by omega)];exact h2 N g (by omega) (by omega)⟩
theorem aF.aR {α:Type} {f g:Nat→Nat→Option α} {r:α} {q:Bool} (hq:q=true) (h:aF f r):aF (fun N n=>cond q (f N n) (g N n)) r:=by subst hq;exact h
theorem aF.bh {α:Type} {f g:Nat→Nat→Option α} {r:α} {q:Bool} (hq:q=false) (h:aF g r):aF (fun N n=>cond q (f N n) (g N n)) r:=by subst hq;exact h
theorem aF.if {α:Type} {f:Nat→Nat→Option α} {r:α} {p:Prop} [Decidable p] (hp:p) (h:aF f r):aF (fun N n=>if p then f N n else none) r:=by
 obtain ⟨N0,h⟩:=h
 exact ⟨N0,fun N g hN hg=>by dsimp only;rw [if_pos hp];exact h N g hN hg⟩
theorem aF.one {α:Type} {f:Nat→Option α} {r:α} (h:Gv f r):aF (fun N _=>f N) r:=let ⟨N0,h⟩:=h;⟨N0,fun N _ hN _=>h N hN⟩
theorem aF.eq {α:Type} {f:Nat→Nat→Option α} {r s:α} (h:aF f r) (e:r=s):aF f s:=e ▸ h
end Go.Den
namespace Go.Den
open Go.Ab
theorem RB.zero:RB 0 1:=RB.int (z:=0) (ZB.small (by decide)) (by decide)
section
end
end Go.Den
namespace Go.Den
open Go.Ab
theorem Cg {l:List aa} {i:Nat} (h:l.length≤i):l.getD i aa.d=aa.d:=by
 simp [List.getD,List.getElem?_eq_none_iff.2 h]
end Go.Den
namespace Go.Den
open Go.Ab
abbrev MS:Nat:=1000000000000
def Ev (p:Nat→Nat→Prop):Prop:=∃ N0,∀ N g,N0≤N→N0≤g→p N g
theorem Ev.of {p:Nat→Nat→Prop} (N0:Nat) (h:∀ N g,N0≤N→N0≤g→p N g):Ev p:=⟨N0,h⟩
theorem Gv.ev {α:Type} {f:Nat→Option α} {r:α} (h:Gv f r):Ev fun N _=>f N=some r:=let ⟨N0,h0⟩:=h;⟨N0,fun N _ hN _=>h0 N hN⟩
theorem Ev.and {p q:Nat→Nat→Prop} (h:Ev p) (k:Ev q):Ev fun N g=>p N g∧q N g:=by
 obtain ⟨a,ha⟩:=h;obtain ⟨b,hb⟩:=k
 exact ⟨a+b,fun N g h1 h2=>⟨ha N g (by omega) (by omega),hb N g (by omega) (by omega)⟩⟩
theorem Ev.mono {p q:Nat→Nat→Prop} (h:Ev p) (k:∀ N g,p N g→q N g):Ev q:=let ⟨a,ha⟩:=h;⟨a,fun N g h1 h2=>k N g (ha N g h1 h2)⟩
theorem Ev.succ {p:Nat→Nat→Prop} (h:Ev fun N g=>p N (g+1)):Ev p:=by
 obtain ⟨a,ha⟩:=h
 refine ⟨a+1,fun N g h1 h2=>?_⟩
 obtain ⟨g,rfl⟩:∃ g',g=g'+1:=⟨g - 1,by omega⟩
 exact ha N g (by omega) (by omega)
theorem Ev.diag {p:Nat→Nat→Prop} (h:Ev p):Ev fun N _=>p N N:=let ⟨a,ha⟩:=h;⟨a,fun N _ h1 _=>ha N N h1 h1⟩
theorem Ev.true {p:Nat→Nat→Prop} (h:∀ N g,p N g):Ev p:=⟨0,fun N g _ _=>h N g⟩
def We (A:List (List aa)) (i j:Nat):aa:=(A.getD i []).getD j aa.d
structure Ln (A:List (List aa)) (n w:Nat) (M:Nat→Nat→Rat):Prop where
 len:A.length=n
 row:∀ i,i < n→(A.getD i []).length=w
 We:∀ i j,i < n→j < w→RQ (We A i j) (M i j) MS
def mF (M:Nat→Nat→Rat) (i j:Nat) (v:Rat):Nat→Nat→Rat:=fun a b=>if a=i∧b=j then v else M a b
theorem kX {α:Type} (l:List α) (i:Nat) (x d:α) (h:i < l.length):(l.set i x).getD i d=x:=by
 simp [fB,List.getElem?_set_self h]
theorem iw {α:Type} (l:List α) {i j:Nat} (x d:α) (h:i≠j):(l.set i x).getD j d=l.getD j d:=by
 simp [fB,List.getElem?_set_ne h]
theorem Ln.set {A:List (List aa)} {n w:Nat} {M:Nat→Nat→Rat} (h:Ln A n w M) {i j:Nat} (hi:i < n) (hj:j < w) {x:aa} {v:Rat} (hx:RQ x v MS) :
  Ln (A.set i ((A.getD i []).set j x)) n w (mF M i j v):=by
 refine ⟨by rw [List.length_set];exact h.len,fun a ha=>?_,fun a b ha hb=>?_⟩
 ·by_cases e:i=a
  ·subst e;rw [kX _ _ _ _ (by rw [h.len];exact hi),List.length_set];exact h.row i hi
  ·rw [iw _ _ _ e];exact h.row a ha
 ·unfold Go.Den.We mF
  by_cases e:i=a
  ·subst e
   rw [kX _ _ _ _ (by rw [h.len];exact hi)]
   by_cases e2:j=b
   ·subst e2
    rw [kX _ _ _ _ (by rw [h.row i hi];exact hj),if_pos ⟨rfl,rfl⟩];exact hx
   ·rw [iw _ _ _ e2,if_neg (fun q=>e2 q.2.symm)];exact h.We i b ha hb
  ·rw [iw _ _ _ e,if_neg (fun q=>e q.1.symm)];exact h.We a b ha hb
theorem Ln.congr {A:List (List aa)} {n w:Nat} {M M':Nat→Nat→Rat} (h:Ln A n w M) (e:∀ i j,i < n→j < w→M i j=M' i j):Ln A n w M' :=
 ⟨h.len,h.row,fun i j hi hj=>e i j hi hj ▸ h.We i j hi hj⟩
def VB (M:Nat→Nat→Rat) (n w s:Nat):Prop:=∀ i j,i < n→j < w→RB (M i j) s
end Go.Den
namespace Go.Den
open Go.Ab
def Sm (M:Nat→Nat→Rat) (c d:Nat):Nat→Nat→Rat:=fun i j=>if i=c then M d j else if i=d then M c j else M i j
def Sn (M:Nat→Nat→Rat) (c t:Nat):Nat→Nat→Rat:=fun i j=>if i=c∧j < t then M c j / M c c else M i j
def MP (M:Nat→Nat→Rat) (g:Nat→Rat) (c t:Nat):Nat→Nat→Rat:=fun i j=>if i < t∧i≠c then M i j - g i * M c j else M i j
def stE (M:Nat→Nat→Rat) (n w c d:Nat):Nat→Nat→Rat:=MP (Sn (Sm M c d) c w) (fun i=>Sm M c d i c) c n
def stR (M:Nat→Nat→Rat) (n c d:Nat):Nat→Nat→Rat:=MP (Sm M c d) (fun i=>Sm M c d i c / Sm M c d c c) c n
structure Prl (M R:Nat→Nat→Rat) (n w c:Nat) (l:Nat→Rat):Prop where
 ne:∀ i,i < n→l i≠0
 eq:∀ i j,i < n→j < w→R i j=l i * M i j
 one:∀ i j,i < n→j < c→M i j=if i=j then 1 else 0
theorem Prl.step {M R:Nat→Nat→Rat} {n w c:Nat} {l:Nat→Rat} (h:Prl M R n w c l) (hc:c < n) (hw:n≤w) {d:Nat} (WN:c≤d) (TN:d < n) (h0:M d c≠0) :
  ∃ l',Prl (stE M n w c d) (stR R n c d) n w (c+1) l':=by
 let s:Nat→Nat:=fun i=>if i=c then d else if i=d then c else i
 have hs:∀ i,i < n→s i < n:=fun i hi=>by
  show (if i=c then d else if i=d then c else i) < n
  split
  ·exact TN
  ·split<;>omega
 have hM:∀ i j,Sm M c d i j=M (s i) j:=fun i j=>by
  show (if i=c then M d j else if i=d then M c j else M i j)=M (if i=c then d else if i=d then c else i) j
  split
  ·rfl
  ·split<;>rfl
 have hR:∀ i j,Sm R c d i j=R (s i) j:=fun i j=>by
  show (if i=c then R d j else if i=d then R c j else R i j)=R (if i=c then d else if i=d then c else i) j
  split
  ·rfl
  ·split<;>rfl
 have WO:s c=d:=if_pos rfl
 have WQ:c < w:=by omega
 refine ⟨fun i=>if i=c then l d * M d c else l (s i),fun i hi=>?_,fun i j hi hj=>?_,fun i j hi hj=>?_⟩
 ·split
  ·intro e
   rcases Rat.mul_eq_zero.1 e with e | e
   ·exact h.ne d TN e
   ·exact h0 e
  ·exact h.ne _ (hs i hi)
 ·simp only [stE,stR,MP]
  have e1:=h.eq (s i) j (hs i hi) hj
  have e2:=h.eq d j TN hj
  have e3:=h.eq (s i) c (hs i hi) WQ
  have e4:=h.eq d c TN WQ
  have hl:=h.ne d TN
  by_cases NY:i=c
  ·have hn:¬ (i < n∧i≠c):=fun q=>q.2 NY
   simp only [hn,if_false,NY,if_true,hR,WO,e2,Sn,hM,hj,and_self]
   grind
  ·have hn:i < n∧i≠c:=⟨hi,NY⟩
   simp only [hn,NY,if_true,if_false,not_false_eq_true,and_self,ne_eq,hR,WO,e1,e2,e3,e4,Sn,hM,false_and,hj]
   have:l d * M d c≠0:=fun e=>by
    rcases Rat.mul_eq_zero.1 e with e | e
    ·exact hl e
    ·exact h0 e
   grind
 ·have hz:∀ i,i < n→j < c→M i j=if i=j then 1 else 0:=fun i hi h1=>h.one i j hi h1
  simp only [stE,MP]
  by_cases hjc:j=c
  ·by_cases NY:i=c
   ·have hn:¬ (i < n∧i≠c):=fun q=>q.2 NY
    simp only [hn,if_false,NY,hjc,if_true,Sn,hM,WO,WQ,and_self]
    grind
   ·have hn:i < n∧i≠c:=⟨hi,NY⟩
    simp only [hn,NY,hjc,if_true,if_false,not_false_eq_true,and_self,ne_eq,Sn,hM,WO,false_and,WQ]
    grind
  ·have Ya:j < c:=by omega
   have hjw:j < w:=by omega
   have Pp:M d j=0:=by rw [hz d TN Ya,if_neg (by omega)]
   have abm:M (s i) j=if i=j then 1 else 0:=by
    rw [hz (s i) (hs i hi) Ya]
    have:(s i=j)↔(i=j):=by
     show ((if i=c then d else if i=d then c else i)=j)↔i=j
     split
     ·omega
     ·split<;>omega
    simp only [this]
   by_cases NY:i=c
   ·have hn:¬ (i < n∧i≠c):=fun q=>q.2 NY
    have Vn:¬ c=j:=fun q=>hjc q.symm
    simp only [hn,if_false,NY,if_true,Sn,hM,WO,hjw,and_self,Pp,Vn]
    grind
   ·have hn:i < n∧i≠c:=⟨hi,NY⟩
    simp only [hn,NY,if_true,if_false,not_false_eq_true,and_self,ne_eq,Sn,hM,WO,false_and,hjw,abm,Pp]
    grind
theorem VB.Sm {M:Nat→Nat→Rat} {n w s c d:Nat} (h:VB M n w s) (hc:c < n) (hd:d < n):VB (Sm M c d) n w s:=fun i j hi hj=>by
 unfold Go.Den.Sm
 split
 ·exact h d j hd hj
 ·split
  ·exact h c j hc hj
  ·exact h i j hi hj
theorem VB.Sn {M:Nat→Nat→Rat} {n w s c t:Nat} (h:VB M n w s) (hc:c < n) (WQ:c < w) (h0:M c c≠0):VB (Sn M c t) n w (s+s):=fun i j hi hj=>by
 unfold Go.Den.Sn
 split
 ·exact (h c j hc hj).div (h c c hc WQ) h0
 ·exact (h i j hi hj).le (by omega)
theorem VB.MP {M:Nat→Nat→Rat} {n w s c t:Nat} {g:Nat→Rat} (h:VB M n w s) (hg:∀ i,i < n→RB (g i) s) (hc:c < n):VB (MP M g c t) n w (s+(s+s)+1):=fun a j ha hj=>by
 unfold Go.Den.MP
 split
 ·exact (h a j ha hj).sub ((hg a ha).mul (h c j hc hj))
 ·exact (h a j ha hj).le (by omega)
end Go.Den
namespace Go.Den
open Go.Ab
theorem J8 {a:Nat} (h:a≤MS+MS+1):SM (2 * a+2):=by simp only [SM,MS] at *;omega
theorem Ln.at {A:List (List aa)} {n w:Nat} {M:Nat→Nat→Rat} (h:Ln A n w M) {i j:Nat} (hi:i < n) (hj:j < w):RQ ((A.getD i []).getD j aa.d) (M i j) MS:=h.We i j hi hj
theorem inl {m n k:Nat} (h:m < n) (e:k=n):0≤(m:Int)∧(m:Int) < ((k:Nat):Int):=⟨by omega,by omega⟩
theorem MQ {m n k:Nat} (h:m < n) (e:k=n):decide ((m:Int) < ((k:Nat):Int))=true:=by simp;omega
theorem NZ {m n k:Nat} (h:n≤m) (e:k=n):decide ((m:Int) < ((k:Nat):Int))=false:=by simp;omega
section
variable {A:List (List aa)} {n w c:Nat} {M:Nat→Nat→Rat}
end
end Go.Den
namespace Go.Den
open Go.Ab
def bG:Nat→(Nat→Rat)→Rat
 | 0,_=>0
 | n+1,f=>bG n f+f n
theorem aY {n:Nat} {f g:Nat→Rat} (h:∀ i,i < n→f i=g i):bG n f=bG n g:=by
 induction n with
 | zero=>rfl
 | succ n ih=>rw [bG,bG,ih fun i hi=>h i (by omega),h n (by omega)]
theorem rI (n:Nat) (f g:Nat→Rat):bG n (fun i=>f i+g i)=bG n f+bG n g:=by
 induction n with
 | zero=>show (0:Rat)=0+0;grind
 | succ n ih=>rw [bG,bG,bG,ih];grind
theorem jP (n:Nat) (c:Rat) (f:Nat→Rat):bG n (fun i=>c * f i)=c * bG n f:=by
 induction n with
 | zero=>show (0:Rat)=c * 0;grind
 | succ n ih=>rw [bG,bG,ih];grind
theorem kY (n:Nat):bG n (fun _=>0)=0:=by
 induction n with
 | zero=>rfl
 | succ n ih=>rw [bG,ih];grind
theorem iV {n j:Nat} (hj:j < n) (f:Nat→Rat) (h:∀ i,i < n→i≠j→f i=0):bG n f=f j:=by
 induction n with
 | zero=>omega
 | succ n ih =>
  rw [bG]
  by_cases e:j=n
  ·subst e
   rw [aY (g:=fun _=>0) fun i hi=>h i (by omega) (by omega),kY];grind
  ·rw [ih (by omega) fun i hi fx=>h i (by omega) fx,h n (by omega) (by omega)];grind
theorem tZ {n j:Nat} (hj:j < n) (f:Nat→Rat):bG n f=f j+bG n (fun i=>if i=j then 0 else f i):=by
 have e:bG n f=bG n (fun i=>(if i=j then f j else 0)+(if i=j then 0 else f i)):=aY fun i _=>by
  split
  ·rename_i h;subst h;grind
  ·grind
 rw [e,rI,iV hj (fun i=>if i=j then f j else 0) fun i _ h=>if_neg h,if_pos rfl]
structure bJ where
 iy:Nat→Nat
 fr:Nat→Nat
 a:Nat→Nat→Rat
 b:Nat→Rat
 g:Nat→Rat
 v:Rat
namespace bJ
def row (D:bJ) (k:Nat) (x:Nat→Rat) (i:Nat):Rat:=D.b i+bG k fun j=>D.a i j * x (D.fr j)
def J9 (D:bJ) (m k:Nat) (x:Nat→Rat):Prop:=∀ i,i < m→x (D.iy i)=D.row k x i
def gv (D:bJ) (k:Nat) (x:Nat→Rat):Rat:=D.v+bG k fun j=>D.g j * x (D.fr j)
structure WF (D:bJ) (m k:Nat):Prop where
 bi:∀ i i',i < m→i' < m→D.iy i=D.iy i'→i=i'
 fi:∀ j j',j < k→j' < k→D.fr j=D.fr j'→j=j'
 bf:∀ i j,i < m→j < k→D.iy i≠D.fr j
 bl:∀ i,i < m→D.iy i < m+k
 fl:∀ j,j < k→D.fr j < m+k
 al:∀ u,u < m+k→(∃ i,i < m∧D.iy i=u)∨∃ j,j < k∧D.fr j=u
def ou (D:bJ) (i j k:Nat):Rat:=if k=j then 1 / D.a i j else -(D.a i k / D.a i j)
def pb (D:bJ) (i j:Nat):Rat:=-(D.b i / D.a i j)
def jQ (D:bJ) (i j:Nat):bJ where
 iy:=fun r=>if r=i then D.fr j else D.iy r
 fr:=fun c=>if c=j then D.iy i else D.fr c
 a:=fun r c=>if r=i then D.ou i j c else if c=j then D.a r j * D.ou i j c else D.a r c+D.a r j * D.ou i j c
 b:=fun r=>if r=i then D.pb i j else D.b r+D.a r j * D.pb i j
 g:=fun c=>if c=j then D.g j * D.ou i j c else D.g c+D.g j * D.ou i j c
 v:=D.v+D.g j * D.pb i j
theorem WF.jQ {D:bJ} {m k i j:Nat} (h:D.WF m k) (hi:i < m) (hj:j < k):(D.jQ i j).WF m k:=by
 refine ⟨fun r r' hr Bl e=>?_,fun c c' hc oU e=>?_,fun r c hr hc e=>?_,fun r hr=>?_,fun c hc=>?_,fun u hu=>?_⟩
 ·simp only [bJ.jQ] at e
  split at e<;>split at e
  ·omega
  ·exact absurd e.symm (h.bf _ _ Bl hj)
  ·exact absurd e (h.bf _ _ hr hj)
  ·exact h.bi _ _ hr Bl e
 ·simp only [bJ.jQ] at e
  split at e<;>split at e
  ·omega
  ·exact absurd e (h.bf _ _ hi oU)
  ·exact absurd e.symm (h.bf _ _ hi hc)
  ·exact h.fi _ _ hc oU e
 ·simp only [bJ.jQ] at e
  split at e<;>split at e
  ·exact h.bf _ _ hi hj e.symm
  ·rename_i h1 h2;exact h2 (h.fi _ _ hc hj e.symm)
  ·rename_i h1 h2;exact h1 (h.bi _ _ hr hi e)
  ·exact h.bf _ _ hr hc e
 ·simp only [bJ.jQ];split
  ·exact h.fl j hj
  ·exact h.bl r hr
 ·simp only [bJ.jQ];split
  ·exact h.bl i hi
  ·exact h.fl c hc
 ·rcases h.al u hu with ⟨r,hr,e⟩ | ⟨c,hc,e⟩
  ·by_cases q:r=i
   ·subst q;exact .inr ⟨j,hj,by simp only [bJ.jQ,if_pos];exact e⟩
   ·exact .inl ⟨r,hr,by simp only [bJ.jQ,if_neg q];exact e⟩
  ·by_cases q:c=j
   ·subst q;exact .inl ⟨i,hi,by simp only [bJ.jQ,if_pos];exact e⟩
   ·exact .inr ⟨c,hc,by simp only [bJ.jQ,if_neg q];exact e⟩
theorem JK {D:bJ} {k i j:Nat} (hj:j < k) (h0:D.a i j≠0) {x:Nat→Rat} (hs:x (D.iy i)=D.row k x i∨x (D.fr j)=(D.jQ i j).row k x i) :
  x (D.fr j)=D.pb i j+bG k fun c=>D.ou i j c * x ((D.jQ i j).fr c):=by
 rcases hs with hs | hs
 ·rw [tZ hj]
  have e1:(fun c=>if c=j then (0:Rat) else D.ou i j c * x ((D.jQ i j).fr c))=fun c=>(-(1 / D.a i j)) * (if c=j then 0 else D.a i c * x (D.fr c)):=by
   funext c
   by_cases q:c=j
   ·simp only [q,if_true];grind
   ·simp only [bJ.ou,bJ.jQ,q,if_false];grind
  rw [e1,jP]
  unfold bJ.row at hs
  rw [tZ hj] at hs
  simp only [bJ.ou,bJ.jQ,if_true,bJ.pb]
  rw [hs]
  grind
 ·rw [hs]
  simp only [bJ.row,bJ.jQ,if_true]
theorem Lo {D:bJ} {k i j:Nat} (hj:j < k) (f:Nat→Rat) {x:Nat→Rat} {p:Rat} (hx:x (D.fr j)=p+bG k fun c=>D.ou i j c * x ((D.jQ i j).fr c)) :
  (f j * p+bG k fun c=>(if c=j then f j * D.ou i j c else f c+f j * D.ou i j c) * x ((D.jQ i j).fr c))=bG k fun c=>f c * x (D.fr c):=by
 have e1:bG k (fun c=>(if c=j then f j * D.ou i j c else f c+f j * D.ou i j c) * x ((D.jQ i j).fr c))=bG k (fun c=>(if c=j then 0 else f c * x (D.fr c))+f j * (D.ou i j c * x ((D.jQ i j).fr c))):=aY fun c _=>by
  by_cases q:c=j
  ·simp only [q,if_true];grind
  ·simp only [q,if_false,bJ.jQ];grind
 rw [e1,rI,jP,tZ hj (fun c=>f c * x (D.fr c)),hx]
 grind
theorem J9.jQ {D:bJ} {m k i j:Nat} (hi:i < m) (hj:j < k) (h0:D.a i j≠0) {x:Nat→Rat}:(D.jQ i j).J9 m k x↔D.J9 m k x:=by
 have key:∀ r,r≠i→x (D.fr j)=D.pb i j+bG k (fun c=>D.ou i j c * x ((D.jQ i j).fr c))→(D.jQ i j).row k x r=D.row k x r:=fun r hr hx=>by
  have e:=Lo hj (fun c=>D.a r c) hx
  simp only [bJ.row]
  rw [← e]
  simp only [bJ.jQ,hr,if_false]
  grind
 constructor
 ·intro h r hr
  have h1:=h i hi
  have h2:x (D.fr j)=(D.jQ i j).row k x i:=by rw [← h1];simp [bJ.jQ]
  have hx:=JK hj h0 (.inr h2)
  by_cases q:r=i
  ·subst q
   -- solve for the basic variable
   have e:=hx
   rw [tZ hj] at e
   have e1:(fun c=>if c=j then (0:Rat) else D.ou r j c * x ((D.jQ r j).fr c))=fun c=>(-(1 / D.a r j)) * (if c=j then 0 else D.a r c * x (D.fr c)):=by
    funext c
    by_cases q:c=j
    ·simp only [q,if_true];grind
    ·simp only [bJ.ou,bJ.jQ,q,if_false];grind
   rw [e1,jP] at e
   simp only [bJ.ou,bJ.jQ,if_true,bJ.pb] at e
   unfold bJ.row
   rw [tZ hj]
   grind
  ·have h3:=h r hr
   rw [key r q hx] at h3
   rw [← h3]
   simp [bJ.jQ,q]
 ·intro h r hr
  have hx:=JK hj h0 (.inl (h i hi))
  by_cases q:r=i
  ·subst q
   simp only [bJ.row,bJ.jQ,if_true]
   exact hx
  ·rw [key r q hx,← h r hr]
   simp [bJ.jQ,q]
theorem Wf {D:bJ} {m k i j:Nat} (hi:i < m) (hj:j < k) (h0:D.a i j≠0) {x:Nat→Rat} (hs:D.J9 m k x):(D.jQ i j).gv k x=D.gv k x:=by
 have hx:=JK hj h0 (.inl (hs i hi))
 have e:=Lo hj D.g hx
 simp only [bJ.gv]
 rw [← e]
 simp only [bJ.jQ]
 grind
def Pr (D:bJ):Nat→Nat→Option Nat
 | 0,_=>none
 | m+1,u=>if D.iy m=u then some m else Pr D m u
theorem E1 {D:bJ}:∀ {m i:Nat},(∀ i i',i < m→i' < m→D.iy i=D.iy i'→i=i')→i < m→D.Pr m (D.iy i)=some i
 | 0,i,_,hi=>by omega
 | m+1,i,h,hi=>by
  rw [Pr]
  by_cases e:D.iy m=D.iy i
  ·rw [if_pos e,h m i (by omega) hi e]
  ·rw [if_neg e]
   exact E1 (fun i i' h1 h2=>h i i' (by omega) (by omega)) (Nat.lt_of_le_of_ne (by omega) fun q=>e (by rw [q]))
theorem Ch {D:bJ} {u:Nat}:∀ {m:Nat},(∀ i,i < m→D.iy i≠u)→D.Pr m u=none
 | 0,_=>rfl
 | m+1,h=>by rw [Pr,if_neg (h m (by omega))];exact Ch fun i hi=>h i (by omega)
def ext (D:bJ) (m k:Nat) (y:Nat→Rat) (u:Nat):Rat:=match D.Pr m u with
 | some i=>D.row k y i
 | none=>y u
theorem uG {D:bJ} {m k i:Nat} (h:D.WF m k) (hi:i < m) (y:Nat→Rat):D.ext m k y (D.iy i)=D.row k y i:=by unfold ext;rw [E1 h.bi hi]
theorem vp {D:bJ} {m k j:Nat} (h:D.WF m k) (hj:j < k) (y:Nat→Rat):D.ext m k y (D.fr j)=y (D.fr j):=by
 unfold ext;rw [Ch fun i hi=>h.bf i j hi hj]
theorem sZ {D:bJ} {m k:Nat} (h:D.WF m k) (y:Nat→Rat):D.J9 m k (D.ext m k y):=fun i hi=>by
 rw [uG h hi]
 unfold bJ.row
 congr 1
 exact aY fun j hj=>by rw [vp h hj]
theorem GQ {D:bJ} {m k:Nat} (h:D.WF m k) (y:Nat→Rat):D.gv k (D.ext m k y)=D.gv k y:=by
 unfold bJ.gv
 congr 1
 exact aY fun j hj=>by rw [vp h hj]
def one (u:Nat):Nat→Rat:=fun w=>if w=u then 1 else 0
def uq:Nat→Rat:=fun _=>0
theorem s6 (D:bJ) (k i:Nat):D.row k uq i=D.b i:=by
 unfold row uq
 rw [aY (g:=fun _=>0) fun j _=>by grind,kY];grind
theorem row_one {D:bJ} {m k j:Nat} (h:D.WF m k) (hj:j < k) (i:Nat):D.row k (one (D.fr j)) i=D.b i+D.a i j:=by
 unfold row one
 rw [iV hj _ fun c hc fx=>by rw [if_neg fun e=>fx (h.fi _ _ hc hj e)];grind]
 rw [if_pos rfl];grind
theorem JL (D:bJ) (k:Nat):D.gv k uq=D.v:=by
 unfold gv uq
 rw [aY (g:=fun _=>0) fun j _=>by grind,kY];grind
theorem MR {D:bJ} {m k j:Nat} (h:D.WF m k) (hj:j < k):D.gv k (one (D.fr j))=D.v+D.g j:=by
 unfold gv one
 rw [iV hj _ fun c hc fx=>by rw [if_neg fun e=>fx (h.fi _ _ hc hj e)];grind]
 rw [if_pos rfl];grind
structure Ct (m k:Nat) (D D':bJ):Prop where
 N3:∀ x,D.J9 m k x↔D'.J9 m k x
 gv:∀ x,D.J9 m k x→D.gv k x=D'.gv k x
theorem Ct.refl (m k:Nat) (D:bJ):Ct m k D D:=⟨fun _=>Iff.rfl,fun _ _=>rfl⟩
theorem Ct.symm {m k:Nat} {D D':bJ} (h:Ct m k D D'):Ct m k D' D:=⟨fun x=>(h.N3 x).symm,fun x hx=>(h.gv x ((h.N3 x).2 hx)).symm⟩
theorem Ct.trans {m k:Nat} {D D' D'':bJ} (h:Ct m k D D') (h':Ct m k D' D''):Ct m k D D'' :=
 ⟨fun x=>(h.N3 x).trans (h'.N3 x),fun x hx=>(h.gv x hx).trans (h'.gv x ((h.N3 x).1 hx))⟩
theorem Ct.jQ {m k i j:Nat} {D:bJ} (hi:i < m) (hj:j < k) (h0:D.a i j≠0):Ct m k D (D.jQ i j) :=
 ⟨fun _=>(J9.jQ hi hj h0).symm,fun _ hx=>(Wf hi hj h0 hx).symm⟩
def y7 (D:bJ) (m u:Nat):Prop:=∃ i,i < m∧D.iy i=u
theorem zR {D:bJ} {m k:Nat} (h:D.WF m k) {u:Nat} (hu:u < m+k) (hn:¬ D.y7 m u):∃ j,j < k∧D.fr j=u:=(h.al u hu).resolve_left hn
theorem y8 {D:bJ} {m k:Nat} {x y:Nat→Rat} (hx:D.J9 m k x) (hf:∀ j,j < k→x (D.fr j)=y (D.fr j)) {i:Nat} (hi:i < m):x (D.iy i)=D.row k y i:=by
 rw [hx i hi];unfold row;congr 1
 exact aY fun j hj=>by rw [hf j hj]
theorem uniq {D D':bJ} {m k:Nat} (h:D.WF m k) (h':D'.WF m k) (e:Ct m k D D') (hb:∀ u,D.y7 m u→D'.y7 m u) :
  (∀ i i',i < m→i' < m→D.iy i=D'.iy i'→D.b i=D'.b i')∧(∀ i j i' j',i < m→i' < m→j < k→j' < k→D.iy i=D'.iy i'→D.fr j=D'.fr j'→D.a i j=D'.a i' j') ∧
   (∀ j j',j < k→j' < k→D.fr j=D'.fr j'→D.g j=D'.g j')∧D.v=D'.v:=by
 have hf:∀ j',j' < k→∃ j,j < k∧D.fr j=D'.fr j':=fun j' zk=>zR h (h'.fl j' zk) fun q=>by
  obtain ⟨i,hi,e⟩:=hb _ q
  exact h'.bf i j' hi zk e
 have key:∀ y,(∀ i i',i < m→i' < m→D.iy i=D'.iy i'→D.row k y i=D'.row k y i')∧D.gv k y=D'.gv k y:=fun y=>by
  have hs:=sZ h y
  have HF:=(e.N3 _).1 hs
  have Pm:∀ j',j' < k→D.ext m k y (D'.fr j')=y (D'.fr j'):=fun j' zk=>by
   obtain ⟨j,hj,q⟩:=hf j' zk
   rw [← q,vp h hj]
  refine ⟨fun i i' hi rN q=>?_,?_⟩
  ·rw [← uG h hi y,q]
   exact y8 HF Pm rN
  ·rw [← GQ h y,e.gv _ hs]
   unfold gv;congr 1
   exact aY fun j hj=>by rw [Pm j hj]
 have Wg:∀ i i',i < m→i' < m→D.iy i=D'.iy i'→D.b i=D'.b i':=fun i i' hi rN q=>by
  have:=(key uq).1 i i' hi rN q
  rwa [s6,s6] at this
 have hv:D.v=D'.v:=by have:=(key uq).2;rwa [JL,JL] at this
 refine ⟨Wg,fun i j i' j' hi rN hj zk q1 q2=>?_,fun j j' hj zk q=>?_,hv⟩
 ·have:=(key (one (D.fr j))).1 i i' hi rN q1
  rw [row_one h hj,q2,row_one h' zk,Wg i i' hi rN q1] at this
  grind
 ·have:=(key (one (D.fr j))).2
  rw [MR h hj,q,MR h' zk,hv] at this
  grind
end bJ
end Go.Den
namespace Go.Den
open Go.Ab
namespace bJ
structure E2 (D:bJ) (k j:Nat):Prop where
 lt:j < k
 pos:0 < D.g j
 min:∀ j',j' < k→0 < D.g j'→D.fr j≤D.fr j'
def ratio (D:bJ) (j i:Nat):Rat:=D.b i / -(D.a i j)
structure Ci (D:bJ) (m j i:Nat):Prop where
 lt:i < m
 neg:D.a i j < 0
 min:∀ i',i' < m→D.a i' j < 0→D.ratio j i < D.ratio j i'∨D.ratio j i=D.ratio j i'∧D.iy i≤D.iy i'
def Lp (D:bJ) (m:Nat):Prop:=∀ i,i < m→0≤D.b i
def Step (m k:Nat) (D D':bJ):Prop:=∃ j i,D.E2 k j∧D.Ci m j i∧D'=D.jQ i j
theorem MT {x y a:Rat} (ha:0 < a) (h:x≤y / a):x * a≤y:=by
 have e:y / a * a=y:=by grind
 have:=Rat.mul_le_mul_of_nonneg_right h (Rat.le_of_lt ha)
 rwa [e] at this
theorem GR {x a:Rat} (ha:0 < a) (h:0≤x):0≤x / a:=by
 rw [Rat.div_def]
 exact Rat.mul_nonneg h (Rat.le_of_lt (Rat.inv_pos.2 ha))
theorem Lq (D:bJ) (i j:Nat):D.pb i j=D.ratio j i:=by
 unfold pb ratio
 by_cases h:D.a i j=0
 ·rw [h];simp [Rat.div_def]
 ·have:-(D.a i j)≠0:=by grind
  grind
theorem Lp.ratio {D:bJ} {m i j:Nat} (h:D.Lp m) (hi:i < m) (hn:D.a i j < 0):0≤D.ratio j i:=GR (by grind) (h i hi)
theorem Ci.le {D:bJ} {m j i r:Nat} (h:D.Ci m j i) (hr:r < m) (hn:D.a r j < 0):D.ratio j i≤D.ratio j r:=by
 rcases h.min r hr hn with h1 | ⟨h1,_⟩
 ·exact Rat.le_of_lt h1
 ·rw [h1];exact Rat.le_refl
theorem Lp.jQ {D:bJ} {m i j:Nat} (h:D.Lp m) (hl:D.Ci m j i):(D.jQ i j).Lp m:=fun r hr=>by
 have h0:=h.ratio hl.lt hl.neg
 simp only [bJ.jQ,Lq]
 split
 ·exact h0
 ·by_cases hn:D.a r j < 0
  ·have h1:=MT (a:=-(D.a r j)) (by grind) (hl.le hr hn)
   have:=h r hr
   grind
  ·have h1:=Rat.mul_nonneg (Rat.not_lt.1 hn) h0
   have:=h r hr
   grind
theorem JM {D:bJ} {m k i j u:Nat} (h:D.WF m k) (hi:i < m):(D.jQ i j).y7 m u↔(D.y7 m u∧u≠D.iy i)∨u=D.fr j:=by
 constructor
 ·rintro ⟨r,hr,e⟩
  simp only [bJ.jQ] at e
  split at e
  ·exact .inr e.symm
  ·rename_i hn
   exact .inl ⟨⟨r,hr,e⟩,fun q=>hn (h.bi _ _ hr hi (e.trans q))⟩
 ·rintro (⟨⟨r,hr,e⟩,hn⟩ | e)
  ·exact ⟨r,hr,by simp only [bJ.jQ];rw [if_neg fun q=>hn (by rw [← e,q])];exact e⟩
  ·exact ⟨i,hi,by simp only [bJ.jQ,if_pos];exact e.symm⟩
theorem Rr:∀ (M:Nat) (f:Nat→Nat),(∀ i,f i < M)→∃ i j,i < j∧f i=f j
 | 0,f,h=>absurd (h 0) (dT _)
 | M+1,f,h=>by
  by_cases hM:∃ N,∀ i,N≤i→f i≠M
  ·obtain ⟨N,hN⟩:=hM
   obtain ⟨i,j,h1,h2⟩:=Rr M (fun i=>f (i+N)) fun i=>by
    have:=h (i+N);have:=hN (i+N) (by omega);omega
   exact ⟨i+N,j+N,by omega,h2⟩
  ·have hM:∀ N,∃ i,N≤i∧f i=M:=fun N=>pU fun q=>hM ⟨N,fun i hi e=>q ⟨i,hi,e⟩⟩
   obtain ⟨i,_,h1⟩:=hM 0
   obtain ⟨j,h2,h3⟩:=hM (i+1)
   exact ⟨i,j,by omega,h1.trans h3.symm⟩
open Classical in
noncomputable def enc (p:Nat→Prop):Nat→Nat
 | 0=>0
 | n+1=>2 * enc p n+if p n then 1 else 0
theorem Rs (p:Nat→Prop):∀ n,enc p n < 2 ^ n
 | 0=>by simp [enc]
 | n+1=>by
  have:=Rs p n
  rw [enc,Nat.pow_succ]
  split<;>omega
theorem JN {p q:Nat→Prop}:∀ {n:Nat},enc p n=enc q n→∀ u,u < n→(p u↔q u)
 | 0,_,u,hu=>by omega
 | n+1,h,u,hu=>by
  rw [enc,enc] at h
  by_cases e:u=n
  ·subst e
   by_cases h1:p u<;>by_cases h2:q u<;>simp only [h1,h2,if_true,if_false] at h ⊢<;>omega
  ·refine JN (n:=n) ?_ u (by omega)
   split at h<;>split at h<;>omega
theorem Rt {f:Nat→Nat} {a:Nat}:∀ n,∃ x,a≤x∧x≤a+n∧∀ y,a≤y→y≤a+n→f y≤f x
 | 0=>⟨a,az _,az _,fun y h1 h2=>by rw [show y=a by omega];exact az _⟩
 | n+1=>by
  obtain ⟨x,h1,h2,h3⟩:=Rt (f:=f) (a:=a) n
  by_cases h:f x≤f (a+(n+1))
  ·refine ⟨a+(n+1),by omega,az _,fun y q1 q2=>?_⟩
   by_cases e:y=a+(n+1)
   ·rw [e];exact az _
   ·exact eZ (h3 y q1 (by omega)) h
  ·refine ⟨x,h1,by omega,fun y q1 q2=>?_⟩
   by_cases e:y=a+(n+1)
   ·rw [e];omega
   ·exact h3 y q1 (by omega)
theorem Lr:∀ {n:Nat} {f:Nat→Rat},0 < bG n f→∃ j,j < n∧0 < f j
 | 0,f,h=>by simp only [bG] at h;exact absurd h (by decide)
 | n+1,f,h=>by
  by_cases h1:0 < f n
  ·exact ⟨n,by omega,h1⟩
  ·rw [bG] at h
   obtain ⟨j,hj,h2⟩:=Lr (n:=n) (f:=f) (by grind)
   exact ⟨j,by omega,h2⟩
theorem MU {m k:Nat} {s:Nat→bJ} (hw:(s 0).WF m k) (hf:(s 0).Lp m) (hs:∀ n,Step m k (s n) (s (n+1))):False:=by
 obtain ⟨J,hJ⟩:=Classical.axiomOfChoice hs
 obtain ⟨I,st⟩:=Classical.axiomOfChoice hJ
 clear hJ hs
 have h0:∀ n,(s n).a (I n) (J n)≠0:=fun n=>by have:=(st n).2.1.neg;grind
 have GS:∀ n,(s n).WF m k:=fun n=>by
  induction n with
  | zero=>exact hw
  | succ n ih=>rw [(st n).2.2];exact ih.jQ (st n).2.1.lt (st n).1.lt
 have ZL:∀ n,(s n).Lp m:=fun n=>by
  induction n with
  | zero=>exact hf
  | succ n ih=>rw [(st n).2.2];exact ih.jQ (st n).2.1
 have he:∀ n,Ct m k (s 0) (s n):=fun n=>by
  induction n with
  | zero=>exact .refl _ _ _
  | succ n ih=>rw [(st n).2.2];exact ih.trans (.jQ (st n).2.1.lt (st n).1.lt (h0 n))
 have Zb:∀ a b,Ct m k (s a) (s b):=fun a b=>(he a).symm.trans (he b)
 have hB:∀ n u,(s (n+1)).y7 m u↔((s n).y7 m u∧u≠(s n).iy (I n))∨u=(s n).fr (J n):=fun n u=>by
  rw [(st n).2.2];exact JM (GS n) (st n).2.1.lt
 have Yb:∀ n j,j < k→¬ (s n).y7 m ((s n).fr j):=fun n j hj ⟨i,hi,e⟩=>(GS n).bf i j hi hj e
 -- a basis comes again
 obtain ⟨A,B,hAB,hen⟩:=Rr (2 ^ (m+k)) (fun n=>enc (fun u=>(s n).y7 m u) (m+k)) fun n=>Rs _ _
 have hbs:∀ u,(s A).y7 m u→(s B).y7 m u:=fun u hu=>by
  obtain ⟨i,hi,e⟩:=id hu
  exact (JN hen u (e ▸ (GS A).bl i hi)).1 hu
 have abn:∀ u,(s B).y7 m u→(s A).y7 m u:=fun u hu=>by
  obtain ⟨i,hi,e⟩:=id hu
  exact (JN hen u (e ▸ (GS B).bl i hi)).2 hu
 have hv:(s A).v=(s B).v:=(uniq (GS A) (GS B) (Zb A B) hbs).2.2.2
 have hpb:∀ n,0≤(s n).ratio (J n) (I n):=fun n=>(ZL n).ratio (st n).2.1.lt (st n).2.1.neg
 have VC:∀ n,(s (n+1)).v=(s n).v+(s n).g (J n) * (s n).ratio (J n) (I n):=fun n=>by rw [(st n).2.2,← Lq];rfl
 have Yc:∀ n,(s n).v≤(s (n+1)).v:=fun n=>by
  have:=Rat.mul_nonneg (Rat.le_of_lt (st n).1.pos) (hpb n)
  have:=VC n
  grind
 have Yd:∀ a d,(s a).v≤(s (a+d)).v:=fun a d=>by
  induction d with
  | zero=>exact Rat.le_refl
  | succ d ih=>exact Rat.le_trans ih (Yc _)
 have Wg:∀ n,A≤n→n < B→(s n).ratio (J n) (I n)=0:=fun n h1 h2=>by
  have e1:=Yd A (n - A)
  have e2:=Yd (n+1) (B - (n+1))
  rw [show A+(n - A)=n by omega] at e1
  rw [show n+1+(B - (n+1))=B by omega] at e2
  have e3:=VC n
  have e4:=hpb n
  have e5:=(st n).1.pos
  have e6:(s n).g (J n) * (s n).ratio (J n) (I n)=0:=by
   have:=Rat.mul_nonneg (Rat.le_of_lt e5) e4
   grind
  rcases Rat.mul_eq_zero.1 e6 with h | h
  ·rw [h] at e5;exact absurd e5 (by decide)
  ·exact h
 have hbi:∀ n,A≤n→n < B→(s n).b (I n)=0:=fun n h1 h2=>by
  have e:=Wg n h1 h2
  have hn:=(st n).2.1.neg
  unfold ratio at e
  have:(s n).b (I n) / -((s n).a (I n) (J n)) * -((s n).a (I n) (J n))=(s n).b (I n):=by grind
  rw [e] at this
  grind
 -- one point for all
 let x0:=(s A).ext m k uq
 have Qy:∀ n,(s n).J9 m k x0:=fun n=>((Zb A n).N3 _).1 (sZ (GS A) uq)
 have Zc:∀ d,A+d≤B→∀ j,j < k→x0 ((s (A+d)).fr j)=0:=fun d=>by
  induction d with
  | zero=>intro _ j hj;exact vp (GS A) hj uq
  | succ d ih =>
   intro hd j hj
   have ih:=ih (by omega)
   show x0 ((s (A+d+1)).fr j)=0
   rw [(st (A+d)).2.2]
   simp only [bJ.jQ]
   split
   ·rw [y8 (y:=uq) (Qy (A+d)) ih (st (A+d)).2.1.lt,s6]
    exact hbi _ (by omega) (by omega)
   ·exact ih j hj
 have Zc:∀ n,A≤n→n≤B→∀ j,j < k→x0 ((s n).fr j)=0:=fun n h1 h2=>by
  have:=Zc (n - A) (by omega)
  rwa [show A+(n - A)=n by omega] at this
 have hxb:∀ n,A≤n→n≤B→∀ i,i < m→(s n).b i=x0 ((s n).iy i):=fun n h1 h2 i hi=>by
  rw [y8 (y:=uq) (Qy n) (Zc n h1 h2) hi,s6]
 -- what stays out, what stays in
 have out:∀ a d u,¬ (s a).y7 m u→(∀ n,a≤n→n < a+d→(s n).fr (J n)≠u)→¬ (s (a+d)).y7 m u:=fun a d u h1=>by
  induction d with
  | zero=>intro _;exact h1
  | succ d ih =>
   intro h2 h3
   rcases (hB (a+d) u).1 h3 with ⟨h4,_⟩ | h4
   ·exact ih (fun n q1 q2=>h2 n q1 (by omega)) h4
   ·exact h2 (a+d) (by omega) (by omega) h4.symm
 have inn:∀ a d u,(s a).y7 m u→(∀ n,a≤n→n < a+d→(s n).iy (I n)≠u)→(s (a+d)).y7 m u:=fun a d u h1=>by
  induction d with
  | zero=>intro _;exact h1
  | succ d ih =>
   intro h2
   exact (hB (a+d) u).2 (.inl ⟨ih (fun n q1 q2=>h2 n q1 (by omega)),fun q=>h2 (a+d) (by omega) (by omega) q.symm⟩)
 -- the greatest one that comes in
 obtain ⟨q,FC,ee,jx⟩:=Rt (f:=fun n=>(s n).fr (J n)) (a:=A) (B - A - 1)
 have ee:q < B:=by omega
 have jx:∀ n,A≤n→n < B→(s n).fr (J n)≤(s q).fr (J q):=fun n h1 h2=>jx n h1 (by omega)
 generalize ht:(s q).fr (J q)=t at jx
 have htq:¬ (s q).y7 m t:=ht ▸ Yb q _ (st q).1.lt
 have enters:∀ u p,A≤p→p < B→(s p).y7 m u→¬ (s q).y7 m u→∃ n,A≤n∧n < B∧(s n).fr (J n)=u:=fun u p h1 h2 h3 h4=>pU fun fx=>by
  have fx:∀ n,A≤n→n < B→(s n).fr (J n)≠u:=fun n q1 q2 e=>fx ⟨n,q1,q2,e⟩
  have e1:=out q (B - q) u h4 fun n q1 q2=>fx n (by omega) (by omega)
  rw [show q+(B - q)=B by omega] at e1
  have e2:=out A (p - A) u (fun h=>e1 (hbs u h)) fun n q1 q2=>fx n (by omega) (by omega)
  rw [show A+(p - A)=p by omega] at e2
  exact e2 h3
 obtain ⟨p,x8,xN,hp3⟩:∃ p,A≤p∧p < B∧(s p).iy (I p)=t:=pU fun fx=>by
  have fx:∀ n,A≤n→n < B→(s n).iy (I n)≠t:=fun n q1 q2 e=>fx ⟨n,q1,q2,e⟩
  have e0:(s (q+1)).y7 m t:=(hB q t).2 (.inr ht.symm)
  have e1:=inn (q+1) (B - (q+1)) t e0 fun n q1 q2=>fx n (by omega) (by omega)
  rw [show q+1+(B - (q+1))=B by omega] at e1
  have e2:=inn A (q - A) t (abn t e1) fun n q1 q2=>fx n (by omega) (by omega)
  rw [show A+(q - A)=q by omega] at e2
  exact htq e2
 -- the direction of the step in which it goes out
 have hjp:=(st p).1.lt
 have y1:=sZ (GS p) (one ((s p).fr (J p)))
 have y0:=sZ (GS p) uq
 have g1:(s p).v+(s p).g (J p)=(s q).gv k ((s p).ext m k (one ((s p).fr (J p)))):=by
  rw [← (Zb p q).gv _ y1,GQ (GS p),MR (GS p) hjp]
 have g0:(s p).v=(s q).gv k ((s p).ext m k uq):=by rw [← (Zb p q).gv _ y0,GQ (GS p),JL]
 let d:Nat→Rat:=fun u=>(s p).ext m k (one ((s p).fr (J p))) u - (s p).ext m k uq u
 have hd:(s p).g (J p)=bG k fun j=>(s q).g j * d ((s q).fr j):=by
  have e:bG k (fun j=>(s q).g j * (s p).ext m k (one ((s p).fr (J p))) ((s q).fr j))=bG k (fun j=>(s q).g j * d ((s q).fr j)+(s q).g j * (s p).ext m k uq ((s q).fr j)):=aY fun j _=>by
   show _=_ * (_ - _)+_
   grind
  rw [rI] at e
  unfold gv at g1 g0
  rw [e] at g1
  rw [g0] at g1
  grind
 obtain ⟨j,hj,Ls⟩:=Lr (by rw [← hd];exact (st p).1.pos)
 generalize hr:(s q).fr j=r at Ls
 have hrq:¬ (s q).y7 m r:=hr ▸ Yb q j hj
 have hru:r < m+k:=hr ▸ (GS q).fl j hj
 -- Bland's choice at q
 have blq:t≤r∨(s q).g j≤0:=by
  by_cases h:0 < (s q).g j
  ·exact .inl (by rw [← ht,← hr];exact (st q).1.min j hj h)
  ·exact .inr (Rat.not_lt.1 h)
 have abq:∀ i,i < m→(s p).iy i=t→(s p).a i (J p) < 0:=fun i hi e=>by
  rw [(GS p).bi i (I p) hi (st p).2.1.lt (e.trans hp3.symm)];exact (st p).2.1.neg
 rcases (GS p).al r hru with ⟨i,hi,e⟩ | ⟨c,hc,e⟩
 ·have hdr:d r=(s p).a i (J p):=by
   show (s p).ext m k _ r - (s p).ext m k uq r=_
   rw [← e,uG (GS p) hi,uG (GS p) hi,row_one (GS p) hjp,s6];grind
  rw [hdr] at Ls
  obtain ⟨n,n1,n2,n3⟩:=enters r p x8 xN ⟨i,hi,e⟩ hrq
  have hrt:r≤t:=n3 ▸ jx n n1 n2
  by_cases Ye:r=t
  ·have h1:=abq i hi (e.trans Ye)
   have h2:0 < (s q).g j:=by
    rw [(GS q).fi j (J q) hj (st q).1.lt (hr.trans (Ye.trans ht.symm))];exact (st q).1.pos
   have:=Rat.mul_pos h2 (show 0 < -((s p).a i (J p)) by grind)
   grind
  ·have hg:(s q).g j≤0:=blq.resolve_left (by omega)
   have ha:(s p).a i (J p) < 0:=Rat.not_le.1 fun h=>by
    have:=Rat.mul_nonneg (show 0≤-((s q).g j) by grind) h
    grind
   have Y3:(s p).b i=0:=by
    rw [hxb p x8 (by omega) i hi,e,← hr];exact Zc q FC (by omega) j hj
   have hz:(s p).ratio (J p) i=0:=by unfold ratio;rw [Y3];grind
   rcases (st p).2.1.min i hi ha with h | ⟨_,h⟩
   ·rw [Wg p x8 xN,hz] at h;exact absurd h (by decide)
   ·rw [hp3,e] at h;omega
 ·have hdr:d r=one ((s p).fr (J p)) r:=by
   show (s p).ext m k _ r - (s p).ext m k uq r=_
   rw [← e,vp (GS p) hc,vp (GS p) hc];unfold uq;grind
  rw [hdr] at Ls
  unfold one at Ls
  split at Ls
  ·rename_i XB
   have hle:r≤t:=XB ▸ jx p x8 xN
   have fx:r≠t:=fun h=>(GS p).bf (I p) (J p) (st p).2.1.lt hjp (by rw [hp3,← XB,h])
   have hg:(s q).g j≤0:=blq.resolve_left (by omega)
   grind
  ·grind
theorem Ru {m k:Nat} {D:bJ} (hw:D.WF m k) (hf:D.Lp m):Acc (fun a b=>Step m k b a) D:=pU fun hn=>by
 have nx:∀ x:{ x:bJ // ¬ Acc (fun a b=>Step m k b a) x },∃ y:{ x:bJ // ¬ Acc (fun a b=>Step m k b a) x },Step m k x.1 y.1:=fun x=>pU fun q=>x.2 (.intro _ fun y hy=>pU fun Hb=>q ⟨⟨y,Hb⟩,hy⟩)
 let s:Nat→{ x:bJ // ¬ Acc (fun a b=>Step m k b a) x }:=fun n=>Nat.rec ⟨D,hn⟩ (fun _ x=>Classical.choose (nx x)) n
 exact MU (s:=fun n=>(s n).1) hw hf fun n=>Classical.choose_spec (nx (s n))
end bJ
end Go.Den
namespace Go.Den
open Go.Ab
namespace bJ
structure EJ (D:bJ) (m k s:Nat):Prop where
 a:∀ i j,i < m→j < k→RB (D.a i j) s
 b:∀ i,i < m→RB (D.b i) s
 g:∀ j,j < k→RB (D.g j) s
 v:RB D.v s
theorem Yf:RB 1 1:=RB.int (z:=1) (ZB.small (by decide)) (by decide)
theorem EJ.ou {D:bJ} {m k s i j:Nat} (h:D.EJ m k s) (h1:1≤s) (hi:i < m) (hj:j < k) (h0:D.a i j≠0) {c:Nat} (hc:c < k):RB (D.ou i j c) (2 * s):=by
 unfold bJ.ou
 split
 ·exact (Yf.div (h.a i j hi hj) h0).le (by omega)
 ·exact ((h.a i c hi hc).div (h.a i j hi hj) h0).neg.le (by omega)
theorem EJ.jQ {D:bJ} {m k s i j:Nat} (h:D.EJ m k s) (h1:1≤s) (hi:i < m) (hj:j < k) (h0:D.a i j≠0):(D.jQ i j).EJ m k (5 * s):=by
 have hp:RB (D.pb i j) (2 * s):=((h.b i hi).div (h.a i j hi hj) h0).neg.le (by omega)
 refine ⟨fun r c hr hc=>?_,fun r hr=>?_,fun c hc=>?_,((h.v).add ((h.g j hj).mul hp)).le (by omega)⟩
 ·have hw:=h.ou h1 hi hj h0 hc
  simp only [bJ.jQ]
  split
  ·exact hw.le (by omega)
  ·split
   ·exact ((h.a r j hr hj).mul hw).le (by omega)
   ·exact ((h.a r c hr hc).add ((h.a r j hr hj).mul hw)).le (by omega)
 ·simp only [bJ.jQ]
  split
  ·exact hp.le (by omega)
  ·exact ((h.b r hr).add ((h.a r j hr hj).mul hp)).le (by omega)
 ·have hw:=h.ou h1 hi hj h0 hc
  simp only [bJ.jQ]
  split
  ·exact ((h.g j hj).mul hw).le (by omega)
  ·exact ((h.g c hc).add ((h.g j hj).mul hw)).le (by omega)
open Classical in
noncomputable def Ae (p:Nat→Prop):Nat→Nat
 | 0=>0
 | n+1=>Ae p n+if p n then 1 else 0
theorem MV {p:Nat→Prop}:∀ n,Ae p n≤n
 | 0=>az _
 | n+1=>by have:=MV (p:=p) n;rw [Ae];split<;>omega
theorem y9 {p q:Nat→Prop}:∀ {n:Nat},(∀ i,i < n→q i→p i)→Ae q n≤Ae p n
 | 0,_=>az _
 | n+1,h=>by
  have:=y9 (p:=p) (q:=q) (n:=n) fun i hi=>h i (by omega)
  have hn:=h n (by omega)
  rw [Ae,Ae]
  by_cases h1:q n
  ·simp only [h1,hn h1,if_true];omega
  ·simp only [h1,if_false];omega
theorem Rv {p q:Nat→Prop}:∀ {n i:Nat},(∀ i,i < n→q i→p i)→i < n→p i→¬ q i→Ae q n < Ae p n
 | 0,i,_,hi,_,_=>by omega
 | n+1,i,h,hi,h1,h2=>by
  have hn:=h n (by omega)
  rw [Ae,Ae]
  by_cases e:i=n
  ·subst e
   have:=y9 (p:=p) (q:=q) (n:=i) fun i hi=>h i (by omega)
   simp only [h1,h2,if_true,if_false];omega
  ·have:=Rv (p:=p) (q:=q) (n:=n) (i:=i) (fun i hi=>h i (by omega)) (by omega) h1 h2
   by_cases h3:q n
   ·simp only [h3,hn h3,if_true];omega
   ·simp only [h3,if_false];omega
theorem Lv {p:Nat→Prop}:∀ {n:Nat},Ae p n=0→∀ i,i < n→¬ p i
 | 0,_,i,hi=>by omega
 | n+1,h,i,hi=>by
  rw [Ae] at h
  by_cases e:i=n
  ·subst e;intro hp;simp only [hp,if_true] at h;omega
  ·exact Lv (n:=n) (by omega) i (by omega)
def dir (D:bJ) (m k j:Nat) (u:Nat):Rat:=D.ext m k (one (D.fr j)) u - D.ext m k uq u
theorem TW {D:bJ} {m k i j:Nat} (h:D.WF m k) (hi:i < m) (hj:j < k):D.dir m k j (D.iy i)=D.a i j:=by
 unfold dir;rw [uG h hi,uG h hi,row_one h hj,s6];grind
theorem JO {D:bJ} {m k c j:Nat} (h:D.WF m k) (hc:c < k) (hj:j < k):D.dir m k j (D.fr c)=if c=j then 1 else 0:=by
 unfold dir;rw [vp h hc,vp h hc]
 unfold one uq
 by_cases e:c=j
 ·subst e;rw [if_pos rfl,if_pos rfl];grind
 ·rw [if_neg e,if_neg fun q=>e (h.fi _ _ hc hj q)];grind
theorem Lw {D D':bJ} {m k j:Nat} (h':D'.WF m k) (e:Ct m k D' D) (hz:∀ c,c < k→D'.dir m k j (D.fr c)=0) {i:Nat} (hi:i < m):D'.dir m k j (D.iy i)=0:=by
 have s1:=(e.N3 _).1 (sZ h' (one (D'.fr j)))
 have s0:=(e.N3 _).1 (sZ h' uq)
 unfold dir
 rw [y8 s1 (y:=D'.ext m k uq) (fun c hc=>by have:=hz c hc;unfold dir at this;grind) hi,y8 s0 (y:=D'.ext m k uq) (fun _ _=>rfl) hi]
 grind
theorem IJ {D D':bJ} {m k:Nat} (h:D.WF m k) (h':D'.WF m k) (e:Ct m k D D') (hb:∀ u,D.y7 m u→D'.y7 m u) {j:Nat} (hj:j < k):∃ j',j' < k∧D'.fr j'=D.fr j:=by
 refine zR h' (h.fl j hj) fun ⟨i',rN,q⟩=>?_
 have:=Lw (D:=D') (D':=D) (j:=j) h e (fun c hc=>?_) rN
 ·rw [q,JO h hj hj,if_pos rfl] at this;exact absurd this (by decide)
 ·obtain ⟨c',oU,q2⟩:=zR h (h'.fl c hc) fun ⟨i,hi,q3⟩=>by
   obtain ⟨i2,UA,q4⟩:=hb _ ⟨i,hi,q3⟩
   exact h'.bf i2 c UA hc q4
  rw [← q2,JO h oU hj,if_neg fun q5=>h'.bf i' c rN hc (by rw [q,← q2,q5])]
theorem GU {m k:Nat} {D:bJ} (h:D.WF m k):∀ (n:Nat) {D':bJ} {s:Nat},D'.WF m k→Ct m k D' D→D'.EJ m k s→1≤s→Ae (fun i=>¬ D'.y7 m (D.iy i)) m≤n→D.EJ m k (5 ^ n * s)
 | n,D',s,h',e,hs,h1,hc=>by
  by_cases hz:Ae (fun i=>¬ D'.y7 m (D.iy i)) m=0
  ·have hb:∀ u,D.y7 m u→D'.y7 m u:=fun u ⟨i,hi,q⟩=>q ▸ Classical.not_not.1 (Lv hz i hi)
   obtain ⟨u1,u2,u3,u4⟩:=uniq h h' e.symm hb
   have hn:s≤5 ^ n * s:=Nat.le_mul_of_pos_left _ (Nat.pow_pos (by decide))
   refine ⟨fun i j hi hj=>?_,fun i hi=>?_,fun j hj=>?_,by rw [u4];exact hs.v.le hn⟩
   ·obtain ⟨i',rN,q⟩:=hb _ ⟨i,hi,rfl⟩
    obtain ⟨j',zk,q2⟩:=IJ h h' e.symm hb hj
    rw [u2 i j i' j' hi rN hj zk q.symm q2.symm];exact (hs.a _ _ rN zk).le hn
   ·obtain ⟨i',rN,q⟩:=hb _ ⟨i,hi,rfl⟩
    rw [u1 i i' hi rN q.symm];exact (hs.b _ rN).le hn
   ·obtain ⟨j',zk,q2⟩:=IJ h h' e.symm hb hj
    rw [u3 j j' hj zk q2.symm];exact (hs.g _ zk).le hn
  ·obtain ⟨i,hi,hnb⟩:∃ i,i < m∧¬ D'.y7 m (D.iy i):=pU fun q=>hz (by
    have:Ae (fun i=>¬ D'.y7 m (D.iy i)) m≤Ae (fun _=>False) m:=y9 fun i hi hp=>q ⟨i,hi,hp⟩
    have h0:∀ n,Ae (fun _=>False) n=0:=fun n=>by
     induction n with
     | zero=>rfl
     | succ n ih=>rw [Ae,ih];simp
    rw [h0] at this;omega)
   obtain ⟨j',zk,hv⟩:=zR h' (h.bl i hi) hnb
   obtain ⟨r,hr,h0,Pw⟩:∃ r,r < m∧D'.a r j'≠0∧¬ D.y7 m (D'.iy r):=pU fun q=>by
    have:=Lw (D:=D) (D':=D') (j:=j') h' e (fun c hc=>?_) hi
    ·rw [← hv,JO h' zk zk,if_pos rfl] at this;exact absurd this (by decide)
    ·rcases h'.al _ (h.fl c hc) with ⟨r,hr,q2⟩ | ⟨c',oU,q2⟩
     ·rw [← q2,TW h' hr zk]
      refine pU fun q3=>q ⟨r,hr,q3,fun ⟨i2,UA,q4⟩=>h.bf i2 c UA hc (q4.trans q2)⟩
     ·rw [← q2,JO h' oU zk,if_neg fun q3=>h.bf i c hi hc (by rw [← hv,← q2,q3])]
   have gY:Ae (fun i=>¬ (D'.jQ r j').y7 m (D.iy i)) m < Ae (fun i=>¬ D'.y7 m (D.iy i)) m:=by
    refine Rv (i:=i) (fun i' rN hp hq=>hp ((JM h' hr).2 (.inl ⟨hq,fun q=>Pw ⟨i',rN,q⟩⟩))) hi hnb fun hp=>hp ((JM h' hr).2 (.inr hv.symm))
   obtain ⟨n,rfl⟩:∃ n',n=n'+1:=⟨n - 1,by omega⟩
   have:=GU h n (h'.jQ hr zk) ((Ct.jQ hr zk h0).symm.trans e) (hs.jQ h1 hr zk h0) (by omega) (by omega)
   rwa [← Nat.mul_assoc,← Nat.pow_succ] at this
theorem size {m k s:Nat} {D D':bJ} (h:D.WF m k) (h':D'.WF m k) (e:Ct m k D' D) (hs:D'.EJ m k s) (h1:1≤s):D.EJ m k (5 ^ m * s):=GU h m h' e hs h1 (MV m)
theorem N4 {p:Nat→Prop} (i0:Nat):∀ n,Ae p n≤Ae (fun i=>p i∧i≠i0) n+1
 | 0=>by rw [Ae];omega
 | n+1=>by
  have ih:=N4 (p:=p) i0 n
  rw [Ae,Ae]
  by_cases h1:p n
  ·by_cases h2:n=i0
   ·have:Ae p n≤Ae (fun i=>p i∧i≠i0) n:=y9 fun i hi hp=>⟨hp,by omega⟩
    rw [if_pos h1,if_neg fun q=>q.2 h2];omega
   ·rw [if_pos h1,if_pos (⟨h1,h2⟩:p n∧n≠i0)];omega
  ·rw [if_neg h1,if_neg fun q=>h1 q.1];omega
theorem JP:∀ (k:Nat) {p:Nat→Prop} {n:Nat} (f:Nat→Nat),(∀ i,i < n→p i→f i < k)→(∀ i i',i < n→i' < n→p i→p i'→f i=f i'→i=i')→Ae p n≤k
 | 0,p,n,f,h,_=>by
  have:Ae p n≤Ae (fun _=>False) n:=y9 fun i hi hp=>absurd (h i hi hp) (dT _)
  have h0:∀ n,Ae (fun _=>False) n=0:=fun n=>by
   induction n with
   | zero=>rfl
   | succ n ih=>rw [Ae,ih];simp
  rw [h0] at this;exact this
 | k+1,p,n,f,h,hi=>by
  by_cases e:∃ i,i < n∧p i∧f i=k
  ·obtain ⟨i0,h1,h2,h3⟩:=e
   have q:=JP k (p:=fun i=>p i∧i≠i0) (n:=n) f (fun i zZ ⟨hp,fx⟩=>by
    have:=h i zZ hp
    have h4:f i≠k:=fun q=>fx (hi i i0 zZ h1 hp h2 (q.trans h3.symm))
    omega) fun i i' a b c d=>hi i i' a b c.1 d.1
   have:=N4 (p:=p) i0 n
   omega
  ·have:=JP k f (p:=p) (n:=n) (fun i zZ hp=>by
    have:=h i zZ hp
    have h4:f i≠k:=fun q=>e ⟨i,zZ,hp,q⟩
    omega) hi
   omega
theorem Lx {m k s e5:Nat} {D D':bJ} (h5:m≤e5∨k≤e5) (h:D.WF m k) (h':D'.WF m k) (e:Ct m k D' D) (hs:D'.EJ m k s) (h1:1≤s):D.EJ m k (5 ^ e5 * s):=by
 refine GU h e5 h' e hs h1 ?_
 rcases h5 with h5 | h5
 ·exact eZ (MV m) h5
 ·refine eZ ?_ h5
  have key:∀ i,∃ j,i < m→¬ D'.y7 m (D.iy i)→j < k∧D'.fr j=D.iy i:=fun i=>by
   by_cases hi:i < m
   ·by_cases hb:D'.y7 m (D.iy i)
    ·exact ⟨0,fun _ q=>absurd hb q⟩
    ·obtain ⟨j,hj,q⟩:=zR h' (h.bl i hi) hb
     exact ⟨j,fun _ _=>⟨hj,q⟩⟩
   ·exact ⟨0,fun q=>absurd q hi⟩
  obtain ⟨f,hf⟩:=Classical.axiomOfChoice key
  refine JP k f (fun i hi hp=>(hf i hi hp).1) fun i i' hi rN hp ta q=>?_
  have a:=(hf i hi hp).2
  have b:=(hf i' rN ta).2
  rw [q] at a
  exact h.bi i i' hi rN (a.symm.trans b)
end bJ
end Go.Den
