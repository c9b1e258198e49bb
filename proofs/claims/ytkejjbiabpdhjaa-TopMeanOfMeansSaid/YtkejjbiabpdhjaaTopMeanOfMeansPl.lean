/- The plain law: the Lean function of the law returns true for every input, and what it needs. No conditions. -/
import Derived.Test.YtkejjbiabpdhjaaTopMeanOfMeansDen
set_option linter.unusedVariables false
set_option linter.unusedSimpArgs false
namespace Go.Den
open Go.Ab
theorem w64_def (n:Int):w64 n=if n % 18446744073709551616≥9223372036854775808 then n % 18446744073709551616 - 18446744073709551616 else n % 18446744073709551616:=by
 have e:w64 n=(if (true && decide (n % 18446744073709551616≥9223372036854775808))=true then n % 18446744073709551616 - 18446744073709551616 else n % 18446744073709551616):=rfl
 rw [e];simp
theorem w64_eq {n:Int} (h1:-9223372036854775808≤n) (h2:n≤9223372036854775807):w64 n=n:=by
 rw [w64_def];split<;>omega
theorem w64_succ {m:Nat} (h:m < 9223372036854775807):w64 ((m:Int)+1)=((m+1:Nat):Int):=by rw [w64_eq (by omega) (by omega)];simp
theorem getD_mem {α:Type} (l:List α) (m:Nat) (d:α) (h:m < l.length):l.getD m d∈l:=by
 simp [List.getD,h]
theorem toNat_nat (m:Nat):((m:Int)).toNat=m:=rfl
theorem inb {m n:Nat} (h:m < n):0≤(m:Int)∧(m:Int) < ((n:Nat):Int):=⟨by omega,by omega⟩
theorem dec_lt {m n:Nat} (h:m < n):decide ((m:Int) < ((n:Nat):Int))=true:=by simp;omega
theorem dec_nlt {n:Nat}:decide ((n:Int) < ((n:Nat):Int))=false:=by simp
end Go.Den
namespace Go.Den
open Go.Ab
theorem wrap16 (n:Int):IntKind.u16.wrap n=n % 65536:=by
 have e:IntKind.u16.wrap n=(if (false && decide (n % 65536≥32768))=true then n % 65536 - 65536 else n % 65536):=rfl
 rw [e];simp
theorem wrap32 (n:Int):IntKind.u32.wrap n=n % 4294967296:=by
 have e:IntKind.u32.wrap n=(if (false && decide (n % 4294967296≥2147483648))=true then n % 4294967296 - 4294967296 else n % 4294967296):=rfl
 rw [e];simp
theorem wrap64 (n:Int):IntKind.u64.wrap n=n % 18446744073709551616:=by
 have e:IntKind.u64.wrap n=(if (false && decide (n % 18446744073709551616≥9223372036854775808))=true then n % 18446744073709551616 - 18446744073709551616 else n % 18446744073709551616):=rfl
 rw [e];simp
theorem wrap16_eq {n:Int} (h:0≤n) (h2:n < 65536):IntKind.u16.wrap n=n:=by rw [wrap16];omega
theorem wrap32_eq {n:Int} (h:0≤n) (h2:n < 4294967296):IntKind.u32.wrap n=n:=by rw [wrap32];omega
theorem wrap64_eq {n:Int} (h:0≤n) (h2:n < 18446744073709551616):IntKind.u64.wrap n=n:=by rw [wrap64];omega
theorem shr16_32 (n:Int):shrI .u32 n 16=n / 65536:=by
 unfold shrI
 have:(2:Int) ^ (min (16:Int).toNat IntKind.u32.bits)=65536:=by decide
 rw [this,Int.fdiv_eq_ediv_of_nonneg _ (by decide)]
theorem shr16_64 (n:Int):shrI .u64 n 16=n / 65536:=by
 unfold shrI
 have:(2:Int) ^ (min (16:Int).toNat IntKind.u64.bits)=65536:=by decide
 rw [this,Int.fdiv_eq_ediv_of_nonneg _ (by decide)]
theorem shr16_i64 (n:Int):shrI .i64 n 16=n / 65536:=by
 unfold shrI
 have:(2:Int) ^ (min (16:Int).toNat IntKind.i64.bits)=65536:=by decide
 rw [this,Int.fdiv_eq_ediv_of_nonneg _ (by decide)]
theorem shl16_32 {n:Int} (h:0≤n) (h2:n < 65536):shlI .u32 n 16=n * 65536:=by
 unfold shlI
 have:(2:Int) ^ (min (16:Int).toNat IntKind.u32.bits)=65536:=by decide
 rw [this,wrap32];omega
theorem shl16_64 {n:Int} (h:0≤n) (h2:n < 281474976710656):shlI .u64 n 16=n * 65536:=by
 unfold shlI
 have:(2:Int) ^ (min (16:Int).toNat IntKind.u64.bits)=65536:=by decide
 rw [this,wrap64];omega
theorem bv_or {n:Nat} (a b:Nat) (ha:a < 2 ^ n) (hb:b < 2 ^ n):(BitVec.ofInt n (a:Int) ||| BitVec.ofInt n (b:Int)).toNat=a ||| b:=by
 rw [BitVec.ofInt_natCast,BitVec.ofInt_natCast,BitVec.toNat_or,BitVec.toNat_ofNat,BitVec.toNat_ofNat,Nat.mod_eq_of_lt ha,Nat.mod_eq_of_lt hb]
theorem bv_and {n:Nat} (a b:Nat) (ha:a < 2 ^ n) (hb:b < 2 ^ n):(BitVec.ofInt n (a:Int) &&& BitVec.ofInt n (b:Int)).toNat=a &&& b:=by
 rw [BitVec.ofInt_natCast,BitVec.ofInt_natCast,BitVec.toNat_and,BitVec.toNat_ofNat,BitVec.toNat_ofNat,Nat.mod_eq_of_lt ha,Nat.mod_eq_of_lt hb]
theorem nat_or_add (a b k:Nat) (hb:b < 2 ^ k):(a * 2 ^ k) ||| b=a * 2 ^ k+b:=by
 have:=Nat.shiftLeft_add_eq_or_of_lt hb a
 rw [Nat.shiftLeft_eq] at this
 exact this.symm
theorem or16_32 {a b:Int} (ha:0≤a) (ha2:a < 65536) (hb:0≤b) (hb2:b < 65536):orI .u32 (a * 65536) b=a * 65536+b:=by
 obtain ⟨a,rfl⟩:=Int.eq_ofNat_of_zero_le ha
 obtain ⟨b,rfl⟩:=Int.eq_ofNat_of_zero_le hb
 unfold orI
 have e:((a:Int) * 65536)=((a * 2 ^ 16:Nat):Int):=by simp
 rw [e,show IntKind.u32.bits=32 from rfl,bv_or _ _ (by omega) (by omega),nat_or_add _ _ 16 (by omega),wrap32]
 omega
theorem or16_64 {a b:Int} (ha:0≤a) (ha2:a < 281474976710656) (hb:0≤b) (hb2:b < 65536):orI .u64 (a * 65536) b=a * 65536+b:=by
 obtain ⟨a,rfl⟩:=Int.eq_ofNat_of_zero_le ha
 obtain ⟨b,rfl⟩:=Int.eq_ofNat_of_zero_le hb
 unfold orI
 have e:((a:Int) * 65536)=((a * 2 ^ 16:Nat):Int):=by simp
 rw [e,show IntKind.u64.bits=64 from rfl,bv_or _ _ (by omega) (by omega),nat_or_add _ _ 16 (by omega),wrap64]
 omega
theorem and16_64 {a:Int} (ha:0≤a) (ha2:a < 18446744073709551616):andI .u64 a 65535=a % 65536:=by
 obtain ⟨a,rfl⟩:=Int.eq_ofNat_of_zero_le ha
 unfold andI
 have e:(65535:Int)=((65535:Nat):Int):=rfl
 rw [e,show IntKind.u64.bits=64 from rfl,bv_and _ _ (by omega) (by omega),show (65535:Nat)=2 ^ 16 - 1 from rfl,Nat.and_two_pow_sub_one_eq_mod,wrap64]
 omega
def nvl:List Int→Int
 | []=>0
 | x :: l=>x+65536 * nvl l
def U (l:List Int):Prop:=∀ x,x∈l→0≤x∧x < 65536
def lm (n:Nat):List Int:=if h:n=0 then [] else ((n % 65536:Nat):Int) :: lm (n / 65536)
termination_by n
decreasing_by omega
def pw (k:Nat):Int:=65536 ^ k
theorem pw_zero:pw 0=1:=rfl
theorem pw_succ (k:Nat):pw (k+1)=65536 * pw k:=by unfold pw;rw [Int.pow_succ];omega
theorem pw_pos (k:Nat):0 < pw k:=by
 induction k with
 | zero=>decide
 | succ k ih=>rw [pw_succ];omega
theorem pw_add (j k:Nat):pw (j+k)=pw j * pw k:=Int.pow_add _ _ _
theorem U.nil:U []:=fun x h=>by simp at h
theorem U.cons {x:Int} {l:List Int} (h1:0≤x) (h2:x < 65536) (h:U l):U (x :: l):=fun y hy=>by
 rcases List.mem_cons.1 hy with rfl | hy
 ·exact ⟨h1,h2⟩
 ·exact h y hy
theorem U.tail {x:Int} {l:List Int} (h:U (x :: l)):U l:=fun y hy=>h y (List.mem_cons_of_mem _ hy)
theorem U.head {x:Int} {l:List Int} (h:U (x :: l)):0≤x∧x < 65536:=h x (by simp)
theorem U.append {l m:List Int} (h1:U l) (h2:U m):U (l ++ m):=fun y hy=>by
 rcases List.mem_append.1 hy with hy | hy
 ·exact h1 y hy
 ·exact h2 y hy
theorem U.left {l m:List Int} (h:U (l ++ m)):U l:=fun y hy=>h y (List.mem_append_left _ hy)
theorem U.right {l m:List Int} (h:U (l ++ m)):U m:=fun y hy=>h y (List.mem_append_right _ hy)
theorem U.one {x:Int} (h1:0≤x) (h2:x < 65536):U [x]:=U.cons h1 h2 U.nil
theorem U.take {l:List Int} (h:U l) (k:Nat):U (l.take k):=fun y hy=>h y (List.mem_of_mem_take hy)
theorem U.drop {l:List Int} (h:U l) (k:Nat):U (l.drop k):=fun y hy=>h y (List.mem_of_mem_drop hy)
theorem U.getD {l:List Int} (h:U l) (i:Nat):0≤l.getD i 0∧l.getD i 0 < 65536:=by
 by_cases hi:i < l.length
 ·exact h _ (getD_mem l i 0 hi)
 ·rw [List.getD_eq_getElem?_getD,List.getElem?_eq_none (by omega)];decide
theorem U.set {l:List Int} (h:U l) (i:Nat) {x:Int} (h1:0≤x) (h2:x < 65536):U (l.set i x):=fun y hy=>by
 rcases List.mem_or_eq_of_mem_set hy with hy | rfl
 ·exact h y hy
 ·exact ⟨h1,h2⟩
theorem U.replicate (n:Nat):U (List.replicate n 0):=fun y hy=>by
 rw [(List.mem_replicate.1 hy).2];decide
theorem nvl_append (l m:List Int):nvl (l ++ m)=nvl l+pw l.length * nvl m:=by
 induction l with
 | nil=>simp [nvl,pw_zero]
 | cons x l ih =>
  simp only [List.cons_append,nvl,ih,List.length_cons,pw_succ]
  rw [Int.mul_add,← Int.mul_assoc];omega
theorem nvl_one (x:Int):nvl [x]=x:=by simp [nvl]
theorem nvl_replicate (n:Nat):nvl (List.replicate n 0)=0:=by
 induction n with
 | zero=>rfl
 | succ n ih=>simp [List.replicate_succ,nvl,ih]
theorem U.nonneg:∀ {l:List Int},U l→0≤nvl l
 | [],_=>by simp [nvl]
 | x :: l,h=>by have:=U.nonneg h.tail;have:=h.head;simp only [nvl];omega
theorem U.lt:∀ {l:List Int},U l→nvl l < pw l.length
 | [],_=>by simp [nvl,pw_zero]
 | x :: l,h=>by have:=U.lt h.tail;have:=h.head;simp only [nvl,List.length_cons,pw_succ];omega
theorem nvl_set:∀ (l:List Int) (i:Nat) (x:Int),i < l.length→nvl (l.set i x)=nvl l+(x - l.getD i 0) * pw i
 | [],i,x,h=>by simp at h
 | y :: l,0,x,h=>by simp [nvl,pw_zero];omega
 | y :: l,i+1,x,h=>by
  simp only [List.set_cons_succ,nvl,nvl_set l i x (by simpa using h),pw_succ]
  rw [show (y :: l).getD (i+1) 0=l.getD i 0 from rfl,Int.mul_add,show (x - l.getD i 0) * (65536 * pw i)=65536 * ((x - l.getD i 0) * pw i) by rw [Int.mul_left_comm]]
  omega
theorem nvl_take_succ (l:List Int) (i:Nat) (h:i < l.length):nvl (l.take (i+1))=nvl (l.take i)+l.getD i 0 * pw i:=by
 have e:l.take (i+1)=l.take i ++ [l.getD i 0]:=by
  rw [List.take_add_one];simp [List.getD,h]
 rw [e,nvl_append,nvl_one,List.length_take,Nat.min_eq_left (by omega),Int.mul_comm]
theorem nvl_drop (l:List Int) (i:Nat) (h:i < l.length):nvl (l.drop i)=l.getD i 0+65536 * nvl (l.drop (i+1)):=by
 rw [List.drop_eq_getElem_cons h];simp [nvl,List.getD,h]
theorem nvl_take_drop (l:List Int) (i:Nat) (h:i≤l.length):nvl l=nvl (l.take i)+pw i * nvl (l.drop i):=by
 have:=nvl_append (l.take i) (l.drop i)
 rwa [List.take_append_drop,List.length_take,Nat.min_eq_left h] at this
theorem lm_zero:lm 0=[]:=by rw [lm];rfl
theorem lm_pos {n:Nat} (h:n≠0):lm n=((n % 65536:Nat):Int) :: lm (n / 65536):=by rw [lm,dif_neg h]
theorem U_lm (n:Nat):U (lm n):=by
 induction n using Nat.strongRecOn with
 | _ n ih =>
  by_cases h:n=0
  ·subst h;rw [lm_zero];exact U.nil
  ·rw [lm_pos h];exact U.cons (by omega) (by omega) (ih _ (by omega))
theorem nvl_lm (n:Nat):nvl (lm n)=n:=by
 induction n using Nat.strongRecOn with
 | _ n ih =>
  by_cases h:n=0
  ·subst h;rw [lm_zero];rfl
  ·rw [lm_pos h,nvl,ih _ (by omega)];omega
theorem lm_nil {n:Nat}:lm n=[]↔n=0:=by
 constructor
 ·intro h
  have:=nvl_lm n
  rw [h] at this;simp [nvl] at this;omega
 ·rintro rfl;exact lm_zero
theorem lm_len_pos {n:Nat}:0 < (lm n).length↔n≠0:=by
 rw [List.length_pos_iff,ne_eq,lm_nil]
theorem lm_len_le {n k:Nat}:(lm n).length≤k↔(n:Int) < pw k:=by
 induction k generalizing n with
 | zero =>
  rw [pw_zero]
  constructor
  ·intro h;have:lm n=[]:=List.length_eq_zero_iff.1 (by omega);rw [lm_nil] at this;omega
  ·intro h;have:n=0:=by omega
   rw [lm_nil.2 this];simp
 | succ k ih =>
  by_cases h:n=0
  ·subst h;rw [lm_zero];have:=pw_pos (k+1);simp;omega
  ·rw [lm_pos h,List.length_cons,pw_succ]
   have:=ih (n:=n / 65536)
   constructor
   ·intro h;have:=this.1 (by omega);omega
   ·intro h;have:=this.2 (by omega);omega
theorem lm_last {n:Nat} (h:n≠0):∃ l x,lm n=l ++ [x]∧x≠0∧U l∧0≤x∧x < 65536:=by
 induction n using Nat.strongRecOn with
 | _ n ih =>
  rw [lm_pos h]
  by_cases h2:n / 65536=0
  ·rw [h2,lm_zero];exact ⟨[],_,rfl,by omega,U.nil,by omega,by omega⟩
  ·obtain ⟨l,x,e,hx,hl,h3,h4⟩:=ih _ (by omega) h2
   rw [e];exact ⟨_ :: l,x,rfl,hx,U.cons (by omega) (by omega) hl,h3,h4⟩
theorem lm_of:∀ {l:List Int},U l→(∀ m x,l=m ++ [x]→x≠0)→lm (nvl l).toNat=l
 | [],_,_=>by simp [nvl,lm_zero]
 | x :: l,h,hn=>by
  have h1:=h.head
  have h2:=h.tail.nonneg
  have e:nvl (x :: l)=x+65536 * nvl l:=rfl
  have hne:(nvl (x :: l)).toNat≠0:=by
   rw [e]
   cases l with
   | nil=>have:=hn [] x rfl;simp [nvl];omega
   | cons y l =>
    have hl:=lm_of (l:=y :: l) h.tail fun m z hz=>hn (x :: m) z (by rw [hz];rfl)
    have:nvl (y :: l)≠0:=fun h0=>by rw [h0] at hl;simp [lm_zero] at hl
    omega
  rw [lm_pos hne]
  have hl:=lm_of (l:=l) h.tail fun m z hz=>hn (x :: m) z (by rw [hz];rfl)
  have e1:(((nvl (x :: l)).toNat % 65536:Nat):Int)=x:=by rw [e];omega
  have e2:(nvl (x :: l)).toNat / 65536=(nvl l).toNat:=by rw [e];omega
  rw [e1,e2,hl]
theorem trim_eq {N:Nat}:∀ (fuel:Nat) (l:List Int),U l→l.length < fuel→l.length < 9223372036854775807→g_e_trim_L1 N fuel l=some (lm (nvl l).toNat)
 | 0,l,_,h,_=>by omega
 | fuel+1,l,hU,h,hs=>by
  rw [g_e_trim_L1]
  rcases List.eq_nil_or_concat l with rfl | ⟨m,x,hmx⟩
  ·simp [nvl,lm_zero]
  ·rw [List.concat_eq_append] at hmx
   subst hmx
   have hlen:(m ++ [x]).length=m.length+1:=by simp
   have e1:w64 ((((m ++ [x]).length:Nat):Int) - 1)=(m.length:Int):=by rw [hlen,w64_eq (by omega) (by rw [hlen] at hs;omega)];omega
   have e2:(m ++ [x]).getD m.length 0=x:=by simp [List.getD]
   have e3:decide ((((m ++ [x]).length:Nat):Int) > 0)=true:=by simp
   rw [e1,e3]
   rw [if_pos (fun _=>⟨by omega,by rw [hlen];omega⟩),cond_true]
   simp only [toNat_nat,e2]
   cases hx:(x == 0) with
   | true =>
    have hx0:x=0:=by simpa using hx
    subst hx0
    rw [cond_true,if_pos ⟨Nat.zero_le _,by rw [hlen];omega⟩,if_pos (by omega)]
    have e4:((m ++ [(0:Int)]).take m.length).drop 0=m:=by simp
    rw [e4,trim_eq fuel m hU.left (by rw [hlen] at h;omega) (by rw [hlen] at hs;omega),nvl_append,nvl_one];simp
   | false =>
    rw [cond_false,lm_of hU]
    intro m' x' he
    have:=(List.append_inj' he rfl).2
    simp at this hx
    omega
theorem exact_trim {N:Nat} {l:List Int} (hU:U l) (hN:l.length < N) (hs:l.length < 9223372036854775807):g_e_trim N l=some (lm (nvl l).toNat):=trim_eq N l hU hN hs
end Go.Den
namespace Go.Den
open Go.Ab
abbrev SM (n:Nat):Prop:=n < 10000000000000
def cmpL (a b:List Int):Nat→Int
 | 0=>0
 | k+1=>cond (a.getD k 0 != b.getD k 0) (a.getD k 0 - b.getD k 0) (cmpL a b k)
def cmpN (a b:Nat):Int:=cond ((((lm a).length:Nat):Int) != (((lm b).length:Nat):Int)) ((((lm a).length:Nat):Int) - (((lm b).length:Nat):Int)) (cmpL (lm a) (lm b) (lm a).length)
theorem compare_L1 {N:Nat} {a b:List Int} (ha:U a) (hb:U b) (hl:a.length=b.length) (hs:SM a.length):∀ (k fuel:Nat),k≤a.length→k < fuel →
  ∃ c,g_e_compare_L1 N a b fuel ((k:Int) - 1)=some c∧(c < 0↔nvl (a.take k) < nvl (b.take k))∧(c=0↔nvl (a.take k)=nvl (b.take k))∧c=cmpL a b k
 | 0,fuel,_,hf=>by
  obtain ⟨g,rfl⟩:∃ g,fuel=g+1:=⟨fuel - 1,by omega⟩
  exact ⟨0,by rw [g_e_compare_L1];rfl,by simp,by simp,rfl⟩
 | k+1,fuel,hk,hf=>by
  obtain ⟨g,rfl⟩:∃ g,fuel=g+1:=⟨fuel - 1,by omega⟩
  have e:(((k+1:Nat):Int) - 1)=(k:Int):=by omega
  rw [e,g_e_compare_L1]
  have hA:=nvl_take_succ a k (by omega)
  have hB:=nvl_take_succ b k (by omega)
  have h1:=ha.getD k
  have h2:=hb.getD k
  have hla:=(ha.take k).lt
  have hlb:=(hb.take k).lt
  have hna:=(ha.take k).nonneg
  have hnb:=(hb.take k).nonneg
  rw [List.length_take,Nat.min_eq_left (by omega)] at hla hlb
  have e0:decide ((k:Int)≥0)=true:=by simp
  rw [e0,cond_true,if_pos ⟨by omega,by omega⟩,if_pos ⟨by omega,by omega⟩]
  simp only [toNat_nat]
  cases hd:(a.getD k 0 != b.getD k 0) with
  | true =>
   have hne:a.getD k 0≠b.getD k 0:=by simpa using hd
   refine ⟨a.getD k 0 - b.getD k 0,?_,?_,?_,by rw [cmpL,hd];rfl⟩
   ·rw [cond_true]
    congr 1
    rw [w64_eq (by rw [w64_eq (by omega) (by omega),w64_eq (by omega) (by omega)];omega) (by rw [w64_eq (by omega) (by omega),w64_eq (by omega) (by omega)];omega),w64_eq (by omega) (by omega),w64_eq (by omega) (by omega)]
   ·rw [hA,hB]
    generalize a.getD k 0=x at *
    generalize b.getD k 0=y at *
    rcases Int.lt_or_lt_of_ne hne with h | h
    ·have:=Int.mul_le_mul_of_nonneg_right (show x+1≤y by omega) (Int.le_of_lt (pw_pos k))
     rw [Int.add_mul] at this
     constructor<;>intro<;>omega
    ·have:=Int.mul_le_mul_of_nonneg_right (show y+1≤x by omega) (Int.le_of_lt (pw_pos k))
     rw [Int.add_mul] at this
     constructor<;>intro<;>omega
   ·rw [hA,hB]
    generalize a.getD k 0=x at *
    generalize b.getD k 0=y at *
    rcases Int.lt_or_lt_of_ne hne with h | h
    ·have:=Int.mul_le_mul_of_nonneg_right (show x+1≤y by omega) (Int.le_of_lt (pw_pos k))
     rw [Int.add_mul] at this
     constructor<;>intro<;>omega
    ·have:=Int.mul_le_mul_of_nonneg_right (show y+1≤x by omega) (Int.le_of_lt (pw_pos k))
     rw [Int.add_mul] at this
     constructor<;>intro<;>omega
  | false =>
   have heq:a.getD k 0=b.getD k 0:=by simpa using hd
   obtain ⟨c,h3,h4,h5,h6⟩:=compare_L1 ha hb hl hs k g (by omega) (by omega)
   refine ⟨c,?_,?_,?_,by rw [cmpL,hd];exact h6⟩
   ·rw [cond_false,w64_eq (by omega) (by simp only [SM] at hs;omega)];exact h3
   ·rw [hA,hB,heq,h4];omega
   ·rw [hA,hB,heq,h5];omega
theorem lm_len_lt {a b:Nat} (h:(lm a).length < (lm b).length):a < b:=by
 have h1:=lm_len_le (n:=a) (k:=(lm a).length)
 have h2:=lm_len_le (n:=b) (k:=(lm a).length)
 have:=h1.1 (Nat.le_refl _)
 have:¬ (b:Int) < pw (lm a).length:=fun h'=>by have:=h2.2 h';omega
 omega
theorem compare_eq {N:Nat} {a b:Nat} (hN:(lm a).length < N) (ha:SM (lm a).length) (hb:SM (lm b).length):∃ c,g_e_compare N (lm a) (lm b)=some c∧(c < 0↔a < b)∧(c=0↔a=b)∧c=cmpN a b:=by
 unfold g_e_compare
 simp only [SM] at ha hb
 cases hl:((((lm a).length:Nat):Int) != (((lm b).length:Nat):Int)) with
 | true =>
  have hne:(lm a).length≠(lm b).length:=by intro h;rw [h] at hl;simp at hl
  refine ⟨_,cond_true _ _,?_,?_,by unfold cmpN;rw [hl,cond_true,w64_eq (by omega) (by omega)]⟩
  ·rw [w64_eq (by omega) (by omega)]
   rcases Nat.lt_or_gt_of_ne hne with h | h
   ·have:=lm_len_lt h;omega
   ·have:=lm_len_lt h;omega
  ·rw [w64_eq (by omega) (by omega)]
   rcases Nat.lt_or_gt_of_ne hne with h | h
   ·have:=lm_len_lt h;omega
   ·have:=lm_len_lt h;omega
 | false =>
  have heq:(lm a).length=(lm b).length:=by simp at hl;omega
  rw [cond_false,w64_eq (by omega) (by omega)]
  obtain ⟨c,h1,h2,h3,h4⟩:=compare_L1 (N:=N) (U_lm a) (U_lm b) heq ha (lm a).length N (Nat.le_refl _) hN
  rw [List.take_length,heq,List.take_length,nvl_lm,nvl_lm] at h2 h3
  exact ⟨c,h1,by omega,by omega,by unfold cmpN;rw [hl];exact h4⟩
theorem compare_cmp {N a b:Nat} (hN:(lm a).length < N) (ha:SM (lm a).length) (hb:SM (lm b).length):g_e_compare N (lm a) (lm b)=some (cmpN a b):=by
 obtain ⟨c,h1,_,_,rfl⟩:=compare_eq hN ha hb
 exact h1
theorem cmpN_lt {a b:Nat} (ha:SM (lm a).length) (hb:SM (lm b).length):cmpN a b < 0↔a < b:=by
 obtain ⟨c,_,h,_,rfl⟩:=compare_eq (N:=(lm a).length+1) (by omega) ha hb
 exact h
theorem plus_L2 {N:Nat} {a b:List Int} (ha:U a) (hb:U b) (hl:b.length≤a.length) (hs:SM a.length) (hN:a.length+1 < N):∀ (k x fuel:Nat) (out:List Int) (c:Int),x+k=a.length→k < fuel→out.length=x→U out→0≤c→c≤1 →
  nvl out+pw x * c=nvl (a.take x)+nvl (b.take x)→g_e_plus_L2 N a b fuel out c (x:Int)=some (lm (nvl a+nvl b).toNat)
 | 0,x,fuel,out,c,hx,hf,ho,hU,hc0,hc1,hinv=>by
  obtain ⟨g,rfl⟩:∃ g,fuel=g+1:=⟨fuel - 1,by omega⟩
  have hxe:x=a.length:=by omega
  subst hxe
  rw [g_e_plus_L2]
  simp only [SM] at hs
  rw [dec_nlt,cond_false,if_pos (by omega),wrap16_eq hc0 (by omega)]
  have hU2:U (out ++ [c]):=hU.append (U.one hc0 (by omega))
  have hlen:(out ++ [c]).length=a.length+1:=by simp [ho]
  rw [exact_trim hU2 (by rw [hlen];omega) (by rw [hlen];omega),Option.bind_some,nvl_append,nvl_one,ho,hinv,List.take_length,List.take_of_length_le hl]
 | k+1,x,fuel,out,c,hx,hf,ho,hU,hc0,hc1,hinv=>by
  obtain ⟨g,rfl⟩:∃ g,fuel=g+1:=⟨fuel - 1,by omega⟩
  simp only [SM] at hs
  have hxl:x < a.length:=by omega
  have h1:=ha.getD x
  have h2:=hb.getD x
  rw [g_e_plus_L2,dec_lt hxl,cond_true,if_pos (inb hxl)]
  simp only [toNat_nat]
  have hA:=nvl_take_succ a x hxl
  have hB:nvl (b.take (x+1))=nvl (b.take x)+b.getD x 0 * pw x:=by
   by_cases h:x < b.length
   ·exact nvl_take_succ b x h
   ·rw [List.take_of_length_le (by omega),List.take_of_length_le (by omega),List.getD_eq_getElem?_getD,List.getElem?_eq_none (by omega)];simp
  have step:∀ s:Int,s=c+a.getD x 0+b.getD x 0→(g_e_plus_J3 N a b out (x:Int) (g_e_plus_L2 N a b g) s)=some (lm (nvl a+nvl b).toNat):=by
   intro s hse
   unfold g_e_plus_J3
   rw [if_pos (by omega),wrap16,shr16_32,w64_succ (by omega)]
   refine plus_L2 ha hb hl hs hN k (x+1) g _ _ (by omega) (by omega) (by simp [ho]) (hU.append (U.one (by omega) (by omega))) (by omega) (by omega) ?_
   rw [nvl_append,nvl_one,ho,hA,hB,pw_succ]
   have h5:s=s % 65536+65536 * (s / 65536):=by omega
   have h6:pw x * s=pw x * (s % 65536)+pw x * (65536 * (s / 65536)):=by rw [← Int.mul_add,← h5]
   have h7:pw x * s=pw x * c+a.getD x 0 * pw x+b.getD x 0 * pw x:=by rw [hse,Int.mul_add,Int.mul_add,Int.mul_comm (pw x) (a.getD x 0),Int.mul_comm (pw x) (b.getD x 0)]
   have h8:65536 * pw x * (s / 65536)=pw x * (65536 * (s / 65536)):=by rw [Int.mul_comm 65536,Int.mul_assoc]
   omega
  by_cases hb2:x < b.length
  ·rw [dec_lt hb2,cond_true,if_pos (inb hb2)]
   refine step _ ?_
   rw [wrap32_eq (n:=a.getD x 0) (by omega) (by omega),wrap32_eq (n:=b.getD x 0) (by omega) (by omega),wrap32_eq (n:=c+a.getD x 0) (by omega) (by omega),wrap32_eq (by omega) (by omega)]
  ·have e:decide ((x:Int) < ((b.length:Nat):Int))=false:=by simp;omega
   rw [e,cond_false]
   refine step _ ?_
   have h0:b.getD x 0=0:=by rw [List.getD_eq_getElem?_getD,List.getElem?_eq_none (by omega)];rfl
   rw [wrap32_eq (n:=a.getD x 0) (by omega) (by omega),wrap32_eq (n:=c+a.getD x 0) (by omega) (by omega),h0];omega
theorem plus_J1 {N:Nat} {a b:List Int} (ha:U a) (hb:U b) (hl:b.length≤a.length) (hs:SM a.length) (hN:a.length+1 < N):g_e_plus_J1 N a b=some (lm (nvl a+nvl b).toNat):=by
 unfold g_e_plus_J1
 simp only [SM] at hs
 rw [if_pos (by rw [w64_eq (by omega) (by omega)];omega)]
 exact plus_L2 ha hb hl hs hN a.length 0 N _ 0 (by omega) (by omega) rfl (U.replicate 0) (by omega) (by omega) (by simp [nvl])
theorem plus_U {N:Nat} {a b:List Int} (ha:U a) (hb:U b) (hs:SM a.length) (hs2:SM b.length) (hN:a.length+1 < N) (hN2:b.length+1 < N):g_e_plus N a b=some (lm (nvl a+nvl b).toNat):=by
 unfold g_e_plus
 cases h:decide (((a.length:Nat):Int) < ((b.length:Nat):Int)) with
 | true =>
  simp at h
  rw [cond_true,plus_J1 hb ha (by omega) hs2 hN2,Int.add_comm]
 | false =>
  simp at h
  rw [cond_false,plus_J1 ha hb (by omega) hs hN]
theorem plus_lm {N a b:Nat} (hs:SM (lm a).length) (hs2:SM (lm b).length) (hN:(lm a).length+1 < N) (hN2:(lm b).length+1 < N):g_e_plus N (lm a) (lm b)=some (lm (a+b)):=by
 rw [plus_U (U_lm a) (U_lm b) hs hs2 hN hN2,nvl_lm,nvl_lm];congr 1
theorem minus_L1 {N:Nat} {a b:List Int} (ha:U a) (hb:U b) (hl:b.length≤a.length) (hle:nvl b≤nvl a) (hs:SM a.length) (hN:a.length+1 < N):∀ (k x fuel:Nat) (out:List Int) (c:Int),x+k=a.length→k < fuel→out.length=a.length→U out→0≤c→c≤1 →
  (∀ j,x≤j→out.getD j 0=0)→nvl out - pw x * c=nvl (a.take x) - nvl (b.take x)→g_e_minus_L1 N a b fuel out c (x:Int)=some (lm (nvl a - nvl b).toNat)
 | 0,x,fuel,out,c,hx,hf,ho,hU,hc0,hc1,hz,hinv=>by
  obtain ⟨g,rfl⟩:∃ g,fuel=g+1:=⟨fuel - 1,by omega⟩
  have hxe:x=a.length:=by omega
  subst hxe
  simp only [SM] at hs
  rw [g_e_minus_L1,dec_nlt,cond_false,exact_trim hU (by omega) (by omega),Option.bind_some]
  rw [List.take_length,List.take_of_length_le hl] at hinv
  have h1:=hU.lt
  rw [ho] at h1
  have hc:c=0:=by
   rcases Int.lt_or_le 0 c with h | h
   ·have:c=1:=by omega
    subst this;omega
   ·omega
  subst hc
  have:nvl out=nvl a - nvl b:=by omega
  rw [this]
 | k+1,x,fuel,out,c,hx,hf,ho,hU,hc0,hc1,hz,hinv=>by
  obtain ⟨g,rfl⟩:∃ g,fuel=g+1:=⟨fuel - 1,by omega⟩
  simp only [SM] at hs
  have hxl:x < a.length:=by omega
  have h1:=ha.getD x
  have h2:=hb.getD x
  rw [g_e_minus_L1,dec_lt hxl,cond_true,if_pos (inb hxl)]
  simp only [toNat_nat]
  have hA:=nvl_take_succ a x hxl
  have hB:nvl (b.take (x+1))=nvl (b.take x)+b.getD x 0 * pw x:=by
   by_cases h:x < b.length
   ·exact nvl_take_succ b x h
   ·rw [List.take_of_length_le (by omega),List.take_of_length_le (by omega),List.getD_eq_getElem?_getD,List.getElem?_eq_none (by omega)];simp
  have step:∀ y:Int,y=c+b.getD x 0→(g_e_minus_J2 N a b out (x:Int) (g_e_minus_L1 N a b g) y)=some (lm (nvl a - nvl b).toNat):=by
   intro y hy
   unfold g_e_minus_J2
   have fin:∀ q:Int,0≤q→q≤1→0≤a.getD x 0+q * 65536 - y→a.getD x 0+q * 65536 - y < 65536→g_e_minus_J3 N a b out (x:Int) y (g_e_minus_L1 N a b g) q=some (lm (nvl a - nvl b).toNat):=by
    intro q hq0 hq1 hd0 hd1
    unfold g_e_minus_J3
    rw [if_pos ⟨by omega,by omega⟩,shl16_32 (by omega) (by omega),toNat_nat,wrap32_eq (n:=a.getD x 0) (by omega) (by omega),wrap32_eq (n:=a.getD x 0+q * 65536) (by omega) (by omega),wrap32_eq (by omega) (by omega),wrap16_eq (by omega) (by omega),w64_succ (by omega)]
    refine minus_L1 ha hb hl hle hs hN k (x+1) g _ _ (by omega) (by omega) (by simp [ho]) (hU.set x (by omega) (by omega)) hq0 hq1 ?_ ?_
    ·intro j hj
     have:=hz j (by omega)
     rw [List.getD_eq_getElem?_getD] at this ⊢
     rw [List.getElem?_set_ne (by omega)];exact this
    ·rw [nvl_set _ _ _ (by omega),hz x (Nat.le_refl _),hA,hB,pw_succ]
     have h3:(a.getD x 0+q * 65536 - y - 0) * pw x=a.getD x 0 * pw x+q * 65536 * pw x - y * pw x:=by rw [Int.sub_zero,Int.sub_mul,Int.add_mul]
     have h4:y * pw x=c * pw x+b.getD x 0 * pw x:=by rw [hy,Int.add_mul]
     have h5:q * 65536 * pw x=65536 * pw x * q:=by rw [Int.mul_comm q 65536,Int.mul_assoc,Int.mul_assoc,Int.mul_comm q]
     have h6:c * pw x=pw x * c:=Int.mul_comm _ _
     omega
   rw [toNat_nat,wrap32_eq (n:=a.getD x 0) (by omega) (by omega)]
   cases hlt:decide (a.getD x 0 < y) with
   | true=>have hlt:=of_decide_eq_true hlt;rw [cond_true];exact fin 1 (by omega) (by omega) (by omega) (by omega)
   | false=>have hlt:=of_decide_eq_false hlt;rw [cond_false];exact fin 0 (by omega) (by omega) (by omega) (by omega)
  by_cases hb2:x < b.length
  ·rw [dec_lt hb2,cond_true,if_pos (inb hb2)]
   refine step _ ?_
   rw [wrap32_eq (n:=b.getD x 0) (by omega) (by omega),wrap32_eq (by omega) (by omega)]
  ·have e:decide ((x:Int) < ((b.length:Nat):Int))=false:=by simp;omega
   rw [e,cond_false]
   refine step _ ?_
   have h0:b.getD x 0=0:=by rw [List.getD_eq_getElem?_getD,List.getElem?_eq_none (by omega)];rfl
   omega
theorem getD_replicate (n j:Nat):(List.replicate n (0:Int)).getD j 0=0:=by
 rw [List.getD_eq_getElem?_getD,List.getElem?_replicate];split<;>rfl
theorem minus_U {N:Nat} {a b:List Int} (ha:U a) (hb:U b) (hl:b.length≤a.length) (hle:nvl b≤nvl a) (hs:SM a.length) (hN:a.length+1 < N):g_e_minus N a b=some (lm (nvl a - nvl b).toNat):=by
 unfold g_e_minus
 simp only [SM] at hs
 rw [if_pos (by omega)]
 exact minus_L1 ha hb hl hle hs hN a.length 0 N _ 0 (by omega) (by omega) (by simp) (U.replicate _) (by omega) (by omega) (fun j _=>getD_replicate _ j) (by rw [nvl_replicate];simp [nvl])
theorem lm_len_mono {a b:Nat} (h:a≤b):(lm a).length≤(lm b).length:=lm_len_le.2 (by have:=(lm_len_le (n:=b) (k:=(lm b).length)).1 (Nat.le_refl _);omega)
theorem minus_lm {N a b:Nat} (hab:b≤a) (hs:SM (lm a).length) (hN:(lm a).length+1 < N):g_e_minus N (lm a) (lm b)=some (lm (a - b)):=by
 rw [minus_U (U_lm a) (U_lm b) (lm_len_mono hab) (by rw [nvl_lm,nvl_lm];omega) hs hN,nvl_lm,nvl_lm]
 congr 2;omega
end Go.Den
namespace Go.Den
open Go.Ab
theorem getD_set_ne (l:List Int) {i j:Nat} (x:Int) (h:i≠j):(l.set i x).getD j 0=l.getD j 0:=by
 rw [List.getD_eq_getElem?_getD,List.getElem?_set_ne h,← List.getD_eq_getElem?_getD]
theorem getD_set_eq (l:List Int) {i:Nat} (x:Int) (h:i < l.length):(l.set i x).getD i 0=x:=by
 rw [List.getD_eq_getElem?_getD,List.getElem?_set_self h];rfl
theorem getD_ge {l:List Int} {i:Nat} (h:l.length≤i):l.getD i 0=0:=by
 rw [List.getD_eq_getElem?_getD,List.getElem?_eq_none h];rfl
theorem mul_lt16 {x y:Int} (h1:0≤x) (h2:x < 65536) (h3:0≤y) (h4:y < 65536):0≤x * y∧x * y≤4294836225:=by
 refine ⟨Int.mul_nonneg h1 h3,?_⟩
 have:=Int.mul_le_mul (show x≤65535 by omega) (show y≤65535 by omega) h3 (by omega)
 omega
theorem times_L2 {N:Nat} {a b:List Int} {i:Nat} (ha:U a) (hb:U b) (hi:i < a.length) (hs:SM (a.length+b.length)) (K:List Int→Int→Option (List Int)) (R:Option (List Int))
  (hK:∀ out,out.length=a.length+b.length→U out→(∀ j,i+b.length < j→out.getD j 0=0)→nvl out=nvl (a.take (i+1)) * nvl b→K out ((i+1:Nat):Int)=R) :
  ∀ (k x fuel:Nat) (out:List Int) (c:Int),x+k=b.length→k < fuel→out.length=a.length+b.length→U out→0≤c→c < 65536→(∀ j,i+b.length≤j→out.getD j 0=0) →
   nvl out+pw (i+x) * c=nvl (a.take i) * nvl b+a.getD i 0 * pw i * nvl (b.take x)→g_e_times_L2 N a b (i:Int) K fuel out c (x:Int)=R
 | 0,x,fuel,out,c,hx,hf,ho,hU,hc0,hc1,hz,hinv=>by
  obtain ⟨g,rfl⟩:∃ g,fuel=g+1:=⟨fuel - 1,by omega⟩
  have hxe:x=b.length:=by omega
  subst hxe
  simp only [SM] at hs
  have e:w64 ((i:Int)+((b.length:Nat):Int))=((i+b.length:Nat):Int):=by rw [w64_eq (by omega) (by omega)];omega
  rw [g_e_times_L2,dec_nlt,cond_false,e,if_pos (inb (by omega)),toNat_nat,wrap16_eq hc0 hc1,w64_succ (by omega)]
  refine hK _ (by simp [ho]) (hU.set _ hc0 hc1) (fun j hj=>?_) ?_
  ·rw [getD_set_ne _ _ (by omega)];exact hz j (by omega)
  ·rw [nvl_set _ _ _ (by omega),hz _ (Nat.le_refl _),Int.sub_zero,nvl_take_succ a i hi,Int.add_mul,Int.mul_comm c]
   rw [List.take_length] at hinv
   exact hinv
 | k+1,x,fuel,out,c,hx,hf,ho,hU,hc0,hc1,hz,hinv=>by
  obtain ⟨g,rfl⟩:∃ g,fuel=g+1:=⟨fuel - 1,by omega⟩
  simp only [SM] at hs
  have hxl:x < b.length:=by omega
  have h1:=ha.getD i
  have h2:=hb.getD x
  have h3:=hU.getD (i+x)
  have e:w64 ((i:Int)+(x:Int))=((i+x:Nat):Int):=by rw [w64_eq (by omega) (by omega)];omega
  have h4:=mul_lt16 h1.1 h1.2 h2.1 h2.2
  rw [g_e_times_L2,dec_lt hxl,cond_true,if_pos (inb hxl),e,if_pos (inb (by omega))]
  simp only [toNat_nat]
  rw [wrap32_eq (n:=a.getD i 0) (by omega) (by omega),wrap32_eq (n:=b.getD x 0) (by omega) (by omega),wrap32_eq (n:=out.getD (i+x) 0) (by omega) (by omega),wrap32_eq (n:=a.getD i 0 * b.getD x 0) (by omega) (by omega),
   wrap32_eq (n:=a.getD i 0 * b.getD x 0+out.getD (i+x) 0) (by omega) (by omega),wrap32_eq (n:=c+(a.getD i 0 * b.getD x 0+out.getD (i+x) 0)) (by omega) (by omega),wrap16,shr16_32,w64_succ (by omega)]
  generalize hs2:c+(a.getD i 0 * b.getD x 0+out.getD (i+x) 0)=s
  refine times_L2 ha hb hi hs K R hK k (x+1) g _ _ (by omega) (by omega) (by simp [ho]) (hU.set _ (by omega) (by omega)) (by omega) (by omega) (fun j hj=>?_) ?_
  ·rw [getD_set_ne _ _ (by omega)];exact hz j hj
  ·rw [nvl_set _ _ _ (by omega),nvl_take_succ b x hxl,show i+(x+1)=(i+x)+1 by omega,pw_succ]
   have h5:s=s % 65536+65536 * (s / 65536):=by omega
   have h6:pw (i+x) * s=pw (i+x) * (s % 65536)+pw (i+x) * (65536 * (s / 65536)):=by rw [← Int.mul_add,← h5]
   have h7:pw (i+x) * s=pw (i+x) * c+pw (i+x) * (a.getD i 0 * b.getD x 0)+pw (i+x) * out.getD (i+x) 0:=by rw [← hs2,Int.mul_add,Int.mul_add];omega
   have h8:65536 * pw (i+x) * (s / 65536)=pw (i+x) * (65536 * (s / 65536)):=by rw [Int.mul_comm 65536,Int.mul_assoc]
   have h9:(s % 65536 - out.getD (i+x) 0) * pw (i+x)=pw (i+x) * (s % 65536) - pw (i+x) * out.getD (i+x) 0:=by rw [Int.sub_mul,Int.mul_comm,Int.mul_comm (out.getD (i+x) 0)]
   have h10:a.getD i 0 * pw i * (nvl (b.take x)+b.getD x 0 * pw x)=a.getD i 0 * pw i * nvl (b.take x)+pw (i+x) * (a.getD i 0 * b.getD x 0):=by
    rw [pw_add];grind
   omega
theorem times_L1 {N:Nat} {a b:List Int} (ha:U a) (hb:U b) (hs:SM (a.length+b.length)) (hN:a.length+b.length < N):∀ (k x fuel:Nat) (out:List Int),x+k=a.length→k < fuel→out.length=a.length+b.length→U out →
  (∀ j,x+b.length≤j→out.getD j 0=0)→nvl out=nvl (a.take x) * nvl b→g_e_times_L1 N a b fuel out (x:Int)=some (lm (nvl a * nvl b).toNat)
 | 0,x,fuel,out,hx,hf,ho,hU,hz,hinv=>by
  obtain ⟨g,rfl⟩:∃ g,fuel=g+1:=⟨fuel - 1,by omega⟩
  have hxe:x=a.length:=by omega
  subst hxe
  simp only [SM] at hs
  rw [g_e_times_L1,dec_nlt,cond_false,exact_trim hU (by omega) (by omega),Option.bind_some,hinv,List.take_length]
 | k+1,x,fuel,out,hx,hf,ho,hU,hz,hinv=>by
  obtain ⟨g,rfl⟩:∃ g,fuel=g+1:=⟨fuel - 1,by omega⟩
  have hxl:x < a.length:=by omega
  rw [g_e_times_L1,dec_lt hxl,cond_true,if_pos (inb hxl)]
  refine times_L2 ha hb hxl hs _ _ (fun out2 h1 h2 h3 h4=>?_) b.length 0 N out 0 (by omega) (by omega) ho hU (by omega) (by omega) hz (by rw [hinv];simp [nvl])
  exact times_L1 ha hb hs hN k (x+1) g out2 (by omega) (by omega) h1 h2 (fun j hj=>h3 j (by omega)) h4
theorem times_U {N:Nat} {a b:List Int} (ha:U a) (hb:U b) (hs:SM (a.length+b.length)) (hN:a.length+b.length < N):g_e_times N a b=some (lm (nvl a * nvl b).toNat):=by
 unfold g_e_times
 have hs':=hs
 simp only [SM] at hs'
 have e:w64 (((a.length:Nat):Int)+((b.length:Nat):Int))=((a.length+b.length:Nat):Int):=by rw [w64_eq (by omega) (by omega)];omega
 rw [e,if_pos (by omega)]
 exact times_L1 ha hb hs hN a.length 0 N _ (by omega) (by omega) (by simp;omega) (U.replicate _) (fun j _=>getD_replicate _ j) (by rw [nvl_replicate];simp [nvl])
theorem toNat_mul_nat (a b:Nat):((a:Int) * (b:Int)).toNat=a * b:=by rw [← Int.natCast_mul];rfl
theorem times_lm {N a b:Nat} (hs:SM ((lm a).length+(lm b).length)) (hN:(lm a).length+(lm b).length < N):g_e_times N (lm a) (lm b)=some (lm (a * b)):=by
 rw [times_U (U_lm a) (U_lm b) hs hN,nvl_lm,nvl_lm,toNat_mul_nat]
theorem short_L1 {N:Nat} {a:List Int} {d:Int} (ha:U a) (hd0:0 < d) (hd1:d < 65536) (hs:SM a.length) (hN:a.length < N):∀ (k fuel:Nat) (q:List Int) (r:Int),k≤a.length→k < fuel→q.length=a.length→U q→0≤r→r < d →
  (∀ j,j < k→q.getD j 0=0)→pw k * nvl (a.drop k)=nvl q * d+r * pw k→∃ Q R:Int,0≤Q∧0≤R∧R < d∧nvl a=Q * d+R∧g_e_short_L1 N a d fuel q r ((k:Int) - 1)=some (lm Q.toNat,R)
 | 0,fuel,q,r,hk,hf,ho,hU,hr0,hr1,hz,hinv=>by
  obtain ⟨g,rfl⟩:∃ g,fuel=g+1:=⟨fuel - 1,by omega⟩
  simp only [SM] at hs
  refine ⟨nvl q,r,hU.nonneg,hr0,hr1,by rw [pw_zero] at hinv;simpa using hinv,?_⟩
  rw [g_e_short_L1]
  have e:decide ((((0:Nat):Int) - 1)≥0)=false:=rfl
  rw [e,cond_false,exact_trim hU (by omega) (by omega),Option.bind_some,wrap16_eq hr0 (by omega)]
 | k+1,fuel,q,r,hk,hf,ho,hU,hr0,hr1,hz,hinv=>by
  obtain ⟨g,rfl⟩:∃ g,fuel=g+1:=⟨fuel - 1,by omega⟩
  simp only [SM] at hs
  have e:(((k+1:Nat):Int) - 1)=(k:Int):=by omega
  have h1:=ha.getD k
  have e0:decide ((k:Int)≥0)=true:=by simp
  rw [e,g_e_short_L1,e0,cond_true,if_pos (inb (by omega)),wrap32_eq (n:=d) (by omega) (by omega),if_pos (by omega),if_pos (inb (by omega))]
  simp only [toNat_nat]
  rw [wrap32_eq (n:=a.getD k 0) (by omega) (by omega),shl16_32 hr0 (by omega),or16_32 hr0 (by omega) h1.1 h1.2,w64_eq (by omega) (by omega)]
  have hn0:0≤r * 65536+a.getD k 0:=by omega
  have hn1:r * 65536+a.getD k 0 < d * 65536:=by omega
  generalize hn:r * 65536+a.getD k 0=n at hn0 hn1 ⊢
  rw [Int.tdiv_eq_ediv_of_nonneg hn0,Int.tmod_eq_emod_of_nonneg hn0]
  have hq1:n / d < 65536:=Int.ediv_lt_of_lt_mul hd0 (by rw [Int.mul_comm];exact hn1)
  have hq0:0≤n / d:=Int.ediv_nonneg hn0 (by omega)
  rw [wrap32_eq hq0 (by omega),wrap16_eq hq0 hq1]
  refine short_L1 ha hd0 hd1 hs hN k g _ _ (by omega) (by omega) (by simp [ho]) (hU.set _ hq0 hq1) (Int.emod_nonneg _ (by omega)) (Int.emod_lt_of_pos _ hd0) (fun j hj=>?_) ?_
  ·rw [getD_set_ne _ _ (by omega)];exact hz j (by omega)
  ·rw [nvl_set _ _ _ (by omega),hz k (by omega),Int.sub_zero,nvl_drop a k (by omega)]
   have h2:=Int.mul_ediv_add_emod n d
   rw [pw_succ] at hinv
   have h3:pw k * n=pw k * (d * (n / d))+pw k * (n % d):=by rw [← Int.mul_add,h2]
   have h4:pw k * n=pw k * (r * 65536)+pw k * a.getD k 0:=by rw [← hn,Int.mul_add]
   grind
theorem short_lm {N a d:Nat} (hd0:0 < d) (hd1:d < 65536) (hs:SM (lm a).length) (hN:(lm a).length < N):g_e_short N (lm a) (d:Int)=some (lm (a / d),((a % d:Nat):Int)):=by
 unfold g_e_short
 have hs':=hs
 simp only [SM] at hs'
 rw [if_pos (by omega),w64_eq (by omega) (by omega)]
 obtain ⟨Q,R,h1,h2,h3,h4,h5⟩:=short_L1 (N:=N) (d:=(d:Int)) (U_lm a) (by omega) (by omega) hs hN (lm a).length N (List.replicate (lm a).length 0) 0 (Nat.le_refl _) hN (by simp) (U.replicate _) (by omega) (by omega) (fun j _=>getD_replicate _ j)
  (by rw [List.drop_length,nvl_replicate];simp [nvl])
 rw [h5]
 rw [nvl_lm] at h4
 obtain ⟨Q,rfl⟩:=Int.eq_ofNat_of_zero_le h1
 obtain ⟨R,rfl⟩:=Int.eq_ofNat_of_zero_le h2
 have h6:a=Q * d+R:=by exact_mod_cast h4
 have h7:R < d:=by omega
 have h8:a / d=Q:=by rw [h6,Nat.mul_comm,Nat.mul_add_div hd0,Nat.div_eq_of_lt h7];rfl
 have h9:a % d=R:=by rw [h6,Nat.mul_comm,Nat.mul_add_mod,Nat.mod_eq_of_lt h7]
 rw [h8,h9];rfl
theorem natural_L1 {N:Nat}:∀ (fuel n:Nat) (out:List Int),(lm n).length < fuel→out.length+(lm n).length < 1000→n < 18446744073709551616→g_e_natural_L1 N fuel (n:Int) out=some (out ++ lm n)
 | 0,n,out,h,_,_=>by omega
 | fuel+1,n,out,h,h2,h3=>by
  rw [g_e_natural_L1]
  by_cases hn:n=0
  ·subst hn;rw [lm_zero];simp
  ·have e:decide ((n:Int) > 0)=true:=by simp;omega
   rw [lm_pos hn] at h h2
   simp only [List.length_cons] at h h2
   rw [e,cond_true,if_pos (by omega),shr16_64,wrap16]
   have e1:((n:Int) / 65536)=((n / 65536:Nat):Int):=by omega
   have e2:((n:Int) % 65536)=((n % 65536:Nat):Int):=by omega
   rw [e1,e2,natural_L1 fuel (n / 65536) _ (by omega) (by simp;omega) (by omega),lm_pos hn,List.append_assoc];rfl
theorem lm_len_4 {n:Nat} (h:n < 18446744073709551616):(lm n).length≤4:=lm_len_le.2 (by show (n:Int) < 65536 ^ 4;omega)
theorem natural_eq {N n:Nat} (hN:4 < N) (h:n < 18446744073709551616):g_e_natural N (n:Int)=some (lm n):=by
 unfold g_e_natural
 have:=lm_len_4 h
 rw [natural_L1 N n [] (by omega) (by simp;omega) h];rfl
theorem limbs_L1 {N:Nat}:∀ (fuel n:Nat) (out:List Int),(lm n).length < fuel→out.length+(lm n).length < 1000→n < 18446744073709551616→g_b_limbs_L1 N fuel (n:Int) out=some (out ++ lm n)
 | 0,n,out,h,_,_=>by omega
 | fuel+1,n,out,h,h2,h3=>by
  rw [g_b_limbs_L1]
  by_cases hn:n=0
  ·subst hn;rw [lm_zero];simp
  ·have e:decide ((n:Int) > 0)=true:=by simp;omega
   rw [lm_pos hn] at h h2
   simp only [List.length_cons] at h h2
   rw [e,cond_true,if_pos (by omega),shr16_64,and16_64 (by omega) (by omega),wrap16]
   have e1:((n:Int) / 65536)=((n / 65536:Nat):Int):=by omega
   have e2:((n:Int) % 65536 % 65536)=((n % 65536:Nat):Int):=by omega
   rw [e1,e2,limbs_L1 fuel (n / 65536) _ (by omega) (by simp;omega) (by omega),lm_pos hn,List.append_assoc];rfl
theorem limbs_eq {N n:Nat} (hN:4 < N) (h:n < 18446744073709551616):g_b_limbs N (n:Int)=some (lm n):=by
 unfold g_b_limbs
 have:=lm_len_4 h
 rw [limbs_L1 N n [] (by omega) (by simp;omega) h];rfl
theorem word_L1 {N:Nat} {a:List Int} (ha:U a) (hs:a.length≤4):∀ (k fuel:Nat) (r:Int),k≤a.length→k < fuel→0≤r→r < pw (4 - k)→nvl (a.drop k)=r→g_e_word_L1 N a fuel r ((k:Int) - 1)=some (nvl a,true)
 | 0,fuel,r,hk,hf,hr0,hr1,hinv=>by
  obtain ⟨g,rfl⟩:∃ g,fuel=g+1:=⟨fuel - 1,by omega⟩
  rw [g_e_word_L1]
  have e:decide ((((0:Nat):Int) - 1)≥0)=false:=rfl
  rw [e,cond_false,← hinv,List.drop_zero]
 | k+1,fuel,r,hk,hf,hr0,hr1,hinv=>by
  obtain ⟨g,rfl⟩:∃ g,fuel=g+1:=⟨fuel - 1,by omega⟩
  have e:(((k+1:Nat):Int) - 1)=(k:Int):=by omega
  have h1:=ha.getD k
  have e0:decide ((k:Int)≥0)=true:=by simp
  have hp:pw (4 - k)=65536 * pw (4 - (k+1)):=by rw [← pw_succ];congr 1;omega
  have hle:pw (4 - (k+1))≤281474976710656:=by
   have:k=0∨k=1∨k=2∨k=3:=by omega
   rcases this with rfl | rfl | rfl | rfl<;>decide
  rw [e,g_e_word_L1,e0,cond_true,if_pos (inb (by omega)),toNat_nat,wrap64_eq (n:=a.getD k 0) (by omega) (by omega),shl16_64 hr0 (by omega),or16_64 hr0 (by omega) h1.1 h1.2,w64_eq (by omega) (by omega)]
  refine word_L1 ha hs k g _ (by omega) (by omega) (by omega) (by omega) ?_
  rw [nvl_drop a k (by omega),hinv];omega
theorem word_eq {N a:Nat} (hN:5 < N) (hs:SM (lm a).length):g_e_word N (lm a)=some (if (lm a).length≤4 then ((a:Int),true) else (0,false)):=by
 unfold g_e_word
 by_cases h:(lm a).length≤4
 ·rw [if_pos h]
  have e:decide ((((lm a).length:Nat):Int) > 4)=false:=by simp;omega
  rw [e,cond_false,w64_eq (by omega) (by omega),word_L1 (U_lm a) h (lm a).length N 0 (Nat.le_refl _) (by omega) (by omega) (pw_pos _) (by rw [List.drop_length];rfl),nvl_lm]
 ·rw [if_neg h]
  have e:decide ((((lm a).length:Nat):Int) > 4)=true:=by simp;omega
  rw [e];rfl
end Go.Den
namespace Go.Den
open Go.Ab
theorem len_tab0:∀ x:Fin 256,(match g_math_bits_Len16_J1 0 ((x.val:Nat):Int) 0 with | some L=>decide (0≤L∧L≤8∧(x.val≠0→1≤L∧2 ^ (L.toNat - 1)≤x.val∧x.val < 2 ^ L.toNat)) | none=>false)=true:=by decide +kernel
theorem len_tab8:∀ x:Fin 256,(match g_math_bits_Len16_J1 0 ((x.val:Nat):Int) 8 with | some L=>decide (8≤L∧L≤16∧(x.val≠0→9≤L∧2 ^ (L.toNat - 1 - 8)≤x.val∧x.val < 2 ^ (L.toNat - 8))) | none=>false)=true:=by decide +kernel
theorem len16_eq {N x:Nat} (h0:0 < x) (h1:x < 65536):∃ L:Nat,1≤L∧L≤16∧g_math_bits_Len16 N (x:Int)=some (L:Int)∧2 ^ (L - 1)≤x∧x < 2 ^ L:=by
 unfold g_math_bits_Len16
 by_cases h:x < 256
 ·have e:decide ((x:Int)≥256)=false:=by simp;omega
  rw [e,cond_false]
  have:=len_tab0 ⟨x,h⟩
  simp only at this
  show ∃ L:Nat,1≤L∧L≤16∧g_math_bits_Len16_J1 0 (x:Int) 0=some (L:Int)∧2 ^ (L - 1)≤x∧x < 2 ^ L
  cases hr:g_math_bits_Len16_J1 0 (x:Int) 0 with
  | none=>rw [hr] at this;cases this
  | some L =>
   rw [hr] at this
   obtain ⟨q1,q2,q3⟩:=of_decide_eq_true this
   obtain ⟨q4,q5,q6⟩:=q3 (by omega)
   obtain ⟨L,rfl⟩:=Int.eq_ofNat_of_zero_le q1
   exact ⟨L,by omega,by omega,rfl,q5,q6⟩
 ·have e:decide ((x:Int)≥256)=true:=by simp;omega
  rw [e,cond_true]
  have e2:shrI .u16 (x:Int) 8=((x / 256:Nat):Int):=by
   unfold shrI
   have:(2:Int) ^ (min (8:Int).toNat IntKind.u16.bits)=256:=by decide
   rw [this,Int.fdiv_eq_ediv_of_nonneg _ (by decide)];omega
  rw [e2]
  have:=len_tab8 ⟨x / 256,by omega⟩
  simp only at this
  have hJ:g_math_bits_Len16_J1 N ((x / 256:Nat):Int) 8=g_math_bits_Len16_J1 0 ((x / 256:Nat):Int) 8:=rfl
  rw [hJ]
  cases hr:g_math_bits_Len16_J1 0 ((x / 256:Nat):Int) 8 with
  | none=>rw [hr] at this;cases this
  | some L =>
   rw [hr] at this
   obtain ⟨q1,q2,q3⟩:=of_decide_eq_true this
   obtain ⟨q4,q5,q6⟩:=q3 (by omega)
   obtain ⟨L,rfl⟩:=Int.eq_ofNat_of_zero_le (show 0≤L by omega)
   simp only [Int.toNat_natCast] at q5 q6
   refine ⟨L,by omega,by omega,rfl,?_,?_⟩
   ·have:2 ^ (L - 1 - 8+8)=2 ^ (L - 1 - 8) * 2 ^ 8:=Nat.pow_add _ _ _
    have h8:(2:Nat) ^ 8=256:=by decide
    have h9:L - 1 - 8+8=L - 1:=by omega
    rw [h8,h9] at this
    omega
   ·have:2 ^ (L - 8+8)=2 ^ (L - 8) * 2 ^ 8:=Nat.pow_add _ _ _
    have h8:(2:Nat) ^ 8=256:=by decide
    have h9:L - 8+8=L:=by omega
    rw [h8,h9] at this
    omega
theorem lz_eq {N x:Nat} (h0:0 < x) (h1:x < 65536):∃ s:Nat,s≤15∧g_math_bits_LeadingZeros16 N (x:Int)=some (s:Int)∧32768≤x * 2 ^ s∧x * 2 ^ s < 65536:=by
 obtain ⟨L,h2,h3,h4,h5,h6⟩:=len16_eq (N:=N) h0 h1
 refine ⟨16 - L,by omega,?_,?_,?_⟩
 ·unfold g_math_bits_LeadingZeros16
  rw [h4,Option.bind_some,w64_eq (by omega) (by omega)];congr 1;omega
 ·have e:2 ^ (L - 1) * 2 ^ (16 - L)=32768:=by rw [← Nat.pow_add,show L - 1+(16 - L)=15 by omega]
  have:=Nat.mul_le_mul_right (2 ^ (16 - L)) h5
  omega
 ·have e:2 ^ L * 2 ^ (16 - L)=65536:=by rw [← Nat.pow_add,show L+(16 - L)=16 by omega]
  have:=Nat.mul_lt_mul_of_pos_right h6 (Nat.two_pow_pos (16 - L))
  omega
theorem shl_32 {n:Int} {s:Nat} (h:0≤n) (h2:n < 65536) (hs:s≤15):shlI .u32 n (s:Int)=n * 2 ^ s∧0≤n * 2 ^ s∧n * 2 ^ s < 65536 * 2 ^ s∧n * 2 ^ s < 2147483648:=by
 have hp:(0:Int) < 2 ^ s:=Int.pow_pos (by decide)
 have hp2:(2:Int) ^ s≤32768:=by
  have:=Nat.pow_le_pow_right (n:=2) (by decide) hs
  have e:((2 ^ s:Nat):Int)=(2:Int) ^ s:=by simp
  omega
 have h3:0≤n * 2 ^ s:=Int.mul_nonneg h (by omega)
 have h4:n * 2 ^ s < 65536 * 2 ^ s:=Int.mul_lt_mul_of_pos_right h2 hp
 refine ⟨?_,h3,h4,by omega⟩
 unfold shlI
 have:min ((s:Nat):Int).toNat IntKind.u32.bits=s:=by show min s 32=s;omega
 rw [this,wrap32_eq h3 (by omega)]
theorem or_low {c a:Int} {s:Nat} (hs:s≤15) (hc0:0≤c) (hc1:c < 2 ^ s) (ha0:0≤a):orI .u16 c (a * 2 ^ s % 65536)=c+a * 2 ^ s % 65536∧c+a * 2 ^ s % 65536 < 65536:=by
 obtain ⟨c,rfl⟩:=Int.eq_ofNat_of_zero_le hc0
 obtain ⟨a,rfl⟩:=Int.eq_ofNat_of_zero_le ha0
 have hc:c < 2 ^ s:=by
  have e:((2 ^ s:Nat):Int)=(2:Int) ^ s:=by simp
  omega
 have hp:2 ^ s≤32768:=Nat.pow_le_pow_right (n:=2) (by decide) hs
 have e1:(a:Int) * 2 ^ s % 65536=((a * 2 ^ s % 65536:Nat):Int):=by simp
 have e2:a * 2 ^ s % 65536=a % 2 ^ (16 - s) * 2 ^ s:=by
  have:65536=2 ^ (16 - s) * 2 ^ s:=by rw [← Nat.pow_add,show 16 - s+s=16 by omega]
  rw [this,Nat.mul_mod_mul_right]
 have e3:a % 2 ^ (16 - s) * 2 ^ s+2 ^ s≤65536:=by
  have h1:a % 2 ^ (16 - s)+1≤2 ^ (16 - s):=Nat.mod_lt _ (Nat.two_pow_pos _)
  have h2:=Nat.mul_le_mul_right (2 ^ s) h1
  rw [← Nat.pow_add,show 16 - s+s=16 by omega,Nat.add_mul] at h2
  omega
 rw [e1,e2]
 generalize a % 2 ^ (16 - s)=m at *
 constructor
 ·unfold orI
  rw [show IntKind.u16.bits=16 from rfl,bv_or _ _ (by omega) (by omega),Nat.or_comm,nat_or_add _ _ s hc,wrap16]
  omega
 ·omega
theorem shifted_L1 {N:Nat} {a:List Int} {s:Nat} (ha:U a) (hs:s≤15) (hS:SM a.length):∀ (k x fuel:Nat) (out:List Int),x+k=a.length→k < fuel→out.length=a.length+1→U out→out.getD x 0 < 2 ^ s→(∀ j,x < j→out.getD j 0=0) →
  nvl out=nvl (a.take x) * 2 ^ s→∃ o,g_e_shifted_L1 N a (s:Int) fuel out (x:Int)=some o∧o.length=a.length+1∧U o∧nvl o=nvl a * 2 ^ s∧o.getD a.length 0 < 2 ^ s
 | 0,x,fuel,out,hx,hf,ho,hU,hc,hz,hinv=>by
  obtain ⟨g,rfl⟩:∃ g,fuel=g+1:=⟨fuel - 1,by omega⟩
  have hxe:x=a.length:=by omega
  subst hxe
  exact ⟨out,by rw [g_e_shifted_L1,dec_nlt,cond_false],ho,hU,by rw [hinv,List.take_length],hc⟩
 | k+1,x,fuel,out,hx,hf,ho,hU,hc,hz,hinv=>by
  obtain ⟨g,rfl⟩:∃ g,fuel=g+1:=⟨fuel - 1,by omega⟩
  simp only [SM] at hS
  have hxl:x < a.length:=by omega
  have h1:=ha.getD x
  have h2:=hU.getD x
  obtain ⟨w1,w2,w3,w4⟩:=shl_32 h1.1 h1.2 hs
  obtain ⟨o1,o2⟩:=or_low hs h2.1 hc h1.1
  rw [g_e_shifted_L1,dec_lt hxl,cond_true,if_pos (inb hxl),if_pos (by omega),if_pos (inb (by omega)),w64_succ (by omega)]
  simp only [toNat_nat]
  rw [wrap32_eq (n:=a.getD x 0) (by omega) (by omega),w1,wrap16,shr16_32,wrap16,o1]
  rw [if_pos ⟨by omega,by simp;omega⟩]
  generalize hw:a.getD x 0 * 2 ^ s=w at *
  have hw5:w / 65536 < 2 ^ s:=by omega
  have hw6:w / 65536 % 65536=w / 65536:=by omega
  rw [hw6]
  have hU1:U (out.set x (out.getD x 0+w % 65536)):=hU.set x (by omega) o2
  refine shifted_L1 ha hs hS k (x+1) g _ (by omega) (by omega) (by simp [ho]) (hU1.set (x+1) (by omega) (by omega)) ?_ (fun j hj=>?_) ?_
  ·rw [getD_set_eq _ _ (by simp;omega)];exact hw5
  ·rw [getD_set_ne _ _ (by omega),getD_set_ne _ _ (by omega)];exact hz j (by omega)
  ·rw [nvl_set _ _ _ (by simp;omega),getD_set_ne _ _ (by omega),hz (x+1) (by omega),nvl_set _ _ _ (by omega),nvl_take_succ a x hxl,hinv,pw_succ,Int.add_mul]
   have h3:w=w % 65536+65536 * (w / 65536):=by omega
   have h4:w * pw x=(w % 65536+65536 * (w / 65536)) * pw x:=by rw [← h3]
   have h5:a.getD x 0 * pw x * 2 ^ s=w * pw x:=by rw [← hw];grind
   grind
theorem shifted_eq {N:Nat} {a:List Int} {s:Nat} (ha:U a) (hs:s≤15) (hS:SM a.length) (hN:a.length < N):∃ o,g_e_shifted N a (s:Int)=some o∧o.length=a.length+1∧U o∧nvl o=nvl a * 2 ^ s∧o.getD a.length 0 < 2 ^ s:=by
 unfold g_e_shifted
 have hS':=hS
 simp only [SM] at hS'
 have e:w64 (((a.length:Nat):Int)+1)=((a.length+1:Nat):Int):=w64_succ (by omega)
 rw [e,if_pos (by omega)]
 exact shifted_L1 ha hs hS a.length 0 N _ (by omega) hN (by simp) (U.replicate _) (by rw [getD_replicate];exact Int.pow_pos (by decide)) (fun j _=>getD_replicate _ j) (by rw [nvl_replicate];simp [nvl])
theorem getD_app (p w:List Int) (i:Nat):(p ++ w).getD (addz p.length i) 0=w.getD i 0:=by
 rw [addz_eq,List.getD_eq_getElem?_getD,List.getElem?_append_right (by omega),List.getD_eq_getElem?_getD];congr 2;omega
theorem set_app (p w:List Int) (i:Nat) (x:Int):(p ++ w).set (addz p.length i) x=p ++ w.set i x:=by
 rw [addz_eq,List.set_append_right _ _ (by omega)];congr 2;omega
theorem nvl_zeros:∀ {l:List Int} (m:Nat),(∀ j,m≤j→l.getD j 0=0)→nvl l=nvl (l.take m)
 | [],m,_=>by simp
 | x :: l,0,h=>by
  have h0:x=0:=h 0 (Nat.le_refl _)
  have:=nvl_zeros (l:=l) 0 fun j _=>h (j+1) (by omega)
  simp [nvl] at this;simp [nvl,h0,this]
 | x :: l,m+1,h=>by
  have:=nvl_zeros (l:=l) m fun j hj=>h (j+1) (by omega)
  simp only [List.take_succ_cons,nvl,this]
theorem lt_zeros {l:List Int} (hU:U l) (m:Nat) (h:∀ j,m≤j→l.getD j 0=0):nvl l < pw m:=by
 rw [nvl_zeros m h]
 have h1:=(hU.take m).lt
 rw [List.length_take] at h1
 by_cases hm:m≤l.length
 ·rwa [Nat.min_eq_left hm] at h1
 ·rw [Nat.min_eq_right (by omega)] at h1
  have:pw m=pw l.length * pw (m - l.length):=by rw [← pw_add];congr 1;omega
  have h2:=pw_pos (m - l.length)
  have h3:=Int.mul_le_mul_of_nonneg_left (show 1≤pw (m - l.length) by omega) (Int.le_of_lt (pw_pos l.length))
  omega
theorem zeros_lt {l:List Int} (hU:U l) (m:Nat) (h:nvl l < pw m):∀ j,m≤j→l.getD j 0=0:=by
 intro j hj
 by_cases hl:j < l.length
 ·have h1:=nvl_take_drop l j (by omega)
  have h2:=nvl_drop l j hl
  have h3:=(hU.take j).nonneg
  have h4:=(hU.drop (j+1)).nonneg
  have h5:=hU.getD j
  have h6:pw m≤pw j:=by
   have:pw j=pw m * pw (j - m):=by rw [← pw_add];congr 1;omega
   have h2:=pw_pos (j - m)
   have h3:=Int.mul_le_mul_of_nonneg_left (show 1≤pw (j - m) by omega) (Int.le_of_lt (pw_pos m))
   omega
  have h7:¬ 0 < nvl (l.drop j):=fun h0=>by
   have:=Int.mul_le_mul_of_nonneg_left (show 1≤nvl (l.drop j) by omega) (Int.le_of_lt (pw_pos j))
   omega
  omega
 ·exact getD_ge (by omega)
theorem digit_L2 {N:Nat} {p v:List Int} {q:Int} (hv:U v) (hq0:0≤q) (hq1:q < 65536) (hS:SM v.length) (W:Int) :
  ∀ (k x fuel:Nat) (w:List Int) (c br:Int),x+k=v.length+1→k < fuel→v.length+1≤w.length→U w→0≤c→c < 65536→(x=v.length+1→c=0)→(br=0∨br = -1)→(∀ j,v.length+1≤j→w.getD j 0=0) →
   nvl w=W - q * nvl (v.take x)+pw x * (c - br)→∃ (w':List Int) (br':Int),w'.length=w.length∧U w'∧(br'=0∨br' = -1)∧(∀ j,v.length+1≤j→w'.getD j 0=0)∧nvl w'=W - q * nvl v - pw (v.length+1) * br' ∧
    g_e_digit_L2 N p.length (v.length+1) v q fuel (p ++ w) c br (x:Int)=cond (decide (br' < 0)) (g_e_digit_L4 N p.length (v.length+1) v q N (p ++ w') 0 0) (g_e_digit_J5 N (p ++ w') q)
 | 0,x,fuel,w,c,br,hx,hf,hw,hU,hc0,hc1,hc2,hbr,hz,hinv=>by
  obtain ⟨g,rfl⟩:∃ g,fuel=g+1:=⟨fuel - 1,by omega⟩
  have hxe:x=v.length+1:=by omega
  subst hxe
  simp only [SM] at hS
  rw [hc2 rfl] at hinv
  refine ⟨w,br,rfl,hU,hbr,hz,?_,by rw [g_e_digit_L2,w64_succ (by omega),dec_nlt,cond_false]⟩
  rw [hinv,List.take_of_length_le (by omega),Int.zero_sub,Int.mul_neg];omega
 | k+1,x,fuel,w,c,br,hx,hf,hw,hU,hc0,hc1,hc2,hbr,hz,hinv=>by
  obtain ⟨g,rfl⟩:∃ g,fuel=g+1:=⟨fuel - 1,by omega⟩
  simp only [SM] at hS
  have hxl:x < v.length+1:=by omega
  have h1:=hU.getD x
  have hlen:(p ++ w).length=p.length+w.length:=List.length_append
  have step:∀ y:Int,0≤y→y < 4294967296→(x=v.length→y < 65536)→y=q * v.getD x 0+c →
    ∃ (w':List Int) (br':Int),w'.length=w.length∧U w'∧(br'=0∨br' = -1)∧(∀ j,v.length+1≤j→w'.getD j 0=0)∧nvl w'=W - q * nvl v - pw (v.length+1) * br' ∧
    g_e_digit_J3 N p.length (v.length+1) v q (p ++ w) br (x:Int) (g_e_digit_L2 N p.length (v.length+1) v q g) y=cond (decide (br' < 0)) (g_e_digit_L4 N p.length (v.length+1) v q N (p ++ w') 0 0) (g_e_digit_J5 N (p ++ w') q):=by
   intro y hy0 hy1 hy2 hy
   unfold g_e_digit_J3
   rw [if_pos (inb hxl),if_pos (by omega)]
   simp only [toNat_nat]
   rw [getD_app,and16_64 hy0 (by omega),w64_eq (n:=w.getD x 0) (by omega) (by omega),w64_eq (n:=y % 65536) (by omega) (by omega),w64_eq (n:=w.getD x 0 - y % 65536) (by omega) (by omega),
    w64_eq (n:=w.getD x 0 - y % 65536+br) (by omega) (by omega),wrap16,shr16_64,shr16_i64,w64_succ (by omega),set_app]
   generalize hd:w.getD x 0 - y % 65536+br=d
   have hd1:-65536≤d∧d < 65536:=by omega
   have:=digit_L2 (N:=N) (p:=p) hv hq0 hq1 hS W k (x+1) g (w.set x (d % 65536)) (y / 65536) (d / 65536) (by omega) (by omega) (by simp;omega) (hU.set _ (by omega) (by omega)) (by omega) (by omega) (fun h=>by have:=hy2 (by omega);omega) (by omega) (fun j hj=>?_) ?_
   ·rwa [List.length_set] at this
   ·rw [getD_set_ne _ _ (by omega)];exact hz j hj
   ·rw [nvl_set _ _ _ (by omega),hinv,pw_succ]
    have hV:nvl (v.take (x+1))=nvl (v.take x)+v.getD x 0 * pw x:=by
     by_cases h:x < v.length
     ·exact nvl_take_succ v x h
     ·rw [List.take_of_length_le (by omega),List.take_of_length_le (by omega),getD_ge (by omega)];simp
    rw [hV]
    have h5:d=d % 65536+65536 * (d / 65536):=by omega
    have h6:y=y % 65536+65536 * (y / 65536):=by omega
    have h7:d * pw x=(d % 65536) * pw x+65536 * (d / 65536) * pw x:=by rw [← Int.add_mul,← h5]
    have h8:y * pw x=(y % 65536) * pw x+65536 * (y / 65536) * pw x:=by rw [← Int.add_mul,← h6]
    have h9:d * pw x=w.getD x 0 * pw x - (y % 65536) * pw x+br * pw x:=by rw [← hd,Int.add_mul,Int.sub_mul]
    have h10:y * pw x=q * (v.getD x 0 * pw x)+c * pw x:=by rw [hy,Int.add_mul,Int.mul_assoc]
    grind
  rw [g_e_digit_L2,w64_succ (by omega),dec_lt hxl,cond_true]
  by_cases hxv:x < v.length
  ·have h2:=hv.getD x
   have h3:0≤q * v.getD x 0∧q * v.getD x 0≤4294836225:=mul_lt16 hq0 hq1 h2.1 h2.2
   rw [dec_lt hxv,cond_true,if_pos (inb hxv),toNat_nat]
   refine step _ ?_ ?_ (fun h=>by omega) ?_<;>rw [wrap64_eq (n:=v.getD x 0) (by omega) (by omega),wrap64_eq (n:=q * v.getD x 0) (by omega) (by omega),wrap64_eq (by omega) (by omega)]<;>omega
  ·have e:decide ((x:Int) < ((v.length:Nat):Int))=false:=by simp;omega
   rw [e,cond_false]
   refine step c hc0 (by omega) (fun _=>hc1) ?_
   rw [getD_ge (show v.length≤x by omega)];simp
theorem digit_L4 {N:Nat} {p v:List Int} {q:Int} (hv:U v) (hq0:0 < q) (hq1:q < 65536) (hS:SM v.length) (W:Int) (hV0:0≤W - (q - 1) * nvl v) (hV1:W - (q - 1) * nvl v < pw v.length) :
  ∀ (k x fuel:Nat) (w:List Int) (c:Int),x+k=v.length→k < fuel→v.length+1≤w.length→U w→0≤c→c≤1→(∀ j,v.length+1≤j→w.getD j 0=0) →
   nvl w=W - q * nvl v+pw (v.length+1)+nvl (v.take x) - pw x * c→∃ w',g_e_digit_L4 N p.length (v.length+1) v q fuel (p ++ w) c (x:Int)=some (q - 1,p ++ w')∧w'.length=w.length∧U w'∧nvl w'=W - (q - 1) * nvl v
 | 0,x,fuel,w,c,hx,hf,hw,hU,hc0,hc1,hz,hinv=>by
  obtain ⟨g,rfl⟩:∃ g,fuel=g+1:=⟨fuel - 1,by omega⟩
  have hxe:x=v.length:=by omega
  subst hxe
  simp only [SM] at hS
  have h1:=hU.getD v.length
  have hlen:(p ++ w).length=p.length+w.length:=List.length_append
  rw [List.take_length] at hinv
  rw [g_e_digit_L4,dec_nlt,cond_false,if_pos (by omega),if_pos (by omega),getD_app,set_app,wrap16_eq hc0 (by omega),wrap16]
  unfold g_e_digit_J5
  rw [wrap64_eq (by omega) (by omega),wrap16_eq (by omega) (by omega)]
  generalize hd:w.getD v.length 0+c=d
  have hU2:U (w.set v.length (d % 65536)):=hU.set _ (by omega) (by omega)
  refine ⟨_,rfl,by simp,hU2,?_⟩
  have h2:=nvl_set w v.length (d % 65536) (by omega)
  have h3:d % 65536=d - 65536 * (d / 65536):=by omega
  have h4:nvl (w.set v.length (d % 65536))=W - (q - 1) * nvl v+(1 - d / 65536) * pw (v.length+1):=by
   rw [h2,hinv,pw_succ,h3,← hd];grind
  have h5:d / 65536=0∨d / 65536=1:=by omega
  rcases h5 with h5 | h5
  ·have h6:=lt_zeros hU2 (v.length+1) (fun j hj=>by rw [getD_set_ne _ _ (by omega)];exact hz j hj)
   rw [h4,h5] at h6;omega
  ·rw [h4,h5];simp
 | k+1,x,fuel,w,c,hx,hf,hw,hU,hc0,hc1,hz,hinv=>by
  obtain ⟨g,rfl⟩:∃ g,fuel=g+1:=⟨fuel - 1,by omega⟩
  simp only [SM] at hS
  have hxl:x < v.length:=by omega
  have h1:=hU.getD x
  have h2:=hv.getD x
  have hlen:(p ++ w).length=p.length+w.length:=List.length_append
  rw [g_e_digit_L4,dec_lt hxl,cond_true,if_pos (inb (by omega)),if_pos (by omega),if_pos (inb hxl)]
  simp only [toNat_nat]
  rw [getD_app,wrap32_eq (n:=w.getD x 0) (by omega) (by omega),wrap32_eq (n:=v.getD x 0) (by omega) (by omega),wrap32_eq (n:=w.getD x 0+v.getD x 0) (by omega) (by omega),wrap32_eq (n:=c+(w.getD x 0+v.getD x 0)) (by omega) (by omega),
   wrap16,shr16_32,w64_succ (by omega),set_app]
  generalize hd:c+(w.getD x 0+v.getD x 0)=d
  obtain ⟨w',q1,q2,q3,q4⟩:=digit_L4 (N:=N) (p:=p) hv hq0 hq1 hS W hV0 hV1 k (x+1) g (w.set x (d % 65536)) (d / 65536) (by omega) (by omega) (by simp;omega) (hU.set _ (by omega) (by omega)) (by omega) (by omega)
   (fun j hj=>by rw [getD_set_ne _ _ (by omega)];exact hz j hj) (by
    rw [nvl_set _ _ _ (by omega),hinv,nvl_take_succ v x hxl,pw_succ x]
    have h5:d=d % 65536+65536 * (d / 65536):=by omega
    have h7:d * pw x=(d % 65536) * pw x+65536 * (d / 65536) * pw x:=by rw [← Int.add_mul,← h5]
    have h9:d * pw x=c * pw x+(w.getD x 0 * pw x+v.getD x 0 * pw x):=by rw [← hd,Int.add_mul,Int.add_mul]
    grind)
  exact ⟨w',q1,by simpa using q2,q3,q4⟩
end Go.Den
namespace Go.Den
open Go.Ab
structure Top (v1 v2 w0 w1 w2 A V W:Int):Prop where
 A0:0 < A
 v1a:32768≤v1
 v1b:v1 < 65536
 v2a:0≤v2
 v2b:v2 < 65536
 w0a:0≤w0
 w0b:w0 < 65536
 w1a:0≤w1
 w1b:w1 < 65536
 w2a:0≤w2
 w2b:w2 < 65536
 V0:(v1 * 65536+v2) * A≤V
 V1:V < (v1 * 65536+v2+1) * A
 W0:((w0 * 65536+w1) * 65536+w2) * A≤W
 W1:W < ((w0 * 65536+w1) * 65536+w2+1) * A
 WV:W < 65536 * V
section
variable {v1 v2 w0 w1 w2 A V W:Int}
theorem Top.Vpos (t:Top v1 v2 w0 w1 w2 A V W):65536 * A≤V:=by
 have:=t.V0;have:=t.A0;have:=t.v1a;have:=t.v2a
 have h:=Int.mul_le_mul_of_nonneg_right (show (65536:Int)≤v1 * 65536+v2 by omega) (Int.le_of_lt t.A0)
 omega
theorem lt_of_mulA {x y A:Int} (hA:0 < A) (h:x * A < y * A):x < y:=Int.lt_of_mul_lt_mul_right h (Int.le_of_lt hA)
theorem Top.w0le (t:Top v1 v2 w0 w1 w2 A V W):w0≤v1:=by
 have h1:((w0 * 65536+w1) * 65536+w2) * A < (65536 * (v1 * 65536+v2+1)) * A:=by
  rw [Int.mul_assoc 65536]
  have:=t.W0;have:=t.WV;have:=t.V1
  omega
 have h2:=lt_of_mulA t.A0 h1
 have:=t.w1a;have:=t.w2a;have:=t.v2b
 omega
theorem Top.guess (t:Top v1 v2 w0 w1 w2 A V W) {q r Q:Int} (hq:q * v1+r=w0 * 65536+w1) (h:q * v2 > r * 65536+w2) (hq0:0≤q) (hQ:Q * V≤W):Q < q:=by
 rcases Int.lt_or_le Q q with h' | h'
 ·exact h'
 ·exfalso
  have hV:=t.Vpos
  have hA:=t.A0
  have h1:q * V≤W:=Int.le_trans (Int.mul_le_mul_of_nonneg_right h' (by omega)) hQ
  have h2:q * ((v1 * 65536+v2) * A)≤q * V:=Int.mul_le_mul_of_nonneg_left t.V0 hq0
  have h3:(q * (v1 * 65536+v2)) * A < ((w0 * 65536+w1) * 65536+w2+1) * A:=by
   rw [Int.mul_assoc];have:=t.W1;omega
  have h4:=lt_of_mulA hA h3
  rw [← hq] at h4
  have h5:q * (v1 * 65536+v2)=q * v1 * 65536+q * v2:=by rw [Int.mul_add,← Int.mul_assoc]
  rw [h5] at h4
  have h6:(q * v1+r) * 65536=q * v1 * 65536+r * 65536:=Int.add_mul _ _ _
  omega
theorem Top.near (t:Top v1 v2 w0 w1 w2 A V W) {q r:Int} (hq:q * v1+r=w0 * 65536+w1) (hq0:0≤q) (hr:0≤r) (h:65536≤r∨(q≤65535∧q * v2≤r * 65536+w2)):q≤65535∧q * V < W+V:=by
 have hA:=t.A0
 have hq1:q≤65535:=by
  rcases h with h | h
  ·rcases Int.lt_or_le 65535 q with h' | h'
   ·exfalso
    have h1:=Int.mul_le_mul_of_nonneg_right (show 65536≤q by omega) (show 0≤v1 by have:=t.v1a;omega)
    have:=t.w0le;have:=t.w1b
    omega
   ·exact h'
  ·exact h.1
 refine ⟨hq1,?_⟩
 have h2:q * v2≤r * 65536+w2:=by
  rcases h with h | h
  ·have h1:q * v2≤65535 * 65535:=Int.mul_le_mul hq1 (by have:=t.v2b;omega) t.v2a (by omega)
   have:=t.w2a
   omega
  ·exact h.2
 -- q V < (q (v1 B + v2) + q) A
 have h3:q * V≤q * ((v1 * 65536+v2+1) * A):=Int.mul_le_mul_of_nonneg_left (Int.le_of_lt t.V1) hq0
 have h4:q * ((v1 * 65536+v2+1) * A)=(q * v1 * 65536+q * v2+q) * A:=by
  rw [← Int.mul_assoc];congr 1
  rw [Int.mul_add,Int.mul_add,Int.mul_one,← Int.mul_assoc]
 have h5:(q * v1 * 65536+q * v2+q) * A≤(((w0 * 65536+w1) * 65536+w2)+65535) * A:=by
  refine Int.mul_le_mul_of_nonneg_right ?_ (Int.le_of_lt hA)
  rw [← hq]
  have:(q * v1+r) * 65536=q * v1 * 65536+r * 65536:=Int.add_mul _ _ _
  omega
 have h6:(((w0 * 65536+w1) * 65536+w2)+65535) * A=((w0 * 65536+w1) * 65536+w2) * A+65535 * A:=Int.add_mul _ _ _
 have:=t.W0
 have:=t.Vpos
 omega
theorem Top.first (t:Top v1 v2 w0 w1 w2 A V W) {Q:Int} (hQ0:0≤Q) (hQ:Q * V≤W):Q≤(w0 * 65536+w1) / v1:=by
 rw [Int.le_ediv_iff_mul_le (by have:=t.v1a;omega)]
 have h1:Q * ((v1 * 65536+v2) * A)≤Q * V:=Int.mul_le_mul_of_nonneg_left t.V0 hQ0
 have h2:(Q * (v1 * 65536+v2)) * A < ((w0 * 65536+w1) * 65536+w2+1) * A:=by rw [Int.mul_assoc];have:=t.W1;omega
 have h3:=lt_of_mulA t.A0 h2
 have h4:Q * (v1 * 65536+v2)=Q * v1 * 65536+Q * v2:=by rw [Int.mul_add,← Int.mul_assoc]
 have h5:0≤Q * v2:=Int.mul_nonneg hQ0 t.v2a
 have:=t.w2b
 omega
end
theorem digit_L1 {N:Nat} {p v w:List Int} (hv:U v) (hw:U w) (hn:2≤v.length) (hwl:v.length+1≤w.length) (hS:SM (p.length+w.length)) {A V W:Int}
  (t:Top (v.getD (v.length - 1) 0) (v.getD (v.length - 2) 0) (w.getD v.length 0) (w.getD (v.length - 1) 0) (w.getD (v.length - 2) 0) A V W) {Q:Int} (hQ0:0≤Q) (hQ1:Q * V≤W) (hQ2:W < Q * V+V) :
  ∀ (k fuel:Nat) (q r:Int),k < fuel→65536≤r+32768 * (k:Int)→0≤r→r < 131072→0≤q→q < 4294967296→Q≤q→q * v.getD (v.length - 1) 0+r=w.getD v.length 0 * 65536+w.getD (v.length - 1) 0 →
   ∃ q',Q≤q'∧q'≤Q+1∧q'≤65535∧g_e_digit_L1 N p.length (v.length+1) v (p ++ w) fuel q r=g_e_digit_L2 N p.length (v.length+1) v q' N (p ++ w) 0 0 0:=by
 intro k
 simp only [SM] at hS
 have hlen:(p ++ w).length=p.length+w.length:=List.length_append
 have e2:w64 (((v.length:Nat):Int) - 2)=((v.length - 2:Nat):Int):=by rw [w64_eq (by omega) (by omega)];omega
 have e1:w64 (((v.length:Nat):Int) - 1)=((v.length - 1:Nat):Int):=by rw [w64_eq (by omega) (by omega)];omega
 have hd1:=hv.getD (v.length - 1)
 have hd2:=hv.getD (v.length - 2)
 have hu2:=hw.getD (v.length - 2)
 induction k with
 | zero =>
  intro fuel q r hf hk hr0 hr1 hq0 hq1 hQq hinv
  obtain ⟨g,rfl⟩:∃ g,fuel=g+1:=⟨fuel - 1,by omega⟩
  have hr:65536≤r:=by simpa using hk
  obtain ⟨n1,n2⟩:=t.near hinv hq0 hr0 (.inl hr)
  have hq2:q≤Q+1:=by
   rcases Int.lt_or_le (Q+1) q with h | h
   ·exfalso
    have:=Int.mul_le_mul_of_nonneg_right (show Q+2≤q by omega) (show 0≤V by have:=t.Vpos;have:=t.A0;omega)
    rw [Int.add_mul] at this;omega
   ·exact h
  have ed:decide (r < 65536)=false:=by simp;omega
  refine ⟨q,hQq,hq2,n1,?_⟩
  rw [g_e_digit_L1]
  simp only [ed,Bool.false_and,cond_false]
  rw [if_pos (fun h=>by cases h),if_pos (fun h=>by cases h),if_pos (fun h=>by cases h)]
 | succ k ih =>
  intro fuel q r hf hk hr0 hr1 hq0 hq1 hQq hinv
  obtain ⟨g,rfl⟩:∃ g,fuel=g+1:=⟨fuel - 1,by omega⟩
  rw [g_e_digit_L1,e1,e2,if_pos (fun _=>⟨by omega,by omega⟩),if_pos (fun _=>⟨by omega,by omega⟩),if_pos (fun _=>by omega)]
  rw [toNat_nat,toNat_nat,getD_app,if_pos ⟨by omega,by omega⟩,wrap64_eq (n:=v.getD (v.length - 2) 0) (by omega) (by omega),wrap64_eq (n:=w.getD (v.length - 2) 0) (by omega) (by omega),wrap64_eq (n:=v.getD (v.length - 1) 0) (by omega) (by omega)]
  have hp1:0≤q * v.getD (v.length - 2) 0:=Int.mul_nonneg hq0 hd2.1
  have hp2:q * v.getD (v.length - 2) 0≤4294967295 * 65535:=Int.mul_le_mul (by omega) (by omega) hd2.1 (by omega)
  rw [wrap64_eq hp1 (by omega),shl16_64 hr0 (by omega),or16_64 hr0 (by omega) hu2.1 hu2.2]
  have hV:=t.Vpos
  have hA:=t.A0
  by_cases hex:65536≤r∨(q≤65535∧q * v.getD (v.length - 2) 0≤r * 65536+w.getD (v.length - 2) 0)
  ·obtain ⟨n1,n2⟩:=t.near hinv hq0 hr0 hex
   have hq2:q≤Q+1:=by
    rcases Int.lt_or_le (Q+1) q with h | h
    ·exfalso
     have:=Int.mul_le_mul_of_nonneg_right (show Q+2≤q by omega) (show 0≤V by omega)
     rw [Int.add_mul] at this;omega
    ·exact h
   have hc:cond (decide (r < 65536)) (cond (decide (q > 65535)) true (decide (q * v.getD (v.length - 2) 0 > r * 65536+w.getD (v.length - 2) 0))) false=false:=by
    rcases hex with h | ⟨h1,h2⟩
    ·rw [decide_eq_false (show ¬ r < 65536 by omega)];rfl
    ·rw [decide_eq_false (show ¬ q > 65535 by omega),cond_false,decide_eq_false (show ¬ q * v.getD (v.length - 2) 0 > r * 65536+w.getD (v.length - 2) 0 by omega)]
     cases decide (r < 65536)<;>rfl
   exact ⟨q,hQq,hq2,n1,by rw [hc,cond_false]⟩
  ·have hr2:r < 65536:=by omega
   have hqQ:Q < q:=by
    by_cases h65:65535 < q
    ·rcases Int.lt_or_le Q q with h | h
     ·exact h
     ·exfalso
      have:=Int.mul_le_mul_of_nonneg_right (show 65536≤Q by omega) (show 0≤V by omega)
      have:=t.WV
      omega
    ·exact t.guess hinv (by omega) hq0 hQ1
   have hc:cond (decide (r < 65536)) (cond (decide (q > 65535)) true (decide (q * v.getD (v.length - 2) 0 > r * 65536+w.getD (v.length - 2) 0))) false=true:=by
    rw [decide_eq_true hr2,cond_true]
    by_cases h65:65535 < q
    ·rw [decide_eq_true (show q > 65535 by omega)];rfl
    ·rw [decide_eq_false (show ¬ q > 65535 by omega),cond_false,decide_eq_true];omega
   have hv1:=t.v1a
   rw [hc,cond_true,wrap64_eq (n:=q - 1) (by omega) (by omega),wrap64_eq (by omega) (by omega)]
   refine ih g _ _ (by omega) (by omega) (by omega) (by omega) (by omega) (by omega) (by omega) ?_
   rw [Int.sub_mul];omega
theorem digit_eq {N:Nat} {p v w:List Int} (hv:U v) (hw:U w) (hn:2≤v.length) (hwl:v.length+1≤w.length) (hS:SM (p.length+w.length)) (hN:v.length+3 < N) (hb:32768≤v.getD (v.length - 1) 0) (hz:∀ j,v.length+1≤j→w.getD j 0=0)
  (hlt:nvl w < 65536 * nvl v):∃ Q w',g_e_digit N p.length (v.length+1) v (p ++ w)=some (Q,p ++ w')∧w'.length=w.length∧U w'∧0≤Q∧Q < 65536∧nvl w'=nvl w - Q * nvl v∧nvl w' < nvl v:=by
 have hS':=hS
 simp only [SM] at hS'
 have hlen:(p ++ w).length=p.length+w.length:=List.length_append
 have e1:w64 (((v.length:Nat):Int) - 1)=((v.length - 1:Nat):Int):=by rw [w64_eq (by omega) (by omega)];omega
 obtain ⟨n,hnn⟩:∃ n,v.length=n+2:=⟨v.length - 2,by omega⟩
 have hA:=pw_pos n
 -- the top digits
 have hv2:nvl v=nvl (v.take n)+pw n * (v.getD n 0+65536 * v.getD (n+1) 0):=by
  rw [nvl_take_drop v n (by omega),nvl_drop v n (by omega),nvl_drop v (n+1) (by omega),List.drop_eq_nil_of_le (by omega)];simp [nvl]
 have hw2:nvl w=nvl (w.take n)+pw n * (w.getD n 0+65536 * (w.getD (n+1) 0+65536 * w.getD (n+2) 0)):=by
  have h3:nvl (w.drop (n+3))=0:=by
   have:=nvl_zeros (l:=w.drop (n+3)) 0 fun j _=>by
    have:=hz (n+3+j) (by omega)
    rw [List.getD_eq_getElem?_getD] at this ⊢
    rw [List.getElem?_drop];exact this
   simpa [nvl] using this
  rw [nvl_take_drop w n (by omega),nvl_drop w n (by omega),nvl_drop w (n+1) (by omega),nvl_drop w (n+2) (by omega),h3];simp
 have hvt:=(hv.take n).lt
 have hvt0:=(hv.take n).nonneg
 have hwt:=(hw.take n).lt
 have hwt0:=(hw.take n).nonneg
 rw [List.length_take,Nat.min_eq_left (by omega)] at hvt hwt
 have d1:=hv.getD (n+1)
 have d2:=hv.getD n
 have u0:=hw.getD (n+2)
 have u1:=hw.getD (n+1)
 have u2:=hw.getD n
 have hb':32768≤v.getD (n+1) 0:=by rw [hnn] at hb;exact hb
 have t:Top (v.getD (v.length - 1) 0) (v.getD (v.length - 2) 0) (w.getD v.length 0) (w.getD (v.length - 1) 0) (w.getD (v.length - 2) 0) (pw n) (nvl v) (nvl w):=by
  have x1:v.length - 1=n+1:=by omega
  have x2:v.length - 2=n:=by omega
  rw [x1,x2,hnn]
  refine ⟨hA,hb',d1.2,d2.1,d2.2,u0.1,u0.2,u1.1,u1.2,u2.1,u2.2,?_,?_,?_,?_,hlt⟩
  ·rw [hv2];grind
  ·rw [hv2];grind
  ·rw [hw2];grind
  ·rw [hw2];grind
 have hVp:0 < nvl v:=by have:=t.Vpos;omega
 obtain ⟨Q,hQdef⟩:∃ Q,Q=nvl w / nvl v:=⟨_,rfl⟩
 have hQ0:0≤Q:=by rw [hQdef];exact Int.ediv_nonneg hw.nonneg (by omega)
 have hQ1:Q * nvl v≤nvl w:=by rw [hQdef];exact Int.ediv_mul_le _ (by omega)
 have hQ2:nvl w < Q * nvl v+nvl v:=by
  have:=Int.lt_ediv_add_one_mul_self (nvl w) hVp
  rw [hQdef];rw [Int.add_mul] at this;omega
 have hQ3:Q < 65536:=by
  rcases Int.lt_or_le Q 65536 with h | h
  ·exact h
  ·exfalso;have:=Int.mul_le_mul_of_nonneg_right h (Int.le_of_lt hVp);omega
 have hVlt:nvl v < pw v.length:=hv.lt
 have hK:∀ q,Q≤q→q≤Q+1→q≤65535→∃ w',g_e_digit_L2 N p.length (v.length+1) v q N (p ++ w) 0 0 0=some (Q,p ++ w')∧w'.length=w.length∧U w'∧nvl w'=nvl w - Q * nvl v:=by
  intro q hq0 hq1 hq2
  obtain ⟨w',br,q1,q2,q3,q4,q5,q6⟩:=digit_L2 (N:=N) (p:=p) hv (show 0≤q by omega) (show q < 65536 by omega) (by simp only [SM];omega) (nvl w) (v.length+1) 0 N w 0 0 (by omega) (by omega) hwl hw (by omega) (by omega) (fun h=>rfl) (.inl rfl) hz
   (by rw [List.take_zero];simp [nvl])
  have h1:=q2.nonneg
  have h2:=lt_zeros q2 _ q4
  have hpv:pw (v.length+1)=65536 * pw v.length:=pw_succ _
  rw [show ((0:Nat):Int)=0 from rfl] at q6
  rw [q6]
  rcases q3 with rfl | rfl
  ·have hqQ:q=Q:=by
    rcases Int.lt_or_le Q q with h | h
    ·exfalso
     have:=Int.mul_le_mul_of_nonneg_right (show Q+1≤q by omega) (Int.le_of_lt hVp)
     rw [Int.add_mul] at this
     simp at q5
     omega
    ·omega
   subst hqQ
   refine ⟨w',?_,q1,q2,by simpa using q5⟩
   rw [decide_eq_false (by decide),cond_false]
   unfold g_e_digit_J5
   rw [wrap16_eq hQ0 (by omega)]
  ·have hqQ:q=Q+1:=by
    rcases Int.lt_or_le Q q with h | h
    ·omega
    ·exfalso
     have:q=Q:=by omega
     subst this
     rw [Int.mul_neg,Int.mul_one] at q5
     omega
   subst hqQ
   rw [decide_eq_true (by decide),cond_true]
   have hQV:(Q+1 - 1) * nvl v=Q * nvl v:=by rw [Int.add_sub_cancel]
   obtain ⟨w2,r1,r2,r3,r4⟩:=digit_L4 (N:=N) (p:=p) hv (show 0 < Q+1 by omega) (show Q+1 < 65536 by omega) (by simp only [SM];omega) (nvl w) (by rw [hQV];omega) (by rw [hQV];omega) v.length 0 N w' 0 (by omega) (by omega) (by omega) q2 (by omega) (by omega) q4
    (by rw [q5,List.take_zero];simp [nvl])
   rw [hQV] at r4
   refine ⟨w2,?_,by omega,r3,r4⟩
   rw [show ((0:Nat):Int)=0 from rfl] at r1
   rw [r1,Int.add_sub_cancel]
 unfold g_e_digit
 rw [e1,if_pos ⟨by omega,by omega⟩,if_pos (by omega),if_pos ⟨by omega,by omega⟩,if_pos ⟨by omega,by omega⟩,toNat_nat]
 have b1:32768≤v.getD (v.length - 1) 0:=hb
 have b2:=hv.getD (v.length - 1)
 have c1:=hw.getD v.length
 have c2:=hw.getD (v.length - 1)
 rw [wrap64_eq (n:=v.getD (v.length - 1) 0) (by omega) (by omega),if_pos (by omega),getD_app,getD_app,wrap64_eq (n:=w.getD v.length 0) (by omega) (by omega),wrap64_eq (n:=w.getD (v.length - 1) 0) (by omega) (by omega),shl16_64 (by omega) (by omega),or16_64 (by omega) (by omega) (by omega) (by omega)]
 have hT0:0≤w.getD v.length 0 * 65536+w.getD (v.length - 1) 0:=by omega
 have hT1:w.getD v.length 0 * 65536+w.getD (v.length - 1) 0 < 4294967296:=by omega
 rw [Int.tdiv_eq_ediv_of_nonneg hT0,Int.tmod_eq_emod_of_nonneg hT0]
 have hm0:=Int.emod_nonneg (w.getD v.length 0 * 65536+w.getD (v.length - 1) 0) (show v.getD (v.length - 1) 0≠0 by omega)
 have hm1:=Int.emod_lt_of_pos (w.getD v.length 0 * 65536+w.getD (v.length - 1) 0) (show 0 < v.getD (v.length - 1) 0 by omega)
 have hd0:=Int.ediv_nonneg hT0 (show 0≤v.getD (v.length - 1) 0 by omega)
 have hda:=Int.mul_ediv_add_emod (w.getD v.length 0 * 65536+w.getD (v.length - 1) 0) (v.getD (v.length - 1) 0)
 have hdl:(w.getD v.length 0 * 65536+w.getD (v.length - 1) 0) / v.getD (v.length - 1) 0≤w.getD v.length 0 * 65536+w.getD (v.length - 1) 0:=Int.ediv_le_self _ hT0
 rw [wrap64_eq hd0 (by omega)]
 obtain ⟨q,h1,h2,h3,h4⟩:=digit_L1 (N:=N) (p:=p) hv hw hn hwl hS t hQ0 hQ1 hQ2 2 N ((w.getD v.length 0 * 65536+w.getD (v.length - 1) 0) / v.getD (v.length - 1) 0) ((w.getD v.length 0 * 65536+w.getD (v.length - 1) 0) % v.getD (v.length - 1) 0)
  (by omega) (by omega) hm0 (by omega) hd0 (by omega) (t.first hQ0 hQ1) (by rw [Int.mul_comm];exact hda)
 rw [h4]
 obtain ⟨w',k1,k2,k3,k4⟩:=hK q h1 h2 h3
 exact ⟨Q,w',k1,k2,k3,hQ0,hQ3,k4,by omega⟩
end Go.Den
namespace Go.Den
open Go.Ab
theorem or16_32' {a b:Int} (ha:0≤a) (ha2:a < 65536) (hb:0≤b) (hb2:b < 65536):orI .u32 b (a * 65536)=a * 65536+b:=by
 have h:=or16_32 ha ha2 hb hb2
 unfold orI at h ⊢
 rw [BitVec.or_comm];exact h
theorem shr_32 {n:Int} {s:Nat} (hs:s≤15):shrI .u32 n (s:Int)=n / 2 ^ s:=by
 unfold shrI
 have:min ((s:Nat):Int).toNat IntKind.u32.bits=s:=by show min s 32=s;omega
 rw [this,Int.fdiv_eq_ediv_of_nonneg _ (Int.le_of_lt (Int.pow_pos (by decide)))]
theorem divide_L2 {N:Nat} {b q u:List Int} {s:Nat} (hs:s≤15) (hU:U u) (hb:b.length+1≤u.length) (hS:SM u.length) (hz:u.getD b.length 0=0) (h0:u.getD 0 0 % 2 ^ s=0) (hq:U q) (hqN:q.length < N) (hqS:SM q.length) (hN:b.length < N) :
  ∀ (k x fuel:Nat) (r:List Int),x+k=b.length→k < fuel→r.length=b.length→U r→(∀ j,x≤j→r.getD j 0=0)→2 ^ s * nvl r=nvl (u.take x)+u.getD x 0 % 2 ^ s * pw x →
   ∃ R:List Int,g_e_divide_L2 N b (s:Int) q u fuel r (x:Int)=some (lm (nvl q).toNat,lm (nvl R).toNat)∧U R∧2 ^ s * nvl R=nvl (u.take b.length)
 | 0,x,fuel,r,hx,hf,hr,hUr,hzr,hinv=>by
  obtain ⟨g,rfl⟩:∃ g,fuel=g+1:=⟨fuel - 1,by omega⟩
  have hxe:x=b.length:=by omega
  subst hxe
  simp only [SM] at hS hqS
  have hp:(2:Int) ^ s≠0:=Int.ne_of_gt (Int.pow_pos (by decide))
  refine ⟨r,?_,hUr,?_⟩
  ·rw [g_e_divide_L2,Nat.sub_zero,dec_nlt,cond_false,exact_trim hq hqN (by omega),Option.bind_some,exact_trim hUr (by omega) (by omega),Option.bind_some]
  ·rw [hinv,hz];simp
 | k+1,x,fuel,r,hx,hf,hr,hUr,hzr,hinv=>by
  obtain ⟨g,rfl⟩:∃ g,fuel=g+1:=⟨fuel - 1,by omega⟩
  simp only [SM] at hS
  have hxl:x < b.length:=by omega
  have h1:=hU.getD x
  have h2:=hU.getD (x+1)
  rw [g_e_divide_L2,Nat.sub_zero,dec_lt hxl,cond_true,if_pos (inb (by omega)),w64_succ (by omega),if_pos (inb (by omega)),if_pos (by omega),if_pos (inb (by omega))]
  simp only [toNat_nat]
  rw [wrap32_eq (n:=u.getD x 0) (by omega) (by omega),wrap32_eq (n:=u.getD (x+1) 0) (by omega) (by omega),shl16_32 h2.1 h2.2,or16_32' h2.1 h2.2 h1.1 h1.2,shr_32 hs,wrap16]
  generalize hae:u.getD x 0=a at *
  generalize ha':u.getD (x+1) 0=a' at *
  -- 65536 = P c
  obtain ⟨P,hP⟩:∃ P:Int,P=2 ^ s:=⟨_,rfl⟩
  obtain ⟨c,hc⟩:∃ c:Int,c=2 ^ (16 - s):=⟨_,rfl⟩
  have hPc:(65536:Int)=P * c:=by rw [hP,hc,← Int.pow_add,show s+(16 - s)=16 by omega];decide
  have hP0:0 < P:=by rw [hP];exact Int.pow_pos (by decide)
  have hc0:0 < c:=by rw [hc];exact Int.pow_pos (by decide)
  rw [← hP] at hinv ⊢
  have e1:(a' * 65536+a) / P=a' * c+a / P:=by
   rw [hPc,show a' * (P * c)+a=a+(a' * c) * P by rw [Int.mul_comm P c,← Int.mul_assoc];omega,Int.add_mul_ediv_right _ _ (by omega)];omega
  have e2:a'=P * (a' / P)+a' % P:=(Int.mul_ediv_add_emod a' P).symm
  have l0:=Int.emod_nonneg a' (show P≠0 by omega)
  have l1:=Int.emod_lt_of_pos a' hP0
  have m0:0≤a / P:=Int.ediv_nonneg h1.1 (by omega)
  have m1:a / P < c:=Int.ediv_lt_of_lt_mul hP0 (by rw [Int.mul_comm,← hPc];exact h1.2)
  have e3:(a' * 65536+a) / P % 65536=a' % P * c+a / P:=by
   rw [e1]
   have h3:a' * c=(a' / P) * 65536+a' % P * c:=by
    have:a' * c=(P * (a' / P)+a' % P) * c:=by rw [← e2]
    rw [this,Int.add_mul,hPc];grind
   have h4:a' % P * c+a / P < 65536:=by
    have:=Int.mul_le_mul_of_nonneg_right (show a' % P+1≤P by omega) (Int.le_of_lt hc0)
    rw [Int.add_mul,← hPc] at this;omega
   have h5:0≤a' % P * c:=Int.mul_nonneg l0 (Int.le_of_lt hc0)
   rw [h3];omega
  rw [e3]
  have h4:a' % P * c+a / P < 65536:=by
   have:=Int.mul_le_mul_of_nonneg_right (show a' % P+1≤P by omega) (Int.le_of_lt hc0)
   rw [Int.add_mul,← hPc] at this;omega
  have h5:0≤a' % P * c:=Int.mul_nonneg l0 (Int.le_of_lt hc0)
  have:=divide_L2 (N:=N) (s:=s) hs hU hb (by simp only [SM];omega) hz h0 hq hqN hqS hN k (x+1) g (r.set x (a' % P * c+a / P)) (by omega) (by omega) (by simp [hr]) (hUr.set _ (by omega) h4) (fun j hj=>by rw [getD_set_ne _ _ (by omega)];exact hzr j (by omega))
   (by
    rw [← hP,nvl_set _ _ _ (by omega),hzr x (Nat.le_refl _),nvl_take_succ u x (by omega),Int.sub_zero,ha',pw_succ,Int.mul_add,hinv]
    have e4:a=P * (a / P)+a % P:=(Int.mul_ediv_add_emod a P).symm
    rw [hae]
    have e6:P * ((a' % P * c+a / P) * pw x)=a' % P * (P * c) * pw x+P * (a / P) * pw x:=by grind
    rw [e6,← hPc]
    grind)
  rw [← hP] at this
  exact this
theorem take_eq_of_nvl {l:List Int} (hU:U l) (n:Nat) (h:nvl l < pw n):nvl (l.take n)=nvl l:=(nvl_zeros n (zeros_lt hU n h)).symm
theorem divide_L1 {N:Nat} {b o2:List Int} {s:Nat} (hs:s≤15) {v:List Int} (hv:v=(o2.take b.length).drop 0) (hvU:U v) (hvl:v.length=b.length) (hn:2≤b.length) (hb:32768≤v.getD (b.length - 1) 0) (hob:b.length≤o2.length)
  {Lu:Nat} (hLu:b.length+1≤Lu) (hS:SM Lu) (hN:Lu+3 < N) {A B:Int} (hA:0≤A) (hB:0 < B) (hV:nvl v=B * 2 ^ s) :
  ∀ (k fuel:Nat) (q u:List Int),k≤Lu - b.length→k < fuel→u.length=Lu→U u→q.length=Lu - b.length→U q→(∀ j,j < k→q.getD j 0=0)→nvl (u.drop k) < nvl v→A * 2 ^ s=nvl q * nvl v+nvl u →
   g_e_divide_L1 N b (s:Int) o2 fuel q u ((k:Int) - 1)=some (lm (A / B).toNat,lm (A % B).toNat)
 | 0,fuel,q,u,hk,hf,hu,hU,hq,hqU,hqz,hlt,hinv=>by
  obtain ⟨g,rfl⟩:∃ g,fuel=g+1:=⟨fuel - 1,by omega⟩
  simp only [SM] at hS
  have e:decide ((((0:Nat):Int) - 1)≥0)=false:=rfl
  rw [g_e_divide_L1,e,cond_false,Nat.sub_zero,if_pos (by omega)]
  rw [List.drop_zero] at hlt
  have hp:(0:Int) < 2 ^ s:=Int.pow_pos (by decide)
  have hvp:nvl v < pw b.length:=by rw [← hvl];exact hvU.lt
  have hz:=zeros_lt hU b.length (by omega)
  -- nvl u is a multiple of 2^s
  have hR:nvl u=(A - nvl q * B) * 2 ^ s:=by rw [Int.sub_mul,hinv,hV];grind
  have h0:u.getD 0 0 % 2 ^ s=0:=by
   have h1:=nvl_drop u 0 (by omega)
   rw [List.drop_zero] at h1
   obtain ⟨c,hc⟩:∃ c:Int,c=2 ^ (16 - s):=⟨_,rfl⟩
   have hPc:(65536:Int)=2 ^ s * c:=by rw [hc,← Int.pow_add,show s+(16 - s)=16 by omega];decide
   have h2:u.getD 0 0=(A - nvl q * B - c * nvl (u.drop (0+1))) * 2 ^ s:=by
    have:u.getD 0 0=nvl u - 65536 * nvl (u.drop (0+1)):=by omega
    rw [this,hR,hPc];grind
   rw [h2];exact Int.mul_emod_left _ _
  obtain ⟨R,r1,r2,r3⟩:=divide_L2 (N:=N) (b:=b) (q:=q) hs hU (by omega) (by simp only [SM];omega) (hz _ (Nat.le_refl _)) h0 hqU (by omega) (by simp only [SM];omega) (by omega) b.length 0 N (List.replicate b.length 0) (by omega) (by omega) (by simp) (U.replicate _) (fun j _=>getD_replicate _ j)
   (by rw [nvl_replicate,h0];simp [nvl])
  rw [show ((0:Nat):Int)=0 from rfl] at r1
  rw [r1]
  rw [← nvl_zeros b.length hz,hR,Int.mul_comm] at r3
  have r4:nvl R=A - nvl q * B:=Int.eq_of_mul_eq_mul_right (Int.ne_of_gt hp) r3
  have r5:=r2.nonneg
  have r6:nvl R < B:=by
   refine lt_of_mulA hp ?_
   rw [r4,← hR,← hV];exact hlt
  have hq1:A / B=nvl q:=by
   rw [show A=nvl R+nvl q * B by omega,Int.add_mul_ediv_right _ _ (by omega),Int.ediv_eq_zero_of_lt r5 r6];omega
  have hq2:A % B=nvl R:=by
   rw [show A=nvl R+nvl q * B by omega,Int.add_mul_emod_self_right,Int.emod_eq_of_lt r5 r6]
  rw [hq1,hq2]
 | k+1,fuel,q,u,hk,hf,hu,hU,hq,hqU,hqz,hlt,hinv=>by
  obtain ⟨g,rfl⟩:∃ g,fuel=g+1:=⟨fuel - 1,by omega⟩
  simp only [SM] at hS
  have e:(((k+1:Nat):Int) - 1)=(k:Int):=by omega
  have e0:decide ((k:Int)≥0)=true:=by simp
  have e1:w64 ((w64 ((k:Int)+((b.length:Nat):Int)))+1)=((k+b.length+1:Nat):Int):=by rw [w64_eq (n:=(k:Int)+((b.length:Nat):Int)) (by omega) (by omega),w64_eq (by omega) (by omega)];omega
  rw [e,g_e_divide_L1,e0,cond_true,Nat.sub_zero,e1]
  simp only [toNat_nat]
  rw [if_pos ⟨by omega,by omega⟩,if_pos (by omega),if_pos (by omega),if_pos ⟨Nat.zero_le _,hob⟩,← hv]
  have hp:u.take k ++ u.drop k=u:=List.take_append_drop _ _
  have hpl:(u.take k).length=k:=by rw [List.length_take];omega
  have hwl:(u.drop k).length=Lu - k:=by rw [List.length_drop,hu]
  have hd:=nvl_drop u k (by omega)
  have hu1:=hU.getD k
  have hvp:nvl v < pw b.length:=by rw [← hvl];exact hvU.lt
  have hw1:nvl (u.drop k) < 65536 * nvl v:=by omega
  have hw2:nvl (u.drop k) < pw (v.length+1):=by rw [pw_succ,hvl];omega
  obtain ⟨Q,w',d1,d2,d3,d4,d5,d6,d7⟩:=digit_eq (N:=N) (p:=u.take k) (v:=v) (w:=u.drop k) hvU (hU.drop k) (by omega) (by omega) (by simp only [SM];omega) (by omega) (by rw [hvl];exact hb) (zeros_lt (hU.drop k) _ hw2) hw1
  rw [hpl,hp,hvl] at d1
  rw [show k+b.length+1 - k=b.length+1 by omega,d1,Option.bind_some]
  have hul:(u.take k ++ w').length=u.length:=by rw [List.length_append,hpl,d2,hwl,hu];omega
  simp only [hul]
  rw [if_pos trivial,if_pos (inb (by omega)),w64_eq (by omega) (by omega)]
  have hne:∀ j,j < k→(q.set k Q).getD j 0=0:=fun j hj=>by rw [getD_set_ne _ _ (by omega)];exact hqz j (by omega)
  refine divide_L1 (A:=A) hs hv hvU hvl hn hb hob hLu (by simp only [SM];omega) hN hA hB hV k g _ _ (by omega) (by omega) (by rw [hul,hu]) ((hU.take k).append d3) (by simp [hq]) (hqU.set _ d4 d5) hne ?_ ?_
  ·have:(u.take k ++ w').drop k=w':=by rw [List.drop_append_of_le_length (by omega),List.drop_of_length_le (by omega)];rfl
   rw [this];exact d7
  ·have h1:=nvl_append (u.take k) w'
   have h2:=nvl_take_drop u k (by omega)
   rw [hpl] at h1
   rw [h1,nvl_set _ _ _ (by omega),hqz k (by omega),d6,hinv,h2];grind
theorem divide_lm {N a b:Nat} (hb:b≠0) (hs:SM ((lm a).length+(lm b).length+2)) (hN:(lm a).length+(lm b).length+10 < N):g_e_divide N (lm a) (lm b)=some (lm (a / b),lm (a % b)):=by
 have hs':=hs
 simp only [SM] at hs'
 unfold g_e_divide
 obtain ⟨c,hc,hc1,hc2,-⟩:=compare_eq (N:=N) (a:=a) (b:=b) (by omega) (by simp only [SM];omega) (by simp only [SM];omega)
 rw [hc,Option.bind_some]
 by_cases hab:a < b
 ·rw [decide_eq_true (hc1.2 hab),cond_true]
  unfold g_slices_Clone_uint16_uint16
  rw [if_pos (by omega),Option.bind_some,Nat.div_eq_of_lt hab,Nat.mod_eq_of_lt hab,lm_zero];rfl
 ·rw [decide_eq_false (fun h=>hab (hc1.1 h)),cond_false]
  have hbl:=lm_len_pos.2 hb
  cases h1:(((lm b).length:Nat):Int) == 1 with
  | true =>
   have h1:(lm b).length=1:=by have h1:=eq_of_beq h1;omega
   have hb1:b < 65536:=by have:=(lm_len_le (n:=b) (k:=1)).1 (by omega);simp [pw] at this;omega
   have e:(lm b).getD 0 0=(b:Int):=by
    rw [lm_pos hb];show ((b % 65536:Nat):Int)=b;omega
   rw [cond_true,if_pos (by omega),e,short_lm (by omega) hb1 (by simp only [SM];omega) (by omega),Option.bind_some]
   have hm:a % b < 65536:=Nat.lt_of_lt_of_le (Nat.mod_lt _ (by omega)) (by omega)
   rw [exact_trim (U.one (by omega) (by omega)) (by simp;omega) (by simp),Option.bind_some,nvl_one,Int.toNat_natCast]
  | false =>
   have h2:2≤(lm b).length:=by simp at h1;omega
   rw [cond_false]
   obtain ⟨lb,x,hlb,hx0,hlU,hx1,hx2⟩:=lm_last hb
   have hll:(lm b).length=lb.length+1:=by rw [hlb];simp
   have e1:w64 ((((lm b).length:Nat):Int) - 1)=((lb.length:Nat):Int):=by rw [w64_eq (by omega) (by omega)];omega
   rw [e1,if_pos (by omega),toNat_nat]
   have ex:(lm b).getD lb.length 0=x:=by rw [hlb];simp [List.getD]
   rw [ex]
   obtain ⟨X,rfl⟩:=Int.eq_ofNat_of_zero_le hx1
   obtain ⟨s,s1,s2,s3,s4⟩:=lz_eq (N:=N) (x:=X) (by omega) (by omega)
   rw [s2,Option.bind_some]
   obtain ⟨o1,p1,p2,p3,p4,p5⟩:=shifted_eq (N:=N) (a:=lm a) (U_lm a) s1 (by simp only [SM];omega) (by omega)
   obtain ⟨o2,q1,q2,q3,q4,q5⟩:=shifted_eq (N:=N) (a:=lm b) (U_lm b) s1 (by simp only [SM];omega) (by omega)
   rw [p1,Option.bind_some,q1,Option.bind_some,if_pos ⟨Nat.zero_le _,by omega⟩,Nat.sub_zero]
   rw [nvl_lm] at p4 q4
   have hal:(lm b).length≤(lm a).length:=lm_len_mono (by omega)
   have e2:w64 (((o1.length:Nat):Int) - (((lm b).length:Nat):Int))=((o1.length - (lm b).length:Nat):Int):=by rw [w64_eq (by omega) (by omega)];omega
   rw [e2,if_pos (by omega)]
   -- the divisor, shifted
   have hp2:(0:Int) < 2 ^ s:=Int.pow_pos (by decide)
   have hbv:(b:Int)=nvl lb+pw lb.length * X:=by
    have:=nvl_lm b
    rw [hlb,nvl_append,nvl_one] at this;omega
   have hs3:(32768:Int)≤X * 2 ^ s:=by
    have e:((X * 2 ^ s:Nat):Int)=(X:Int) * 2 ^ s:=by simp
    omega
   have hs4:(X:Int) * 2 ^ s+2 ^ s≤65536:=by
    have e:((X * 2 ^ s:Nat):Int)=(X:Int) * 2 ^ s:=by simp
    have hdv:(65536:Nat)=2 ^ (16 - s) * 2 ^ s:=by rw [← Nat.pow_add,show 16 - s+s=16 by omega]
    have h9:X < 2 ^ (16 - s):=by
     rw [hdv] at s4;exact Nat.lt_of_mul_lt_mul_right s4
    have h10:=Nat.mul_le_mul_right (2 ^ s) (show X+1≤2 ^ (16 - s) by omega)
    rw [← hdv,Nat.add_mul] at h10
    have e3:((2 ^ s:Nat):Int)=(2:Int) ^ s:=by simp
    omega
   have hlbt:=hlU.lt
   have hlb0:=hlU.nonneg
   have hV:(b:Int) * 2 ^ s=nvl lb * 2 ^ s+pw lb.length * (X * 2 ^ s):=by rw [hbv,Int.add_mul,Int.mul_assoc]
   have hV1:(b:Int) * 2 ^ s < pw (lm b).length:=by
    rw [hll,pw_succ,hV]
    have h5:=Int.mul_le_mul_of_nonneg_right (show nvl lb+1≤pw lb.length by omega) (Int.le_of_lt hp2)
    have h6:=Int.mul_le_mul_of_nonneg_left hs4 (Int.le_of_lt (pw_pos lb.length))
    rw [Int.mul_add] at h6
    rw [Int.add_mul] at h5
    have:=pw_pos lb.length
    omega
   have hV2:32768 * pw lb.length≤(b:Int) * 2 ^ s:=by
    rw [hV]
    have h6:=Int.mul_le_mul_of_nonneg_left hs3 (Int.le_of_lt (pw_pos lb.length))
    have h7:0≤nvl lb * 2 ^ s:=Int.mul_nonneg hlb0 (Int.le_of_lt hp2)
    rw [Int.mul_comm 32768];omega
   have hvU:U ((o2.take (lm b).length).drop 0):=by rw [List.drop_zero];exact q3.take _
   have hvl:((o2.take (lm b).length).drop 0).length=(lm b).length:=by simp;omega
   have hvv:nvl ((o2.take (lm b).length).drop 0)=(b:Int) * 2 ^ s:=by rw [List.drop_zero,take_eq_of_nvl q3 _ (by rw [q4];exact hV1),q4]
   have htop:32768≤((o2.take (lm b).length).drop 0).getD ((lm b).length - 1) 0:=by
    have h5:=nvl_take_succ ((o2.take (lm b).length).drop 0) lb.length (by omega)
    have h6:=(hvU.take lb.length).lt
    rw [List.take_of_length_le (by omega),hvv] at h5
    rw [List.length_take,Nat.min_eq_left (by omega)] at h6
    rw [show (lm b).length - 1=lb.length by omega]
    rcases Int.lt_or_le (((o2.take (lm b).length).drop 0).getD lb.length 0) 32768 with h | h
    ·exfalso
     have:=Int.mul_le_mul_of_nonneg_right (show ((o2.take (lm b).length).drop 0).getD lb.length 0≤32767 by omega) (Int.le_of_lt (pw_pos lb.length))
     have:=pw_pos lb.length
     omega
    ·exact h
   have e3:w64 (((o1.length - (lm b).length:Nat):Int) - 1)=((o1.length - (lm b).length:Nat):Int) - 1:=w64_eq (by omega) (by omega)
   rw [e3,toNat_nat]
   have hdrop:nvl (o1.drop (o1.length - (lm b).length)) < nvl ((o2.take (lm b).length).drop 0):=by
    -- the top n digits: the last one is below 2 ^ s
    have hl:(o1.drop (o1.length - (lm b).length)).length=(lm b).length:=by rw [List.length_drop];omega
    have hUd:=q3
    have hU1:=p3.drop (o1.length - (lm b).length)
    have h5:=nvl_take_succ (o1.drop (o1.length - (lm b).length)) lb.length (by omega)
    rw [List.take_of_length_le (by omega)] at h5
    have h6:=(hU1.take lb.length).lt
    rw [List.length_take,Nat.min_eq_left (by omega)] at h6
    have h7:(o1.drop (o1.length - (lm b).length)).getD lb.length 0=o1.getD (lm a).length 0:=by
     rw [List.getD_eq_getElem?_getD,List.getElem?_drop,List.getD_eq_getElem?_getD];congr 2;omega
    rw [h7] at h5
    rw [hvv]
    have h8:o1.getD (lm a).length 0+1≤32768:=by
     have:(2:Int) ^ s≤32768:=by
      have h:=Nat.pow_le_pow_right (n:=2) (by decide) s1
      have e:((2 ^ s:Nat):Int)=(2:Int) ^ s:=by simp
      omega
     omega
    have h9:=Int.mul_le_mul_of_nonneg_right h8 (Int.le_of_lt (pw_pos lb.length))
    rw [Int.add_mul] at h9
    omega
   rw [divide_L1 (N:=N) (A:=(a:Int)) (B:=(b:Int)) s1 rfl hvU hvl h2 htop (by omega) (Lu:=o1.length) (by omega) (by simp only [SM];omega) (by omega) (by omega) (by omega) hvv (o1.length - (lm b).length) N _ o1 (Nat.le_refl _) (by omega) rfl p3 (by simp) (U.replicate _)
    (fun j _=>getD_replicate _ j) hdrop (by rw [nvl_replicate,p4];simp)]
   rfl
end Go.Den
namespace Go.Den
open Go.Ab
def Gv {α:Type} (f:Nat→Option α) (r:α):Prop:=∃ N0,∀ N,N0≤N→f N=some r
theorem Gv.pure {α:Type} (r:α):Gv (fun _=>some r) r:=⟨0,fun _ _=>rfl⟩
theorem Gv.bind {α β:Type} {f:Nat→Option α} {k:Nat→α→Option β} {r:α} {s:β} (h:Gv f r) (h2:Gv (fun N=>k N r) s):Gv (fun N=>(f N).bind (k N)) s:=by
 obtain ⟨N1,h1⟩:=h
 obtain ⟨N2,h2⟩:=h2
 exact ⟨N1+N2,fun N hN=>by show (f N).bind (k N)=some s;rw [h1 N (by omega)];exact h2 N (by omega)⟩
theorem Gv.congr {α:Type} {f g:Nat→Option α} {r:α} (h:Gv f r) (e:∀ N,g N=f N):Gv g r:=let ⟨N0,h0⟩:=h;⟨N0,fun N hN=>(e N).trans (h0 N hN)⟩
theorem Gv.of {α:Type} {f:Nat→Option α} {r:α} (N0:Nat) (h:∀ N,N0≤N→f N=some r):Gv f r:=⟨N0,h⟩
theorem Gv.condT {α:Type} {f g:Nat→Option α} {r:α} {q:Bool} (hq:q=true) (h:Gv f r):Gv (fun N=>cond q (f N) (g N)) r:=by subst hq;exact h
theorem Gv.condF {α:Type} {f g:Nat→Option α} {r:α} {q:Bool} (hq:q=false) (h:Gv g r):Gv (fun N=>cond q (f N) (g N)) r:=by subst hq;exact h
theorem Gv.if {α:Type} {f:Nat→Option α} {r:α} {p:Prop} [Decidable p] (hp:p) (h:Gv f r):Gv (fun N=>if p then f N else none) r:=h.congr fun _=>if_pos hp
theorem Gv.eq {α:Type} {f:Nat→Option α} {r s:α} (h:Gv f r) (e:r=s):Gv f s:=e ▸ h
theorem Gv.ex {α:Type} {f:Nat→Option α} {r:α} (h:Gv f r):∃ N,f N=some r:=let ⟨N,h⟩:=h;⟨N,h N (Nat.le_refl _)⟩
def sg (neg:Bool) (n:Nat):Int:=cond neg (-(n:Int)) (n:Int)
def ofZ (z:Int):TInt:=⟨decide (z < 0),lm z.natAbs⟩
def zv (a:TInt):Int:=sg a.f_Neg (nvl a.f_Limbs).toNat
def ZB (z:Int) (n:Nat):Prop:=(lm z.natAbs).length≤n
structure IB (a:TInt) (n:Nat):Prop where
 U:U a.f_Limbs
 len:a.f_Limbs.length≤n
theorem sg_natAbs (neg:Bool) (n:Nat):(sg neg n).natAbs=n:=by cases neg<;>simp [sg]
theorem zv_natAbs (a:TInt):(zv a).natAbs=(nvl a.f_Limbs).toNat:=sg_natAbs _ _
theorem ofZ_sg (neg:Bool) (n:Nat) (h:n≠0):ofZ (sg neg n)=⟨neg,lm n⟩:=by
 unfold ofZ
 rw [sg_natAbs]
 cases neg
 ·rw [decide_eq_false (show ¬ sg false n < 0 by simp [sg])]
 ·rw [decide_eq_true (show sg true n < 0 by simp [sg];omega)]
theorem ofZ_zero:ofZ 0=⟨false,[]⟩:=by unfold ofZ;rw [show (0:Int).natAbs=0 from rfl,lm_zero];rfl
theorem ofZ_sg0 (neg:Bool):ofZ (sg neg 0)=⟨false,[]⟩:=by cases neg<;>exact ofZ_zero
theorem zv_ofZ (z:Int):zv (ofZ z)=z:=by
 unfold zv ofZ
 simp only [nvl_lm,Int.toNat_natCast]
 unfold sg
 by_cases h:z < 0
 ·rw [decide_eq_true h];simp only [cond_true];omega
 ·rw [decide_eq_false h];simp only [cond_false];omega
theorem ZB.le {z:Int} {m n:Nat} (h:ZB z m) (hmn:m≤n):ZB z n:=Nat.le_trans h hmn
theorem zb_iff {z:Int} {n:Nat}:ZB z n↔(z.natAbs:Int) < pw n:=lm_len_le
theorem zb_pw {z:Int} {n:Nat}:ZB z n↔z.natAbs < 65536 ^ n:=by
 rw [zb_iff];unfold pw
 have:((65536 ^ n:Nat):Int)=65536 ^ n:=by simp
 omega
theorem ZB.neg {z:Int} {n:Nat} (h:ZB z n):ZB (-z) n:=by unfold ZB at *;rwa [Int.natAbs_neg]
theorem ZB.mul {x y:Int} {m n:Nat} (h1:ZB x m) (h2:ZB y n):ZB (x * y) (m+n):=by
 rw [zb_pw] at *
 rw [Int.natAbs_mul,Nat.pow_add]
 exact Nat.mul_lt_mul'' h1 h2
theorem ZB.add {x y:Int} {n:Nat} (h1:ZB x n) (h2:ZB y n):ZB (x+y) (n+1):=by
 rw [zb_pw] at *
 have:=Int.natAbs_add_le x y
 have h3:65536 ^ (n+1)=65536 * 65536 ^ n:=by rw [Nat.pow_succ];omega
 have:=Nat.pow_pos (n:=n) (show 0 < 65536 by decide)
 omega
theorem ZB.sub {x y:Int} {n:Nat} (h1:ZB x n) (h2:ZB y n):ZB (x - y) (n+1):=by rw [Int.sub_eq_add_neg];exact h1.add h2.neg
theorem ZB.of_le {x y:Int} {n:Nat} (h:ZB y n) (hxy:x.natAbs≤y.natAbs):ZB x n:=by rw [zb_pw] at *;omega
theorem ZB.small {x:Int} (h:x.natAbs < 65536):ZB x 1:=by rw [zb_pw];simpa using h
theorem ZB.word {x:Int} (h:-9223372036854775808≤x) (h2:x≤9223372036854775807):ZB x 4:=by rw [zb_pw];omega
theorem IB.zb {a:TInt} {n:Nat} (h:IB a n):ZB (zv a) n:=by
 rw [zb_iff,zv_natAbs]
 have h1:=h.U.lt
 have h2:=h.U.nonneg
 have h3:pw a.f_Limbs.length≤pw n:=by
  have e:pw n=pw a.f_Limbs.length * pw (n - a.f_Limbs.length):=by rw [← pw_add];congr 1;have:=h.len;omega
  have:=pw_pos (n - a.f_Limbs.length)
  have:=Int.mul_le_mul_of_nonneg_left (show 1≤pw (n - a.f_Limbs.length) by omega) (Int.le_of_lt (pw_pos a.f_Limbs.length))
  omega
 omega
theorem ZB.ib {z:Int} {n:Nat} (h:ZB z n):IB (ofZ z) n:=⟨U_lm _,h⟩
theorem IB.le {a:TInt} {m n:Nat} (h:IB a m) (hmn:m≤n):IB a n:=⟨h.U,Nat.le_trans h.len hmn⟩
section
variable {a b:TInt} {m n:Nat}
theorem trim_gv (ha:IB a n) (hn:SM n):Gv (fun N=>g_e_trim N a.f_Limbs) (lm (zv a).natAbs) :=
 .of (n+1) fun N hN=>by
  simp only [SM] at hn
  have:=ha.len
  rw [exact_trim ha.U (by omega) (by omega),zv_natAbs]
theorem signed_gv (neg:Bool) {k:Nat} (hk:SM (lm k).length):Gv (fun N=>g_e_signed N neg (lm k)) (ofZ (sg neg k)) :=
 .of ((lm k).length+1) fun N hN=>by
  simp only [SM] at hk
  unfold g_e_signed
  rw [exact_trim (U_lm k) (by omega) (by omega),nvl_lm,Int.toNat_natCast,Option.bind_some]
  by_cases h:k=0
  ·subst h
   rw [lm_zero,ofZ_sg0];rfl
  ·have e:((((lm k).length:Nat):Int) == 0)=false:=by
    have:=lm_len_pos.2 h
    simp;exact fun h'=>by rw [h'] at this;simp at this
   rw [e,cond_false]
   unfold g_slices_Clone_uint16_uint16
   rw [if_pos (by omega),Option.bind_some,ofZ_sg _ _ h];rfl
theorem opposite_gv (a:TInt):Gv (fun N=>g_e_opposite N a) ⟨!a.f_Neg,a.f_Limbs⟩:=.pure _
theorem zv_opposite (a:TInt):zv ⟨!a.f_Neg,a.f_Limbs⟩ = -zv a:=by unfold zv sg;cases a.f_Neg<;>simp
theorem sign_eq (a b:Bool) (x y:Nat):sg (!(a == b)) (x * y)=sg a x * sg b y:=by
 cases a<;>cases b<;>simp [sg,Int.neg_mul,Int.mul_neg]
theorem Mul_gv (ha:IB a m) (hb:IB b n) (hs:SM (m+n)):Gv (fun N=>g_e_Mul N a b) (ofZ (zv a * zv b)):=by
 simp only [SM] at hs
 have ha':=ha.zb
 have hb':=hb.zb
 unfold ZB at ha' hb'
 refine (trim_gv ha (by simp only [SM];omega)).bind ((trim_gv hb (by simp only [SM];omega)).bind ?_)
 refine Gv.bind (r:=lm ((zv a).natAbs * (zv b).natAbs)) (.of (m+n+1) fun N hN=>times_lm (by simp only [SM];omega) (by omega)) ?_
 have hz:=ha.zb.mul hb.zb
 unfold ZB at hz
 rw [Int.natAbs_mul] at hz
 refine (signed_gv _ (by simp only [SM];omega)).bind ((Gv.pure _).eq ?_)
 rw [zv_natAbs,zv_natAbs,sign_eq];rfl
theorem Add_gv (ha:IB a n) (hb:IB b n) (hs:SM (n+1)):Gv (fun N=>g_e_Add N a b) (ofZ (zv a+zv b)):=by
 simp only [SM] at hs
 have ha':=ha.zb
 have hb':=hb.zb
 have hz:=ha'.add hb'
 unfold ZB at ha' hb'
 refine (trim_gv ha (by simp only [SM];omega)).bind ((trim_gv hb (by simp only [SM];omega)).bind ?_)
 have hX:zv a=sg a.f_Neg (zv a).natAbs:=by rw [zv_natAbs];rfl
 have hY:zv b=sg b.f_Neg (zv b).natAbs:=by rw [zv_natAbs];rfl
 generalize (zv a).natAbs=x at *
 generalize (zv b).natAbs=y at *
 rw [hX,hY] at hz ⊢
 generalize a.f_Neg=p at *
 generalize b.f_Neg=q at *
 cases hpq:(p == q) with
 | true =>
  have hpq:p=q:=by simpa using hpq
  subst hpq
  have e:sg p x+sg p y=sg p (x+y):=by cases p<;>simp [sg]<;>omega
  rw [e] at hz ⊢
  unfold ZB at hz
  rw [sg_natAbs] at hz
  refine Gv.condT rfl (Gv.bind (r:=lm (x+y)) (.of (n+2) fun N hN=>plus_lm (by simp only [SM];omega) (by simp only [SM];omega) (by omega) (by omega)) ?_)
  exact (signed_gv _ (by simp only [SM];omega)).bind (Gv.pure _)
 | false =>
  have hpq:q=!p:=by cases p<;>cases q<;>simp_all
  subst hpq
  refine Gv.condF rfl ?_
  refine Gv.bind (r:=cmpN x y) (.of (n+2) fun N hN=>compare_cmp (by omega) (by simp only [SM];omega) (by simp only [SM];omega)) ?_
  have hlt:=cmpN_lt (a:=x) (b:=y) (by simp only [SM];omega) (by simp only [SM];omega)
  by_cases hxy:x < y
  ·refine Gv.condF (decide_eq_false (by have:=hlt.2 hxy;omega)) (Gv.bind (r:=lm (y - x)) (.of (n+2) fun N hN=>minus_lm (by omega) (by simp only [SM];omega) (by omega)) ?_)
   have e:sg p x+sg (!p) y=sg (!p) (y - x):=by cases p<;>simp [sg]<;>omega
   rw [e] at hz ⊢
   unfold ZB at hz
   rw [sg_natAbs] at hz
   exact (signed_gv _ (by simp only [SM];omega)).bind (Gv.pure _)
  ·refine Gv.condT (decide_eq_true (by have:=fun h=>hxy (hlt.1 h);omega)) (Gv.bind (r:=lm (x - y)) (.of (n+2) fun N hN=>minus_lm (by omega) (by simp only [SM];omega) (by omega)) ?_)
   have e:sg p x+sg (!p) y=sg p (x - y):=by cases p<;>simp [sg]<;>omega
   rw [e] at hz ⊢
   unfold ZB at hz
   rw [sg_natAbs] at hz
   exact (signed_gv _ (by simp only [SM];omega)).bind (Gv.pure _)
theorem IB.opp (ha:IB a n):IB ⟨!a.f_Neg,a.f_Limbs⟩ n:=⟨ha.U,ha.len⟩
theorem sign_gv (ha:IB a n) (hn:SM n):Gv (fun N=>g_e_sign N a) (zv a).sign:=by
 refine (trim_gv ha hn).bind ?_
 have hX:zv a=sg a.f_Neg (zv a).natAbs:=by rw [zv_natAbs];rfl
 generalize (zv a).natAbs=x at *
 rw [hX]
 generalize a.f_Neg=p
 by_cases h:x=0
 ·subst h
  refine Gv.condT (by rw [lm_zero];rfl) ((Gv.pure _).eq ?_)
  cases p<;>rfl
 ·refine Gv.condF ?_ ?_
  ·have:=lm_len_pos.2 h
   simp;exact fun h'=>by rw [h'] at this;simp at this
  ·cases p with
   | true=>exact Gv.condT rfl ((Gv.pure _).eq (by simp only [sg,cond_true];rw [Int.sign_eq_neg_one_of_neg];omega))
   | false=>exact Gv.condF rfl ((Gv.pure _).eq (by simp only [sg,cond_false];rw [Int.sign_eq_one_of_pos];omega))
theorem Of_gv {z:Int} (h1:-9223372036854775808≤z) (h2:z≤9223372036854775807):Gv (fun N=>g_e_Of N z) (ofZ z):=by
 have hl:ZB z 4:=ZB.word h1 h2
 unfold ZB at hl
 unfold g_e_Of
 by_cases h:z < 0
 ·refine Gv.condT (decide_eq_true h) (Gv.bind (r:=lm z.natAbs) (.of 5 fun N hN=>?_) ?_)
  ·have e:IntKind.u64.wrap (0 - IntKind.u64.wrap z)=((z.natAbs:Nat):Int):=by rw [wrap64,wrap64];omega
   rw [e];exact natural_eq (by omega) (by omega)
  ·refine (signed_gv true (by simp only [SM];omega)).bind ((Gv.pure _).eq ?_)
   have:sg true z.natAbs=z:=by simp [sg];omega
   rw [this]
 ·refine Gv.condF (decide_eq_false h) (Gv.bind (r:=lm z.natAbs) (.of 5 fun N hN=>?_) ?_)
  ·have e:IntKind.u64.wrap z=((z.natAbs:Nat):Int):=by rw [wrap64];omega
   rw [e];exact natural_eq (by omega) (by omega)
  ·refine (signed_gv false (by simp only [SM];omega)).bind ((Gv.pure _).eq ?_)
   have:sg false z.natAbs=z:=by simp [sg];omega
   rw [this]
theorem Z_gv {z:Int} (h1:-9223372036854775808≤z) (h2:z≤9223372036854775807):Gv (fun N=>g_b_Z N z) (ofZ z):=by
 unfold g_b_Z
 by_cases h:z < 0
 ·refine Gv.condT (decide_eq_true h) (Gv.bind (r:=lm z.natAbs) (.of 5 fun N hN=>?_) ?_)
  ·have e:IntKind.u64.wrap ((IntKind.u64.wrap ((w64 (0 - (w64 (z+1))))))+1)=((z.natAbs:Nat):Int):=by rw [w64_eq (n:=z+1) (by omega) (by omega),w64_eq (by omega) (by omega),wrap64,wrap64];omega
   rw [e];exact limbs_eq (by omega) (by omega)
  ·refine (Gv.pure _).eq ?_
   unfold ofZ;rw [decide_eq_true h]
 ·refine Gv.condF (decide_eq_false h) (Gv.bind (r:=lm z.natAbs) (.of 5 fun N hN=>?_) ?_)
  ·have e:IntKind.u64.wrap z=((z.natAbs:Nat):Int):=by rw [wrap64];omega
   rw [e];exact limbs_eq (by omega) (by omega)
  ·refine (Gv.pure _).eq ?_
   unfold ofZ;rw [decide_eq_false h]
end
end Go.Den
namespace Go.Den
open Go.Ab
theorem common_L2 {N:Nat} (K:List Int→List Int→Option (List Int)) (hN:4 < N):∀ (y x fuel:Nat),y < fuel→x < 18446744073709551616→y < 18446744073709551616→g_e_common_L2 N K fuel (x:Int) (y:Int)=some (lm (Nat.gcd x y)):=by
 intro y
 induction y using Nat.strongRecOn with
 | _ y ih =>
  intro x fuel hf hx hy
  obtain ⟨g,rfl⟩:∃ g,fuel=g+1:=⟨fuel - 1,by omega⟩
  rw [g_e_common_L2]
  by_cases h:y=0
  ·subst h
   rw [decide_eq_false (by decide),cond_false,natural_eq hN hx,Option.bind_some,Nat.gcd_zero_right]
  ·rw [decide_eq_true (by omega),cond_true,if_pos (by omega),Int.tmod_eq_emod_of_nonneg (by omega)]
   have e:((x:Int) % (y:Int))=((x % y:Nat):Int):=by simp
   have hlt:=Nat.mod_lt x (Nat.pos_of_ne_zero h)
   rw [e,ih (x % y) hlt y g (by omega) hy (by omega),Nat.gcd_comm x y,Nat.gcd_rec y x,Nat.gcd_comm]
theorem common_L1 {N:Nat} {k:Nat} (hk:SM (2 * k+2)) (hN:2 * k+20 < N):∀ (y x fuel:Nat),y < fuel→y < N→(lm x).length≤k→(lm y).length≤k→g_e_common_L1 N fuel (lm x) (lm y)=some (lm (Nat.gcd x y)):=by
 intro y
 simp only [SM] at hk
 induction y using Nat.strongRecOn with
 | _ y ih =>
  intro x fuel hf hyN hx hy
  obtain ⟨g,rfl⟩:∃ g,fuel=g+1:=⟨fuel - 1,by omega⟩
  rw [g_e_common_L1]
  by_cases h:y=0
  ·subst h
   rw [lm_zero,Nat.gcd_zero_right];rfl
  ·have hl:=lm_len_pos.2 h
   rw [decide_eq_true (by omega),cond_true,word_eq (by omega) (by simp only [SM];omega),Option.bind_some,word_eq (by omega) (by simp only [SM];omega),Option.bind_some]
   by_cases h4:(lm x).length≤4∧(lm y).length≤4
   ·rw [if_pos h4.1,if_pos h4.2]
    have b1:=lm_len_le.1 h4.1
    have b2:=lm_len_le.1 h4.2
    have e4:pw 4=18446744073709551616:=by decide
    exact common_L2 _ (by omega) y x N hyN (by omega) (by omega)
   ·have e:cond (if (lm x).length≤4 then ((x:Int),true) else (0,false)).2 (if (lm y).length≤4 then ((y:Int),true) else (0,false)).2 false=false:=by
     by_cases h1:(lm x).length≤4
     ·have h2:¬ (lm y).length≤4:=fun h2=>h4 ⟨h1,h2⟩
      rw [if_pos h1,if_neg h2];rfl
     ·rw [if_neg h1];rfl
    rw [e,cond_false,divide_lm h (by simp only [SM];omega) (by omega),Option.bind_some]
    have hlt:=Nat.mod_lt x (Nat.pos_of_ne_zero h)
    rw [ih (x % y) hlt y g (by omega) (by omega) hy (Nat.le_trans (lm_len_mono (by omega)) hy),Nat.gcd_comm x y,Nat.gcd_rec y x,Nat.gcd_comm]
theorem common_gv {x y k:Nat} (hx:(lm x).length≤k) (hy:(lm y).length≤k) (hk:SM (2 * k+2)):Gv (fun N=>g_e_common N (lm x) (lm y)) (lm (Nat.gcd x y)) :=
 .of (2 * k+21+y) fun N hN=>common_L1 hk (by omega) y x N (by omega) (by omega) hx hy
def dv (x:TRat):Int:=if zv x.f_Den=0 then 1 else zv x.f_Den
def qv (x:TRat):Rat:=Rat.divInt (zv x.f_Num) (dv x)
def ofQ (q:Rat):TRat:=⟨ofZ q.num,ofZ (q.den:Int)⟩
structure RB (q:Rat) (n:Nat):Prop where
 num:ZB q.num n
 den:ZB (q.den:Int) n
structure IR (x:TRat) (n:Nat):Prop where
 num:IB x.f_Num n
 den:IB x.f_Den n
theorem dv_ne (x:TRat):dv x≠0:=by unfold dv;split<;>omega
theorem RB.le {q:Rat} {m n:Nat} (h:RB q m) (hmn:m≤n):RB q n:=⟨h.num.le hmn,h.den.le hmn⟩
theorem IR.le {x:TRat} {m n:Nat} (h:IR x m) (hmn:m≤n):IR x n:=⟨h.num.le hmn,h.den.le hmn⟩
theorem RB.ir {q:Rat} {n:Nat} (h:RB q n):IR (ofQ q) n:=⟨h.num.ib,h.den.ib⟩
theorem dv_ofQ (q:Rat):dv (ofQ q)=q.den:=by
 unfold dv ofQ;simp only [zv_ofZ];rw [if_neg];have:=q.den_nz;omega
theorem qv_ofQ (q:Rat):qv (ofQ q)=q:=by
 unfold qv;rw [dv_ofQ];simp only [ofQ,zv_ofZ];exact Rat.num_divInt_den q
theorem natAbs_ediv_le (a:Int) (b:Nat) (hb:b≠0):(a / (b:Int)).natAbs≤a.natAbs:=Int.natAbs_ediv_le_natAbs a b
theorem rb_divInt {a b:Int} {n:Nat} (ha:ZB a n) (hb:ZB b n) (h0:b≠0):RB (Rat.divInt a b) n:=by
 have hg:Int.gcd b a≠0:=fun h=>h0 (Int.gcd_eq_zero_iff.1 h).1
 constructor
 ·rw [Rat.num_divInt]
  refine ha.of_le (Nat.le_trans (natAbs_ediv_le _ _ hg) ?_)
  rw [Int.natAbs_mul,Int.natAbs_sign_of_ne_zero h0];omega
 ·rw [Rat.den_divInt,if_neg h0]
  refine hb.of_le ?_
  rw [Int.natAbs_natCast]
  exact Nat.div_le_self _ _
theorem IR.rb {x:TRat} {n:Nat} (h:IR x n) (hn:1≤n):RB (qv x) n:=by
 refine rb_divInt h.num.zb ?_ (dv_ne x)
 unfold dv
 split
 ·exact (ZB.small (by decide)).le hn
 ·exact h.den.zb
theorem RB.int {z:Int} {n:Nat} (h:ZB z n) (hn:1≤n):RB (z:Rat) n:=⟨h,(ZB.small (x:=1) (by decide)).le hn⟩
theorem RB.neg {q:Rat} {n:Nat} (h:RB q n):RB (-q) n:=⟨by rw [Rat.neg_num];exact h.num.neg,by rw [Rat.neg_den];exact h.den⟩
theorem div_parts (q:Rat):q=Rat.divInt q.num q.den:=(Rat.num_divInt_den q).symm
theorem den_ne (q:Rat):(q.den:Int)≠0:=by have:=q.den_nz;omega
theorem RB.add {p q:Rat} {m n:Nat} (h1:RB p m) (h2:RB q n):RB (p+q) (m+n+1):=by
 rw [div_parts p,div_parts q,Rat.divInt_add_divInt _ _ (den_ne p) (den_ne q)]
 refine rb_divInt ((h1.num.mul h2.den).add ((h2.num.mul h1.den).le (by omega))) ((h1.den.mul h2.den).le (by omega)) ?_
 exact Int.mul_ne_zero (den_ne p) (den_ne q)
theorem RB.sub {p q:Rat} {m n:Nat} (h1:RB p m) (h2:RB q n):RB (p - q) (m+n+1):=by rw [Rat.sub_eq_add_neg];exact h1.add h2.neg
theorem RB.mul {p q:Rat} {m n:Nat} (h1:RB p m) (h2:RB q n):RB (p * q) (m+n):=by
 rw [div_parts p,div_parts q,Rat.divInt_mul_divInt]
 exact rb_divInt (h1.num.mul h2.num) (h1.den.mul h2.den) (Int.mul_ne_zero (den_ne p) (den_ne q))
section
variable {a b:TInt} {x y:TRat} {m n:Nat}
theorem fraction_gv (ha:IB a n) (hb:IB b n) (h0:zv b≠0) (hs:SM (2 * n+2)):Gv (fun N=>g_e_fraction N a b) (ofQ (Rat.divInt (zv a) (zv b))):=by
 simp only [SM] at hs
 have ha':=ha.zb
 have hb':=hb.zb
 unfold ZB at ha' hb'
 refine (trim_gv ha (by simp only [SM];omega)).bind ((trim_gv hb (by simp only [SM];omega)).bind ?_)
 have hX:zv a=sg a.f_Neg (zv a).natAbs:=by rw [zv_natAbs];rfl
 have hY:zv b=sg b.f_Neg (zv b).natAbs:=by rw [zv_natAbs];rfl
 generalize hxx:(zv a).natAbs=x at *
 generalize hyy:(zv b).natAbs=y at *
 have hy0:y≠0:=by omega
 have hg0:0 < Nat.gcd x y:=Nat.gcd_pos_of_pos_right _ (by omega)
 refine (common_gv ha' hb' (by simp only [SM];omega)).bind ?_
 have hgl:=lm_len_pos.2 (show Nat.gcd x y≠0 by omega)
 have hgn:(lm (Nat.gcd x y)).length≤n:=Nat.le_trans (lm_len_mono (Nat.gcd_le_right _ (by omega))) hb'
 have fin:∀ u v:Nat,u=x / Nat.gcd x y→v=y / Nat.gcd x y→Gv (fun N=>g_e_fraction_J1 N a b (lm u) (lm v)) (ofQ (Rat.divInt (zv a) (zv b))):=by
  intro u v hu hv
  have hul:(lm u).length≤n:=Nat.le_trans (lm_len_mono (by rw [hu];exact Nat.div_le_self _ _)) ha'
  have hvl:(lm v).length≤n:=Nat.le_trans (lm_len_mono (by rw [hv];exact Nat.div_le_self _ _)) hb'
  refine (signed_gv _ (by simp only [SM];omega)).bind ((signed_gv false (by simp only [SM];omega)).bind ((Gv.pure _).eq ?_))
  have hgcd:Int.gcd (zv b) (zv a)=Nat.gcd x y:=by unfold Int.gcd;rw [hxx,hyy,Nat.gcd_comm]
  unfold ofQ
  rw [Rat.num_divInt,Rat.den_divInt,if_neg h0,hgcd,hyy]
  have hd:(Nat.gcd x y) ∣ x:=Nat.gcd_dvd_left _ _
  have e1:(zv b).sign * zv a / ((Nat.gcd x y:Nat):Int)=sg (!(a.f_Neg == b.f_Neg)) u:=by
   have hxu:(x:Int)=(Nat.gcd x y:Nat) * (u:Int):=by
    have:x=Nat.gcd x y * u:=by rw [hu,Nat.mul_div_cancel' hd]
    exact_mod_cast this
   have e2:(zv b).sign * zv a=(Nat.gcd x y:Nat) * sg (!(a.f_Neg == b.f_Neg)) u:=by
    rw [hX,hY]
    cases a.f_Neg<;>cases b.f_Neg<;>simp only [sg,cond_true,cond_false,Bool.not_true,Bool.not_false,BEq.rfl,show (true == false)=false from rfl,show (false == true)=false from rfl]
    ·rw [Int.sign_eq_one_of_pos (by omega),Int.one_mul,← hxu]
    ·rw [Int.sign_eq_neg_one_of_neg (by omega),Int.mul_neg,← hxu];omega
    ·rw [Int.sign_eq_one_of_pos (by omega),Int.one_mul,Int.mul_neg,← hxu]
    ·rw [Int.sign_eq_neg_one_of_neg (by omega),← hxu];omega
   rw [e2,Int.mul_ediv_cancel_left _ (by omega)]
  rw [e1,← hv];rfl
 have e0:(lm (Nat.gcd x y)).getD 0 0=((Nat.gcd x y % 65536:Nat):Int):=by rw [lm_pos (by omega)];rfl
 refine Gv.if (fun _=>⟨by omega,by omega⟩) ?_
 rw [e0]
 by_cases h1:Nat.gcd x y=1
 ·refine Gv.condF ?_ (fin x y (by rw [h1,Nat.div_one]) (by rw [h1,Nat.div_one]))
  rw [h1,lm_pos (by decide)];simp [lm_zero]
 ·refine Gv.condT ?_ ?_
  ·by_cases h2:(lm (Nat.gcd x y)).length=1
   ·have:=lm_len_le.1 (show (lm (Nat.gcd x y)).length≤1 by omega)
    have e1:pw 1=65536:=by decide
    rw [h2]
    have h3:(((Nat.gcd x y % 65536:Nat):Int) != 1)=true:=by simp;omega
    rw [h3];rfl
   ·have h3:((((lm (Nat.gcd x y)).length:Nat):Int) != 1)=true:=by simp;omega
    rw [h3];rfl
  ·refine Gv.bind (r:=(lm (x / Nat.gcd x y),lm (x % Nat.gcd x y))) (.of (2 * n+20) fun N hN=>divide_lm (by omega) (by simp only [SM];omega) (by omega)) ?_
   refine Gv.bind (r:=(lm (y / Nat.gcd x y),lm (y % Nat.gcd x y))) (.of (2 * n+20) fun N hN=>divide_lm (by omega) (by simp only [SM];omega) (by omega)) ?_
   exact fin _ _ rfl rfl
def blw (x:TRat):TInt:=if zv x.f_Den=0 then ⟨false,[1]⟩ else x.f_Den
theorem zv_one:zv ⟨false,[1]⟩=1:=by decide
theorem zv_blw (x:TRat):zv (blw x)=dv x:=by unfold blw dv;split<;>simp [zv_one]
theorem ib_one {n:Nat} (hn:1≤n):IB ⟨false,[1]⟩ n:=⟨U.one (by decide) (by decide),hn⟩
theorem IR.blw (h:IR x n) (hn:1≤n):IB (blw x) n:=by
 unfold Go.Den.blw;split
 ·exact ib_one hn
 ·exact h.den
theorem below_gv (hx:IR x n) (hs:SM n):Gv (fun N=>g_e_below N x) (blw x):=by
 refine (sign_gv hx.den hs).bind ?_
 unfold blw
 by_cases h:zv x.f_Den=0
 ·rw [if_pos h];exact Gv.condT (by rw [h];rfl) (Gv.pure _)
 ·rw [if_neg h]
  exact Gv.condF (by simp;exact h) (Gv.pure _)
theorem lowest_gv (hx:IR x n) (hn:1≤n) (hs:SM (2 * n+2)):Gv (fun N=>g_e_lowest N x) (ofQ (qv x)):=by
 have hs':=hs
 simp only [SM] at hs'
 refine (below_gv hx (by simp only [SM];omega)).bind ?_
 refine (fraction_gv hx.num (hx.blw hn) (by rw [zv_blw];exact dv_ne x) hs).bind ((Gv.pure _).eq ?_)
 rw [zv_blw];rfl
theorem isZero_gv (hx:IR x n) (hs:SM n):Gv (fun N=>g_e_isZero N x) (decide (qv x=0)):=by
 refine (sign_gv hx.num hs).bind ((Gv.pure _).eq ?_)
 unfold qv
 by_cases h:zv x.f_Num=0
 ·rw [h,Rat.zero_divInt];rfl
 ·have:Rat.divInt (zv x.f_Num) (dv x)≠0:=by
   rw [← Rat.zero_divInt 1,ne_eq,Rat.divInt_eq_divInt_iff (dv_ne x) (by decide)];simpa using h
  rw [decide_eq_false this]
  simp;exact h
theorem AddRat_gv (hx:IR x m) (hy:IR y n) (hm:1≤m) (hn:1≤n) (hs:SM (2 * (m+n+1)+2)):Gv (fun N=>g_e_AddRat N x y) (ofQ (qv x+qv y)):=by
 simp only [SM] at hs
 refine (isZero_gv hx (by simp only [SM];omega)).bind ?_
 by_cases h1:qv x=0
 ·refine Gv.condT (decide_eq_true h1) ((lowest_gv hy hn (by simp only [SM];omega)).bind ((Gv.pure _).eq ?_))
  rw [h1,Rat.zero_add]
 ·refine Gv.condF (decide_eq_false h1) ((isZero_gv hy (by simp only [SM];omega)).bind ?_)
  by_cases h2:qv y=0
  ·refine Gv.condT (decide_eq_true h2) ((lowest_gv hx hm (by simp only [SM];omega)).bind ((Gv.pure _).eq ?_))
   rw [h2,Rat.add_zero]
  ·refine Gv.condF (decide_eq_false h2) ((below_gv hx (by simp only [SM];omega)).bind ((below_gv hy (by simp only [SM];omega)).bind ?_))
   refine (Mul_gv hx.num (hy.blw hn) (by simp only [SM];omega)).bind ((Mul_gv hy.num (hx.blw hm) (by simp only [SM];omega)).bind ?_)
   have z1:=hx.num.zb.mul (hy.blw hn).zb
   have z2:=hy.num.zb.mul (hx.blw hm).zb
   have z3:=(hx.blw hm).zb.mul (hy.blw hn).zb
   rw [zv_blw] at z1 z2
   rw [zv_blw,zv_blw] at z3
   refine Gv.bind (r:=ofZ (zv x.f_Num * dv y+zv y.f_Num * dv x)) ?_ ?_
   ·have:=Add_gv (n:=m+n) (a:=ofZ (zv x.f_Num * zv (blw y))) (b:=ofZ (zv y.f_Num * zv (blw x))) (by rw [zv_blw];exact z1.ib) (by rw [zv_blw];exact (z2.le (by omega)).ib) (by simp only [SM];omega)
    rw [zv_ofZ,zv_ofZ,zv_blw,zv_blw] at this
    rw [zv_blw,zv_blw];exact this
   ·refine Gv.bind (r:=ofZ (dv x * dv y)) ?_ ?_
    ·have:=Mul_gv (hx.blw hm) (hy.blw hn) (by simp only [SM];omega)
     rwa [zv_blw,zv_blw] at this
    ·have h0:dv x * dv y≠0:=Int.mul_ne_zero (dv_ne x) (dv_ne y)
     refine (fraction_gv (n:=m+n+1) (z1.add (z2.le (by omega))).ib (z3.le (by omega)).ib (by rw [zv_ofZ];exact h0) (by simp only [SM];omega)).bind ((Gv.pure _).eq ?_)
     rw [zv_ofZ,zv_ofZ]
     unfold qv
     rw [Rat.divInt_add_divInt _ _ (dv_ne x) (dv_ne y)]
theorem negative_gv (hx:IR x n) (hn:1≤n) (hs:SM (2 * n+2)):Gv (fun N=>g_e_negative N x) (ofQ (-qv x)):=by
 have hs':=hs
 simp only [SM] at hs'
 refine (opposite_gv x.f_Num).bind ((below_gv hx (by simp only [SM];omega)).bind ?_)
 refine (fraction_gv hx.num.opp (hx.blw hn) (by rw [zv_blw];exact dv_ne x) hs).bind ((Gv.pure _).eq ?_)
 rw [zv_opposite,zv_blw];unfold qv;rw [Rat.neg_divInt]
theorem SubRat_gv (hx:IR x m) (hy:IR y n) (hm:1≤m) (hn:1≤n) (hs:SM (2 * (m+n+1)+2)):Gv (fun N=>g_e_SubRat N x y) (ofQ (qv x - qv y)):=by
 have hs':=hs
 simp only [SM] at hs'
 refine (negative_gv hy hn (by simp only [SM];omega)).bind ?_
 refine (AddRat_gv hx (hy.rb hn).neg.ir hm hn hs).bind ((Gv.pure _).eq ?_)
 rw [qv_ofQ,Rat.sub_eq_add_neg]
theorem MulRat_gv (hx:IR x m) (hy:IR y n) (hm:1≤m) (hn:1≤n) (hs:SM (2 * (m+n)+2)):Gv (fun N=>g_e_MulRat N x y) (ofQ (qv x * qv y)):=by
 simp only [SM] at hs
 refine (Mul_gv hx.num hy.num (by simp only [SM];omega)).bind ((below_gv hx (by simp only [SM];omega)).bind ((below_gv hy (by simp only [SM];omega)).bind ?_))
 refine (Mul_gv (hx.blw hm) (hy.blw hn) (by simp only [SM];omega)).bind ?_
 have z1:=hx.num.zb.mul hy.num.zb
 have z3:=(hx.blw hm).zb.mul (hy.blw hn).zb
 have h0:dv x * dv y≠0:=Int.mul_ne_zero (dv_ne x) (dv_ne y)
 refine (fraction_gv (n:=m+n) z1.ib z3.ib (by rw [zv_ofZ,zv_blw,zv_blw];exact h0) (by simp only [SM];omega)).bind ((Gv.pure _).eq ?_)
 rw [zv_ofZ,zv_ofZ,zv_blw,zv_blw]
 unfold qv
 rw [Rat.divInt_mul_divInt]
theorem Ratio_gv {a b:Int} (h1:-9223372036854775808≤a) (h2:a≤9223372036854775807) (h3:-9223372036854775808≤b) (h4:b≤9223372036854775807) (h0:b≠0):Gv (fun N=>g_e_Ratio N a b) (ofQ (Rat.divInt a b),0):=by
 refine Gv.condF (by simpa using h0) ((Of_gv h1 h2).bind ((Of_gv h3 h4).bind ?_))
 refine (fraction_gv (n:=4) (ZB.word h1 h2).ib (ZB.word h3 h4).ib (by rw [zv_ofZ];exact h0) (by simp)).bind ((Gv.pure _).eq ?_)
 rw [zv_ofZ,zv_ofZ]
end
end Go.Den
namespace Go.Den
open Go.Ab
def Gv2 {α:Type} (f:Nat→Nat→Option α) (r:α):Prop:=∃ N0,∀ N fuel,N0≤N→N0≤fuel→f N fuel=some r
theorem Gv2.diag {α:Type} {f:Nat→Nat→Option α} {r:α} (h:Gv2 f r):Gv (fun N=>f N N) r:=let ⟨N0,h0⟩:=h;⟨N0,fun N hN=>h0 N N hN hN⟩
theorem Gv2.step {α:Type} {f:Nat→Nat→Option α} {r:α} (N1:Nat) (h:∀ N g,N1≤N→N1≤g→f N (g+1)=some r):Gv2 f r :=
 ⟨N1+1,fun N fuel hN hf=>by obtain ⟨g,rfl⟩:∃ g,fuel=g+1:=⟨fuel - 1,by omega⟩;exact h N g (by omega) (by omega)⟩
structure RDok (RD:Nat→TRat→TRat→TRat→Option TRat) (R:Rat→Rat→Rat→Rat) (A B C:Nat):Prop where
 run:∀ (ch fr acc:Rat) (m:Nat),RB ch A→RB fr B→RB acc m→1≤m→m≤100000000→Gv (fun N=>RD N (ofQ ch) (ofQ fr) (ofQ acc)) (ofQ (R ch fr acc))
 bnd:∀ (ch fr acc:Rat) (m:Nat),RB ch A→RB fr B→RB acc m→RB (R ch fr acc) (m+C)
section
end
end Go.Den
namespace Go.Den
open Go.Ab
theorem SameInt_L1 {a:TInt} (hl:SM a.f_Limbs.length):∀ k i,i+k=a.f_Limbs.length→Gv2 (fun N fuel=>g_b_SameInt_L1 N a a fuel (i:Int)) true
 | 0,i,hi=>.step 0 fun N g _ _=>by
  have:i=a.f_Limbs.length:=by omega
  subst this
  rw [g_b_SameInt_L1,dec_nlt];rfl
 | k+1,i,hi=>by
  simp only [SM] at hl
  obtain ⟨N1,h1⟩:=SameInt_L1 (a:=a) hl k (i+1) (by omega)
  dsimp only at h1
  refine .step N1 fun N g hN hg=>?_
  rw [g_b_SameInt_L1,dec_lt (by omega),cond_true,if_pos (inb (by omega)),if_pos (inb (by omega)),w64_succ (by omega)]
  have e:(a.f_Limbs.getD ((i:Int)).toNat 0 != a.f_Limbs.getD ((i:Int)).toNat 0)=false:=by simp
  rw [e,cond_false]
  exact h1 N g hN hg
theorem SameInt_gv (a:TInt) (hl:SM a.f_Limbs.length):Gv (fun N=>g_b_SameInt N a a) true:=by
 unfold g_b_SameInt
 refine Gv.condF ?_ (SameInt_L1 hl a.f_Limbs.length 0 (by omega)).diag
 cases a.f_Neg<;>simp
theorem SameRat_gv (x:TRat) (h1:SM x.f_Num.f_Limbs.length) (h2:SM x.f_Den.f_Limbs.length):Gv (fun N=>g_b_SameRat N x x) true :=
 (SameInt_gv _ h1).bind (Gv.bind (Gv.condT rfl (SameInt_gv _ h2)) (Gv.pure _))
theorem SameQ_gv {q:Rat} {n:Nat} (h:RB q n) (hn:SM n):Gv (fun N=>g_b_SameRat N (ofQ q) (ofQ q)) true:=by
 have h1:=h.num
 have h2:=h.den
 unfold ZB at h1 h2
 exact SameRat_gv _ (by simp only [SM,ofQ,ofZ] at *;omega) (by simp only [SM,ofQ,ofZ] at *;omega)
end Go.Den
namespace Go.Den
open Go.Ab
structure RQ (x:TRat) (p:Rat) (n:Nat):Prop where
 ir:IR x n
 v:qv x=p
 pos:1≤n
structure ZI (a:TInt) (z:Int) (n:Nat):Prop where
 ib:IB a n
 v:zv a=z
theorem RQ.rb {x:TRat} {p:Rat} {n:Nat} (h:RQ x p n):RB p n:=h.v ▸ h.ir.rb h.pos
theorem RB.rq {p:Rat} {n:Nat} (h:RB p n) (hn:1≤n):RQ (ofQ p) p n:=⟨h.ir,qv_ofQ p,hn⟩
theorem RQ.le {x:TRat} {p:Rat} {m n:Nat} (h:RQ x p m) (hmn:m≤n):RQ x p n:=⟨h.ir.le hmn,h.v,Nat.le_trans h.pos hmn⟩
theorem ZI.zb {a:TInt} {z:Int} {n:Nat} (h:ZI a z n):ZB z n:=h.v ▸ h.ib.zb
theorem ZB.zi {z:Int} {n:Nat} (h:ZB z n):ZI (ofZ z) z n:=⟨h.ib,zv_ofZ z⟩
theorem ZI.le {a:TInt} {z:Int} {m n:Nat} (h:ZI a z m) (hmn:m≤n):ZI a z n:=⟨h.ib.le hmn,h.v⟩
section
variable {a b:TInt} {x y:TRat} {m n:Nat} {p q:Rat} {z w:Int}
theorem RQ.add (hx:RQ x p m) (hy:RQ y q n) (hs:SM (2 * (m+n+1)+2)):Gv (fun N=>g_e_AddRat N x y) (ofQ (p+q)):=by
 have:=AddRat_gv hx.ir hy.ir hx.pos hy.pos hs;rwa [hx.v,hy.v] at this
theorem RQ.sub (hx:RQ x p m) (hy:RQ y q n) (hs:SM (2 * (m+n+1)+2)):Gv (fun N=>g_e_SubRat N x y) (ofQ (p - q)):=by
 have:=SubRat_gv hx.ir hy.ir hx.pos hy.pos hs;rwa [hx.v,hy.v] at this
theorem RQ.mul (hx:RQ x p m) (hy:RQ y q n) (hs:SM (2 * (m+n)+2)):Gv (fun N=>g_e_MulRat N x y) (ofQ (p * q)):=by
 have:=MulRat_gv hx.ir hy.ir hx.pos hy.pos hs;rwa [hx.v,hy.v] at this
theorem RQ.low (hx:RQ x p m) (hs:SM (2 * m+2)):Gv (fun N=>g_e_lowest N x) (ofQ p):=by
 have:=lowest_gv hx.ir hx.pos hs;rwa [hx.v] at this
theorem RQ.zero (hx:RQ x p m) (hs:SM m):Gv (fun N=>g_e_isZero N x) (decide (p=0)):=by
 have:=isZero_gv hx.ir hs;rwa [hx.v] at this
theorem ZI.add (ha:ZI a z n) (hb:ZI b w n) (hs:SM (n+1)):Gv (fun N=>g_e_Add N a b) (ofZ (z+w)):=by
 have:=Add_gv ha.ib hb.ib hs;rwa [ha.v,hb.v] at this
theorem ZI.mul (ha:ZI a z m) (hb:ZI b w n) (hs:SM (m+n)):Gv (fun N=>g_e_Mul N a b) (ofZ (z * w)):=by
 have:=Mul_gv ha.ib hb.ib hs;rwa [ha.v,hb.v] at this
end
end Go.Den
namespace Go.Den
open Go.Ab
theorem Gv2.succ {α:Type} {f f':Nat→Nat→Option α} {r:α} (e:∀ N g,f N (g+1)=f' N g) (h:Gv2 f' r):Gv2 f r :=
 let ⟨N0,h0⟩:=h;.step N0 fun N g hN hg=>(e N g).trans (h0 N g hN hg)
theorem Gv2.bind {α β:Type} {f:Nat→Option α} {k:Nat→Nat→α→Option β} {r:α} {s:β} (h:Gv f r) (h2:Gv2 (fun N g=>k N g r) s):Gv2 (fun N g=>(f N).bind (k N g)) s:=by
 obtain ⟨N0,h⟩:=h
 obtain ⟨N1,h2⟩:=h2
 exact ⟨N0+N1,fun N g hN hg=>by dsimp only;rw [h N (by omega)];exact h2 N g (by omega) (by omega)⟩
theorem Gv2.condT {α:Type} {f g:Nat→Nat→Option α} {r:α} {q:Bool} (hq:q=true) (h:Gv2 f r):Gv2 (fun N n=>cond q (f N n) (g N n)) r:=by subst hq;exact h
theorem Gv2.condF {α:Type} {f g:Nat→Nat→Option α} {r:α} {q:Bool} (hq:q=false) (h:Gv2 g r):Gv2 (fun N n=>cond q (f N n) (g N n)) r:=by subst hq;exact h
theorem Gv2.if {α:Type} {f:Nat→Nat→Option α} {r:α} {p:Prop} [Decidable p] (hp:p) (h:Gv2 f r):Gv2 (fun N n=>if p then f N n else none) r:=by
 obtain ⟨N0,h⟩:=h
 exact ⟨N0,fun N g hN hg=>by dsimp only;rw [if_pos hp];exact h N g hN hg⟩
theorem Gv2.one {α:Type} {f:Nat→Option α} {r:α} (h:Gv f r):Gv2 (fun N _=>f N) r:=let ⟨N0,h⟩:=h;⟨N0,fun N _ hN _=>h N hN⟩
theorem Gv2.eq {α:Type} {f:Nat→Nat→Option α} {r s:α} (h:Gv2 f r) (e:r=s):Gv2 f s:=e ▸ h
theorem RB.zero:RB 0 1:=RB.int (z:=0) (ZB.small (by decide)) (by decide)
theorem RB.one:RB 1 1:=RB.int (z:=1) (ZB.small (by decide)) (by decide)
end Go.Den
namespace Go.Den
open Go.Ab
def lz (f:Nat→Rat) (n:Nat):List TRat:=(List.range n).map fun i=>ofQ (f i)
theorem lz_len (f:Nat→Rat) (n:Nat):(lz f n).length=n:=by unfold lz;simp
theorem lz_get (f:Nat→Rat) {n i:Nat} (h:i < n):(lz f n).getD i TRat.d=ofQ (f i):=by
 unfold lz;simp [List.getD,h]
theorem lz_ext {f g:Nat→Rat} {n:Nat} (h:∀ i,i < n→f i=g i):lz f n=lz g n:=by
 unfold lz
 exact List.map_congr_left fun i hi=>by rw [h i (List.mem_range.1 hi)]
theorem lz_at (f:Nat→Rat) (n i:Nat):(lz f n)[i]?=if i < n then some (ofQ (f i)) else none:=by
 unfold lz
 rw [List.getElem?_map]
 by_cases h:i < n
 ·rw [if_pos h,List.getElem?_range h];rfl
 ·rw [if_neg h,List.getElem?_eq_none (by simp;omega)];rfl
theorem lz_set {f g:Nat→Rat} {n x:Nat} {q:Rat} (hx:g x=q) (h:∀ i,i≠x→g i=f i):(lz f n).set x (ofQ q)=lz g n:=by
 apply List.ext_getElem?
 intro i
 rw [List.getElem?_set,lz_at,lz_at,lz_len]
 by_cases e:x=i
 ·subst e;rw [if_pos rfl,hx]
 ·rw [if_neg e,h i (fun q=>e q.symm)]
theorem lz_take (f:Nat→Rat) {n m:Nat} (h:m≤n):(lz f n).take m=lz f m:=by
 unfold lz
 rw [← List.map_take,List.take_range,Nat.min_eq_left h]
theorem lz_succ (f:Nat→Rat) (n:Nat):lz f n ++ [ofQ (f n)]=lz f (n+1):=by
 unfold lz;rw [List.range_succ,List.map_append];rfl
def halfF (v:Nat→Rat):Nat→Rat:=fun i=>Rat.divInt 1 2 * (v i+v (i+1))
def meanF:Nat→(Nat→Rat)→Rat
 | 0,v=>v 0
 | n+1,v=>meanF n (halfF v)
theorem rb_half1:RB (Rat.divInt 1 2) 1:=rb_divInt (ZB.small (by decide)) (ZB.small (by decide)) (by decide)
theorem half_rb {v:Nat→Rat} {s n:Nat} (h:∀ i,i < n+1→RB (v i) s):∀ i,i < n→RB (halfF v i) (2 * s+2):=fun i hi =>
 (rb_half1.mul ((h i (by omega)).add (h (i+1) (by omega)))).le (by omega)
def mixF (v:Nat→Rat) (x:Nat):Nat→Rat:=fun i=>if i < x then halfF v i else v i
theorem eta_rat (x:TRat):(⟨x.f_Num,x.f_Den⟩:TRat)=x:=rfl
theorem mean_L2 {c:List TRun} {v:Nat→Rat} {m s:Nat} (hm:m < 1000) (hs:s < 100000) (hv:∀ i,i < m+1→RB (v i) s) (hs1:1≤s) {K:Nat→Nat→List TRat→Option (TRat×Int)} {R:TRat×Int}
  (hK:Gv2 (fun N g=>K N g (lz (halfF v) m)) R):∀ (k x:Nat),x+k=m→∃ N0,∀ N g u,N0≤N→N0≤g→N0≤u →
   g_survey_MeanOfMeans_L2 N c (ofQ (Rat.divInt 1 2)) (lz v (m+1)) (K N g) u (lz (mixF v x) (m+1)) (x:Int)=some R:=by
 have ew:w64 (((m+1:Nat):Int) - 1)=(m:Int):=by rw [w64_eq (by omega) (by omega)];omega
 intro k
 induction k with
 | zero =>
  intro x hx
  obtain rfl:x=m:=by omega
  obtain ⟨N0,h0⟩:=hK
  refine ⟨N0+1,fun N g u hN hg hu=>?_⟩
  obtain ⟨u,rfl⟩:∃ q,u=q+1:=⟨u - 1,by omega⟩
  rw [g_survey_MeanOfMeans_L2.eq_2,lz_len,lz_len,ew,decide_eq_false (by omega),cond_false,toNat_nat,if_pos ⟨Nat.zero_le _,by omega⟩,if_pos (by omega),if_pos (by omega),lz_take _ (Nat.le_succ _),
   lz_ext (f:=mixF v x) (g:=halfF v) fun i hi=>by unfold mixF;rw [if_pos hi]]
  exact h0 N g (by omega) (by omega)
 | succ k ih =>
  intro x hx
  obtain ⟨N0,h0⟩:=ih (x+1) (by omega)
  have g0:(lz (mixF v x) (m+1)).getD x TRat.d=ofQ (v x):=by rw [lz_get _ (by omega)];unfold mixF;rw [if_neg (by omega)]
  have g1:(lz (mixF v x) (m+1)).getD (x+1) TRat.d=ofQ (v (x+1)):=by rw [lz_get _ (by omega)];unfold mixF;rw [if_neg (by omega)]
  obtain ⟨N1,h1⟩:=((hv x (by omega)).rq hs1).add ((hv (x+1) (by omega)).rq hs1) (show 2 * (s+s+1)+2 < 10000000000000 by omega)
  obtain ⟨N2,h2⟩:=(rb_half1.rq (by decide)).mul (((hv x (by omega)).add (hv (x+1) (by omega))).rq (by omega)) (show 2 * (1+(s+s+1))+2 < 10000000000000 by omega)
  refine ⟨N0+N1+N2+1,fun N g u hN hg hu=>?_⟩
  obtain ⟨u,rfl⟩:∃ q,u=q+1:=⟨u - 1,by omega⟩
  rw [g_survey_MeanOfMeans_L2.eq_2,lz_len,lz_len,ew,decide_eq_true (by omega),cond_true,if_pos (by omega),w64_succ (by omega),if_pos (by omega),toNat_nat,toNat_nat,g0,g1,eta_rat,eta_rat]
  have h1':=h1 N (by omega)
  have h2':=h2 N (by omega)
  dsimp only at h1' h2'
  rw [h1',Option.bind_some,h2',Option.bind_some]
  rw [lz_set (f:=mixF v x) (g:=mixF v (x+1)) (by unfold mixF;rw [if_pos (by omega)];rfl) (fun i hi=>by
   unfold mixF
   by_cases q:i < x
   ·rw [if_pos q,if_pos (by omega)]
   ·rw [if_neg q,if_neg (by omega)])]
  exact h0 N g u (by omega) (by omega) (by omega)
theorem mean_L1 {c:List TRun}:∀ (m s:Nat) (v:Nat→Rat),m < 1000→s * 4 ^ m < 100000→(∀ i,i < m+1→RB (v i) s)→2≤s →
  Gv2 (fun N g=>g_survey_MeanOfMeans_L1 N c (ofQ (Rat.divInt 1 2)) g (lz v (m+1))) (ofQ (meanF m v),0)
 | 0,s,v,hm,hs,hv,hs1=>by
  refine Gv2.succ (fun N g=>g_survey_MeanOfMeans_L1.eq_2 ..) (Gv2.condF (by rw [lz_len];rfl) (Gv2.if (by rw [lz_len];decide) (Gv2.one ((Gv.pure _).eq ?_))))
  rw [lz_get _ (by omega)];rfl
 | m+1,s,v,hm,hs,hv,hs1=>by
  have h4:s * 4 ^ (m+1)=s * 4 * 4 ^ m:=by rw [Nat.pow_succ,Nat.mul_assoc,Nat.mul_comm (4 ^ m) 4]
  have h5:s * 4≤s * 4 * 4 ^ m:=Nat.le_mul_of_pos_right _ (Nat.pow_pos (by decide))
  have ih:=mean_L1 (c:=c) m (s * 4) (halfF v) (by omega) (by omega) (fun i hi=>(half_rb hv i hi).le (by omega)) (by omega)
  obtain ⟨N0,h0⟩:=mean_L2 (c:=c) (v:=v) (m:=m+1) (s:=s) (by omega) (by omega) hv (by omega) (K:=fun N g=>g_survey_MeanOfMeans_L1 N c (ofQ (Rat.divInt 1 2)) g) ih (m+1) 0 (by omega)
  refine Gv2.step (N0+1) fun N g hN hg=>?_
  rw [g_survey_MeanOfMeans_L1.eq_2,lz_len,decide_eq_true (by omega),cond_true]
  have e:lz (mixF v 0) (m+1+1)=lz v (m+1+1):=lz_ext fun i _=>by unfold mixF;rw [if_neg (by omega)]
  have:=h0 N g N (by omega) (by omega) (by omega)
  rw [e] at this
  exact this
def polR (a0 a1 a2 a3 a4:Rat) (k i:Nat):Rat :=
 (if 0 < k then a0 else 0)+(if 1 < k then a1 * i else 0)+(if 2 < k then a2 * i ^ 2 else 0)+(if 3 < k then a3 * i ^ 3 else 0)+(if 4 < k then a4 * i ^ 4 else 0)
def altR (e:Rat) (i:Nat):Rat:=if i % 2=1 then -e else e
theorem mean_removes (w e a0 a1 a2 a3 a4:Rat) (n:Nat) (hn:2≤n∧n≤6):meanF (n - 1) (fun i=>w+altR e i * polR a0 a1 a2 a3 a4 (n - 1) i)=w:=by
 have h2:Rat.divInt 1 2=1 / 2:=by rw [Rat.divInt_eq_div];rfl
 obtain ⟨h,h'⟩:=hn
 match n,h,h' with
 | 2,_,_=>simp [meanF,halfF,polR,altR,h2];grind
 | 3,_,_=>simp [meanF,halfF,polR,altR,h2];grind
 | 4,_,_=>simp [meanF,halfF,polR,altR,h2];grind
 | 5,_,_=>simp [meanF,halfF,polR,altR,h2];grind
 | 6,_,_=>simp [meanF,halfF,polR,altR,h2];grind
end Go.Den
namespace Go.Den
open Go.Ab
def tr (R:Nat→TRun) (n:Nat):List TRun:=(List.range n).map R
theorem tr_len (R:Nat→TRun) (n:Nat):(tr R n).length=n:=by unfold tr;simp
theorem tr_get (R:Nat→TRun) {n i:Nat} (h:i < n):(tr R n).getD i TRun.d=R i:=by unfold tr;simp [List.getD,h]
theorem tr_succ (R:Nat→TRun) (n:Nat):tr R n ++ [R n]=tr R (n+1):=by unfold tr;rw [List.range_succ,List.map_append];rfl
structure GR (R:Nat→TRun) (n:Nat):Prop where
 le:2≤n∧n≤12
 st:∀ i,i < n→(R i).f_Start=2000 * (i:Int)
 s1:∀ i,i < n→1≤(R i).f_Seconds
 s2:∀ i,i < n→(R i).f_Seconds≤1000
 m1:∀ i,i < n→1≤(R i).f_Metres
 m2:∀ i,i < n→(R i).f_Metres≤100000
 bk:∀ i,i+1 < n→(R i).f_Back=!(R (i+1)).f_Back
theorem inside_L1 {lo hi:Int} {l:List Int} (h:∀ i,i < l.length→lo≤l.getD i 0∧l.getD i 0≤hi) (hl:l.length < 1000):∀ (k i:Nat),i+k=l.length→Gv2 (fun N g=>g_slices_IndexFunc_int_int_v6_L1 N l lo hi g (i:Int)) (-1):=by
 intro k
 induction k with
 | zero=>intro i hi';exact Gv2.succ (fun N g=>g_slices_IndexFunc_int_int_v6_L1.eq_2 ..) (Gv2.condF (decide_eq_false (by omega)) (Gv2.one (Gv.pure _)))
 | succ k ih =>
  intro i hi'
  have q:=h i (by omega)
  refine Gv2.succ (fun N g=>g_slices_IndexFunc_int_int_v6_L1.eq_2 ..) (Gv2.condT (decide_eq_true (by omega)) (Gv2.if (by omega) ?_))
  rw [toNat_nat,w64_succ (by omega)]
  refine Gv2.bind (r:=false) ((Gv.pure _).eq ?_) (Gv2.condF rfl (ih (i+1) (by omega)))
  rw [decide_eq_false (by omega),decide_eq_false (by omega)];rfl
theorem inside_gv {lo hi:Int} {l:List Int} (h:∀ i,i < l.length→lo≤l.getD i 0∧l.getD i 0≤hi) (hl:l.length < 1000):Gv (fun N=>g_survey_inside_v6 N lo hi l) true:=by
 have h1:Gv (fun N=>g_slices_IndexFunc_int_int_v6 N l lo hi) (-1):=(inside_L1 h hl l.length 0 (by omega)).diag
 have h2:Gv (fun N=>g_slices_ContainsFunc_int_int_v6 N l lo hi) false:=Gv.bind h1 (Gv.pure _)
 exact Gv.bind h2 (Gv.pure _)
theorem trial_L1 {R:Nat→TRun} {n:Nat} (g:GR R n):∀ (k x:Nat),x+k=n→Gv2 (fun N f=>g_survey_CheckTrial_L1 N (tr R n) f (x:Int)) 0:=by
 obtain ⟨n2,n12⟩:=g.le
 intro k
 induction k with
 | zero=>intro x hx;exact Gv2.succ (fun N f=>g_survey_CheckTrial_L1.eq_2 ..) (Gv2.condF (decide_eq_false (by rw [tr_len];omega)) (Gv2.one (Gv.pure _)))
 | succ k ih =>
  intro x hx
  have hxn:x < n:=by omega
  have st:=g.st x hxn
  have s1:=g.s1 x hxn
  have s2:=g.s2 x hxn
  have m1:=g.m1 x hxn
  have m2:=g.m2 x hxn
  have i1:Gv (fun N=>g_survey_inside_v6 N 0 1000000 ([(R x).f_Start]:List Int)) true:=inside_gv (fun i hi=>by
   obtain rfl:i=0:=by simpa using hi
   show 0≤(R x).f_Start∧(R x).f_Start≤1000000;omega) (by show 1 < 1000;decide)
  have i2:Gv (fun N=>g_survey_inside_v6 N 1 100000 ([(R x).f_Seconds,(R x).f_Metres]:List Int)) true:=inside_gv (fun i hi=>by
   have hi:i < 2:=hi
   match i,hi with
   | 0,_=>show 1≤(R x).f_Seconds∧(R x).f_Seconds≤100000;omega
   | 1,_=>show 1≤(R x).f_Metres∧(R x).f_Metres≤100000;omega) (by show 2 < 1000;decide)
  have nx:=ih (x+1) (by omega)
  refine Gv2.succ (fun N f=>g_survey_CheckTrial_L1.eq_2 ..) (Gv2.condT (decide_eq_true (by rw [tr_len];omega)) (Gv2.if (by rw [tr_len];omega) ?_))
  rw [toNat_nat,tr_get R hxn]
  refine Gv2.bind i1 (Gv2.condT rfl (Gv2.bind i2 (Gv2.condF rfl ?_)))
  unfold g_survey_CheckTrial_J2
  rw [w64_succ (by omega)]
  by_cases h0:x=0
  ·exact Gv2.condT (by rw [h0];rfl) nx
  ·have e:w64 ((x:Int) - 1)=((x - 1:Nat):Int):=by rw [w64_eq (by omega) (by omega)];omega
   have st':=g.st (x - 1) (by omega)
   have s2':=g.s2 (x - 1) (by omega)
   have s1':=g.s1 (x - 1) (by omega)
   have bk:=g.bk (x - 1) (by omega)
   rw [show x - 1+1=x by omega] at bk
   refine Gv2.condF (by rw [beq_eq_false_iff_ne];omega) (Gv2.if (by rw [e,tr_len];omega) ?_)
   rw [e,toNat_nat,tr_get R (show x - 1 < n by omega)]
   refine Gv2.condF (decide_eq_false (by omega)) (Gv2.condF ?_ nx)
   rw [decide_eq_false (by rw [w64_eq (by omega) (by omega)];omega),bk]
   cases (R x).f_Back<;>rfl
theorem trial_gv {R:Nat→TRun} {n:Nat} (g:GR R n):Gv (fun N=>g_survey_CheckTrial N (tr R n)) 0:=by
 obtain ⟨n2,n12⟩:=g.le
 unfold g_survey_CheckTrial
 exact Gv.condF (decide_eq_false (by rw [tr_len];omega)) (Gv.condF (decide_eq_false (by rw [tr_len];omega)) (trial_L1 g n 0 (by omega)).diag)
def spd (R:Nat→TRun):Nat→Rat:=fun i=>Rat.divInt (R i).f_Metres (R i).f_Seconds
theorem ratio_gv {a b:Int} (h1:-9223372036854775808≤a) (h2:a≤9223372036854775807) (h3:-9223372036854775808≤b) (h4:b≤9223372036854775807) (h0:b≠0):Gv (fun N=>g_survey_ratio N a b) (ofQ (Rat.divInt a b)):=Gv.bind (Ratio_gv h1 h2 h3 h4 h0) (Gv.pure _)
theorem speeds_L1 {R:Nat→TRun} {n:Nat} (g:GR R n):∀ (k x:Nat),x+k=n→Gv2 (fun N f=>g_survey_Speeds_L1 N (tr R n) f (lz (spd R) x) (x:Int)) (lz (spd R) n,0):=by
 obtain ⟨n2,n12⟩:=g.le
 intro k
 induction k with
 | zero =>
  intro x hx
  obtain rfl:x=n:=by omega
  exact Gv2.succ (fun N f=>g_survey_Speeds_L1.eq_2 ..) (Gv2.condF (decide_eq_false (by rw [tr_len];omega)) (Gv2.one (Gv.pure _)))
 | succ k ih =>
  intro x hx
  have hxn:x < n:=by omega
  have s1:=g.s1 x hxn
  have s2:=g.s2 x hxn
  have m1:=g.m1 x hxn
  have m2:=g.m2 x hxn
  refine Gv2.succ (fun N f=>g_survey_Speeds_L1.eq_2 ..) (Gv2.condT (decide_eq_true (by rw [tr_len];omega)) (Gv2.if (by rw [tr_len];omega) ?_))
  rw [toNat_nat,tr_get R hxn,w64_succ (by omega)]
  refine Gv2.bind (ratio_gv (by omega) (by omega) (by omega) (by omega) (by omega)) (Gv2.if (by rw [lz_len];omega) ?_)
  show Gv2 (fun N f=>g_survey_Speeds_L1 N (tr R n) f (lz (spd R) x ++ [ofQ (spd R x)]) ((x+1:Nat):Int)) _
  rw [lz_succ]
  exact ih (x+1) (by omega)
theorem speeds_gv {R:Nat→TRun} {n:Nat} (g:GR R n):Gv (fun N=>g_survey_Speeds N (tr R n)) (lz (spd R) n,0) :=
 Gv.bind (trial_gv g) (Gv.condF rfl (speeds_L1 g n 0 (by omega)).diag)
theorem spd_rb {R:Nat→TRun} {n:Nat} (g:GR R n):∀ i,i < n→RB (spd R i) 2:=fun i hi=>by
 have s1:=g.s1 i hi
 have s2:=g.s2 i hi
 have m1:=g.m1 i hi
 have m2:=g.m2 i hi
 exact rb_divInt (zb_pw.2 (by show _ < 4294967296;omega)) (zb_pw.2 (by show _ < 4294967296;omega)) (by omega)
theorem means_gv {R:Nat→TRun} {m:Nat} (g:GR R (m+1)) (hm:m≤5):Gv (fun N=>g_survey_MeanOfMeans N (tr R (m+1))) (ofQ (meanF m (spd R)),0):=by
 unfold g_survey_MeanOfMeans
 refine Gv.bind (speeds_gv g) (Gv.condF rfl (Gv.bind (ratio_gv (by decide) (by decide) (by decide) (by decide) (by decide)) ?_))
 have h4:4 ^ m≤4 ^ 5:=Nat.pow_le_pow_right (by decide) hm
 exact (mean_L1 m 2 (spd R) (by omega) (by omega) (spd_rb g) (by decide)).diag
def curF (R:Nat→TRun) (w:Rat):Nat→Rat:=fun i=>if (R i).f_Back then w - spd R i else spd R i - w
def curMix (R:Nat→TRun) (w:Rat) (x:Nat):Nat→Rat:=fun i=>if i < x then curF R w i else spd R i
theorem currents_L1 {R:Nat→TRun} {n s:Nat} (g:GR R n) {w:Rat} (hw:RB w s) (hs:1≤s∧s < 100000):∀ (k x:Nat),x+k=n→Gv2 (fun N f=>g_survey_Currents_L1 N (tr R n) (ofQ w,0) (lz (spd R) n,0) f (lz (curMix R w x) n) (x:Int)) (lz (curF R w) n,0):=by
 obtain ⟨n2,n12⟩:=g.le
 intro k
 induction k with
 | zero =>
  intro x hx
  obtain rfl:x=n:=by omega
  refine Gv2.succ (fun N f=>g_survey_Currents_L1.eq_2 ..) (Gv2.condF (decide_eq_false (by show ¬ (x:Int) < (((lz (spd R) x).length:Nat):Int);rw [lz_len];omega)) (Gv2.one ((Gv.pure _).eq ?_)))
  rw [lz_ext (f:=curMix R w x) (g:=curF R w) fun i hi=>by unfold curMix;rw [if_pos hi]]
 | succ k ih =>
  intro x hx
  have hxn:x < n:=by omega
  have gx:(lz (curMix R w x) n).getD x TRat.d=ofQ (spd R x):=by rw [lz_get _ hxn];unfold curMix;rw [if_neg (by omega)]
  have rs:=spd_rb g x hxn
  have st:∀ q,q=curF R w x→(lz (curMix R w x) n).set x (ofQ q)=lz (curMix R w (x+1)) n:=fun q e=>lz_set (by unfold curMix;rw [if_pos (by omega),e]) fun i hi=>by
   unfold curMix
   by_cases q:i < x
   ·rw [if_pos q,if_pos (by omega)]
   ·rw [if_neg q,if_neg (by omega)]
  refine Gv2.succ (fun N f=>g_survey_Currents_L1.eq_2 ..) (Gv2.condT (decide_eq_true (by show (x:Int) < (((lz (spd R) n).length:Nat):Int);rw [lz_len];omega)) (Gv2.if (by rw [tr_len];omega) ?_))
  unfold g_survey_Currents_J2
  rw [toNat_nat,tr_get R hxn,gx,w64_succ (by omega)]
  by_cases hb:(R x).f_Back=true
  ·refine Gv2.condT hb (Gv2.if (by rw [lz_len];omega) (Gv2.bind ((hw.rq hs.1).sub (rs.rq (by decide)) (show 2 * (s+2+1)+2 < 10000000000000 by omega)) ?_))
   rw [st _ (by unfold curF;rw [if_pos hb])]
   exact ih (x+1) (by omega)
  ·refine Gv2.condF (by simpa using hb) (Gv2.if (by rw [lz_len];omega) (Gv2.bind ((rs.rq (by decide)).sub (hw.rq hs.1) (show 2 * (2+s+1)+2 < 10000000000000 by omega)) ?_))
   rw [st _ (by unfold curF;rw [if_neg hb])]
   exact ih (x+1) (by omega)
theorem currents_gv {R:Nat→TRun} {m s:Nat} (g:GR R (m+1)) (hm:m≤5) (hw:RB (meanF m (spd R)) s) (hs:1≤s∧s < 100000):Gv (fun N=>g_survey_Currents N (tr R (m+1))) (lz (curF R (meanF m (spd R))) (m+1),0):=by
 unfold g_survey_Currents
 refine Gv.bind (means_gv g hm) (Gv.condF rfl (Gv.bind (speeds_gv g) ?_))
 have:=(currents_L1 g hw hs (m+1) 0 (by omega)).diag
 have e:lz (curMix R (meanF m (spd R)) 0) (m+1)=lz (spd R) (m+1):=lz_ext fun i _=>by unfold curMix;rw [if_neg (by omega)]
 rw [e] at this
 exact this
theorem q_L2 {a b:Int} (ha:a.natAbs < 4611686018427387904) (hb:0 < b) (hb2:b < 4611686018427387904):∀ (y x:Nat),Nat.gcd x y=Nat.gcd a.natAbs b.toNat→0 < x∨0 < y→Gv2 (fun N f=>g_b_Q_L2 N a b f (x:Int) (y:Int)) (ofQ (Rat.divInt a b)):=by
 intro y
 induction y using Nat.strongRecOn with
 | ind y ih =>
  intro x hg hpos
  by_cases h0:y=0
  ·subst h0
   rw [Nat.gcd_zero_right] at hg
   have hx:0 < x:=by omega
   have hgi:Int.gcd b a=x:=by
    rw [hg];unfold Int.gcd;rw [Nat.gcd_comm,show b.natAbs=b.toNat by omega]
   have hd:(x:Int) ∣ a:=by rw [← hgi];exact Int.gcd_dvd_right ..
   have hd2:(x:Int) ∣ b:=by rw [← hgi];exact Int.gcd_dvd_left ..
   have e1:a.tdiv x=(Rat.divInt a b).num:=by
    rw [Rat.num_divInt,hgi,Int.sign_eq_one_of_pos hb,Int.one_mul,Int.tdiv_eq_ediv_of_dvd hd]
   have e2:b.tdiv x=((Rat.divInt a b).den:Int):=by
    rw [Rat.den_divInt,if_neg (by omega),hgi,Int.tdiv_eq_ediv_of_dvd hd2,show b.natAbs=b.toNat by omega]
    rw [Int.natCast_ediv];congr 1;omega
   have b1:(Rat.divInt a b).num.natAbs≤a.natAbs:=by
    rw [← e1];rw [Int.tdiv_eq_ediv_of_dvd hd];exact Int.natAbs_ediv_le_natAbs _ _
   have b2:((Rat.divInt a b).den:Int).natAbs≤b.natAbs:=by
    rw [← e2];rw [Int.tdiv_eq_ediv_of_dvd hd2];exact Int.natAbs_ediv_le_natAbs _ _
   refine Gv2.succ (fun N f=>g_b_Q_L2.eq_2 ..) (Gv2.condF (decide_eq_false (by omega)) (Gv2.if (by omega) ?_))
   rw [e1,e2,w64_eq (by omega) (by omega),w64_eq (by omega) (by omega)]
   exact Gv2.one (Gv.bind (Z_gv (by omega) (by omega)) (Gv.bind (Z_gv (by omega) (by omega)) (Gv.pure _)))
  ·have hy:0 < y:=by omega
   refine Gv2.succ (fun N f=>g_b_Q_L2.eq_2 ..) (Gv2.condT (decide_eq_true (by omega)) (Gv2.if (by omega) ?_))
   have e:(x:Int).tmod (y:Int)=((x % y:Nat):Int):=by rw [Int.tmod_eq_emod_of_nonneg (by omega)];rfl
   rw [e]
   refine ih (x % y) (Nat.mod_lt _ hy) y ?_ (.inl hy)
   rw [← hg,Nat.gcd_comm x y,Nat.gcd_rec y x,Nat.gcd_comm]
theorem q_gv {a b:Int} (ha:a.natAbs < 4611686018427387904) (hb:0 < b) (hb2:b < 4611686018427387904):Gv (fun N=>g_b_Q N a b) (ofQ (Rat.divInt a b)):=by
 unfold g_b_Q
 refine Gv.condF (decide_eq_false (by omega)) ?_
 unfold g_b_Q_J1
 have eb:b=((b.toNat:Nat):Int):=by omega
 have key:=(q_L2 ha hb hb2 b.toNat a.natAbs rfl (.inr (by omega))).diag
 rw [← eb] at key
 by_cases h:a < 0
 ·refine Gv.condT (decide_eq_true h) ?_
  rw [w64_eq (by omega) (by omega),show 0 - a=((a.natAbs:Nat):Int) by omega];exact key
 ·refine Gv.condF (decide_eq_false h) ?_
  rw [show ((a.natAbs:Nat):Int)=a by omega] at key;exact key
end Go.Den
namespace Go.Den
open Go.Ab
section
variable {d:Tkeelblocktop_Drift}
def cA (d:Tkeelblocktop_Drift) (k:Nat):Int:=pickI [d.f_A.e0,d.f_A.e1,d.f_A.e2,d.f_A.e3,d.f_A.e4] k
def vs (d:Tkeelblocktop_Drift) (i:Nat):Nat→Int
 | 0=>0
 | k+1=>vs d i k+cA d k * (i:Int) ^ k
structure DrOK (d:Tkeelblocktop_Drift):Prop where
 d1:1≤d.f_D
 d2:d.f_D≤1000
 v1:1≤d.f_V
 v2:d.f_V≤50000
 a:∀ k,k < 5→-20≤cA d k∧cA d k≤20
theorem ipow_le {i k:Nat} (hi:i≤5) (hk:k≤5):0≤(i:Int) ^ k∧(i:Int) ^ k≤3125:=by
 have h1:i ^ k≤5 ^ 5:=Nat.le_trans (Nat.pow_le_pow_left hi k) (Nat.pow_le_pow_right (by decide) hk)
 have h2:((i ^ k:Nat):Int)=(i:Int) ^ k:=Int.natCast_pow i k
 omega
theorem term_le {i k:Nat} (h:DrOK d) (hi:i≤5) (hk:k < 5):-62500≤cA d k * (i:Int) ^ k∧cA d k * (i:Int) ^ k≤62500:=by
 obtain ⟨a1,a2⟩:=h.a k hk
 obtain ⟨p1,p2⟩:=ipow_le hi (show k≤5 by omega)
 constructor
 ·have:=Int.mul_le_mul_of_nonneg_right a1 p1;omega
 ·have:=Int.mul_le_mul_of_nonneg_right a2 p1;omega
theorem vs_le {i:Nat} (h:DrOK d) (hi:i≤5):∀ k:Nat,k≤5→-(62500 * (k:Int))≤vs d i k∧vs d i k≤62500 * (k:Int)
 | 0,_=>⟨by show _≤(0:Int);omega,by show (0:Int)≤_;omega⟩
 | k+1,hk=>by
  have:=vs_le h hi k (by omega)
  have:=term_le h hi (show k < 5 by omega)
  show _≤vs d i k+cA d k * (i:Int) ^ k∧vs d i k+cA d k * (i:Int) ^ k≤_
  constructor<;>(push_cast;omega)
theorem value_L1 {i K:Nat} (h:DrOK d) (hi:i≤5) (hK:K≤5):∀ (r k:Nat),k+r=K→Gv2 (fun N g=>g_keelblocktop_Drift_value_L1 N d (i:Int) (K:Int) g (vs d i k) ((i:Int) ^ k) (k:Int)) (vs d i K):=by
 intro r
 induction r with
 | zero =>
  intro k hk
  obtain rfl:k=K:=by omega
  exact Gv2.succ (fun N g=>g_keelblocktop_Drift_value_L1.eq_2 ..) (Gv2.condF (by rw [decide_eq_false (by omega)];rfl) (Gv2.one (Gv.pure _)))
 | succ r ih =>
  intro k hk
  obtain ⟨p1,p2⟩:=ipow_le hi (show k≤5 by omega)
  obtain ⟨q1,q2⟩:=ipow_le hi (show k+1≤5 by omega)
  have t:=term_le h hi (show k < 5 by omega)
  have v:=vs_le h hi k (by omega)
  refine Gv2.succ (fun N g=>g_keelblocktop_Drift_value_L1.eq_2 ..) (Gv2.condT (by rw [decide_eq_true (by omega),decide_eq_true (by omega)];rfl) (Gv2.if (by omega) ?_))
  rw [toNat_nat,w64_succ (by omega),← Int.pow_succ,w64_eq (n:=(i:Int) ^ (k+1)) (by omega) (by omega)]
  have e:w64 (vs d i k+w64 (pickI [d.f_A.e0,d.f_A.e1,d.f_A.e2,d.f_A.e3,d.f_A.e4] k * (i:Int) ^ k))=vs d i (k+1):=by
   have hk5:(k:Int) < 5:=by omega
   show w64 (vs d i k+w64 (cA d k * (i:Int) ^ k))=vs d i k+cA d k * (i:Int) ^ k
   rw [w64_eq (n:=cA d k * (i:Int) ^ k) (by omega) (by omega),w64_eq (by omega) (by omega)]
  rw [e]
  exact ih (k+1) (by omega)
theorem value_gv {i K:Nat} (h:DrOK d) (hi:i≤5) (hK:K≤5):Gv (fun N=>g_keelblocktop_Drift_value N d (i:Int) (K:Int)) (vs d i K):=by
 have:=(value_L1 h hi hK K 0 (by omega)).diag
 rw [show (i:Int) ^ 0=1 from Int.pow_zero _] at this
 exact this
def odd (i:Nat):Bool:=((i:Int).tmod 2) == 1
def cur (d:Tkeelblocktop_Drift) (back:Bool) (K i:Nat):Int:=cond back (0 - cond (odd i) (0 - vs d i K) (vs d i K)) (cond (odd i) (0 - vs d i K) (vs d i K))
def runR (d:Tkeelblocktop_Drift) (back:Bool) (K:Nat) (i:Nat):TRun:=⟨2000 * (i:Int),d.f_D,d.f_V+cur d back K i,!(back == odd i)⟩
theorem odd_eq (i:Nat):odd i=decide (i % 2=1):=by
 unfold odd
 rw [Bool.eq_iff_iff,beq_iff_eq,decide_eq_true_eq,Int.tmod_eq_emod_of_nonneg (by omega)];omega
theorem odd_succ (i:Nat):odd (i+1)=!odd i:=by
 rw [odd_eq,odd_eq]
 by_cases h:i % 2=1
 ·rw [decide_eq_true h,decide_eq_false (by omega)];rfl
 ·rw [decide_eq_false h,decide_eq_true (by omega)];rfl
theorem cur_le {back:Bool} {K i:Nat} (h:DrOK d) (hi:i≤5) (hK:K≤5):-400000≤cur d back K i∧cur d back K i≤400000:=by
 have:=vs_le h hi K hK
 unfold cur
 cases back<;>cases odd i<;>simp only [cond_true,cond_false]<;>constructor<;>omega
theorem gr {back:Bool} {n:Nat} (h:DrOK d) (hn:2≤n∧n≤6) (hm:∀ i,i < n→1≤d.f_V+cur d back (n - 1) i∧d.f_V+cur d back (n - 1) i≤100000):GR (runR d back (n - 1)) n :=
 ⟨⟨hn.1,by omega⟩,fun _ _=>rfl,fun _ _=>h.d1,fun _ _=>h.d2,fun i hi=>(hm i hi).1,fun i hi=>(hm i hi).2,fun i _=>by
  show (!(back == odd i))=!!(back == odd (i+1))
  rw [odd_succ];cases back<;>cases odd i<;>rfl⟩
theorem dD_ne (h:DrOK d):(d.f_D:Rat)≠0:=by
 intro e
 have e:d.f_D=0:=by exact_mod_cast e
 have:=h.d1
 omega
theorem vs_pol (i:Nat):∀ K,K≤5→((vs d i K:Int):Rat)=polR (cA d 0) (cA d 1) (cA d 2) (cA d 3) (cA d 4) K i:=by
 have e:∀ k,((vs d i (k+1):Int):Rat)=((vs d i k:Int):Rat)+(cA d k:Rat) * (i:Rat) ^ k:=fun k=>by
  show ((vs d i k+cA d k * (i:Int) ^ k:Int):Rat)=_
  rw [Rat.intCast_add,Rat.intCast_mul,Rat.intCast_pow];rfl
 intro K hK
 have z:((vs d i 0:Int):Rat)=0:=rfl
 match K,hK with
 | 0,_=>rw [z];simp [polR];grind
 | 1,_=>rw [e,z];simp [polR];grind
 | 2,_=>rw [e,e,z];simp [polR];grind
 | 3,_=>rw [e,e,e,z];simp [polR];grind
 | 4,_=>rw [e,e,e,e,z];simp [polR];grind
 | 5,_=>rw [e,e,e,e,e,z];simp [polR];grind
theorem spd_eq {back:Bool} {K:Nat} (h:DrOK d) (hK:K≤5) (i:Nat):spd (runR d back K) i=Rat.divInt d.f_V d.f_D+altR ((if back then -1 else 1) * Rat.divInt 1 d.f_D) i * polR (cA d 0) (cA d 1) (cA d 2) (cA d 3) (cA d 4) K i:=by
 rw [← vs_pol i K hK]
 have hD:=dD_ne h
 show Rat.divInt (d.f_V+cur d back K i) d.f_D=_
 rw [Rat.divInt_eq_div,Rat.divInt_eq_div,Rat.divInt_eq_div]
 unfold cur altR
 rw [odd_eq]
 by_cases ho:i % 2=1
 ·rw [decide_eq_true ho,if_pos ho]
  cases back
  ·simp only [cond_true,cond_false];push_cast;grind
  ·simp only [cond_true];push_cast;grind
 ·rw [decide_eq_false ho,if_neg ho]
  cases back
  ·simp only [cond_false];push_cast;grind
  ·simp only [cond_true,cond_false];push_cast;grind
theorem cur_val {back:Bool} {K:Nat} (h:DrOK d) (i:Nat):curF (runR d back K) (Rat.divInt d.f_V d.f_D) i=Rat.divInt (vs d i K) d.f_D:=by
 have hD:=dD_ne h
 unfold curF
 show (if (!(back == odd i))=true then Rat.divInt d.f_V d.f_D - Rat.divInt (d.f_V+cur d back K i) d.f_D else Rat.divInt (d.f_V+cur d back K i) d.f_D - Rat.divInt d.f_V d.f_D)=_
 rw [Rat.divInt_eq_div,Rat.divInt_eq_div,Rat.divInt_eq_div]
 unfold cur
 cases back<;>cases odd i<;>simp<;>push_cast<;>grind
end
section
variable {d:Tkeelblocktop_Drift}
theorem vrb {a b:Int} (h1:-4294967295≤a) (h2:a≤4294967295) (h3:1≤b) (h4:b≤4294967295):RB (Rat.divInt a b) 2 :=
 rb_divInt (zb_pw.2 (by show _ < 4294967296;omega)) (zb_pw.2 (by show _ < 4294967296;omega)) (by omega)
theorem means_L5 {runs:Int} {m:Nat} (h:DrOK d) (hm:1≤m∧m≤5) (hr:w64 (2+(w64 runs).tmod 5)=((m+1:Nat):Int)) {rc:List TRat×Int} (hc:rc.1=lz (fun i=>Rat.divInt (vs d i m) d.f_D) (m+1)):∀ (k x:Nat),x+k=m+1→Gv2 (fun N f=>g_keelblocktop_TopMeanOfMeans_L5 N d runs rc f (x:Int)) true:=by
 intro k
 induction k with
 | zero=>intro x hx;exact Gv2.succ (fun N f=>g_keelblocktop_TopMeanOfMeans_L5.eq_2 ..) (Gv2.condF (decide_eq_false (by rw [hr];omega)) (Gv2.one (Gv.pure _)))
 | succ k ih =>
  intro x hx
  have hv:=vs_le h (show x≤5 by omega) m hm.2
  have d1:=h.d1
  have d2:=h.d2
  refine Gv2.succ (fun N f=>g_keelblocktop_TopMeanOfMeans_L5.eq_2 ..) (Gv2.condT (decide_eq_true (by rw [hr];omega)) (Gv2.if (by rw [hc,lz_len];omega) ?_))
  rw [hr,toNat_nat,w64_succ (by omega),hc,lz_get _ (show x < m+1 by omega),w64_eq (n:=((m+1:Nat):Int) - 1) (by omega) (by omega),show ((m+1:Nat):Int) - 1=(m:Int) by omega]
  exact Gv2.bind (value_gv h (by omega) (by omega)) (Gv2.bind (q_gv (by omega) (by omega) (by omega)) (Gv2.bind (r:=true) (SameQ_gv (vrb (by omega) (by omega) (by omega) (by omega)) (by decide)) (Gv2.condF rfl (ih (x+1) (by omega)))))
theorem means_L2 {runs:Int} {back:Bool} {m:Nat} (h:DrOK d) (hm:1≤m∧m≤5) (hr:w64 (2+(w64 runs).tmod 5)=((m+1:Nat):Int)):∀ (k x:Nat),x+k=m+1→(∀ i,i < x→1≤d.f_V+cur d back m i∧d.f_V+cur d back m i≤100000)→Gv2 (fun N f=>g_keelblocktop_TopMeanOfMeans_L2 N d runs back f (tr (runR d back m) x) (x:Int)) true:=by
 intro k
 induction k with
 | zero =>
  intro x hx ha
  obtain rfl:x=m+1:=by omega
  refine Gv2.succ (fun N f=>g_keelblocktop_TopMeanOfMeans_L2.eq_2 ..) (Gv2.condF (decide_eq_false (by rw [hr];omega)) (Gv2.one ?_))
  have g:GR (runR d back m) (m+1):=gr (n:=m+1) h (by omega) ha
  have em:meanF m (spd (runR d back m))=Rat.divInt d.f_V d.f_D:=by
   rw [show spd (runR d back m)=_ from funext (spd_eq h hm.2)]
   exact mean_removes _ _ _ _ _ _ _ (m+1) (by omega)
  have rb:RB (Rat.divInt d.f_V d.f_D) 2:=vrb (by have:=h.v1;omega) (by have:=h.v2;omega) h.d1 (by have:=h.d2;omega)
  have k1:=means_gv g hm.2
  have k2:=currents_gv g hm.2 (em ▸ rb) (by decide)
  rw [em] at k1 k2
  have k3:Gv (fun N=>g_b_Q N d.f_V d.f_D) (ofQ (Rat.divInt d.f_V d.f_D)):=q_gv (by have:=h.v1;have:=h.v2;omega) (by have:=h.d1;omega) (by have:=h.d2;omega)
  refine Gv.bind k1 (Gv.bind k2 (Gv.bind (Gv.condT rfl k3) (Gv.bind (r:=true) (Gv.condT rfl (SameQ_gv rb (by decide))) (Gv.condF ?_ (means_L5 h hm hr ?_ (m+1) 0 (by omega)).diag))))
  ·show ((((lz (curF (runR d back m) (Rat.divInt d.f_V d.f_D)) (m+1)).length:Nat):Int) != w64 (2+(w64 runs).tmod 5))=false
   rw [hr,lz_len];simp
  ·exact lz_ext fun i _=>cur_val h i
 | succ k ih =>
  intro x hx ha
  have hv:=vs_le h (show x≤5 by omega) m hm.2
  have hcu:=cur_le (back:=back) h (show x≤5 by omega) hm.2
  have v1:=h.v1
  have v2:=h.v2
  have J4:∀ c,c=cur d back m x→Gv2 (fun N f=>g_keelblocktop_TopMeanOfMeans_J4 N d runs back (tr (runR d back m) x) (x:Int) (g_keelblocktop_TopMeanOfMeans_L2 N d runs back f) c) true:=by
   intro c hc
   subst hc
   unfold g_keelblocktop_TopMeanOfMeans_J4
   rw [w64_eq (n:=d.f_V+cur d back m x) (by omega) (by omega),w64_eq (n:=2000 * (x:Int)) (by omega) (by omega),w64_succ (by omega)]
   by_cases c1:d.f_V+cur d back m x < 1
   ·exact Gv2.condT (by rw [decide_eq_true c1];rfl) (Gv2.one (Gv.pure _))
   by_cases c2:d.f_V+cur d back m x > 100000
   ·exact Gv2.condT (by rw [decide_eq_true c2];cases decide (d.f_V+cur d back m x < 1)<;>rfl) (Gv2.one (Gv.pure _))
   refine Gv2.condF (by rw [decide_eq_false c1,decide_eq_false c2];rfl) (Gv2.if (by rw [tr_len];omega) ?_)
   show Gv2 (fun N f=>g_keelblocktop_TopMeanOfMeans_L2 N d runs back f (tr (runR d back m) x ++ [runR d back m x]) ((x+1:Nat):Int)) true
   rw [tr_succ]
   refine ih (x+1) (by omega) fun i hi=>?_
   by_cases q:i < x
   ·exact ha i q
   ·obtain rfl:i=x:=by omega
    omega
  have J3:∀ c,c=cond (odd x) (0 - vs d x m) (vs d x m)→Gv2 (fun N f=>g_keelblocktop_TopMeanOfMeans_J3 N d runs back (tr (runR d back m) x) (x:Int) (g_keelblocktop_TopMeanOfMeans_L2 N d runs back f) c) true:=by
   intro c hc
   have cb:-400000≤c∧c≤400000:=by subst hc;cases odd x<;>simp only [cond_true,cond_false]<;>omega
   unfold g_keelblocktop_TopMeanOfMeans_J3
   rw [w64_eq (n:=0 - c) (by omega) (by omega)]
   cases hb:back
   ·rw [hb] at J4;exact Gv2.condF rfl (J4 c (by rw [hc];rfl))
   ·rw [hb] at J4;exact Gv2.condT rfl (J4 (0 - c) (by rw [hc];rfl))
  refine Gv2.succ (fun N f=>g_keelblocktop_TopMeanOfMeans_L2.eq_2 ..) (Gv2.condT (decide_eq_true (by rw [hr];omega)) ?_)
  rw [hr,w64_eq (n:=((m+1:Nat):Int) - 1) (by omega) (by omega),show ((m+1:Nat):Int) - 1=(m:Int) by omega]
  refine Gv2.bind (value_gv h (by omega) (by omega)) ?_
  rw [w64_eq (n:=0 - vs d x m) (by omega) (by omega)]
  cases ho:odd x
  ·rw [ho] at J3;exact Gv2.condF ho (J3 _ rfl)
  ·rw [ho] at J3;exact Gv2.condT ho (J3 _ rfl)
theorem means_L1 {runs:Int} {back:Bool} {m:Nat} (h:(∀ k,k < 5→-20≤cA d k∧cA d k≤20)→DrOK d) (hm:1≤m∧m≤5) (hr:w64 (2+(w64 runs).tmod 5)=((m+1:Nat):Int)):∀ (k x:Nat),x+k=5→(∀ i,i < x→-20≤cA d i∧cA d i≤20)→Gv2 (fun N f=>g_keelblocktop_TopMeanOfMeans_L1 N d runs back f (x:Int)) true:=by
 intro k
 induction k with
 | zero =>
  intro x hx ha
  obtain rfl:x=5:=by omega
  exact Gv2.succ (fun N f=>g_keelblocktop_TopMeanOfMeans_L1.eq_2 ..) (Gv2.condF rfl (Gv2.one (means_L2 (back:=back) (h ha) hm hr (m+1) 0 (by omega) (fun i hi=>absurd hi (by omega))).diag))
 | succ k ih =>
  intro x hx ha
  refine Gv2.succ (fun N f=>g_keelblocktop_TopMeanOfMeans_L1.eq_2 ..) (Gv2.condT (decide_eq_true (by omega)) (Gv2.if (by omega) (Gv2.if (fun _=>by omega) ?_)))
  rw [toNat_nat,w64_succ (by omega)]
  show Gv2 (fun N f=>cond (cond (decide (cA d x < -20)) true (decide (cA d x > 20))) (some true) (g_keelblocktop_TopMeanOfMeans_L1 N d runs back f ((x+1:Nat):Int))) true
  by_cases c1:cA d x < -20
  ·exact Gv2.condT (by rw [decide_eq_true c1];rfl) (Gv2.one (Gv.pure _))
  by_cases c2:cA d x > 20
  ·exact Gv2.condT (by rw [decide_eq_true c2];cases decide (cA d x < -20)<;>rfl) (Gv2.one (Gv.pure _))
  refine Gv2.condF (by rw [decide_eq_false c1,decide_eq_false c2];rfl) (ih (x+1) (by omega) fun i hi=>?_)
  by_cases q:i < x
  ·exact ha i q
  ·obtain rfl:i=x:=by omega
   omega
theorem topMeanOfMeans_gv (d:Tkeelblocktop_Drift) (runs:Int) (back:Bool) (w:wK .u8 runs):Gv (fun N=>g_keelblocktop_TopMeanOfMeans N d runs back) true:=by
 have w':0≤runs∧runs≤255:=w
 unfold g_keelblocktop_TopMeanOfMeans
 refine Gv.condF rfl ?_
 by_cases c1:d.f_D < 1
 ·exact Gv.condT (by rw [decide_eq_true c1];rfl) (Gv.pure _)
 by_cases c2:d.f_D > 1000
 ·exact Gv.condT (by rw [decide_eq_false c1,decide_eq_true c2];rfl) (Gv.pure _)
 by_cases c3:d.f_V < 1
 ·exact Gv.condT (by rw [decide_eq_false c1,decide_eq_false c2,decide_eq_true c3];rfl) (Gv.pure _)
 by_cases c4:d.f_V > 50000
 ·exact Gv.condT (by rw [decide_eq_false c1,decide_eq_false c2,decide_eq_false c3,decide_eq_true c4];rfl) (Gv.pure _)
 refine Gv.condF (by rw [decide_eq_false c1,decide_eq_false c2,decide_eq_false c3,decide_eq_false c4];rfl) ?_
 have e0:w64 runs=runs:=w64_eq (by omega) (by omega)
 have e1:runs.tmod 5=runs % 5:=Int.tmod_eq_emod_of_nonneg w'.1
 refine (means_L1 (m:=(1+runs % 5).toNat) (fun ha=>⟨by omega,by omega,by omega,by omega,ha⟩) (by omega) ?_ 5 0 (by omega) (fun i hi=>absurd hi (by omega))).diag
 rw [e0,e1,w64_eq (by omega) (by omega)];omega
theorem topMeanOfMeans_plain (d:Tkeelblocktop_Drift) (runs:Int) (back:Bool) (_:Tkeelblocktop_Drift.wf d) (w:wK .u8 runs) (_:wB back):∃ N,g_keelblocktop_TopMeanOfMeans N d runs back=some true :=
 let ⟨N,h⟩:=topMeanOfMeans_gv d runs back w
 ⟨N,h N (Nat.le_refl _)⟩
end
end Go.Den
