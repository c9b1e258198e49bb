/- The plain law: the Lean function of the law returns true for every input, and what it needs. No conditions. -/
import Derived.Test.YtdigjibahkjfdaaDoorExactTextsDen
set_option linter.unusedVariables false
set_option linter.unusedSimpArgs false
namespace Go.Den
open Go.Ab
theorem w64_def (n:Int):w64 n=if n % 18446744073709551616≥9223372036854775808 then n % 18446744073709551616 - 18446744073709551616 else n % 18446744073709551616:=by
 have e:w64 n=(if (true && decide (n % 18446744073709551616≥9223372036854775808))=true then n % 18446744073709551616 - 18446744073709551616 else n % 18446744073709551616):=rfl
 rw [e];simp
theorem w64_eq {n:Int} (h1:-9223372036854775808≤n) (h2:n≤9223372036854775807):w64 n=n:=by
 rw [w64_def];split<;>omega
theorem w64_succ {m:Nat} (h:m < 9223372036854775807):w64 ((m:Int)+1)=((m+1:Nat):Int):=by rw [w64_eq (by omega) (by omega)];simp
theorem toList_inj {a b:ByteArray} (h:a.toList=b.toList):a=b:=by
 have e:∀ x:ByteArray,x.toList=x.data.toList:=fun x=>ByteArray.toList_eq x
 rw [e,e] at h
 cases a;cases b;simp_all [Array.toList_inj]
theorem streq_iff {a b:ByteArray}:streq a b=true↔a=b:=by
 unfold streq;simp only [beq_iff_eq]
 exact ⟨toList_inj,fun h=>h ▸ rfl⟩
def scan {R:Type} (f:Nat→Option R) (z:R):Nat→Nat→R
 | 0,_=>z
 | k+1,m=>match f m with
  | some r=>r
  | none=>scan f z k (m+1)
theorem scan_inv {R:Type} {f:Nat→Option R} {z:R}:∀ (k m:Nat),(∃ i r,m≤i∧i < m+k∧f i=some r∧(∀ j,m≤j→j < i→f j=none)∧scan f z k m=r)∨((∀ i,m≤i→i < m+k→f i=none)∧scan f z k m=z)
 | 0,m=>.inr ⟨fun i h1 h2=>by omega,rfl⟩
 | k+1,m=>by
  cases hm:f m with
  | some r=>exact .inl ⟨m,r,Nat.le_refl _,by omega,hm,fun j h1 h2=>by omega,by unfold scan;rw [hm]⟩
  | none =>
   have e:scan f z (k+1) m=scan f z k (m+1):=by rw [scan,hm]
   rcases scan_inv (f:=f) (z:=z) k (m+1) with ⟨i,r,h1,h2,h3,h4,h5⟩ | ⟨h1,h2⟩
   ·refine .inl ⟨i,r,by omega,by omega,h3,fun j hj1 hj2=>?_,e.trans h5⟩
    by_cases hj:j=m
    ·subst hj;exact hm
    ·exact h4 j (by omega) hj2
   ·refine .inr ⟨fun i hi1 hi2=>?_,e.trans h2⟩
    by_cases hj:i=m
    ·subst hj;exact hm
    ·exact h1 i (by omega) (by omega)
theorem getD_mem {α:Type} (l:List α) (m:Nat) (d:α) (h:m < l.length):l.getD m d∈l:=by
 simp [List.getD,h]
theorem toNat_nat (m:Nat):((m:Int)).toNat=m:=rfl
theorem inb {m n:Nat} (h:m < n):0≤(m:Int)∧(m:Int) < ((n:Nat):Int):=⟨by omega,by omega⟩
theorem dec_lt {m n:Nat} (h:m < n):decide ((m:Int) < ((n:Nat):Int))=true:=by simp;omega
theorem dec_nlt {n:Nat}:decide ((n:Int) < ((n:Nat):Int))=false:=by simp
end Go.Den
namespace Go.Den
open Go.Ab
theorem wrap16 (n:Int):IntKind.u16.wrap n=n % 65536:=by
 have e:IntKind.u16.wrap n=(if (false && decide (n % 65536≥32768))=true then n % 65536 - 65536 else n % 65536):=rfl
 rw [e];simp
theorem wrap32 (n:Int):IntKind.u32.wrap n=n % 4294967296:=by
 have e:IntKind.u32.wrap n=(if (false && decide (n % 4294967296≥2147483648))=true then n % 4294967296 - 4294967296 else n % 4294967296):=rfl
 rw [e];simp
theorem wrap64 (n:Int):IntKind.u64.wrap n=n % 18446744073709551616:=by
 have e:IntKind.u64.wrap n=(if (false && decide (n % 18446744073709551616≥9223372036854775808))=true then n % 18446744073709551616 - 18446744073709551616 else n % 18446744073709551616):=rfl
 rw [e];simp
theorem wrap16_eq {n:Int} (h:0≤n) (h2:n < 65536):IntKind.u16.wrap n=n:=by rw [wrap16];omega
theorem wrap32_eq {n:Int} (h:0≤n) (h2:n < 4294967296):IntKind.u32.wrap n=n:=by rw [wrap32];omega
theorem wrap64_eq {n:Int} (h:0≤n) (h2:n < 18446744073709551616):IntKind.u64.wrap n=n:=by rw [wrap64];omega
theorem shr16_32 (n:Int):shrI .u32 n 16=n / 65536:=by
 unfold shrI
 have:(2:Int) ^ (min (16:Int).toNat IntKind.u32.bits)=65536:=by decide
 rw [this,Int.fdiv_eq_ediv_of_nonneg _ (by decide)]
theorem shr16_64 (n:Int):shrI .u64 n 16=n / 65536:=by
 unfold shrI
 have:(2:Int) ^ (min (16:Int).toNat IntKind.u64.bits)=65536:=by decide
 rw [this,Int.fdiv_eq_ediv_of_nonneg _ (by decide)]
theorem shr16_i64 (n:Int):shrI .i64 n 16=n / 65536:=by
 unfold shrI
 have:(2:Int) ^ (min (16:Int).toNat IntKind.i64.bits)=65536:=by decide
 rw [this,Int.fdiv_eq_ediv_of_nonneg _ (by decide)]
theorem shl16_32 {n:Int} (h:0≤n) (h2:n < 65536):shlI .u32 n 16=n * 65536:=by
 unfold shlI
 have:(2:Int) ^ (min (16:Int).toNat IntKind.u32.bits)=65536:=by decide
 rw [this,wrap32];omega
theorem shl16_64 {n:Int} (h:0≤n) (h2:n < 281474976710656):shlI .u64 n 16=n * 65536:=by
 unfold shlI
 have:(2:Int) ^ (min (16:Int).toNat IntKind.u64.bits)=65536:=by decide
 rw [this,wrap64];omega
theorem bv_or {n:Nat} (a b:Nat) (ha:a < 2 ^ n) (hb:b < 2 ^ n):(BitVec.ofInt n (a:Int) ||| BitVec.ofInt n (b:Int)).toNat=a ||| b:=by
 rw [BitVec.ofInt_natCast,BitVec.ofInt_natCast,BitVec.toNat_or,BitVec.toNat_ofNat,BitVec.toNat_ofNat,Nat.mod_eq_of_lt ha,Nat.mod_eq_of_lt hb]
theorem bv_and {n:Nat} (a b:Nat) (ha:a < 2 ^ n) (hb:b < 2 ^ n):(BitVec.ofInt n (a:Int) &&& BitVec.ofInt n (b:Int)).toNat=a &&& b:=by
 rw [BitVec.ofInt_natCast,BitVec.ofInt_natCast,BitVec.toNat_and,BitVec.toNat_ofNat,BitVec.toNat_ofNat,Nat.mod_eq_of_lt ha,Nat.mod_eq_of_lt hb]
theorem nat_or_add (a b k:Nat) (hb:b < 2 ^ k):(a * 2 ^ k) ||| b=a * 2 ^ k+b:=by
 have:=Nat.shiftLeft_add_eq_or_of_lt hb a
 rw [Nat.shiftLeft_eq] at this
 exact this.symm
theorem or16_32 {a b:Int} (ha:0≤a) (ha2:a < 65536) (hb:0≤b) (hb2:b < 65536):orI .u32 (a * 65536) b=a * 65536+b:=by
 obtain ⟨a,rfl⟩:=Int.eq_ofNat_of_zero_le ha
 obtain ⟨b,rfl⟩:=Int.eq_ofNat_of_zero_le hb
 unfold orI
 have e:((a:Int) * 65536)=((a * 2 ^ 16:Nat):Int):=by simp
 rw [e,show IntKind.u32.bits=32 from rfl,bv_or _ _ (by omega) (by omega),nat_or_add _ _ 16 (by omega),wrap32]
 omega
theorem or16_64 {a b:Int} (ha:0≤a) (ha2:a < 281474976710656) (hb:0≤b) (hb2:b < 65536):orI .u64 (a * 65536) b=a * 65536+b:=by
 obtain ⟨a,rfl⟩:=Int.eq_ofNat_of_zero_le ha
 obtain ⟨b,rfl⟩:=Int.eq_ofNat_of_zero_le hb
 unfold orI
 have e:((a:Int) * 65536)=((a * 2 ^ 16:Nat):Int):=by simp
 rw [e,show IntKind.u64.bits=64 from rfl,bv_or _ _ (by omega) (by omega),nat_or_add _ _ 16 (by omega),wrap64]
 omega
theorem and16_64 {a:Int} (ha:0≤a) (ha2:a < 18446744073709551616):andI .u64 a 65535=a % 65536:=by
 obtain ⟨a,rfl⟩:=Int.eq_ofNat_of_zero_le ha
 unfold andI
 have e:(65535:Int)=((65535:Nat):Int):=rfl
 rw [e,show IntKind.u64.bits=64 from rfl,bv_and _ _ (by omega) (by omega),show (65535:Nat)=2 ^ 16 - 1 from rfl,Nat.and_two_pow_sub_one_eq_mod,wrap64]
 omega
def nvl:List Int→Int
 | []=>0
 | x :: l=>x+65536 * nvl l
def U (l:List Int):Prop:=∀ x,x∈l→0≤x∧x < 65536
def lm (n:Nat):List Int:=if h:n=0 then [] else ((n % 65536:Nat):Int) :: lm (n / 65536)
termination_by n
decreasing_by omega
def pw (k:Nat):Int:=65536 ^ k
theorem pw_zero:pw 0=1:=rfl
theorem pw_succ (k:Nat):pw (k+1)=65536 * pw k:=by unfold pw;rw [Int.pow_succ];omega
theorem pw_pos (k:Nat):0 < pw k:=by
 induction k with
 | zero=>decide
 | succ k ih=>rw [pw_succ];omega
theorem pw_add (j k:Nat):pw (j+k)=pw j * pw k:=Int.pow_add _ _ _
theorem U.nil:U []:=fun x h=>by simp at h
theorem U.cons {x:Int} {l:List Int} (h1:0≤x) (h2:x < 65536) (h:U l):U (x :: l):=fun y hy=>by
 rcases List.mem_cons.1 hy with rfl | hy
 ·exact ⟨h1,h2⟩
 ·exact h y hy
theorem U.tail {x:Int} {l:List Int} (h:U (x :: l)):U l:=fun y hy=>h y (List.mem_cons_of_mem _ hy)
theorem U.head {x:Int} {l:List Int} (h:U (x :: l)):0≤x∧x < 65536:=h x (by simp)
theorem U.append {l m:List Int} (h1:U l) (h2:U m):U (l ++ m):=fun y hy=>by
 rcases List.mem_append.1 hy with hy | hy
 ·exact h1 y hy
 ·exact h2 y hy
theorem U.left {l m:List Int} (h:U (l ++ m)):U l:=fun y hy=>h y (List.mem_append_left _ hy)
theorem U.right {l m:List Int} (h:U (l ++ m)):U m:=fun y hy=>h y (List.mem_append_right _ hy)
theorem U.one {x:Int} (h1:0≤x) (h2:x < 65536):U [x]:=U.cons h1 h2 U.nil
theorem U.take {l:List Int} (h:U l) (k:Nat):U (l.take k):=fun y hy=>h y (List.mem_of_mem_take hy)
theorem U.drop {l:List Int} (h:U l) (k:Nat):U (l.drop k):=fun y hy=>h y (List.mem_of_mem_drop hy)
theorem U.getD {l:List Int} (h:U l) (i:Nat):0≤l.getD i 0∧l.getD i 0 < 65536:=by
 by_cases hi:i < l.length
 ·exact h _ (getD_mem l i 0 hi)
 ·rw [List.getD_eq_getElem?_getD,List.getElem?_eq_none (by omega)];decide
theorem U.set {l:List Int} (h:U l) (i:Nat) {x:Int} (h1:0≤x) (h2:x < 65536):U (l.set i x):=fun y hy=>by
 rcases List.mem_or_eq_of_mem_set hy with hy | rfl
 ·exact h y hy
 ·exact ⟨h1,h2⟩
theorem U.replicate (n:Nat):U (List.replicate n 0):=fun y hy=>by
 rw [(List.mem_replicate.1 hy).2];decide
theorem nvl_append (l m:List Int):nvl (l ++ m)=nvl l+pw l.length * nvl m:=by
 induction l with
 | nil=>simp [nvl,pw_zero]
 | cons x l ih =>
  simp only [List.cons_append,nvl,ih,List.length_cons,pw_succ]
  rw [Int.mul_add,← Int.mul_assoc];omega
theorem nvl_one (x:Int):nvl [x]=x:=by simp [nvl]
theorem nvl_replicate (n:Nat):nvl (List.replicate n 0)=0:=by
 induction n with
 | zero=>rfl
 | succ n ih=>simp [List.replicate_succ,nvl,ih]
theorem U.nonneg:∀ {l:List Int},U l→0≤nvl l
 | [],_=>by simp [nvl]
 | x :: l,h=>by have:=U.nonneg h.tail;have:=h.head;simp only [nvl];omega
theorem U.lt:∀ {l:List Int},U l→nvl l < pw l.length
 | [],_=>by simp [nvl,pw_zero]
 | x :: l,h=>by have:=U.lt h.tail;have:=h.head;simp only [nvl,List.length_cons,pw_succ];omega
theorem nvl_set:∀ (l:List Int) (i:Nat) (x:Int),i < l.length→nvl (l.set i x)=nvl l+(x - l.getD i 0) * pw i
 | [],i,x,h=>by simp at h
 | y :: l,0,x,h=>by simp [nvl,pw_zero];omega
 | y :: l,i+1,x,h=>by
  simp only [List.set_cons_succ,nvl,nvl_set l i x (by simpa using h),pw_succ]
  rw [show (y :: l).getD (i+1) 0=l.getD i 0 from rfl,Int.mul_add,show (x - l.getD i 0) * (65536 * pw i)=65536 * ((x - l.getD i 0) * pw i) by rw [Int.mul_left_comm]]
  omega
theorem nvl_take_succ (l:List Int) (i:Nat) (h:i < l.length):nvl (l.take (i+1))=nvl (l.take i)+l.getD i 0 * pw i:=by
 have e:l.take (i+1)=l.take i ++ [l.getD i 0]:=by
  rw [List.take_add_one];simp [List.getD,h]
 rw [e,nvl_append,nvl_one,List.length_take,Nat.min_eq_left (by omega),Int.mul_comm]
theorem nvl_drop (l:List Int) (i:Nat) (h:i < l.length):nvl (l.drop i)=l.getD i 0+65536 * nvl (l.drop (i+1)):=by
 rw [List.drop_eq_getElem_cons h];simp [nvl,List.getD,h]
theorem nvl_take_drop (l:List Int) (i:Nat) (h:i≤l.length):nvl l=nvl (l.take i)+pw i * nvl (l.drop i):=by
 have:=nvl_append (l.take i) (l.drop i)
 rwa [List.take_append_drop,List.length_take,Nat.min_eq_left h] at this
theorem lm_zero:lm 0=[]:=by rw [lm];rfl
theorem lm_pos {n:Nat} (h:n≠0):lm n=((n % 65536:Nat):Int) :: lm (n / 65536):=by rw [lm,dif_neg h]
theorem U_lm (n:Nat):U (lm n):=by
 induction n using Nat.strongRecOn with
 | _ n ih =>
  by_cases h:n=0
  ·subst h;rw [lm_zero];exact U.nil
  ·rw [lm_pos h];exact U.cons (by omega) (by omega) (ih _ (by omega))
theorem nvl_lm (n:Nat):nvl (lm n)=n:=by
 induction n using Nat.strongRecOn with
 | _ n ih =>
  by_cases h:n=0
  ·subst h;rw [lm_zero];rfl
  ·rw [lm_pos h,nvl,ih _ (by omega)];omega
theorem lm_nil {n:Nat}:lm n=[]↔n=0:=by
 constructor
 ·intro h
  have:=nvl_lm n
  rw [h] at this;simp [nvl] at this;omega
 ·rintro rfl;exact lm_zero
theorem lm_len_pos {n:Nat}:0 < (lm n).length↔n≠0:=by
 rw [List.length_pos_iff,ne_eq,lm_nil]
theorem lm_len_le {n k:Nat}:(lm n).length≤k↔(n:Int) < pw k:=by
 induction k generalizing n with
 | zero =>
  rw [pw_zero]
  constructor
  ·intro h;have:lm n=[]:=List.length_eq_zero_iff.1 (by omega);rw [lm_nil] at this;omega
  ·intro h;have:n=0:=by omega
   rw [lm_nil.2 this];simp
 | succ k ih =>
  by_cases h:n=0
  ·subst h;rw [lm_zero];have:=pw_pos (k+1);simp;omega
  ·rw [lm_pos h,List.length_cons,pw_succ]
   have:=ih (n:=n / 65536)
   constructor
   ·intro h;have:=this.1 (by omega);omega
   ·intro h;have:=this.2 (by omega);omega
theorem lm_last {n:Nat} (h:n≠0):∃ l x,lm n=l ++ [x]∧x≠0∧U l∧0≤x∧x < 65536:=by
 induction n using Nat.strongRecOn with
 | _ n ih =>
  rw [lm_pos h]
  by_cases h2:n / 65536=0
  ·rw [h2,lm_zero];exact ⟨[],_,rfl,by omega,U.nil,by omega,by omega⟩
  ·obtain ⟨l,x,e,hx,hl,h3,h4⟩:=ih _ (by omega) h2
   rw [e];exact ⟨_ :: l,x,rfl,hx,U.cons (by omega) (by omega) hl,h3,h4⟩
theorem lm_of:∀ {l:List Int},U l→(∀ m x,l=m ++ [x]→x≠0)→lm (nvl l).toNat=l
 | [],_,_=>by simp [nvl,lm_zero]
 | x :: l,h,hn=>by
  have h1:=h.head
  have h2:=h.tail.nonneg
  have e:nvl (x :: l)=x+65536 * nvl l:=rfl
  have hne:(nvl (x :: l)).toNat≠0:=by
   rw [e]
   cases l with
   | nil=>have:=hn [] x rfl;simp [nvl];omega
   | cons y l =>
    have hl:=lm_of (l:=y :: l) h.tail fun m z hz=>hn (x :: m) z (by rw [hz];rfl)
    have:nvl (y :: l)≠0:=fun h0=>by rw [h0] at hl;simp [lm_zero] at hl
    omega
  rw [lm_pos hne]
  have hl:=lm_of (l:=l) h.tail fun m z hz=>hn (x :: m) z (by rw [hz];rfl)
  have e1:(((nvl (x :: l)).toNat % 65536:Nat):Int)=x:=by rw [e];omega
  have e2:(nvl (x :: l)).toNat / 65536=(nvl l).toNat:=by rw [e];omega
  rw [e1,e2,hl]
theorem trim_eq {N:Nat}:∀ (fuel:Nat) (l:List Int),U l→l.length < fuel→l.length < 9223372036854775807→g_e_trim_L1 N fuel l=some (lm (nvl l).toNat)
 | 0,l,_,h,_=>by omega
 | fuel+1,l,hU,h,hs=>by
  rw [g_e_trim_L1]
  rcases List.eq_nil_or_concat l with rfl | ⟨m,x,hmx⟩
  ·simp [nvl,lm_zero]
  ·rw [List.concat_eq_append] at hmx
   subst hmx
   have hlen:(m ++ [x]).length=m.length+1:=by simp
   have e1:w64 ((((m ++ [x]).length:Nat):Int) - 1)=(m.length:Int):=by rw [hlen,w64_eq (by omega) (by rw [hlen] at hs;omega)];omega
   have e2:(m ++ [x]).getD m.length 0=x:=by simp [List.getD]
   have e3:decide ((((m ++ [x]).length:Nat):Int) > 0)=true:=by simp
   rw [e1,e3]
   rw [if_pos (fun _=>⟨by omega,by rw [hlen];omega⟩),cond_true]
   simp only [toNat_nat,e2]
   cases hx:(x == 0) with
   | true =>
    have hx0:x=0:=by simpa using hx
    subst hx0
    rw [cond_true,if_pos ⟨Nat.zero_le _,by rw [hlen];omega⟩,if_pos (by omega)]
    have e4:((m ++ [(0:Int)]).take m.length).drop 0=m:=by simp
    rw [e4,trim_eq fuel m hU.left (by rw [hlen] at h;omega) (by rw [hlen] at hs;omega),nvl_append,nvl_one];simp
   | false =>
    rw [cond_false,lm_of hU]
    intro m' x' he
    have:=(List.append_inj' he rfl).2
    simp at this hx
    omega
theorem exact_trim {N:Nat} {l:List Int} (hU:U l) (hN:l.length < N) (hs:l.length < 9223372036854775807):g_e_trim N l=some (lm (nvl l).toNat):=trim_eq N l hU hN hs
end Go.Den
namespace Go.Den
open Go.Ab
abbrev SM (n:Nat):Prop:=n < 10000000000000
theorem getD_lt {l:List Int} {i:Nat} (h:i < l.length):l.getD i 0=l[i]:=by simp [List.getD,h]
def cmpL (a b:List Int):Nat→Int
 | 0=>0
 | k+1=>cond (a.getD k 0 != b.getD k 0) (a.getD k 0 - b.getD k 0) (cmpL a b k)
def cmpN (a b:Nat):Int:=cond ((((lm a).length:Nat):Int) != (((lm b).length:Nat):Int)) ((((lm a).length:Nat):Int) - (((lm b).length:Nat):Int)) (cmpL (lm a) (lm b) (lm a).length)
theorem compare_L1 {N:Nat} {a b:List Int} (ha:U a) (hb:U b) (hl:a.length=b.length) (hs:SM a.length):∀ (k fuel:Nat),k≤a.length→k < fuel →
  ∃ c,g_e_compare_L1 N a b fuel ((k:Int) - 1)=some c∧(c < 0↔nvl (a.take k) < nvl (b.take k))∧(c=0↔nvl (a.take k)=nvl (b.take k))∧c=cmpL a b k
 | 0,fuel,_,hf=>by
  obtain ⟨g,rfl⟩:∃ g,fuel=g+1:=⟨fuel - 1,by omega⟩
  exact ⟨0,by rw [g_e_compare_L1];rfl,by simp,by simp,rfl⟩
 | k+1,fuel,hk,hf=>by
  obtain ⟨g,rfl⟩:∃ g,fuel=g+1:=⟨fuel - 1,by omega⟩
  have e:(((k+1:Nat):Int) - 1)=(k:Int):=by omega
  rw [e,g_e_compare_L1]
  have hA:=nvl_take_succ a k (by omega)
  have hB:=nvl_take_succ b k (by omega)
  have h1:=ha.getD k
  have h2:=hb.getD k
  have hla:=(ha.take k).lt
  have hlb:=(hb.take k).lt
  have hna:=(ha.take k).nonneg
  have hnb:=(hb.take k).nonneg
  rw [List.length_take,Nat.min_eq_left (by omega)] at hla hlb
  have e0:decide ((k:Int)≥0)=true:=by simp
  rw [e0,cond_true,if_pos ⟨by omega,by omega⟩,if_pos ⟨by omega,by omega⟩]
  simp only [toNat_nat]
  cases hd:(a.getD k 0 != b.getD k 0) with
  | true =>
   have hne:a.getD k 0≠b.getD k 0:=by simpa using hd
   refine ⟨a.getD k 0 - b.getD k 0,?_,?_,?_,by rw [cmpL,hd];rfl⟩
   ·rw [cond_true]
    congr 1
    rw [w64_eq (by rw [w64_eq (by omega) (by omega),w64_eq (by omega) (by omega)];omega) (by rw [w64_eq (by omega) (by omega),w64_eq (by omega) (by omega)];omega),w64_eq (by omega) (by omega),w64_eq (by omega) (by omega)]
   ·rw [hA,hB]
    generalize a.getD k 0=x at *
    generalize b.getD k 0=y at *
    rcases Int.lt_or_lt_of_ne hne with h | h
    ·have:=Int.mul_le_mul_of_nonneg_right (show x+1≤y by omega) (Int.le_of_lt (pw_pos k))
     rw [Int.add_mul] at this
     constructor<;>intro<;>omega
    ·have:=Int.mul_le_mul_of_nonneg_right (show y+1≤x by omega) (Int.le_of_lt (pw_pos k))
     rw [Int.add_mul] at this
     constructor<;>intro<;>omega
   ·rw [hA,hB]
    generalize a.getD k 0=x at *
    generalize b.getD k 0=y at *
    rcases Int.lt_or_lt_of_ne hne with h | h
    ·have:=Int.mul_le_mul_of_nonneg_right (show x+1≤y by omega) (Int.le_of_lt (pw_pos k))
     rw [Int.add_mul] at this
     constructor<;>intro<;>omega
    ·have:=Int.mul_le_mul_of_nonneg_right (show y+1≤x by omega) (Int.le_of_lt (pw_pos k))
     rw [Int.add_mul] at this
     constructor<;>intro<;>omega
  | false =>
   have heq:a.getD k 0=b.getD k 0:=by simpa using hd
   obtain ⟨c,h3,h4,h5,h6⟩:=compare_L1 ha hb hl hs k g (by omega) (by omega)
   refine ⟨c,?_,?_,?_,by rw [cmpL,hd];exact h6⟩
   ·rw [cond_false,w64_eq (by omega) (by simp only [SM] at hs;omega)];exact h3
   ·rw [hA,hB,heq,h4];omega
   ·rw [hA,hB,heq,h5];omega
theorem lm_len_lt {a b:Nat} (h:(lm a).length < (lm b).length):a < b:=by
 have h1:=lm_len_le (n:=a) (k:=(lm a).length)
 have h2:=lm_len_le (n:=b) (k:=(lm a).length)
 have:=h1.1 (Nat.le_refl _)
 have:¬ (b:Int) < pw (lm a).length:=fun h'=>by have:=h2.2 h';omega
 omega
theorem compare_eq {N:Nat} {a b:Nat} (hN:(lm a).length < N) (ha:SM (lm a).length) (hb:SM (lm b).length):∃ c,g_e_compare N (lm a) (lm b)=some c∧(c < 0↔a < b)∧(c=0↔a=b)∧c=cmpN a b:=by
 unfold g_e_compare
 simp only [SM] at ha hb
 cases hl:((((lm a).length:Nat):Int) != (((lm b).length:Nat):Int)) with
 | true =>
  have hne:(lm a).length≠(lm b).length:=by intro h;rw [h] at hl;simp at hl
  refine ⟨_,cond_true _ _,?_,?_,by unfold cmpN;rw [hl,cond_true,w64_eq (by omega) (by omega)]⟩
  ·rw [w64_eq (by omega) (by omega)]
   rcases Nat.lt_or_gt_of_ne hne with h | h
   ·have:=lm_len_lt h;omega
   ·have:=lm_len_lt h;omega
  ·rw [w64_eq (by omega) (by omega)]
   rcases Nat.lt_or_gt_of_ne hne with h | h
   ·have:=lm_len_lt h;omega
   ·have:=lm_len_lt h;omega
 | false =>
  have heq:(lm a).length=(lm b).length:=by simp at hl;omega
  rw [cond_false,w64_eq (by omega) (by omega)]
  obtain ⟨c,h1,h2,h3,h4⟩:=compare_L1 (N:=N) (U_lm a) (U_lm b) heq ha (lm a).length N (Nat.le_refl _) hN
  rw [List.take_length,heq,List.take_length,nvl_lm,nvl_lm] at h2 h3
  exact ⟨c,h1,by omega,by omega,by unfold cmpN;rw [hl];exact h4⟩
theorem compare_cmp {N a b:Nat} (hN:(lm a).length < N) (ha:SM (lm a).length) (hb:SM (lm b).length):g_e_compare N (lm a) (lm b)=some (cmpN a b):=by
 obtain ⟨c,h1,_,_,rfl⟩:=compare_eq hN ha hb
 exact h1
theorem cmpN_lt {a b:Nat} (ha:SM (lm a).length) (hb:SM (lm b).length):cmpN a b < 0↔a < b:=by
 obtain ⟨c,_,h,_,rfl⟩:=compare_eq (N:=(lm a).length+1) (by omega) ha hb
 exact h
theorem plus_L2 {N:Nat} {a b:List Int} (ha:U a) (hb:U b) (hl:b.length≤a.length) (hs:SM a.length) (hN:a.length+1 < N):∀ (k x fuel:Nat) (out:List Int) (c:Int),x+k=a.length→k < fuel→out.length=x→U out→0≤c→c≤1 →
  nvl out+pw x * c=nvl (a.take x)+nvl (b.take x)→g_e_plus_L2 N a b fuel out c (x:Int)=some (lm (nvl a+nvl b).toNat)
 | 0,x,fuel,out,c,hx,hf,ho,hU,hc0,hc1,hinv=>by
  obtain ⟨g,rfl⟩:∃ g,fuel=g+1:=⟨fuel - 1,by omega⟩
  have hxe:x=a.length:=by omega
  subst hxe
  rw [g_e_plus_L2]
  simp only [SM] at hs
  rw [dec_nlt,cond_false,if_pos (by omega),wrap16_eq hc0 (by omega)]
  have hU2:U (out ++ [c]):=hU.append (U.one hc0 (by omega))
  have hlen:(out ++ [c]).length=a.length+1:=by simp [ho]
  rw [exact_trim hU2 (by rw [hlen];omega) (by rw [hlen];omega),Option.bind_some,nvl_append,nvl_one,ho,hinv,List.take_length,List.take_of_length_le hl]
 | k+1,x,fuel,out,c,hx,hf,ho,hU,hc0,hc1,hinv=>by
  obtain ⟨g,rfl⟩:∃ g,fuel=g+1:=⟨fuel - 1,by omega⟩
  simp only [SM] at hs
  have hxl:x < a.length:=by omega
  have h1:=ha.getD x
  have h2:=hb.getD x
  rw [g_e_plus_L2,dec_lt hxl,cond_true,if_pos (inb hxl)]
  simp only [toNat_nat]
  have hA:=nvl_take_succ a x hxl
  have hB:nvl (b.take (x+1))=nvl (b.take x)+b.getD x 0 * pw x:=by
   by_cases h:x < b.length
   ·exact nvl_take_succ b x h
   ·rw [List.take_of_length_le (by omega),List.take_of_length_le (by omega),List.getD_eq_getElem?_getD,List.getElem?_eq_none (by omega)];simp
  have step:∀ s:Int,s=c+a.getD x 0+b.getD x 0→(g_e_plus_J3 N a b out (x:Int) (g_e_plus_L2 N a b g) s)=some (lm (nvl a+nvl b).toNat):=by
   intro s hse
   unfold g_e_plus_J3
   rw [if_pos (by omega),wrap16,shr16_32,w64_succ (by omega)]
   refine plus_L2 ha hb hl hs hN k (x+1) g _ _ (by omega) (by omega) (by simp [ho]) (hU.append (U.one (by omega) (by omega))) (by omega) (by omega) ?_
   rw [nvl_append,nvl_one,ho,hA,hB,pw_succ]
   have h5:s=s % 65536+65536 * (s / 65536):=by omega
   have h6:pw x * s=pw x * (s % 65536)+pw x * (65536 * (s / 65536)):=by rw [← Int.mul_add,← h5]
   have h7:pw x * s=pw x * c+a.getD x 0 * pw x+b.getD x 0 * pw x:=by rw [hse,Int.mul_add,Int.mul_add,Int.mul_comm (pw x) (a.getD x 0),Int.mul_comm (pw x) (b.getD x 0)]
   have h8:65536 * pw x * (s / 65536)=pw x * (65536 * (s / 65536)):=by rw [Int.mul_comm 65536,Int.mul_assoc]
   omega
  by_cases hb2:x < b.length
  ·rw [dec_lt hb2,cond_true,if_pos (inb hb2)]
   refine step _ ?_
   rw [wrap32_eq (n:=a.getD x 0) (by omega) (by omega),wrap32_eq (n:=b.getD x 0) (by omega) (by omega),wrap32_eq (n:=c+a.getD x 0) (by omega) (by omega),wrap32_eq (by omega) (by omega)]
  ·have e:decide ((x:Int) < ((b.length:Nat):Int))=false:=by simp;omega
   rw [e,cond_false]
   refine step _ ?_
   have h0:b.getD x 0=0:=by rw [List.getD_eq_getElem?_getD,List.getElem?_eq_none (by omega)];rfl
   rw [wrap32_eq (n:=a.getD x 0) (by omega) (by omega),wrap32_eq (n:=c+a.getD x 0) (by omega) (by omega),h0];omega
theorem plus_J1 {N:Nat} {a b:List Int} (ha:U a) (hb:U b) (hl:b.length≤a.length) (hs:SM a.length) (hN:a.length+1 < N):g_e_plus_J1 N a b=some (lm (nvl a+nvl b).toNat):=by
 unfold g_e_plus_J1
 simp only [SM] at hs
 rw [if_pos (by rw [w64_eq (by omega) (by omega)];omega)]
 exact plus_L2 ha hb hl hs hN a.length 0 N _ 0 (by omega) (by omega) rfl (U.replicate 0) (by omega) (by omega) (by simp [nvl])
theorem plus_U {N:Nat} {a b:List Int} (ha:U a) (hb:U b) (hs:SM a.length) (hs2:SM b.length) (hN:a.length+1 < N) (hN2:b.length+1 < N):g_e_plus N a b=some (lm (nvl a+nvl b).toNat):=by
 unfold g_e_plus
 cases h:decide (((a.length:Nat):Int) < ((b.length:Nat):Int)) with
 | true =>
  simp at h
  rw [cond_true,plus_J1 hb ha (by omega) hs2 hN2,Int.add_comm]
 | false =>
  simp at h
  rw [cond_false,plus_J1 ha hb (by omega) hs hN]
theorem plus_lm {N a b:Nat} (hs:SM (lm a).length) (hs2:SM (lm b).length) (hN:(lm a).length+1 < N) (hN2:(lm b).length+1 < N):g_e_plus N (lm a) (lm b)=some (lm (a+b)):=by
 rw [plus_U (U_lm a) (U_lm b) hs hs2 hN hN2,nvl_lm,nvl_lm];congr 1
theorem minus_L1 {N:Nat} {a b:List Int} (ha:U a) (hb:U b) (hl:b.length≤a.length) (hle:nvl b≤nvl a) (hs:SM a.length) (hN:a.length+1 < N):∀ (k x fuel:Nat) (out:List Int) (c:Int),x+k=a.length→k < fuel→out.length=a.length→U out→0≤c→c≤1 →
  (∀ j,x≤j→out.getD j 0=0)→nvl out - pw x * c=nvl (a.take x) - nvl (b.take x)→g_e_minus_L1 N a b fuel out c (x:Int)=some (lm (nvl a - nvl b).toNat)
 | 0,x,fuel,out,c,hx,hf,ho,hU,hc0,hc1,hz,hinv=>by
  obtain ⟨g,rfl⟩:∃ g,fuel=g+1:=⟨fuel - 1,by omega⟩
  have hxe:x=a.length:=by omega
  subst hxe
  simp only [SM] at hs
  rw [g_e_minus_L1,dec_nlt,cond_false,exact_trim hU (by omega) (by omega),Option.bind_some]
  rw [List.take_length,List.take_of_length_le hl] at hinv
  have h1:=hU.lt
  rw [ho] at h1
  have hc:c=0:=by
   rcases Int.lt_or_le 0 c with h | h
   ·have:c=1:=by omega
    subst this;omega
   ·omega
  subst hc
  have:nvl out=nvl a - nvl b:=by omega
  rw [this]
 | k+1,x,fuel,out,c,hx,hf,ho,hU,hc0,hc1,hz,hinv=>by
  obtain ⟨g,rfl⟩:∃ g,fuel=g+1:=⟨fuel - 1,by omega⟩
  simp only [SM] at hs
  have hxl:x < a.length:=by omega
  have h1:=ha.getD x
  have h2:=hb.getD x
  rw [g_e_minus_L1,dec_lt hxl,cond_true,if_pos (inb hxl)]
  simp only [toNat_nat]
  have hA:=nvl_take_succ a x hxl
  have hB:nvl (b.take (x+1))=nvl (b.take x)+b.getD x 0 * pw x:=by
   by_cases h:x < b.length
   ·exact nvl_take_succ b x h
   ·rw [List.take_of_length_le (by omega),List.take_of_length_le (by omega),List.getD_eq_getElem?_getD,List.getElem?_eq_none (by omega)];simp
  have step:∀ y:Int,y=c+b.getD x 0→(g_e_minus_J2 N a b out (x:Int) (g_e_minus_L1 N a b g) y)=some (lm (nvl a - nvl b).toNat):=by
   intro y hy
   unfold g_e_minus_J2
   have fin:∀ q:Int,0≤q→q≤1→0≤a.getD x 0+q * 65536 - y→a.getD x 0+q * 65536 - y < 65536→g_e_minus_J3 N a b out (x:Int) y (g_e_minus_L1 N a b g) q=some (lm (nvl a - nvl b).toNat):=by
    intro q hq0 hq1 hd0 hd1
    unfold g_e_minus_J3
    rw [if_pos ⟨by omega,by omega⟩,shl16_32 (by omega) (by omega),toNat_nat,wrap32_eq (n:=a.getD x 0) (by omega) (by omega),wrap32_eq (n:=a.getD x 0+q * 65536) (by omega) (by omega),wrap32_eq (by omega) (by omega),wrap16_eq (by omega) (by omega),w64_succ (by omega)]
    refine minus_L1 ha hb hl hle hs hN k (x+1) g _ _ (by omega) (by omega) (by simp [ho]) (hU.set x (by omega) (by omega)) hq0 hq1 ?_ ?_
    ·intro j hj
     have:=hz j (by omega)
     rw [List.getD_eq_getElem?_getD] at this ⊢
     rw [List.getElem?_set_ne (by omega)];exact this
    ·rw [nvl_set _ _ _ (by omega),hz x (Nat.le_refl _),hA,hB,pw_succ]
     have h3:(a.getD x 0+q * 65536 - y - 0) * pw x=a.getD x 0 * pw x+q * 65536 * pw x - y * pw x:=by rw [Int.sub_zero,Int.sub_mul,Int.add_mul]
     have h4:y * pw x=c * pw x+b.getD x 0 * pw x:=by rw [hy,Int.add_mul]
     have h5:q * 65536 * pw x=65536 * pw x * q:=by rw [Int.mul_comm q 65536,Int.mul_assoc,Int.mul_assoc,Int.mul_comm q]
     have h6:c * pw x=pw x * c:=Int.mul_comm _ _
     omega
   rw [toNat_nat,wrap32_eq (n:=a.getD x 0) (by omega) (by omega)]
   cases hlt:decide (a.getD x 0 < y) with
   | true=>have hlt:=of_decide_eq_true hlt;rw [cond_true];exact fin 1 (by omega) (by omega) (by omega) (by omega)
   | false=>have hlt:=of_decide_eq_false hlt;rw [cond_false];exact fin 0 (by omega) (by omega) (by omega) (by omega)
  by_cases hb2:x < b.length
  ·rw [dec_lt hb2,cond_true,if_pos (inb hb2)]
   refine step _ ?_
   rw [wrap32_eq (n:=b.getD x 0) (by omega) (by omega),wrap32_eq (by omega) (by omega)]
  ·have e:decide ((x:Int) < ((b.length:Nat):Int))=false:=by simp;omega
   rw [e,cond_false]
   refine step _ ?_
   have h0:b.getD x 0=0:=by rw [List.getD_eq_getElem?_getD,List.getElem?_eq_none (by omega)];rfl
   omega
theorem getD_replicate (n j:Nat):(List.replicate n (0:Int)).getD j 0=0:=by
 rw [List.getD_eq_getElem?_getD,List.getElem?_replicate];split<;>rfl
theorem minus_U {N:Nat} {a b:List Int} (ha:U a) (hb:U b) (hl:b.length≤a.length) (hle:nvl b≤nvl a) (hs:SM a.length) (hN:a.length+1 < N):g_e_minus N a b=some (lm (nvl a - nvl b).toNat):=by
 unfold g_e_minus
 simp only [SM] at hs
 rw [if_pos (by omega)]
 exact minus_L1 ha hb hl hle hs hN a.length 0 N _ 0 (by omega) (by omega) (by simp) (U.replicate _) (by omega) (by omega) (fun j _=>getD_replicate _ j) (by rw [nvl_replicate];simp [nvl])
theorem lm_len_mono {a b:Nat} (h:a≤b):(lm a).length≤(lm b).length:=lm_len_le.2 (by have:=(lm_len_le (n:=b) (k:=(lm b).length)).1 (Nat.le_refl _);omega)
theorem minus_lm {N a b:Nat} (hab:b≤a) (hs:SM (lm a).length) (hN:(lm a).length+1 < N):g_e_minus N (lm a) (lm b)=some (lm (a - b)):=by
 rw [minus_U (U_lm a) (U_lm b) (lm_len_mono hab) (by rw [nvl_lm,nvl_lm];omega) hs hN,nvl_lm,nvl_lm]
 congr 2;omega
end Go.Den
namespace Go.Den
open Go.Ab
theorem getD_set_ne (l:List Int) {i j:Nat} (x:Int) (h:i≠j):(l.set i x).getD j 0=l.getD j 0:=by
 rw [List.getD_eq_getElem?_getD,List.getElem?_set_ne h,← List.getD_eq_getElem?_getD]
theorem getD_set_eq (l:List Int) {i:Nat} (x:Int) (h:i < l.length):(l.set i x).getD i 0=x:=by
 rw [List.getD_eq_getElem?_getD,List.getElem?_set_self h];rfl
theorem getD_ge {l:List Int} {i:Nat} (h:l.length≤i):l.getD i 0=0:=by
 rw [List.getD_eq_getElem?_getD,List.getElem?_eq_none h];rfl
theorem mul_lt16 {x y:Int} (h1:0≤x) (h2:x < 65536) (h3:0≤y) (h4:y < 65536):0≤x * y∧x * y≤4294836225:=by
 refine ⟨Int.mul_nonneg h1 h3,?_⟩
 have:=Int.mul_le_mul (show x≤65535 by omega) (show y≤65535 by omega) h3 (by omega)
 omega
theorem times_L2 {N:Nat} {a b:List Int} {i:Nat} (ha:U a) (hb:U b) (hi:i < a.length) (hs:SM (a.length+b.length)) (K:List Int→Int→Option (List Int)) (R:Option (List Int))
  (hK:∀ out,out.length=a.length+b.length→U out→(∀ j,i+b.length < j→out.getD j 0=0)→nvl out=nvl (a.take (i+1)) * nvl b→K out ((i+1:Nat):Int)=R) :
  ∀ (k x fuel:Nat) (out:List Int) (c:Int),x+k=b.length→k < fuel→out.length=a.length+b.length→U out→0≤c→c < 65536→(∀ j,i+b.length≤j→out.getD j 0=0) →
   nvl out+pw (i+x) * c=nvl (a.take i) * nvl b+a.getD i 0 * pw i * nvl (b.take x)→g_e_times_L2 N a b (i:Int) K fuel out c (x:Int)=R
 | 0,x,fuel,out,c,hx,hf,ho,hU,hc0,hc1,hz,hinv=>by
  obtain ⟨g,rfl⟩:∃ g,fuel=g+1:=⟨fuel - 1,by omega⟩
  have hxe:x=b.length:=by omega
  subst hxe
  simp only [SM] at hs
  have e:w64 ((i:Int)+((b.length:Nat):Int))=((i+b.length:Nat):Int):=by rw [w64_eq (by omega) (by omega)];omega
  rw [g_e_times_L2,dec_nlt,cond_false,e,if_pos (inb (by omega)),toNat_nat,wrap16_eq hc0 hc1,w64_succ (by omega)]
  refine hK _ (by simp [ho]) (hU.set _ hc0 hc1) (fun j hj=>?_) ?_
  ·rw [getD_set_ne _ _ (by omega)];exact hz j (by omega)
  ·rw [nvl_set _ _ _ (by omega),hz _ (Nat.le_refl _),Int.sub_zero,nvl_take_succ a i hi,Int.add_mul,Int.mul_comm c]
   rw [List.take_length] at hinv
   exact hinv
 | k+1,x,fuel,out,c,hx,hf,ho,hU,hc0,hc1,hz,hinv=>by
  obtain ⟨g,rfl⟩:∃ g,fuel=g+1:=⟨fuel - 1,by omega⟩
  simp only [SM] at hs
  have hxl:x < b.length:=by omega
  have h1:=ha.getD i
  have h2:=hb.getD x
  have h3:=hU.getD (i+x)
  have e:w64 ((i:Int)+(x:Int))=((i+x:Nat):Int):=by rw [w64_eq (by omega) (by omega)];omega
  have h4:=mul_lt16 h1.1 h1.2 h2.1 h2.2
  rw [g_e_times_L2,dec_lt hxl,cond_true,if_pos (inb hxl),e,if_pos (inb (by omega))]
  simp only [toNat_nat]
  rw [wrap32_eq (n:=a.getD i 0) (by omega) (by omega),wrap32_eq (n:=b.getD x 0) (by omega) (by omega),wrap32_eq (n:=out.getD (i+x) 0) (by omega) (by omega),wrap32_eq (n:=a.getD i 0 * b.getD x 0) (by omega) (by omega),
   wrap32_eq (n:=a.getD i 0 * b.getD x 0+out.getD (i+x) 0) (by omega) (by omega),wrap32_eq (n:=c+(a.getD i 0 * b.getD x 0+out.getD (i+x) 0)) (by omega) (by omega),wrap16,shr16_32,w64_succ (by omega)]
  generalize hs2:c+(a.getD i 0 * b.getD x 0+out.getD (i+x) 0)=s
  refine times_L2 ha hb hi hs K R hK k (x+1) g _ _ (by omega) (by omega) (by simp [ho]) (hU.set _ (by omega) (by omega)) (by omega) (by omega) (fun j hj=>?_) ?_
  ·rw [getD_set_ne _ _ (by omega)];exact hz j hj
  ·rw [nvl_set _ _ _ (by omega),nvl_take_succ b x hxl,show i+(x+1)=(i+x)+1 by omega,pw_succ]
   have h5:s=s % 65536+65536 * (s / 65536):=by omega
   have h6:pw (i+x) * s=pw (i+x) * (s % 65536)+pw (i+x) * (65536 * (s / 65536)):=by rw [← Int.mul_add,← h5]
   have h7:pw (i+x) * s=pw (i+x) * c+pw (i+x) * (a.getD i 0 * b.getD x 0)+pw (i+x) * out.getD (i+x) 0:=by rw [← hs2,Int.mul_add,Int.mul_add];omega
   have h8:65536 * pw (i+x) * (s / 65536)=pw (i+x) * (65536 * (s / 65536)):=by rw [Int.mul_comm 65536,Int.mul_assoc]
   have h9:(s % 65536 - out.getD (i+x) 0) * pw (i+x)=pw (i+x) * (s % 65536) - pw (i+x) * out.getD (i+x) 0:=by rw [Int.sub_mul,Int.mul_comm,Int.mul_comm (out.getD (i+x) 0)]
   have h10:a.getD i 0 * pw i * (nvl (b.take x)+b.getD x 0 * pw x)=a.getD i 0 * pw i * nvl (b.take x)+pw (i+x) * (a.getD i 0 * b.getD x 0):=by
    rw [pw_add];grind
   omega
theorem times_L1 {N:Nat} {a b:List Int} (ha:U a) (hb:U b) (hs:SM (a.length+b.length)) (hN:a.length+b.length < N):∀ (k x fuel:Nat) (out:List Int),x+k=a.length→k < fuel→out.length=a.length+b.length→U out →
  (∀ j,x+b.length≤j→out.getD j 0=0)→nvl out=nvl (a.take x) * nvl b→g_e_times_L1 N a b fuel out (x:Int)=some (lm (nvl a * nvl b).toNat)
 | 0,x,fuel,out,hx,hf,ho,hU,hz,hinv=>by
  obtain ⟨g,rfl⟩:∃ g,fuel=g+1:=⟨fuel - 1,by omega⟩
  have hxe:x=a.length:=by omega
  subst hxe
  simp only [SM] at hs
  rw [g_e_times_L1,dec_nlt,cond_false,exact_trim hU (by omega) (by omega),Option.bind_some,hinv,List.take_length]
 | k+1,x,fuel,out,hx,hf,ho,hU,hz,hinv=>by
  obtain ⟨g,rfl⟩:∃ g,fuel=g+1:=⟨fuel - 1,by omega⟩
  have hxl:x < a.length:=by omega
  rw [g_e_times_L1,dec_lt hxl,cond_true,if_pos (inb hxl)]
  refine times_L2 ha hb hxl hs _ _ (fun out2 h1 h2 h3 h4=>?_) b.length 0 N out 0 (by omega) (by omega) ho hU (by omega) (by omega) hz (by rw [hinv];simp [nvl])
  exact times_L1 ha hb hs hN k (x+1) g out2 (by omega) (by omega) h1 h2 (fun j hj=>h3 j (by omega)) h4
theorem times_U {N:Nat} {a b:List Int} (ha:U a) (hb:U b) (hs:SM (a.length+b.length)) (hN:a.length+b.length < N):g_e_times N a b=some (lm (nvl a * nvl b).toNat):=by
 unfold g_e_times
 have hs':=hs
 simp only [SM] at hs'
 have e:w64 (((a.length:Nat):Int)+((b.length:Nat):Int))=((a.length+b.length:Nat):Int):=by rw [w64_eq (by omega) (by omega)];omega
 rw [e,if_pos (by omega)]
 exact times_L1 ha hb hs hN a.length 0 N _ (by omega) (by omega) (by simp;omega) (U.replicate _) (fun j _=>getD_replicate _ j) (by rw [nvl_replicate];simp [nvl])
theorem toNat_mul_nat (a b:Nat):((a:Int) * (b:Int)).toNat=a * b:=by rw [← Int.natCast_mul];rfl
theorem times_lm {N a b:Nat} (hs:SM ((lm a).length+(lm b).length)) (hN:(lm a).length+(lm b).length < N):g_e_times N (lm a) (lm b)=some (lm (a * b)):=by
 rw [times_U (U_lm a) (U_lm b) hs hN,nvl_lm,nvl_lm,toNat_mul_nat]
theorem short_L1 {N:Nat} {a:List Int} {d:Int} (ha:U a) (hd0:0 < d) (hd1:d < 65536) (hs:SM a.length) (hN:a.length < N):∀ (k fuel:Nat) (q:List Int) (r:Int),k≤a.length→k < fuel→q.length=a.length→U q→0≤r→r < d →
  (∀ j,j < k→q.getD j 0=0)→pw k * nvl (a.drop k)=nvl q * d+r * pw k→∃ Q R:Int,0≤Q∧0≤R∧R < d∧nvl a=Q * d+R∧g_e_short_L1 N a d fuel q r ((k:Int) - 1)=some (lm Q.toNat,R)
 | 0,fuel,q,r,hk,hf,ho,hU,hr0,hr1,hz,hinv=>by
  obtain ⟨g,rfl⟩:∃ g,fuel=g+1:=⟨fuel - 1,by omega⟩
  simp only [SM] at hs
  refine ⟨nvl q,r,hU.nonneg,hr0,hr1,by rw [pw_zero] at hinv;simpa using hinv,?_⟩
  rw [g_e_short_L1]
  have e:decide ((((0:Nat):Int) - 1)≥0)=false:=rfl
  rw [e,cond_false,exact_trim hU (by omega) (by omega),Option.bind_some,wrap16_eq hr0 (by omega)]
 | k+1,fuel,q,r,hk,hf,ho,hU,hr0,hr1,hz,hinv=>by
  obtain ⟨g,rfl⟩:∃ g,fuel=g+1:=⟨fuel - 1,by omega⟩
  simp only [SM] at hs
  have e:(((k+1:Nat):Int) - 1)=(k:Int):=by omega
  have h1:=ha.getD k
  have e0:decide ((k:Int)≥0)=true:=by simp
  rw [e,g_e_short_L1,e0,cond_true,if_pos (inb (by omega)),wrap32_eq (n:=d) (by omega) (by omega),if_pos (by omega),if_pos (inb (by omega))]
  simp only [toNat_nat]
  rw [wrap32_eq (n:=a.getD k 0) (by omega) (by omega),shl16_32 hr0 (by omega),or16_32 hr0 (by omega) h1.1 h1.2,w64_eq (by omega) (by omega)]
  have hn0:0≤r * 65536+a.getD k 0:=by omega
  have hn1:r * 65536+a.getD k 0 < d * 65536:=by omega
  generalize hn:r * 65536+a.getD k 0=n at hn0 hn1 ⊢
  rw [Int.tdiv_eq_ediv_of_nonneg hn0,Int.tmod_eq_emod_of_nonneg hn0]
  have hq1:n / d < 65536:=Int.ediv_lt_of_lt_mul hd0 (by rw [Int.mul_comm];exact hn1)
  have hq0:0≤n / d:=Int.ediv_nonneg hn0 (by omega)
  rw [wrap32_eq hq0 (by omega),wrap16_eq hq0 hq1]
  refine short_L1 ha hd0 hd1 hs hN k g _ _ (by omega) (by omega) (by simp [ho]) (hU.set _ hq0 hq1) (Int.emod_nonneg _ (by omega)) (Int.emod_lt_of_pos _ hd0) (fun j hj=>?_) ?_
  ·rw [getD_set_ne _ _ (by omega)];exact hz j (by omega)
  ·rw [nvl_set _ _ _ (by omega),hz k (by omega),Int.sub_zero,nvl_drop a k (by omega)]
   have h2:=Int.mul_ediv_add_emod n d
   rw [pw_succ] at hinv
   have h3:pw k * n=pw k * (d * (n / d))+pw k * (n % d):=by rw [← Int.mul_add,h2]
   have h4:pw k * n=pw k * (r * 65536)+pw k * a.getD k 0:=by rw [← hn,Int.mul_add]
   grind
theorem short_lm {N a d:Nat} (hd0:0 < d) (hd1:d < 65536) (hs:SM (lm a).length) (hN:(lm a).length < N):g_e_short N (lm a) (d:Int)=some (lm (a / d),((a % d:Nat):Int)):=by
 unfold g_e_short
 have hs':=hs
 simp only [SM] at hs'
 rw [if_pos (by omega),w64_eq (by omega) (by omega)]
 obtain ⟨Q,R,h1,h2,h3,h4,h5⟩:=short_L1 (N:=N) (d:=(d:Int)) (U_lm a) (by omega) (by omega) hs hN (lm a).length N (List.replicate (lm a).length 0) 0 (Nat.le_refl _) hN (by simp) (U.replicate _) (by omega) (by omega) (fun j _=>getD_replicate _ j)
  (by rw [List.drop_length,nvl_replicate];simp [nvl])
 rw [h5]
 rw [nvl_lm] at h4
 obtain ⟨Q,rfl⟩:=Int.eq_ofNat_of_zero_le h1
 obtain ⟨R,rfl⟩:=Int.eq_ofNat_of_zero_le h2
 have h6:a=Q * d+R:=by exact_mod_cast h4
 have h7:R < d:=by omega
 have h8:a / d=Q:=by rw [h6,Nat.mul_comm,Nat.mul_add_div hd0,Nat.div_eq_of_lt h7];rfl
 have h9:a % d=R:=by rw [h6,Nat.mul_comm,Nat.mul_add_mod,Nat.mod_eq_of_lt h7]
 rw [h8,h9];rfl
theorem natural_L1 {N:Nat}:∀ (fuel n:Nat) (out:List Int),(lm n).length < fuel→out.length+(lm n).length < 1000→n < 18446744073709551616→g_e_natural_L1 N fuel (n:Int) out=some (out ++ lm n)
 | 0,n,out,h,_,_=>by omega
 | fuel+1,n,out,h,h2,h3=>by
  rw [g_e_natural_L1]
  by_cases hn:n=0
  ·subst hn;rw [lm_zero];simp
  ·have e:decide ((n:Int) > 0)=true:=by simp;omega
   rw [lm_pos hn] at h h2
   simp only [List.length_cons] at h h2
   rw [e,cond_true,if_pos (by omega),shr16_64,wrap16]
   have e1:((n:Int) / 65536)=((n / 65536:Nat):Int):=by omega
   have e2:((n:Int) % 65536)=((n % 65536:Nat):Int):=by omega
   rw [e1,e2,natural_L1 fuel (n / 65536) _ (by omega) (by simp;omega) (by omega),lm_pos hn,List.append_assoc];rfl
theorem lm_len_4 {n:Nat} (h:n < 18446744073709551616):(lm n).length≤4:=lm_len_le.2 (by show (n:Int) < 65536 ^ 4;omega)
theorem natural_eq {N n:Nat} (hN:4 < N) (h:n < 18446744073709551616):g_e_natural N (n:Int)=some (lm n):=by
 unfold g_e_natural
 have:=lm_len_4 h
 rw [natural_L1 N n [] (by omega) (by simp;omega) h];rfl
theorem limbs_L1 {N:Nat}:∀ (fuel n:Nat) (out:List Int),(lm n).length < fuel→out.length+(lm n).length < 1000→n < 18446744073709551616→g_b_limbs_L1 N fuel (n:Int) out=some (out ++ lm n)
 | 0,n,out,h,_,_=>by omega
 | fuel+1,n,out,h,h2,h3=>by
  rw [g_b_limbs_L1]
  by_cases hn:n=0
  ·subst hn;rw [lm_zero];simp
  ·have e:decide ((n:Int) > 0)=true:=by simp;omega
   rw [lm_pos hn] at h h2
   simp only [List.length_cons] at h h2
   rw [e,cond_true,if_pos (by omega),shr16_64,and16_64 (by omega) (by omega),wrap16]
   have e1:((n:Int) / 65536)=((n / 65536:Nat):Int):=by omega
   have e2:((n:Int) % 65536 % 65536)=((n % 65536:Nat):Int):=by omega
   rw [e1,e2,limbs_L1 fuel (n / 65536) _ (by omega) (by simp;omega) (by omega),lm_pos hn,List.append_assoc];rfl
theorem limbs_eq {N n:Nat} (hN:4 < N) (h:n < 18446744073709551616):g_b_limbs N (n:Int)=some (lm n):=by
 unfold g_b_limbs
 have:=lm_len_4 h
 rw [limbs_L1 N n [] (by omega) (by simp;omega) h];rfl
theorem word_L1 {N:Nat} {a:List Int} (ha:U a) (hs:a.length≤4):∀ (k fuel:Nat) (r:Int),k≤a.length→k < fuel→0≤r→r < pw (4 - k)→nvl (a.drop k)=r→g_e_word_L1 N a fuel r ((k:Int) - 1)=some (nvl a,true)
 | 0,fuel,r,hk,hf,hr0,hr1,hinv=>by
  obtain ⟨g,rfl⟩:∃ g,fuel=g+1:=⟨fuel - 1,by omega⟩
  rw [g_e_word_L1]
  have e:decide ((((0:Nat):Int) - 1)≥0)=false:=rfl
  rw [e,cond_false,← hinv,List.drop_zero]
 | k+1,fuel,r,hk,hf,hr0,hr1,hinv=>by
  obtain ⟨g,rfl⟩:∃ g,fuel=g+1:=⟨fuel - 1,by omega⟩
  have e:(((k+1:Nat):Int) - 1)=(k:Int):=by omega
  have h1:=ha.getD k
  have e0:decide ((k:Int)≥0)=true:=by simp
  have hp:pw (4 - k)=65536 * pw (4 - (k+1)):=by rw [← pw_succ];congr 1;omega
  have hle:pw (4 - (k+1))≤281474976710656:=by
   have:k=0∨k=1∨k=2∨k=3:=by omega
   rcases this with rfl | rfl | rfl | rfl<;>decide
  rw [e,g_e_word_L1,e0,cond_true,if_pos (inb (by omega)),toNat_nat,wrap64_eq (n:=a.getD k 0) (by omega) (by omega),shl16_64 hr0 (by omega),or16_64 hr0 (by omega) h1.1 h1.2,w64_eq (by omega) (by omega)]
  refine word_L1 ha hs k g _ (by omega) (by omega) (by omega) (by omega) ?_
  rw [nvl_drop a k (by omega),hinv];omega
theorem word_eq {N a:Nat} (hN:5 < N) (hs:SM (lm a).length):g_e_word N (lm a)=some (if (lm a).length≤4 then ((a:Int),true) else (0,false)):=by
 unfold g_e_word
 by_cases h:(lm a).length≤4
 ·rw [if_pos h]
  have e:decide ((((lm a).length:Nat):Int) > 4)=false:=by simp;omega
  rw [e,cond_false,w64_eq (by omega) (by omega),word_L1 (U_lm a) h (lm a).length N 0 (Nat.le_refl _) (by omega) (by omega) (pw_pos _) (by rw [List.drop_length];rfl),nvl_lm]
 ·rw [if_neg h]
  have e:decide ((((lm a).length:Nat):Int) > 4)=true:=by simp;omega
  rw [e];rfl
end Go.Den
namespace Go.Den
open Go.Ab
theorem len_tab0:∀ x:Fin 256,(match g_math_bits_Len16_J1 0 ((x.val:Nat):Int) 0 with | some L=>decide (0≤L∧L≤8∧(x.val≠0→1≤L∧2 ^ (L.toNat - 1)≤x.val∧x.val < 2 ^ L.toNat)) | none=>false)=true:=by decide +kernel
theorem len_tab8:∀ x:Fin 256,(match g_math_bits_Len16_J1 0 ((x.val:Nat):Int) 8 with | some L=>decide (8≤L∧L≤16∧(x.val≠0→9≤L∧2 ^ (L.toNat - 1 - 8)≤x.val∧x.val < 2 ^ (L.toNat - 8))) | none=>false)=true:=by decide +kernel
theorem len16_eq {N x:Nat} (h0:0 < x) (h1:x < 65536):∃ L:Nat,1≤L∧L≤16∧g_math_bits_Len16 N (x:Int)=some (L:Int)∧2 ^ (L - 1)≤x∧x < 2 ^ L:=by
 unfold g_math_bits_Len16
 by_cases h:x < 256
 ·have e:decide ((x:Int)≥256)=false:=by simp;omega
  rw [e,cond_false]
  have:=len_tab0 ⟨x,h⟩
  simp only at this
  show ∃ L:Nat,1≤L∧L≤16∧g_math_bits_Len16_J1 0 (x:Int) 0=some (L:Int)∧2 ^ (L - 1)≤x∧x < 2 ^ L
  cases hr:g_math_bits_Len16_J1 0 (x:Int) 0 with
  | none=>rw [hr] at this;cases this
  | some L =>
   rw [hr] at this
   obtain ⟨q1,q2,q3⟩:=of_decide_eq_true this
   obtain ⟨q4,q5,q6⟩:=q3 (by omega)
   obtain ⟨L,rfl⟩:=Int.eq_ofNat_of_zero_le q1
   exact ⟨L,by omega,by omega,rfl,q5,q6⟩
 ·have e:decide ((x:Int)≥256)=true:=by simp;omega
  rw [e,cond_true]
  have e2:shrI .u16 (x:Int) 8=((x / 256:Nat):Int):=by
   unfold shrI
   have:(2:Int) ^ (min (8:Int).toNat IntKind.u16.bits)=256:=by decide
   rw [this,Int.fdiv_eq_ediv_of_nonneg _ (by decide)];omega
  rw [e2]
  have:=len_tab8 ⟨x / 256,by omega⟩
  simp only at this
  have hJ:g_math_bits_Len16_J1 N ((x / 256:Nat):Int) 8=g_math_bits_Len16_J1 0 ((x / 256:Nat):Int) 8:=rfl
  rw [hJ]
  cases hr:g_math_bits_Len16_J1 0 ((x / 256:Nat):Int) 8 with
  | none=>rw [hr] at this;cases this
  | some L =>
   rw [hr] at this
   obtain ⟨q1,q2,q3⟩:=of_decide_eq_true this
   obtain ⟨q4,q5,q6⟩:=q3 (by omega)
   obtain ⟨L,rfl⟩:=Int.eq_ofNat_of_zero_le (show 0≤L by omega)
   simp only [Int.toNat_natCast] at q5 q6
   refine ⟨L,by omega,by omega,rfl,?_,?_⟩
   ·have:2 ^ (L - 1 - 8+8)=2 ^ (L - 1 - 8) * 2 ^ 8:=Nat.pow_add _ _ _
    have h8:(2:Nat) ^ 8=256:=by decide
    have h9:L - 1 - 8+8=L - 1:=by omega
    rw [h8,h9] at this
    omega
   ·have:2 ^ (L - 8+8)=2 ^ (L - 8) * 2 ^ 8:=Nat.pow_add _ _ _
    have h8:(2:Nat) ^ 8=256:=by decide
    have h9:L - 8+8=L:=by omega
    rw [h8,h9] at this
    omega
theorem lz_eq {N x:Nat} (h0:0 < x) (h1:x < 65536):∃ s:Nat,s≤15∧g_math_bits_LeadingZeros16 N (x:Int)=some (s:Int)∧32768≤x * 2 ^ s∧x * 2 ^ s < 65536:=by
 obtain ⟨L,h2,h3,h4,h5,h6⟩:=len16_eq (N:=N) h0 h1
 refine ⟨16 - L,by omega,?_,?_,?_⟩
 ·unfold g_math_bits_LeadingZeros16
  rw [h4,Option.bind_some,w64_eq (by omega) (by omega)];congr 1;omega
 ·have e:2 ^ (L - 1) * 2 ^ (16 - L)=32768:=by rw [← Nat.pow_add,show L - 1+(16 - L)=15 by omega]
  have:=Nat.mul_le_mul_right (2 ^ (16 - L)) h5
  omega
 ·have e:2 ^ L * 2 ^ (16 - L)=65536:=by rw [← Nat.pow_add,show L+(16 - L)=16 by omega]
  have:=Nat.mul_lt_mul_of_pos_right h6 (Nat.two_pow_pos (16 - L))
  omega
theorem shl_32 {n:Int} {s:Nat} (h:0≤n) (h2:n < 65536) (hs:s≤15):shlI .u32 n (s:Int)=n * 2 ^ s∧0≤n * 2 ^ s∧n * 2 ^ s < 65536 * 2 ^ s∧n * 2 ^ s < 2147483648:=by
 have hp:(0:Int) < 2 ^ s:=Int.pow_pos (by decide)
 have hp2:(2:Int) ^ s≤32768:=by
  have:=Nat.pow_le_pow_right (n:=2) (by decide) hs
  have e:((2 ^ s:Nat):Int)=(2:Int) ^ s:=by simp
  omega
 have h3:0≤n * 2 ^ s:=Int.mul_nonneg h (by omega)
 have h4:n * 2 ^ s < 65536 * 2 ^ s:=Int.mul_lt_mul_of_pos_right h2 hp
 refine ⟨?_,h3,h4,by omega⟩
 unfold shlI
 have:min ((s:Nat):Int).toNat IntKind.u32.bits=s:=by show min s 32=s;omega
 rw [this,wrap32_eq h3 (by omega)]
theorem or_low {c a:Int} {s:Nat} (hs:s≤15) (hc0:0≤c) (hc1:c < 2 ^ s) (ha0:0≤a):orI .u16 c (a * 2 ^ s % 65536)=c+a * 2 ^ s % 65536∧c+a * 2 ^ s % 65536 < 65536:=by
 obtain ⟨c,rfl⟩:=Int.eq_ofNat_of_zero_le hc0
 obtain ⟨a,rfl⟩:=Int.eq_ofNat_of_zero_le ha0
 have hc:c < 2 ^ s:=by
  have e:((2 ^ s:Nat):Int)=(2:Int) ^ s:=by simp
  omega
 have hp:2 ^ s≤32768:=Nat.pow_le_pow_right (n:=2) (by decide) hs
 have e1:(a:Int) * 2 ^ s % 65536=((a * 2 ^ s % 65536:Nat):Int):=by simp
 have e2:a * 2 ^ s % 65536=a % 2 ^ (16 - s) * 2 ^ s:=by
  have:65536=2 ^ (16 - s) * 2 ^ s:=by rw [← Nat.pow_add,show 16 - s+s=16 by omega]
  rw [this,Nat.mul_mod_mul_right]
 have e3:a % 2 ^ (16 - s) * 2 ^ s+2 ^ s≤65536:=by
  have h1:a % 2 ^ (16 - s)+1≤2 ^ (16 - s):=Nat.mod_lt _ (Nat.two_pow_pos _)
  have h2:=Nat.mul_le_mul_right (2 ^ s) h1
  rw [← Nat.pow_add,show 16 - s+s=16 by omega,Nat.add_mul] at h2
  omega
 rw [e1,e2]
 generalize a % 2 ^ (16 - s)=m at *
 constructor
 ·unfold orI
  rw [show IntKind.u16.bits=16 from rfl,bv_or _ _ (by omega) (by omega),Nat.or_comm,nat_or_add _ _ s hc,wrap16]
  omega
 ·omega
theorem shifted_L1 {N:Nat} {a:List Int} {s:Nat} (ha:U a) (hs:s≤15) (hS:SM a.length):∀ (k x fuel:Nat) (out:List Int),x+k=a.length→k < fuel→out.length=a.length+1→U out→out.getD x 0 < 2 ^ s→(∀ j,x < j→out.getD j 0=0) →
  nvl out=nvl (a.take x) * 2 ^ s→∃ o,g_e_shifted_L1 N a (s:Int) fuel out (x:Int)=some o∧o.length=a.length+1∧U o∧nvl o=nvl a * 2 ^ s∧o.getD a.length 0 < 2 ^ s
 | 0,x,fuel,out,hx,hf,ho,hU,hc,hz,hinv=>by
  obtain ⟨g,rfl⟩:∃ g,fuel=g+1:=⟨fuel - 1,by omega⟩
  have hxe:x=a.length:=by omega
  subst hxe
  exact ⟨out,by rw [g_e_shifted_L1,dec_nlt,cond_false],ho,hU,by rw [hinv,List.take_length],hc⟩
 | k+1,x,fuel,out,hx,hf,ho,hU,hc,hz,hinv=>by
  obtain ⟨g,rfl⟩:∃ g,fuel=g+1:=⟨fuel - 1,by omega⟩
  simp only [SM] at hS
  have hxl:x < a.length:=by omega
  have h1:=ha.getD x
  have h2:=hU.getD x
  obtain ⟨w1,w2,w3,w4⟩:=shl_32 h1.1 h1.2 hs
  obtain ⟨o1,o2⟩:=or_low hs h2.1 hc h1.1
  rw [g_e_shifted_L1,dec_lt hxl,cond_true,if_pos (inb hxl),if_pos (by omega),if_pos (inb (by omega)),w64_succ (by omega)]
  simp only [toNat_nat]
  rw [wrap32_eq (n:=a.getD x 0) (by omega) (by omega),w1,wrap16,shr16_32,wrap16,o1]
  rw [if_pos ⟨by omega,by simp;omega⟩]
  generalize hw:a.getD x 0 * 2 ^ s=w at *
  have hw5:w / 65536 < 2 ^ s:=by omega
  have hw6:w / 65536 % 65536=w / 65536:=by omega
  rw [hw6]
  have hU1:U (out.set x (out.getD x 0+w % 65536)):=hU.set x (by omega) o2
  refine shifted_L1 ha hs hS k (x+1) g _ (by omega) (by omega) (by simp [ho]) (hU1.set (x+1) (by omega) (by omega)) ?_ (fun j hj=>?_) ?_
  ·rw [getD_set_eq _ _ (by simp;omega)];exact hw5
  ·rw [getD_set_ne _ _ (by omega),getD_set_ne _ _ (by omega)];exact hz j (by omega)
  ·rw [nvl_set _ _ _ (by simp;omega),getD_set_ne _ _ (by omega),hz (x+1) (by omega),nvl_set _ _ _ (by omega),nvl_take_succ a x hxl,hinv,pw_succ,Int.add_mul]
   have h3:w=w % 65536+65536 * (w / 65536):=by omega
   have h4:w * pw x=(w % 65536+65536 * (w / 65536)) * pw x:=by rw [← h3]
   have h5:a.getD x 0 * pw x * 2 ^ s=w * pw x:=by rw [← hw];grind
   grind
theorem shifted_eq {N:Nat} {a:List Int} {s:Nat} (ha:U a) (hs:s≤15) (hS:SM a.length) (hN:a.length < N):∃ o,g_e_shifted N a (s:Int)=some o∧o.length=a.length+1∧U o∧nvl o=nvl a * 2 ^ s∧o.getD a.length 0 < 2 ^ s:=by
 unfold g_e_shifted
 have hS':=hS
 simp only [SM] at hS'
 have e:w64 (((a.length:Nat):Int)+1)=((a.length+1:Nat):Int):=w64_succ (by omega)
 rw [e,if_pos (by omega)]
 exact shifted_L1 ha hs hS a.length 0 N _ (by omega) hN (by simp) (U.replicate _) (by rw [getD_replicate];exact Int.pow_pos (by decide)) (fun j _=>getD_replicate _ j) (by rw [nvl_replicate];simp [nvl])
theorem getD_app (p w:List Int) (i:Nat):(p ++ w).getD (addz p.length i) 0=w.getD i 0:=by
 rw [addz_eq,List.getD_eq_getElem?_getD,List.getElem?_append_right (by omega),List.getD_eq_getElem?_getD];congr 2;omega
theorem set_app (p w:List Int) (i:Nat) (x:Int):(p ++ w).set (addz p.length i) x=p ++ w.set i x:=by
 rw [addz_eq,List.set_append_right _ _ (by omega)];congr 2;omega
theorem nvl_zeros:∀ {l:List Int} (m:Nat),(∀ j,m≤j→l.getD j 0=0)→nvl l=nvl (l.take m)
 | [],m,_=>by simp
 | x :: l,0,h=>by
  have h0:x=0:=h 0 (Nat.le_refl _)
  have:=nvl_zeros (l:=l) 0 fun j _=>h (j+1) (by omega)
  simp [nvl] at this;simp [nvl,h0,this]
 | x :: l,m+1,h=>by
  have:=nvl_zeros (l:=l) m fun j hj=>h (j+1) (by omega)
  simp only [List.take_succ_cons,nvl,this]
theorem lt_zeros {l:List Int} (hU:U l) (m:Nat) (h:∀ j,m≤j→l.getD j 0=0):nvl l < pw m:=by
 rw [nvl_zeros m h]
 have h1:=(hU.take m).lt
 rw [List.length_take] at h1
 by_cases hm:m≤l.length
 ·rwa [Nat.min_eq_left hm] at h1
 ·rw [Nat.min_eq_right (by omega)] at h1
  have:pw m=pw l.length * pw (m - l.length):=by rw [← pw_add];congr 1;omega
  have h2:=pw_pos (m - l.length)
  have h3:=Int.mul_le_mul_of_nonneg_left (show 1≤pw (m - l.length) by omega) (Int.le_of_lt (pw_pos l.length))
  omega
theorem zeros_lt {l:List Int} (hU:U l) (m:Nat) (h:nvl l < pw m):∀ j,m≤j→l.getD j 0=0:=by
 intro j hj
 by_cases hl:j < l.length
 ·have h1:=nvl_take_drop l j (by omega)
  have h2:=nvl_drop l j hl
  have h3:=(hU.take j).nonneg
  have h4:=(hU.drop (j+1)).nonneg
  have h5:=hU.getD j
  have h6:pw m≤pw j:=by
   have:pw j=pw m * pw (j - m):=by rw [← pw_add];congr 1;omega
   have h2:=pw_pos (j - m)
   have h3:=Int.mul_le_mul_of_nonneg_left (show 1≤pw (j - m) by omega) (Int.le_of_lt (pw_pos m))
   omega
  have h7:¬ 0 < nvl (l.drop j):=fun h0=>by
   have:=Int.mul_le_mul_of_nonneg_left (show 1≤nvl (l.drop j) by omega) (Int.le_of_lt (pw_pos j))
   omega
  omega
 ·exact getD_ge (by omega)
theorem digit_L2 {N:Nat} {p v:List Int} {q:Int} (hv:U v) (hq0:0≤q) (hq1:q < 65536) (hS:SM v.length) (W:Int) :
  ∀ (k x fuel:Nat) (w:List Int) (c br:Int),x+k=v.length+1→k < fuel→v.length+1≤w.length→U w→0≤c→c < 65536→(x=v.length+1→c=0)→(br=0∨br = -1)→(∀ j,v.length+1≤j→w.getD j 0=0) →
   nvl w=W - q * nvl (v.take x)+pw x * (c - br)→∃ (w':List Int) (br':Int),w'.length=w.length∧U w'∧(br'=0∨br' = -1)∧(∀ j,v.length+1≤j→w'.getD j 0=0)∧nvl w'=W - q * nvl v - pw (v.length+1) * br' ∧
    g_e_digit_L2 N p.length (v.length+1) v q fuel (p ++ w) c br (x:Int)=cond (decide (br' < 0)) (g_e_digit_L4 N p.length (v.length+1) v q N (p ++ w') 0 0) (g_e_digit_J5 N (p ++ w') q)
 | 0,x,fuel,w,c,br,hx,hf,hw,hU,hc0,hc1,hc2,hbr,hz,hinv=>by
  obtain ⟨g,rfl⟩:∃ g,fuel=g+1:=⟨fuel - 1,by omega⟩
  have hxe:x=v.length+1:=by omega
  subst hxe
  simp only [SM] at hS
  rw [hc2 rfl] at hinv
  refine ⟨w,br,rfl,hU,hbr,hz,?_,by rw [g_e_digit_L2,w64_succ (by omega),dec_nlt,cond_false]⟩
  rw [hinv,List.take_of_length_le (by omega),Int.zero_sub,Int.mul_neg];omega
 | k+1,x,fuel,w,c,br,hx,hf,hw,hU,hc0,hc1,hc2,hbr,hz,hinv=>by
  obtain ⟨g,rfl⟩:∃ g,fuel=g+1:=⟨fuel - 1,by omega⟩
  simp only [SM] at hS
  have hxl:x < v.length+1:=by omega
  have h1:=hU.getD x
  have hlen:(p ++ w).length=p.length+w.length:=List.length_append
  have step:∀ y:Int,0≤y→y < 4294967296→(x=v.length→y < 65536)→y=q * v.getD x 0+c →
    ∃ (w':List Int) (br':Int),w'.length=w.length∧U w'∧(br'=0∨br' = -1)∧(∀ j,v.length+1≤j→w'.getD j 0=0)∧nvl w'=W - q * nvl v - pw (v.length+1) * br' ∧
    g_e_digit_J3 N p.length (v.length+1) v q (p ++ w) br (x:Int) (g_e_digit_L2 N p.length (v.length+1) v q g) y=cond (decide (br' < 0)) (g_e_digit_L4 N p.length (v.length+1) v q N (p ++ w') 0 0) (g_e_digit_J5 N (p ++ w') q):=by
   intro y hy0 hy1 hy2 hy
   unfold g_e_digit_J3
   rw [if_pos (inb hxl),if_pos (by omega)]
   simp only [toNat_nat]
   rw [getD_app,and16_64 hy0 (by omega),w64_eq (n:=w.getD x 0) (by omega) (by omega),w64_eq (n:=y % 65536) (by omega) (by omega),w64_eq (n:=w.getD x 0 - y % 65536) (by omega) (by omega),
    w64_eq (n:=w.getD x 0 - y % 65536+br) (by omega) (by omega),wrap16,shr16_64,shr16_i64,w64_succ (by omega),set_app]
   generalize hd:w.getD x 0 - y % 65536+br=d
   have hd1:-65536≤d∧d < 65536:=by omega
   have:=digit_L2 (N:=N) (p:=p) hv hq0 hq1 hS W k (x+1) g (w.set x (d % 65536)) (y / 65536) (d / 65536) (by omega) (by omega) (by simp;omega) (hU.set _ (by omega) (by omega)) (by omega) (by omega) (fun h=>by have:=hy2 (by omega);omega) (by omega) (fun j hj=>?_) ?_
   ·rwa [List.length_set] at this
   ·rw [getD_set_ne _ _ (by omega)];exact hz j hj
   ·rw [nvl_set _ _ _ (by omega),hinv,pw_succ]
    have hV:nvl (v.take (x+1))=nvl (v.take x)+v.getD x 0 * pw x:=by
     by_cases h:x < v.length
     ·exact nvl_take_succ v x h
     ·rw [List.take_of_length_le (by omega),List.take_of_length_le (by omega),getD_ge (by omega)];simp
    rw [hV]
    have h5:d=d % 65536+65536 * (d / 65536):=by omega
    have h6:y=y % 65536+65536 * (y / 65536):=by omega
    have h7:d * pw x=(d % 65536) * pw x+65536 * (d / 65536) * pw x:=by rw [← Int.add_mul,← h5]
    have h8:y * pw x=(y % 65536) * pw x+65536 * (y / 65536) * pw x:=by rw [← Int.add_mul,← h6]
    have h9:d * pw x=w.getD x 0 * pw x - (y % 65536) * pw x+br * pw x:=by rw [← hd,Int.add_mul,Int.sub_mul]
    have h10:y * pw x=q * (v.getD x 0 * pw x)+c * pw x:=by rw [hy,Int.add_mul,Int.mul_assoc]
    grind
  rw [g_e_digit_L2,w64_succ (by omega),dec_lt hxl,cond_true]
  by_cases hxv:x < v.length
  ·have h2:=hv.getD x
   have h3:0≤q * v.getD x 0∧q * v.getD x 0≤4294836225:=mul_lt16 hq0 hq1 h2.1 h2.2
   rw [dec_lt hxv,cond_true,if_pos (inb hxv),toNat_nat]
   refine step _ ?_ ?_ (fun h=>by omega) ?_<;>rw [wrap64_eq (n:=v.getD x 0) (by omega) (by omega),wrap64_eq (n:=q * v.getD x 0) (by omega) (by omega),wrap64_eq (by omega) (by omega)]<;>omega
  ·have e:decide ((x:Int) < ((v.length:Nat):Int))=false:=by simp;omega
   rw [e,cond_false]
   refine step c hc0 (by omega) (fun _=>hc1) ?_
   rw [getD_ge (show v.length≤x by omega)];simp
theorem digit_L4 {N:Nat} {p v:List Int} {q:Int} (hv:U v) (hq0:0 < q) (hq1:q < 65536) (hS:SM v.length) (W:Int) (hV0:0≤W - (q - 1) * nvl v) (hV1:W - (q - 1) * nvl v < pw v.length) :
  ∀ (k x fuel:Nat) (w:List Int) (c:Int),x+k=v.length→k < fuel→v.length+1≤w.length→U w→0≤c→c≤1→(∀ j,v.length+1≤j→w.getD j 0=0) →
   nvl w=W - q * nvl v+pw (v.length+1)+nvl (v.take x) - pw x * c→∃ w',g_e_digit_L4 N p.length (v.length+1) v q fuel (p ++ w) c (x:Int)=some (q - 1,p ++ w')∧w'.length=w.length∧U w'∧nvl w'=W - (q - 1) * nvl v
 | 0,x,fuel,w,c,hx,hf,hw,hU,hc0,hc1,hz,hinv=>by
  obtain ⟨g,rfl⟩:∃ g,fuel=g+1:=⟨fuel - 1,by omega⟩
  have hxe:x=v.length:=by omega
  subst hxe
  simp only [SM] at hS
  have h1:=hU.getD v.length
  have hlen:(p ++ w).length=p.length+w.length:=List.length_append
  rw [List.take_length] at hinv
  rw [g_e_digit_L4,dec_nlt,cond_false,if_pos (by omega),if_pos (by omega),getD_app,set_app,wrap16_eq hc0 (by omega),wrap16]
  unfold g_e_digit_J5
  rw [wrap64_eq (by omega) (by omega),wrap16_eq (by omega) (by omega)]
  generalize hd:w.getD v.length 0+c=d
  have hU2:U (w.set v.length (d % 65536)):=hU.set _ (by omega) (by omega)
  refine ⟨_,rfl,by simp,hU2,?_⟩
  have h2:=nvl_set w v.length (d % 65536) (by omega)
  have h3:d % 65536=d - 65536 * (d / 65536):=by omega
  have h4:nvl (w.set v.length (d % 65536))=W - (q - 1) * nvl v+(1 - d / 65536) * pw (v.length+1):=by
   rw [h2,hinv,pw_succ,h3,← hd];grind
  have h5:d / 65536=0∨d / 65536=1:=by omega
  rcases h5 with h5 | h5
  ·have h6:=lt_zeros hU2 (v.length+1) (fun j hj=>by rw [getD_set_ne _ _ (by omega)];exact hz j hj)
   rw [h4,h5] at h6;omega
  ·rw [h4,h5];simp
 | k+1,x,fuel,w,c,hx,hf,hw,hU,hc0,hc1,hz,hinv=>by
  obtain ⟨g,rfl⟩:∃ g,fuel=g+1:=⟨fuel - 1,by omega⟩
  simp only [SM] at hS
  have hxl:x < v.length:=by omega
  have h1:=hU.getD x
  have h2:=hv.getD x
  have hlen:(p ++ w).length=p.length+w.length:=List.length_append
  rw [g_e_digit_L4,dec_lt hxl,cond_true,if_pos (inb (by omega)),if_pos (by omega),if_pos (inb hxl)]
  simp only [toNat_nat]
  rw [getD_app,wrap32_eq (n:=w.getD x 0) (by omega) (by omega),wrap32_eq (n:=v.getD x 0) (by omega) (by omega),wrap32_eq (n:=w.getD x 0+v.getD x 0) (by omega) (by omega),wrap32_eq (n:=c+(w.getD x 0+v.getD x 0)) (by omega) (by omega),
   wrap16,shr16_32,w64_succ (by omega),set_app]
  generalize hd:c+(w.getD x 0+v.getD x 0)=d
  obtain ⟨w',q1,q2,q3,q4⟩:=digit_L4 (N:=N) (p:=p) hv hq0 hq1 hS W hV0 hV1 k (x+1) g (w.set x (d % 65536)) (d / 65536) (by omega) (by omega) (by simp;omega) (hU.set _ (by omega) (by omega)) (by omega) (by omega)
   (fun j hj=>by rw [getD_set_ne _ _ (by omega)];exact hz j hj) (by
    rw [nvl_set _ _ _ (by omega),hinv,nvl_take_succ v x hxl,pw_succ x]
    have h5:d=d % 65536+65536 * (d / 65536):=by omega
    have h7:d * pw x=(d % 65536) * pw x+65536 * (d / 65536) * pw x:=by rw [← Int.add_mul,← h5]
    have h9:d * pw x=c * pw x+(w.getD x 0 * pw x+v.getD x 0 * pw x):=by rw [← hd,Int.add_mul,Int.add_mul]
    grind)
  exact ⟨w',q1,by simpa using q2,q3,q4⟩
end Go.Den
namespace Go.Den
open Go.Ab
structure Top (v1 v2 w0 w1 w2 A V W:Int):Prop where
 A0:0 < A
 v1a:32768≤v1
 v1b:v1 < 65536
 v2a:0≤v2
 v2b:v2 < 65536
 w0a:0≤w0
 w0b:w0 < 65536
 w1a:0≤w1
 w1b:w1 < 65536
 w2a:0≤w2
 w2b:w2 < 65536
 V0:(v1 * 65536+v2) * A≤V
 V1:V < (v1 * 65536+v2+1) * A
 W0:((w0 * 65536+w1) * 65536+w2) * A≤W
 W1:W < ((w0 * 65536+w1) * 65536+w2+1) * A
 WV:W < 65536 * V
section
variable {v1 v2 w0 w1 w2 A V W:Int}
theorem Top.Vpos (t:Top v1 v2 w0 w1 w2 A V W):65536 * A≤V:=by
 have:=t.V0;have:=t.A0;have:=t.v1a;have:=t.v2a
 have h:=Int.mul_le_mul_of_nonneg_right (show (65536:Int)≤v1 * 65536+v2 by omega) (Int.le_of_lt t.A0)
 omega
theorem lt_of_mulA {x y A:Int} (hA:0 < A) (h:x * A < y * A):x < y:=Int.lt_of_mul_lt_mul_right h (Int.le_of_lt hA)
theorem Top.w0le (t:Top v1 v2 w0 w1 w2 A V W):w0≤v1:=by
 have h1:((w0 * 65536+w1) * 65536+w2) * A < (65536 * (v1 * 65536+v2+1)) * A:=by
  rw [Int.mul_assoc 65536]
  have:=t.W0;have:=t.WV;have:=t.V1
  omega
 have h2:=lt_of_mulA t.A0 h1
 have:=t.w1a;have:=t.w2a;have:=t.v2b
 omega
theorem Top.guess (t:Top v1 v2 w0 w1 w2 A V W) {q r Q:Int} (hq:q * v1+r=w0 * 65536+w1) (h:q * v2 > r * 65536+w2) (hq0:0≤q) (hQ:Q * V≤W):Q < q:=by
 rcases Int.lt_or_le Q q with h' | h'
 ·exact h'
 ·exfalso
  have hV:=t.Vpos
  have hA:=t.A0
  have h1:q * V≤W:=Int.le_trans (Int.mul_le_mul_of_nonneg_right h' (by omega)) hQ
  have h2:q * ((v1 * 65536+v2) * A)≤q * V:=Int.mul_le_mul_of_nonneg_left t.V0 hq0
  have h3:(q * (v1 * 65536+v2)) * A < ((w0 * 65536+w1) * 65536+w2+1) * A:=by
   rw [Int.mul_assoc];have:=t.W1;omega
  have h4:=lt_of_mulA hA h3
  rw [← hq] at h4
  have h5:q * (v1 * 65536+v2)=q * v1 * 65536+q * v2:=by rw [Int.mul_add,← Int.mul_assoc]
  rw [h5] at h4
  have h6:(q * v1+r) * 65536=q * v1 * 65536+r * 65536:=Int.add_mul _ _ _
  omega
theorem Top.near (t:Top v1 v2 w0 w1 w2 A V W) {q r:Int} (hq:q * v1+r=w0 * 65536+w1) (hq0:0≤q) (hr:0≤r) (h:65536≤r∨(q≤65535∧q * v2≤r * 65536+w2)):q≤65535∧q * V < W+V:=by
 have hA:=t.A0
 have hq1:q≤65535:=by
  rcases h with h | h
  ·rcases Int.lt_or_le 65535 q with h' | h'
   ·exfalso
    have h1:=Int.mul_le_mul_of_nonneg_right (show 65536≤q by omega) (show 0≤v1 by have:=t.v1a;omega)
    have:=t.w0le;have:=t.w1b
    omega
   ·exact h'
  ·exact h.1
 refine ⟨hq1,?_⟩
 have h2:q * v2≤r * 65536+w2:=by
  rcases h with h | h
  ·have h1:q * v2≤65535 * 65535:=Int.mul_le_mul hq1 (by have:=t.v2b;omega) t.v2a (by omega)
   have:=t.w2a
   omega
  ·exact h.2
 -- q V < (q (v1 B + v2) + q) A
 have h3:q * V≤q * ((v1 * 65536+v2+1) * A):=Int.mul_le_mul_of_nonneg_left (Int.le_of_lt t.V1) hq0
 have h4:q * ((v1 * 65536+v2+1) * A)=(q * v1 * 65536+q * v2+q) * A:=by
  rw [← Int.mul_assoc];congr 1
  rw [Int.mul_add,Int.mul_add,Int.mul_one,← Int.mul_assoc]
 have h5:(q * v1 * 65536+q * v2+q) * A≤(((w0 * 65536+w1) * 65536+w2)+65535) * A:=by
  refine Int.mul_le_mul_of_nonneg_right ?_ (Int.le_of_lt hA)
  rw [← hq]
  have:(q * v1+r) * 65536=q * v1 * 65536+r * 65536:=Int.add_mul _ _ _
  omega
 have h6:(((w0 * 65536+w1) * 65536+w2)+65535) * A=((w0 * 65536+w1) * 65536+w2) * A+65535 * A:=Int.add_mul _ _ _
 have:=t.W0
 have:=t.Vpos
 omega
theorem Top.first (t:Top v1 v2 w0 w1 w2 A V W) {Q:Int} (hQ0:0≤Q) (hQ:Q * V≤W):Q≤(w0 * 65536+w1) / v1:=by
 rw [Int.le_ediv_iff_mul_le (by have:=t.v1a;omega)]
 have h1:Q * ((v1 * 65536+v2) * A)≤Q * V:=Int.mul_le_mul_of_nonneg_left t.V0 hQ0
 have h2:(Q * (v1 * 65536+v2)) * A < ((w0 * 65536+w1) * 65536+w2+1) * A:=by rw [Int.mul_assoc];have:=t.W1;omega
 have h3:=lt_of_mulA t.A0 h2
 have h4:Q * (v1 * 65536+v2)=Q * v1 * 65536+Q * v2:=by rw [Int.mul_add,← Int.mul_assoc]
 have h5:0≤Q * v2:=Int.mul_nonneg hQ0 t.v2a
 have:=t.w2b
 omega
end
theorem digit_L1 {N:Nat} {p v w:List Int} (hv:U v) (hw:U w) (hn:2≤v.length) (hwl:v.length+1≤w.length) (hS:SM (p.length+w.length)) {A V W:Int}
  (t:Top (v.getD (v.length - 1) 0) (v.getD (v.length - 2) 0) (w.getD v.length 0) (w.getD (v.length - 1) 0) (w.getD (v.length - 2) 0) A V W) {Q:Int} (hQ0:0≤Q) (hQ1:Q * V≤W) (hQ2:W < Q * V+V) :
  ∀ (k fuel:Nat) (q r:Int),k < fuel→65536≤r+32768 * (k:Int)→0≤r→r < 131072→0≤q→q < 4294967296→Q≤q→q * v.getD (v.length - 1) 0+r=w.getD v.length 0 * 65536+w.getD (v.length - 1) 0 →
   ∃ q',Q≤q'∧q'≤Q+1∧q'≤65535∧g_e_digit_L1 N p.length (v.length+1) v (p ++ w) fuel q r=g_e_digit_L2 N p.length (v.length+1) v q' N (p ++ w) 0 0 0:=by
 intro k
 simp only [SM] at hS
 have hlen:(p ++ w).length=p.length+w.length:=List.length_append
 have e2:w64 (((v.length:Nat):Int) - 2)=((v.length - 2:Nat):Int):=by rw [w64_eq (by omega) (by omega)];omega
 have e1:w64 (((v.length:Nat):Int) - 1)=((v.length - 1:Nat):Int):=by rw [w64_eq (by omega) (by omega)];omega
 have hd1:=hv.getD (v.length - 1)
 have hd2:=hv.getD (v.length - 2)
 have hu2:=hw.getD (v.length - 2)
 induction k with
 | zero =>
  intro fuel q r hf hk hr0 hr1 hq0 hq1 hQq hinv
  obtain ⟨g,rfl⟩:∃ g,fuel=g+1:=⟨fuel - 1,by omega⟩
  have hr:65536≤r:=by simpa using hk
  obtain ⟨n1,n2⟩:=t.near hinv hq0 hr0 (.inl hr)
  have hq2:q≤Q+1:=by
   rcases Int.lt_or_le (Q+1) q with h | h
   ·exfalso
    have:=Int.mul_le_mul_of_nonneg_right (show Q+2≤q by omega) (show 0≤V by have:=t.Vpos;have:=t.A0;omega)
    rw [Int.add_mul] at this;omega
   ·exact h
  have ed:decide (r < 65536)=false:=by simp;omega
  refine ⟨q,hQq,hq2,n1,?_⟩
  rw [g_e_digit_L1]
  simp only [ed,Bool.false_and,cond_false]
  rw [if_pos (fun h=>by cases h),if_pos (fun h=>by cases h),if_pos (fun h=>by cases h)]
 | succ k ih =>
  intro fuel q r hf hk hr0 hr1 hq0 hq1 hQq hinv
  obtain ⟨g,rfl⟩:∃ g,fuel=g+1:=⟨fuel - 1,by omega⟩
  rw [g_e_digit_L1,e1,e2,if_pos (fun _=>⟨by omega,by omega⟩),if_pos (fun _=>⟨by omega,by omega⟩),if_pos (fun _=>by omega)]
  rw [toNat_nat,toNat_nat,getD_app,if_pos ⟨by omega,by omega⟩,wrap64_eq (n:=v.getD (v.length - 2) 0) (by omega) (by omega),wrap64_eq (n:=w.getD (v.length - 2) 0) (by omega) (by omega),wrap64_eq (n:=v.getD (v.length - 1) 0) (by omega) (by omega)]
  have hp1:0≤q * v.getD (v.length - 2) 0:=Int.mul_nonneg hq0 hd2.1
  have hp2:q * v.getD (v.length - 2) 0≤4294967295 * 65535:=Int.mul_le_mul (by omega) (by omega) hd2.1 (by omega)
  rw [wrap64_eq hp1 (by omega),shl16_64 hr0 (by omega),or16_64 hr0 (by omega) hu2.1 hu2.2]
  have hV:=t.Vpos
  have hA:=t.A0
  by_cases hex:65536≤r∨(q≤65535∧q * v.getD (v.length - 2) 0≤r * 65536+w.getD (v.length - 2) 0)
  ·obtain ⟨n1,n2⟩:=t.near hinv hq0 hr0 hex
   have hq2:q≤Q+1:=by
    rcases Int.lt_or_le (Q+1) q with h | h
    ·exfalso
     have:=Int.mul_le_mul_of_nonneg_right (show Q+2≤q by omega) (show 0≤V by omega)
     rw [Int.add_mul] at this;omega
    ·exact h
   have hc:cond (decide (r < 65536)) (cond (decide (q > 65535)) true (decide (q * v.getD (v.length - 2) 0 > r * 65536+w.getD (v.length - 2) 0))) false=false:=by
    rcases hex with h | ⟨h1,h2⟩
    ·rw [decide_eq_false (show ¬ r < 65536 by omega)];rfl
    ·rw [decide_eq_false (show ¬ q > 65535 by omega),cond_false,decide_eq_false (show ¬ q * v.getD (v.length - 2) 0 > r * 65536+w.getD (v.length - 2) 0 by omega)]
     cases decide (r < 65536)<;>rfl
   exact ⟨q,hQq,hq2,n1,by rw [hc,cond_false]⟩
  ·have hr2:r < 65536:=by omega
   have hqQ:Q < q:=by
    by_cases h65:65535 < q
    ·rcases Int.lt_or_le Q q with h | h
     ·exact h
     ·exfalso
      have:=Int.mul_le_mul_of_nonneg_right (show 65536≤Q by omega) (show 0≤V by omega)
      have:=t.WV
      omega
    ·exact t.guess hinv (by omega) hq0 hQ1
   have hc:cond (decide (r < 65536)) (cond (decide (q > 65535)) true (decide (q * v.getD (v.length - 2) 0 > r * 65536+w.getD (v.length - 2) 0))) false=true:=by
    rw [decide_eq_true hr2,cond_true]
    by_cases h65:65535 < q
    ·rw [decide_eq_true (show q > 65535 by omega)];rfl
    ·rw [decide_eq_false (show ¬ q > 65535 by omega),cond_false,decide_eq_true];omega
   have hv1:=t.v1a
   rw [hc,cond_true,wrap64_eq (n:=q - 1) (by omega) (by omega),wrap64_eq (by omega) (by omega)]
   refine ih g _ _ (by omega) (by omega) (by omega) (by omega) (by omega) (by omega) (by omega) ?_
   rw [Int.sub_mul];omega
theorem digit_eq {N:Nat} {p v w:List Int} (hv:U v) (hw:U w) (hn:2≤v.length) (hwl:v.length+1≤w.length) (hS:SM (p.length+w.length)) (hN:v.length+3 < N) (hb:32768≤v.getD (v.length - 1) 0) (hz:∀ j,v.length+1≤j→w.getD j 0=0)
  (hlt:nvl w < 65536 * nvl v):∃ Q w',g_e_digit N p.length (v.length+1) v (p ++ w)=some (Q,p ++ w')∧w'.length=w.length∧U w'∧0≤Q∧Q < 65536∧nvl w'=nvl w - Q * nvl v∧nvl w' < nvl v:=by
 have hS':=hS
 simp only [SM] at hS'
 have hlen:(p ++ w).length=p.length+w.length:=List.length_append
 have e1:w64 (((v.length:Nat):Int) - 1)=((v.length - 1:Nat):Int):=by rw [w64_eq (by omega) (by omega)];omega
 obtain ⟨n,hnn⟩:∃ n,v.length=n+2:=⟨v.length - 2,by omega⟩
 have hA:=pw_pos n
 -- the top digits
 have hv2:nvl v=nvl (v.take n)+pw n * (v.getD n 0+65536 * v.getD (n+1) 0):=by
  rw [nvl_take_drop v n (by omega),nvl_drop v n (by omega),nvl_drop v (n+1) (by omega),List.drop_eq_nil_of_le (by omega)];simp [nvl]
 have hw2:nvl w=nvl (w.take n)+pw n * (w.getD n 0+65536 * (w.getD (n+1) 0+65536 * w.getD (n+2) 0)):=by
  have h3:nvl (w.drop (n+3))=0:=by
   have:=nvl_zeros (l:=w.drop (n+3)) 0 fun j _=>by
    have:=hz (n+3+j) (by omega)
    rw [List.getD_eq_getElem?_getD] at this ⊢
    rw [List.getElem?_drop];exact this
   simpa [nvl] using this
  rw [nvl_take_drop w n (by omega),nvl_drop w n (by omega),nvl_drop w (n+1) (by omega),nvl_drop w (n+2) (by omega),h3];simp
 have hvt:=(hv.take n).lt
 have hvt0:=(hv.take n).nonneg
 have hwt:=(hw.take n).lt
 have hwt0:=(hw.take n).nonneg
 rw [List.length_take,Nat.min_eq_left (by omega)] at hvt hwt
 have d1:=hv.getD (n+1)
 have d2:=hv.getD n
 have u0:=hw.getD (n+2)
 have u1:=hw.getD (n+1)
 have u2:=hw.getD n
 have hb':32768≤v.getD (n+1) 0:=by rw [hnn] at hb;exact hb
 have t:Top (v.getD (v.length - 1) 0) (v.getD (v.length - 2) 0) (w.getD v.length 0) (w.getD (v.length - 1) 0) (w.getD (v.length - 2) 0) (pw n) (nvl v) (nvl w):=by
  have x1:v.length - 1=n+1:=by omega
  have x2:v.length - 2=n:=by omega
  rw [x1,x2,hnn]
  refine ⟨hA,hb',d1.2,d2.1,d2.2,u0.1,u0.2,u1.1,u1.2,u2.1,u2.2,?_,?_,?_,?_,hlt⟩
  ·rw [hv2];grind
  ·rw [hv2];grind
  ·rw [hw2];grind
  ·rw [hw2];grind
 have hVp:0 < nvl v:=by have:=t.Vpos;omega
 obtain ⟨Q,hQdef⟩:∃ Q,Q=nvl w / nvl v:=⟨_,rfl⟩
 have hQ0:0≤Q:=by rw [hQdef];exact Int.ediv_nonneg hw.nonneg (by omega)
 have hQ1:Q * nvl v≤nvl w:=by rw [hQdef];exact Int.ediv_mul_le _ (by omega)
 have hQ2:nvl w < Q * nvl v+nvl v:=by
  have:=Int.lt_ediv_add_one_mul_self (nvl w) hVp
  rw [hQdef];rw [Int.add_mul] at this;omega
 have hQ3:Q < 65536:=by
  rcases Int.lt_or_le Q 65536 with h | h
  ·exact h
  ·exfalso;have:=Int.mul_le_mul_of_nonneg_right h (Int.le_of_lt hVp);omega
 have hVlt:nvl v < pw v.length:=hv.lt
 have hK:∀ q,Q≤q→q≤Q+1→q≤65535→∃ w',g_e_digit_L2 N p.length (v.length+1) v q N (p ++ w) 0 0 0=some (Q,p ++ w')∧w'.length=w.length∧U w'∧nvl w'=nvl w - Q * nvl v:=by
  intro q hq0 hq1 hq2
  obtain ⟨w',br,q1,q2,q3,q4,q5,q6⟩:=digit_L2 (N:=N) (p:=p) hv (show 0≤q by omega) (show q < 65536 by omega) (by simp only [SM];omega) (nvl w) (v.length+1) 0 N w 0 0 (by omega) (by omega) hwl hw (by omega) (by omega) (fun h=>rfl) (.inl rfl) hz
   (by rw [List.take_zero];simp [nvl])
  have h1:=q2.nonneg
  have h2:=lt_zeros q2 _ q4
  have hpv:pw (v.length+1)=65536 * pw v.length:=pw_succ _
  rw [show ((0:Nat):Int)=0 from rfl] at q6
  rw [q6]
  rcases q3 with rfl | rfl
  ·have hqQ:q=Q:=by
    rcases Int.lt_or_le Q q with h | h
    ·exfalso
     have:=Int.mul_le_mul_of_nonneg_right (show Q+1≤q by omega) (Int.le_of_lt hVp)
     rw [Int.add_mul] at this
     simp at q5
     omega
    ·omega
   subst hqQ
   refine ⟨w',?_,q1,q2,by simpa using q5⟩
   rw [decide_eq_false (by decide),cond_false]
   unfold g_e_digit_J5
   rw [wrap16_eq hQ0 (by omega)]
  ·have hqQ:q=Q+1:=by
    rcases Int.lt_or_le Q q with h | h
    ·omega
    ·exfalso
     have:q=Q:=by omega
     subst this
     rw [Int.mul_neg,Int.mul_one] at q5
     omega
   subst hqQ
   rw [decide_eq_true (by decide),cond_true]
   have hQV:(Q+1 - 1) * nvl v=Q * nvl v:=by rw [Int.add_sub_cancel]
   obtain ⟨w2,r1,r2,r3,r4⟩:=digit_L4 (N:=N) (p:=p) hv (show 0 < Q+1 by omega) (show Q+1 < 65536 by omega) (by simp only [SM];omega) (nvl w) (by rw [hQV];omega) (by rw [hQV];omega) v.length 0 N w' 0 (by omega) (by omega) (by omega) q2 (by omega) (by omega) q4
    (by rw [q5,List.take_zero];simp [nvl])
   rw [hQV] at r4
   refine ⟨w2,?_,by omega,r3,r4⟩
   rw [show ((0:Nat):Int)=0 from rfl] at r1
   rw [r1,Int.add_sub_cancel]
 unfold g_e_digit
 rw [e1,if_pos ⟨by omega,by omega⟩,if_pos (by omega),if_pos ⟨by omega,by omega⟩,if_pos ⟨by omega,by omega⟩,toNat_nat]
 have b1:32768≤v.getD (v.length - 1) 0:=hb
 have b2:=hv.getD (v.length - 1)
 have c1:=hw.getD v.length
 have c2:=hw.getD (v.length - 1)
 rw [wrap64_eq (n:=v.getD (v.length - 1) 0) (by omega) (by omega),if_pos (by omega),getD_app,getD_app,wrap64_eq (n:=w.getD v.length 0) (by omega) (by omega),wrap64_eq (n:=w.getD (v.length - 1) 0) (by omega) (by omega),shl16_64 (by omega) (by omega),or16_64 (by omega) (by omega) (by omega) (by omega)]
 have hT0:0≤w.getD v.length 0 * 65536+w.getD (v.length - 1) 0:=by omega
 have hT1:w.getD v.length 0 * 65536+w.getD (v.length - 1) 0 < 4294967296:=by omega
 rw [Int.tdiv_eq_ediv_of_nonneg hT0,Int.tmod_eq_emod_of_nonneg hT0]
 have hm0:=Int.emod_nonneg (w.getD v.length 0 * 65536+w.getD (v.length - 1) 0) (show v.getD (v.length - 1) 0≠0 by omega)
 have hm1:=Int.emod_lt_of_pos (w.getD v.length 0 * 65536+w.getD (v.length - 1) 0) (show 0 < v.getD (v.length - 1) 0 by omega)
 have hd0:=Int.ediv_nonneg hT0 (show 0≤v.getD (v.length - 1) 0 by omega)
 have hda:=Int.mul_ediv_add_emod (w.getD v.length 0 * 65536+w.getD (v.length - 1) 0) (v.getD (v.length - 1) 0)
 have hdl:(w.getD v.length 0 * 65536+w.getD (v.length - 1) 0) / v.getD (v.length - 1) 0≤w.getD v.length 0 * 65536+w.getD (v.length - 1) 0:=Int.ediv_le_self _ hT0
 rw [wrap64_eq hd0 (by omega)]
 obtain ⟨q,h1,h2,h3,h4⟩:=digit_L1 (N:=N) (p:=p) hv hw hn hwl hS t hQ0 hQ1 hQ2 2 N ((w.getD v.length 0 * 65536+w.getD (v.length - 1) 0) / v.getD (v.length - 1) 0) ((w.getD v.length 0 * 65536+w.getD (v.length - 1) 0) % v.getD (v.length - 1) 0)
  (by omega) (by omega) hm0 (by omega) hd0 (by omega) (t.first hQ0 hQ1) (by rw [Int.mul_comm];exact hda)
 rw [h4]
 obtain ⟨w',k1,k2,k3,k4⟩:=hK q h1 h2 h3
 exact ⟨Q,w',k1,k2,k3,hQ0,hQ3,k4,by omega⟩
end Go.Den
namespace Go.Den
open Go.Ab
theorem or16_32' {a b:Int} (ha:0≤a) (ha2:a < 65536) (hb:0≤b) (hb2:b < 65536):orI .u32 b (a * 65536)=a * 65536+b:=by
 have h:=or16_32 ha ha2 hb hb2
 unfold orI at h ⊢
 rw [BitVec.or_comm];exact h
theorem shr_32 {n:Int} {s:Nat} (hs:s≤15):shrI .u32 n (s:Int)=n / 2 ^ s:=by
 unfold shrI
 have:min ((s:Nat):Int).toNat IntKind.u32.bits=s:=by show min s 32=s;omega
 rw [this,Int.fdiv_eq_ediv_of_nonneg _ (Int.le_of_lt (Int.pow_pos (by decide)))]
theorem divide_L2 {N:Nat} {b q u:List Int} {s:Nat} (hs:s≤15) (hU:U u) (hb:b.length+1≤u.length) (hS:SM u.length) (hz:u.getD b.length 0=0) (h0:u.getD 0 0 % 2 ^ s=0) (hq:U q) (hqN:q.length < N) (hqS:SM q.length) (hN:b.length < N) :
  ∀ (k x fuel:Nat) (r:List Int),x+k=b.length→k < fuel→r.length=b.length→U r→(∀ j,x≤j→r.getD j 0=0)→2 ^ s * nvl r=nvl (u.take x)+u.getD x 0 % 2 ^ s * pw x →
   ∃ R:List Int,g_e_divide_L2 N b (s:Int) q u fuel r (x:Int)=some (lm (nvl q).toNat,lm (nvl R).toNat)∧U R∧2 ^ s * nvl R=nvl (u.take b.length)
 | 0,x,fuel,r,hx,hf,hr,hUr,hzr,hinv=>by
  obtain ⟨g,rfl⟩:∃ g,fuel=g+1:=⟨fuel - 1,by omega⟩
  have hxe:x=b.length:=by omega
  subst hxe
  simp only [SM] at hS hqS
  have hp:(2:Int) ^ s≠0:=Int.ne_of_gt (Int.pow_pos (by decide))
  refine ⟨r,?_,hUr,?_⟩
  ·rw [g_e_divide_L2,Nat.sub_zero,dec_nlt,cond_false,exact_trim hq hqN (by omega),Option.bind_some,exact_trim hUr (by omega) (by omega),Option.bind_some]
  ·rw [hinv,hz];simp
 | k+1,x,fuel,r,hx,hf,hr,hUr,hzr,hinv=>by
  obtain ⟨g,rfl⟩:∃ g,fuel=g+1:=⟨fuel - 1,by omega⟩
  simp only [SM] at hS
  have hxl:x < b.length:=by omega
  have h1:=hU.getD x
  have h2:=hU.getD (x+1)
  rw [g_e_divide_L2,Nat.sub_zero,dec_lt hxl,cond_true,if_pos (inb (by omega)),w64_succ (by omega),if_pos (inb (by omega)),if_pos (by omega),if_pos (inb (by omega))]
  simp only [toNat_nat]
  rw [wrap32_eq (n:=u.getD x 0) (by omega) (by omega),wrap32_eq (n:=u.getD (x+1) 0) (by omega) (by omega),shl16_32 h2.1 h2.2,or16_32' h2.1 h2.2 h1.1 h1.2,shr_32 hs,wrap16]
  generalize hae:u.getD x 0=a at *
  generalize ha':u.getD (x+1) 0=a' at *
  -- 65536 = P c
  obtain ⟨P,hP⟩:∃ P:Int,P=2 ^ s:=⟨_,rfl⟩
  obtain ⟨c,hc⟩:∃ c:Int,c=2 ^ (16 - s):=⟨_,rfl⟩
  have hPc:(65536:Int)=P * c:=by rw [hP,hc,← Int.pow_add,show s+(16 - s)=16 by omega];decide
  have hP0:0 < P:=by rw [hP];exact Int.pow_pos (by decide)
  have hc0:0 < c:=by rw [hc];exact Int.pow_pos (by decide)
  rw [← hP] at hinv ⊢
  have e1:(a' * 65536+a) / P=a' * c+a / P:=by
   rw [hPc,show a' * (P * c)+a=a+(a' * c) * P by rw [Int.mul_comm P c,← Int.mul_assoc];omega,Int.add_mul_ediv_right _ _ (by omega)];omega
  have e2:a'=P * (a' / P)+a' % P:=(Int.mul_ediv_add_emod a' P).symm
  have l0:=Int.emod_nonneg a' (show P≠0 by omega)
  have l1:=Int.emod_lt_of_pos a' hP0
  have m0:0≤a / P:=Int.ediv_nonneg h1.1 (by omega)
  have m1:a / P < c:=Int.ediv_lt_of_lt_mul hP0 (by rw [Int.mul_comm,← hPc];exact h1.2)
  have e3:(a' * 65536+a) / P % 65536=a' % P * c+a / P:=by
   rw [e1]
   have h3:a' * c=(a' / P) * 65536+a' % P * c:=by
    have:a' * c=(P * (a' / P)+a' % P) * c:=by rw [← e2]
    rw [this,Int.add_mul,hPc];grind
   have h4:a' % P * c+a / P < 65536:=by
    have:=Int.mul_le_mul_of_nonneg_right (show a' % P+1≤P by omega) (Int.le_of_lt hc0)
    rw [Int.add_mul,← hPc] at this;omega
   have h5:0≤a' % P * c:=Int.mul_nonneg l0 (Int.le_of_lt hc0)
   rw [h3];omega
  rw [e3]
  have h4:a' % P * c+a / P < 65536:=by
   have:=Int.mul_le_mul_of_nonneg_right (show a' % P+1≤P by omega) (Int.le_of_lt hc0)
   rw [Int.add_mul,← hPc] at this;omega
  have h5:0≤a' % P * c:=Int.mul_nonneg l0 (Int.le_of_lt hc0)
  have:=divide_L2 (N:=N) (s:=s) hs hU hb (by simp only [SM];omega) hz h0 hq hqN hqS hN k (x+1) g (r.set x (a' % P * c+a / P)) (by omega) (by omega) (by simp [hr]) (hUr.set _ (by omega) h4) (fun j hj=>by rw [getD_set_ne _ _ (by omega)];exact hzr j (by omega))
   (by
    rw [← hP,nvl_set _ _ _ (by omega),hzr x (Nat.le_refl _),nvl_take_succ u x (by omega),Int.sub_zero,ha',pw_succ,Int.mul_add,hinv]
    have e4:a=P * (a / P)+a % P:=(Int.mul_ediv_add_emod a P).symm
    rw [hae]
    have e6:P * ((a' % P * c+a / P) * pw x)=a' % P * (P * c) * pw x+P * (a / P) * pw x:=by grind
    rw [e6,← hPc]
    grind)
  rw [← hP] at this
  exact this
theorem take_eq_of_nvl {l:List Int} (hU:U l) (n:Nat) (h:nvl l < pw n):nvl (l.take n)=nvl l:=(nvl_zeros n (zeros_lt hU n h)).symm
theorem divide_L1 {N:Nat} {b o2:List Int} {s:Nat} (hs:s≤15) {v:List Int} (hv:v=(o2.take b.length).drop 0) (hvU:U v) (hvl:v.length=b.length) (hn:2≤b.length) (hb:32768≤v.getD (b.length - 1) 0) (hob:b.length≤o2.length)
  {Lu:Nat} (hLu:b.length+1≤Lu) (hS:SM Lu) (hN:Lu+3 < N) {A B:Int} (hA:0≤A) (hB:0 < B) (hV:nvl v=B * 2 ^ s) :
  ∀ (k fuel:Nat) (q u:List Int),k≤Lu - b.length→k < fuel→u.length=Lu→U u→q.length=Lu - b.length→U q→(∀ j,j < k→q.getD j 0=0)→nvl (u.drop k) < nvl v→A * 2 ^ s=nvl q * nvl v+nvl u →
   g_e_divide_L1 N b (s:Int) o2 fuel q u ((k:Int) - 1)=some (lm (A / B).toNat,lm (A % B).toNat)
 | 0,fuel,q,u,hk,hf,hu,hU,hq,hqU,hqz,hlt,hinv=>by
  obtain ⟨g,rfl⟩:∃ g,fuel=g+1:=⟨fuel - 1,by omega⟩
  simp only [SM] at hS
  have e:decide ((((0:Nat):Int) - 1)≥0)=false:=rfl
  rw [g_e_divide_L1,e,cond_false,Nat.sub_zero,if_pos (by omega)]
  rw [List.drop_zero] at hlt
  have hp:(0:Int) < 2 ^ s:=Int.pow_pos (by decide)
  have hvp:nvl v < pw b.length:=by rw [← hvl];exact hvU.lt
  have hz:=zeros_lt hU b.length (by omega)
  -- nvl u is a multiple of 2^s
  have hR:nvl u=(A - nvl q * B) * 2 ^ s:=by rw [Int.sub_mul,hinv,hV];grind
  have h0:u.getD 0 0 % 2 ^ s=0:=by
   have h1:=nvl_drop u 0 (by omega)
   rw [List.drop_zero] at h1
   obtain ⟨c,hc⟩:∃ c:Int,c=2 ^ (16 - s):=⟨_,rfl⟩
   have hPc:(65536:Int)=2 ^ s * c:=by rw [hc,← Int.pow_add,show s+(16 - s)=16 by omega];decide
   have h2:u.getD 0 0=(A - nvl q * B - c * nvl (u.drop (0+1))) * 2 ^ s:=by
    have:u.getD 0 0=nvl u - 65536 * nvl (u.drop (0+1)):=by omega
    rw [this,hR,hPc];grind
   rw [h2];exact Int.mul_emod_left _ _
  obtain ⟨R,r1,r2,r3⟩:=divide_L2 (N:=N) (b:=b) (q:=q) hs hU (by omega) (by simp only [SM];omega) (hz _ (Nat.le_refl _)) h0 hqU (by omega) (by simp only [SM];omega) (by omega) b.length 0 N (List.replicate b.length 0) (by omega) (by omega) (by simp) (U.replicate _) (fun j _=>getD_replicate _ j)
   (by rw [nvl_replicate,h0];simp [nvl])
  rw [show ((0:Nat):Int)=0 from rfl] at r1
  rw [r1]
  rw [← nvl_zeros b.length hz,hR,Int.mul_comm] at r3
  have r4:nvl R=A - nvl q * B:=Int.eq_of_mul_eq_mul_right (Int.ne_of_gt hp) r3
  have r5:=r2.nonneg
  have r6:nvl R < B:=by
   refine lt_of_mulA hp ?_
   rw [r4,← hR,← hV];exact hlt
  have hq1:A / B=nvl q:=by
   rw [show A=nvl R+nvl q * B by omega,Int.add_mul_ediv_right _ _ (by omega),Int.ediv_eq_zero_of_lt r5 r6];omega
  have hq2:A % B=nvl R:=by
   rw [show A=nvl R+nvl q * B by omega,Int.add_mul_emod_self_right,Int.emod_eq_of_lt r5 r6]
  rw [hq1,hq2]
 | k+1,fuel,q,u,hk,hf,hu,hU,hq,hqU,hqz,hlt,hinv=>by
  obtain ⟨g,rfl⟩:∃ g,fuel=g+1:=⟨fuel - 1,by omega⟩
  simp only [SM] at hS
  have e:(((k+1:Nat):Int) - 1)=(k:Int):=by omega
  have e0:decide ((k:Int)≥0)=true:=by simp
  have e1:w64 ((w64 ((k:Int)+((b.length:Nat):Int)))+1)=((k+b.length+1:Nat):Int):=by rw [w64_eq (n:=(k:Int)+((b.length:Nat):Int)) (by omega) (by omega),w64_eq (by omega) (by omega)];omega
  rw [e,g_e_divide_L1,e0,cond_true,Nat.sub_zero,e1]
  simp only [toNat_nat]
  rw [if_pos ⟨by omega,by omega⟩,if_pos (by omega),if_pos (by omega),if_pos ⟨Nat.zero_le _,hob⟩,← hv]
  have hp:u.take k ++ u.drop k=u:=List.take_append_drop _ _
  have hpl:(u.take k).length=k:=by rw [List.length_take];omega
  have hwl:(u.drop k).length=Lu - k:=by rw [List.length_drop,hu]
  have hd:=nvl_drop u k (by omega)
  have hu1:=hU.getD k
  have hvp:nvl v < pw b.length:=by rw [← hvl];exact hvU.lt
  have hw1:nvl (u.drop k) < 65536 * nvl v:=by omega
  have hw2:nvl (u.drop k) < pw (v.length+1):=by rw [pw_succ,hvl];omega
  obtain ⟨Q,w',d1,d2,d3,d4,d5,d6,d7⟩:=digit_eq (N:=N) (p:=u.take k) (v:=v) (w:=u.drop k) hvU (hU.drop k) (by omega) (by omega) (by simp only [SM];omega) (by omega) (by rw [hvl];exact hb) (zeros_lt (hU.drop k) _ hw2) hw1
  rw [hpl,hp,hvl] at d1
  rw [show k+b.length+1 - k=b.length+1 by omega,d1,Option.bind_some]
  have hul:(u.take k ++ w').length=u.length:=by rw [List.length_append,hpl,d2,hwl,hu];omega
  simp only [hul]
  rw [if_pos trivial,if_pos (inb (by omega)),w64_eq (by omega) (by omega)]
  have hne:∀ j,j < k→(q.set k Q).getD j 0=0:=fun j hj=>by rw [getD_set_ne _ _ (by omega)];exact hqz j (by omega)
  refine divide_L1 (A:=A) hs hv hvU hvl hn hb hob hLu (by simp only [SM];omega) hN hA hB hV k g _ _ (by omega) (by omega) (by rw [hul,hu]) ((hU.take k).append d3) (by simp [hq]) (hqU.set _ d4 d5) hne ?_ ?_
  ·have:(u.take k ++ w').drop k=w':=by rw [List.drop_append_of_le_length (by omega),List.drop_of_length_le (by omega)];rfl
   rw [this];exact d7
  ·have h1:=nvl_append (u.take k) w'
   have h2:=nvl_take_drop u k (by omega)
   rw [hpl] at h1
   rw [h1,nvl_set _ _ _ (by omega),hqz k (by omega),d6,hinv,h2];grind
theorem sub_mod_div {A B q r:Nat} (h:A=q * B+r) (hr:r < B):A / B=q∧A % B=r:=by
 subst h
 have hB:0 < B:=by omega
 exact ⟨by rw [Nat.mul_comm,Nat.mul_add_div hB,Nat.div_eq_of_lt hr];rfl,by rw [Nat.mul_comm,Nat.mul_add_mod,Nat.mod_eq_of_lt hr]⟩
theorem divide_lm {N a b:Nat} (hb:b≠0) (hs:SM ((lm a).length+(lm b).length+2)) (hN:(lm a).length+(lm b).length+10 < N):g_e_divide N (lm a) (lm b)=some (lm (a / b),lm (a % b)):=by
 have hs':=hs
 simp only [SM] at hs'
 unfold g_e_divide
 obtain ⟨c,hc,hc1,hc2,-⟩:=compare_eq (N:=N) (a:=a) (b:=b) (by omega) (by simp only [SM];omega) (by simp only [SM];omega)
 rw [hc,Option.bind_some]
 by_cases hab:a < b
 ·rw [decide_eq_true (hc1.2 hab),cond_true]
  unfold g_slices_Clone_uint16_uint16
  rw [if_pos (by omega),Option.bind_some,Nat.div_eq_of_lt hab,Nat.mod_eq_of_lt hab,lm_zero];rfl
 ·rw [decide_eq_false (fun h=>hab (hc1.1 h)),cond_false]
  have hbl:=lm_len_pos.2 hb
  cases h1:(((lm b).length:Nat):Int) == 1 with
  | true =>
   have h1:(lm b).length=1:=by have h1:=eq_of_beq h1;omega
   have hb1:b < 65536:=by have:=(lm_len_le (n:=b) (k:=1)).1 (by omega);simp [pw] at this;omega
   have e:(lm b).getD 0 0=(b:Int):=by
    rw [lm_pos hb];show ((b % 65536:Nat):Int)=b;omega
   rw [cond_true,if_pos (by omega),e,short_lm (by omega) hb1 (by simp only [SM];omega) (by omega),Option.bind_some]
   have hm:a % b < 65536:=Nat.lt_of_lt_of_le (Nat.mod_lt _ (by omega)) (by omega)
   rw [exact_trim (U.one (by omega) (by omega)) (by simp;omega) (by simp),Option.bind_some,nvl_one,Int.toNat_natCast]
  | false =>
   have h2:2≤(lm b).length:=by simp at h1;omega
   rw [cond_false]
   obtain ⟨lb,x,hlb,hx0,hlU,hx1,hx2⟩:=lm_last hb
   have hll:(lm b).length=lb.length+1:=by rw [hlb];simp
   have e1:w64 ((((lm b).length:Nat):Int) - 1)=((lb.length:Nat):Int):=by rw [w64_eq (by omega) (by omega)];omega
   rw [e1,if_pos (by omega),toNat_nat]
   have ex:(lm b).getD lb.length 0=x:=by rw [hlb];simp [List.getD]
   rw [ex]
   obtain ⟨X,rfl⟩:=Int.eq_ofNat_of_zero_le hx1
   obtain ⟨s,s1,s2,s3,s4⟩:=lz_eq (N:=N) (x:=X) (by omega) (by omega)
   rw [s2,Option.bind_some]
   obtain ⟨o1,p1,p2,p3,p4,p5⟩:=shifted_eq (N:=N) (a:=lm a) (U_lm a) s1 (by simp only [SM];omega) (by omega)
   obtain ⟨o2,q1,q2,q3,q4,q5⟩:=shifted_eq (N:=N) (a:=lm b) (U_lm b) s1 (by simp only [SM];omega) (by omega)
   rw [p1,Option.bind_some,q1,Option.bind_some,if_pos ⟨Nat.zero_le _,by omega⟩,Nat.sub_zero]
   rw [nvl_lm] at p4 q4
   have hal:(lm b).length≤(lm a).length:=lm_len_mono (by omega)
   have e2:w64 (((o1.length:Nat):Int) - (((lm b).length:Nat):Int))=((o1.length - (lm b).length:Nat):Int):=by rw [w64_eq (by omega) (by omega)];omega
   rw [e2,if_pos (by omega)]
   -- the divisor, shifted
   have hp2:(0:Int) < 2 ^ s:=Int.pow_pos (by decide)
   have hbv:(b:Int)=nvl lb+pw lb.length * X:=by
    have:=nvl_lm b
    rw [hlb,nvl_append,nvl_one] at this;omega
   have hs3:(32768:Int)≤X * 2 ^ s:=by
    have e:((X * 2 ^ s:Nat):Int)=(X:Int) * 2 ^ s:=by simp
    omega
   have hs4:(X:Int) * 2 ^ s+2 ^ s≤65536:=by
    have e:((X * 2 ^ s:Nat):Int)=(X:Int) * 2 ^ s:=by simp
    have hdv:(65536:Nat)=2 ^ (16 - s) * 2 ^ s:=by rw [← Nat.pow_add,show 16 - s+s=16 by omega]
    have h9:X < 2 ^ (16 - s):=by
     rw [hdv] at s4;exact Nat.lt_of_mul_lt_mul_right s4
    have h10:=Nat.mul_le_mul_right (2 ^ s) (show X+1≤2 ^ (16 - s) by omega)
    rw [← hdv,Nat.add_mul] at h10
    have e3:((2 ^ s:Nat):Int)=(2:Int) ^ s:=by simp
    omega
   have hlbt:=hlU.lt
   have hlb0:=hlU.nonneg
   have hV:(b:Int) * 2 ^ s=nvl lb * 2 ^ s+pw lb.length * (X * 2 ^ s):=by rw [hbv,Int.add_mul,Int.mul_assoc]
   have hV1:(b:Int) * 2 ^ s < pw (lm b).length:=by
    rw [hll,pw_succ,hV]
    have h5:=Int.mul_le_mul_of_nonneg_right (show nvl lb+1≤pw lb.length by omega) (Int.le_of_lt hp2)
    have h6:=Int.mul_le_mul_of_nonneg_left hs4 (Int.le_of_lt (pw_pos lb.length))
    rw [Int.mul_add] at h6
    rw [Int.add_mul] at h5
    have:=pw_pos lb.length
    omega
   have hV2:32768 * pw lb.length≤(b:Int) * 2 ^ s:=by
    rw [hV]
    have h6:=Int.mul_le_mul_of_nonneg_left hs3 (Int.le_of_lt (pw_pos lb.length))
    have h7:0≤nvl lb * 2 ^ s:=Int.mul_nonneg hlb0 (Int.le_of_lt hp2)
    rw [Int.mul_comm 32768];omega
   have hvU:U ((o2.take (lm b).length).drop 0):=by rw [List.drop_zero];exact q3.take _
   have hvl:((o2.take (lm b).length).drop 0).length=(lm b).length:=by simp;omega
   have hvv:nvl ((o2.take (lm b).length).drop 0)=(b:Int) * 2 ^ s:=by rw [List.drop_zero,take_eq_of_nvl q3 _ (by rw [q4];exact hV1),q4]
   have htop:32768≤((o2.take (lm b).length).drop 0).getD ((lm b).length - 1) 0:=by
    have h5:=nvl_take_succ ((o2.take (lm b).length).drop 0) lb.length (by omega)
    have h6:=(hvU.take lb.length).lt
    rw [List.take_of_length_le (by omega),hvv] at h5
    rw [List.length_take,Nat.min_eq_left (by omega)] at h6
    rw [show (lm b).length - 1=lb.length by omega]
    rcases Int.lt_or_le (((o2.take (lm b).length).drop 0).getD lb.length 0) 32768 with h | h
    ·exfalso
     have:=Int.mul_le_mul_of_nonneg_right (show ((o2.take (lm b).length).drop 0).getD lb.length 0≤32767 by omega) (Int.le_of_lt (pw_pos lb.length))
     have:=pw_pos lb.length
     omega
    ·exact h
   have e3:w64 (((o1.length - (lm b).length:Nat):Int) - 1)=((o1.length - (lm b).length:Nat):Int) - 1:=w64_eq (by omega) (by omega)
   rw [e3,toNat_nat]
   have hdrop:nvl (o1.drop (o1.length - (lm b).length)) < nvl ((o2.take (lm b).length).drop 0):=by
    -- the top n digits: the last one is below 2 ^ s
    have hl:(o1.drop (o1.length - (lm b).length)).length=(lm b).length:=by rw [List.length_drop];omega
    have hUd:=q3
    have hU1:=p3.drop (o1.length - (lm b).length)
    have h5:=nvl_take_succ (o1.drop (o1.length - (lm b).length)) lb.length (by omega)
    rw [List.take_of_length_le (by omega)] at h5
    have h6:=(hU1.take lb.length).lt
    rw [List.length_take,Nat.min_eq_left (by omega)] at h6
    have h7:(o1.drop (o1.length - (lm b).length)).getD lb.length 0=o1.getD (lm a).length 0:=by
     rw [List.getD_eq_getElem?_getD,List.getElem?_drop,List.getD_eq_getElem?_getD];congr 2;omega
    rw [h7] at h5
    rw [hvv]
    have h8:o1.getD (lm a).length 0+1≤32768:=by
     have:(2:Int) ^ s≤32768:=by
      have h:=Nat.pow_le_pow_right (n:=2) (by decide) s1
      have e:((2 ^ s:Nat):Int)=(2:Int) ^ s:=by simp
      omega
     omega
    have h9:=Int.mul_le_mul_of_nonneg_right h8 (Int.le_of_lt (pw_pos lb.length))
    rw [Int.add_mul] at h9
    omega
   rw [divide_L1 (N:=N) (A:=(a:Int)) (B:=(b:Int)) s1 rfl hvU hvl h2 htop (by omega) (Lu:=o1.length) (by omega) (by simp only [SM];omega) (by omega) (by omega) (by omega) hvv (o1.length - (lm b).length) N _ o1 (Nat.le_refl _) (by omega) rfl p3 (by simp) (U.replicate _)
    (fun j _=>getD_replicate _ j) hdrop (by rw [nvl_replicate,p4];simp)]
   rfl
end Go.Den
namespace Go.Den
open Go.Ab
def Gv {α:Type} (f:Nat→Option α) (r:α):Prop:=∃ N0,∀ N,N0≤N→f N=some r
theorem Gv.pure {α:Type} (r:α):Gv (fun _=>some r) r:=⟨0,fun _ _=>rfl⟩
theorem Gv.bind {α β:Type} {f:Nat→Option α} {k:Nat→α→Option β} {r:α} {s:β} (h:Gv f r) (h2:Gv (fun N=>k N r) s):Gv (fun N=>(f N).bind (k N)) s:=by
 obtain ⟨N1,h1⟩:=h
 obtain ⟨N2,h2⟩:=h2
 exact ⟨N1+N2,fun N hN=>by show (f N).bind (k N)=some s;rw [h1 N (by omega)];exact h2 N (by omega)⟩
theorem Gv.congr {α:Type} {f g:Nat→Option α} {r:α} (h:Gv f r) (e:∀ N,g N=f N):Gv g r:=let ⟨N0,h0⟩:=h;⟨N0,fun N hN=>(e N).trans (h0 N hN)⟩
theorem Gv.of {α:Type} {f:Nat→Option α} {r:α} (N0:Nat) (h:∀ N,N0≤N→f N=some r):Gv f r:=⟨N0,h⟩
theorem Gv.condT {α:Type} {f g:Nat→Option α} {r:α} {q:Bool} (hq:q=true) (h:Gv f r):Gv (fun N=>cond q (f N) (g N)) r:=by subst hq;exact h
theorem Gv.condF {α:Type} {f g:Nat→Option α} {r:α} {q:Bool} (hq:q=false) (h:Gv g r):Gv (fun N=>cond q (f N) (g N)) r:=by subst hq;exact h
theorem Gv.if {α:Type} {f:Nat→Option α} {r:α} {p:Prop} [Decidable p] (hp:p) (h:Gv f r):Gv (fun N=>if p then f N else none) r:=h.congr fun _=>if_pos hp
theorem Gv.eq {α:Type} {f:Nat→Option α} {r s:α} (h:Gv f r) (e:r=s):Gv f s:=e ▸ h
theorem Gv.ex {α:Type} {f:Nat→Option α} {r:α} (h:Gv f r):∃ N,f N=some r:=let ⟨N,h⟩:=h;⟨N,h N (Nat.le_refl _)⟩
def sg (neg:Bool) (n:Nat):Int:=cond neg (-(n:Int)) (n:Int)
def ofZ (z:Int):TInt:=⟨decide (z < 0),lm z.natAbs⟩
def zv (a:TInt):Int:=sg a.f_Neg (nvl a.f_Limbs).toNat
def ZB (z:Int) (n:Nat):Prop:=(lm z.natAbs).length≤n
structure IB (a:TInt) (n:Nat):Prop where
 U:U a.f_Limbs
 len:a.f_Limbs.length≤n
theorem sg_natAbs (neg:Bool) (n:Nat):(sg neg n).natAbs=n:=by cases neg<;>simp [sg]
theorem zv_natAbs (a:TInt):(zv a).natAbs=(nvl a.f_Limbs).toNat:=sg_natAbs _ _
theorem ofZ_sg (neg:Bool) (n:Nat) (h:n≠0):ofZ (sg neg n)=⟨neg,lm n⟩:=by
 unfold ofZ
 rw [sg_natAbs]
 cases neg
 ·rw [decide_eq_false (show ¬ sg false n < 0 by simp [sg])]
 ·rw [decide_eq_true (show sg true n < 0 by simp [sg];omega)]
theorem ofZ_zero:ofZ 0=⟨false,[]⟩:=by unfold ofZ;rw [show (0:Int).natAbs=0 from rfl,lm_zero];rfl
theorem ofZ_sg0 (neg:Bool):ofZ (sg neg 0)=⟨false,[]⟩:=by cases neg<;>exact ofZ_zero
theorem zv_ofZ (z:Int):zv (ofZ z)=z:=by
 unfold zv ofZ
 simp only [nvl_lm,Int.toNat_natCast]
 unfold sg
 by_cases h:z < 0
 ·rw [decide_eq_true h];simp only [cond_true];omega
 ·rw [decide_eq_false h];simp only [cond_false];omega
theorem ZB.le {z:Int} {m n:Nat} (h:ZB z m) (hmn:m≤n):ZB z n:=Nat.le_trans h hmn
theorem zb_iff {z:Int} {n:Nat}:ZB z n↔(z.natAbs:Int) < pw n:=lm_len_le
theorem zb_pw {z:Int} {n:Nat}:ZB z n↔z.natAbs < 65536 ^ n:=by
 rw [zb_iff];unfold pw
 have:((65536 ^ n:Nat):Int)=65536 ^ n:=by simp
 omega
theorem ZB.neg {z:Int} {n:Nat} (h:ZB z n):ZB (-z) n:=by unfold ZB at *;rwa [Int.natAbs_neg]
theorem ZB.mul {x y:Int} {m n:Nat} (h1:ZB x m) (h2:ZB y n):ZB (x * y) (m+n):=by
 rw [zb_pw] at *
 rw [Int.natAbs_mul,Nat.pow_add]
 exact Nat.mul_lt_mul'' h1 h2
theorem ZB.add {x y:Int} {n:Nat} (h1:ZB x n) (h2:ZB y n):ZB (x+y) (n+1):=by
 rw [zb_pw] at *
 have:=Int.natAbs_add_le x y
 have h3:65536 ^ (n+1)=65536 * 65536 ^ n:=by rw [Nat.pow_succ];omega
 have:=Nat.pow_pos (n:=n) (show 0 < 65536 by decide)
 omega
theorem ZB.sub {x y:Int} {n:Nat} (h1:ZB x n) (h2:ZB y n):ZB (x - y) (n+1):=by rw [Int.sub_eq_add_neg];exact h1.add h2.neg
theorem ZB.of_le {x y:Int} {n:Nat} (h:ZB y n) (hxy:x.natAbs≤y.natAbs):ZB x n:=by rw [zb_pw] at *;omega
theorem ZB.small {x:Int} (h:x.natAbs < 65536):ZB x 1:=by rw [zb_pw];simpa using h
theorem ZB.word {x:Int} (h:-9223372036854775808≤x) (h2:x≤9223372036854775807):ZB x 4:=by rw [zb_pw];omega
theorem IB.zb {a:TInt} {n:Nat} (h:IB a n):ZB (zv a) n:=by
 rw [zb_iff,zv_natAbs]
 have h1:=h.U.lt
 have h2:=h.U.nonneg
 have h3:pw a.f_Limbs.length≤pw n:=by
  have e:pw n=pw a.f_Limbs.length * pw (n - a.f_Limbs.length):=by rw [← pw_add];congr 1;have:=h.len;omega
  have:=pw_pos (n - a.f_Limbs.length)
  have:=Int.mul_le_mul_of_nonneg_left (show 1≤pw (n - a.f_Limbs.length) by omega) (Int.le_of_lt (pw_pos a.f_Limbs.length))
  omega
 omega
theorem ZB.ib {z:Int} {n:Nat} (h:ZB z n):IB (ofZ z) n:=⟨U_lm _,h⟩
theorem IB.le {a:TInt} {m n:Nat} (h:IB a m) (hmn:m≤n):IB a n:=⟨h.U,Nat.le_trans h.len hmn⟩
section
variable {a b:TInt} {m n:Nat}
theorem trim_gv (ha:IB a n) (hn:SM n):Gv (fun N=>g_e_trim N a.f_Limbs) (lm (zv a).natAbs) :=
 .of (n+1) fun N hN=>by
  simp only [SM] at hn
  have:=ha.len
  rw [exact_trim ha.U (by omega) (by omega),zv_natAbs]
theorem signed_gv (neg:Bool) {k:Nat} (hk:SM (lm k).length):Gv (fun N=>g_e_signed N neg (lm k)) (ofZ (sg neg k)) :=
 .of ((lm k).length+1) fun N hN=>by
  simp only [SM] at hk
  unfold g_e_signed
  rw [exact_trim (U_lm k) (by omega) (by omega),nvl_lm,Int.toNat_natCast,Option.bind_some]
  by_cases h:k=0
  ·subst h
   rw [lm_zero,ofZ_sg0];rfl
  ·have e:((((lm k).length:Nat):Int) == 0)=false:=by
    have:=lm_len_pos.2 h
    simp;exact fun h'=>by rw [h'] at this;simp at this
   rw [e,cond_false]
   unfold g_slices_Clone_uint16_uint16
   rw [if_pos (by omega),Option.bind_some,ofZ_sg _ _ h];rfl
theorem opposite_gv (a:TInt):Gv (fun N=>g_e_opposite N a) ⟨!a.f_Neg,a.f_Limbs⟩:=.pure _
theorem zv_opposite (a:TInt):zv ⟨!a.f_Neg,a.f_Limbs⟩ = -zv a:=by unfold zv sg;cases a.f_Neg<;>simp
theorem sign_eq (a b:Bool) (x y:Nat):sg (!(a == b)) (x * y)=sg a x * sg b y:=by
 cases a<;>cases b<;>simp [sg,Int.neg_mul,Int.mul_neg]
theorem Mul_gv (ha:IB a m) (hb:IB b n) (hs:SM (m+n)):Gv (fun N=>g_e_Mul N a b) (ofZ (zv a * zv b)):=by
 simp only [SM] at hs
 have ha':=ha.zb
 have hb':=hb.zb
 unfold ZB at ha' hb'
 refine (trim_gv ha (by simp only [SM];omega)).bind ((trim_gv hb (by simp only [SM];omega)).bind ?_)
 refine Gv.bind (r:=lm ((zv a).natAbs * (zv b).natAbs)) (.of (m+n+1) fun N hN=>times_lm (by simp only [SM];omega) (by omega)) ?_
 have hz:=ha.zb.mul hb.zb
 unfold ZB at hz
 rw [Int.natAbs_mul] at hz
 refine (signed_gv _ (by simp only [SM];omega)).bind ((Gv.pure _).eq ?_)
 rw [zv_natAbs,zv_natAbs,sign_eq];rfl
theorem Add_gv (ha:IB a n) (hb:IB b n) (hs:SM (n+1)):Gv (fun N=>g_e_Add N a b) (ofZ (zv a+zv b)):=by
 simp only [SM] at hs
 have ha':=ha.zb
 have hb':=hb.zb
 have hz:=ha'.add hb'
 unfold ZB at ha' hb'
 refine (trim_gv ha (by simp only [SM];omega)).bind ((trim_gv hb (by simp only [SM];omega)).bind ?_)
 have hX:zv a=sg a.f_Neg (zv a).natAbs:=by rw [zv_natAbs];rfl
 have hY:zv b=sg b.f_Neg (zv b).natAbs:=by rw [zv_natAbs];rfl
 generalize (zv a).natAbs=x at *
 generalize (zv b).natAbs=y at *
 rw [hX,hY] at hz ⊢
 generalize a.f_Neg=p at *
 generalize b.f_Neg=q at *
 cases hpq:(p == q) with
 | true =>
  have hpq:p=q:=by simpa using hpq
  subst hpq
  have e:sg p x+sg p y=sg p (x+y):=by cases p<;>simp [sg]<;>omega
  rw [e] at hz ⊢
  unfold ZB at hz
  rw [sg_natAbs] at hz
  refine Gv.condT rfl (Gv.bind (r:=lm (x+y)) (.of (n+2) fun N hN=>plus_lm (by simp only [SM];omega) (by simp only [SM];omega) (by omega) (by omega)) ?_)
  exact (signed_gv _ (by simp only [SM];omega)).bind (Gv.pure _)
 | false =>
  have hpq:q=!p:=by cases p<;>cases q<;>simp_all
  subst hpq
  refine Gv.condF rfl ?_
  refine Gv.bind (r:=cmpN x y) (.of (n+2) fun N hN=>compare_cmp (by omega) (by simp only [SM];omega) (by simp only [SM];omega)) ?_
  have hlt:=cmpN_lt (a:=x) (b:=y) (by simp only [SM];omega) (by simp only [SM];omega)
  by_cases hxy:x < y
  ·refine Gv.condF (decide_eq_false (by have:=hlt.2 hxy;omega)) (Gv.bind (r:=lm (y - x)) (.of (n+2) fun N hN=>minus_lm (by omega) (by simp only [SM];omega) (by omega)) ?_)
   have e:sg p x+sg (!p) y=sg (!p) (y - x):=by cases p<;>simp [sg]<;>omega
   rw [e] at hz ⊢
   unfold ZB at hz
   rw [sg_natAbs] at hz
   exact (signed_gv _ (by simp only [SM];omega)).bind (Gv.pure _)
  ·refine Gv.condT (decide_eq_true (by have:=fun h=>hxy (hlt.1 h);omega)) (Gv.bind (r:=lm (x - y)) (.of (n+2) fun N hN=>minus_lm (by omega) (by simp only [SM];omega) (by omega)) ?_)
   have e:sg p x+sg (!p) y=sg p (x - y):=by cases p<;>simp [sg]<;>omega
   rw [e] at hz ⊢
   unfold ZB at hz
   rw [sg_natAbs] at hz
   exact (signed_gv _ (by simp only [SM];omega)).bind (Gv.pure _)
theorem IB.opp (ha:IB a n):IB ⟨!a.f_Neg,a.f_Limbs⟩ n:=⟨ha.U,ha.len⟩
theorem sign_gv (ha:IB a n) (hn:SM n):Gv (fun N=>g_e_sign N a) (zv a).sign:=by
 refine (trim_gv ha hn).bind ?_
 have hX:zv a=sg a.f_Neg (zv a).natAbs:=by rw [zv_natAbs];rfl
 generalize (zv a).natAbs=x at *
 rw [hX]
 generalize a.f_Neg=p
 by_cases h:x=0
 ·subst h
  refine Gv.condT (by rw [lm_zero];rfl) ((Gv.pure _).eq ?_)
  cases p<;>rfl
 ·refine Gv.condF ?_ ?_
  ·have:=lm_len_pos.2 h
   simp;exact fun h'=>by rw [h'] at this;simp at this
  ·cases p with
   | true=>exact Gv.condT rfl ((Gv.pure _).eq (by simp only [sg,cond_true];rw [Int.sign_eq_neg_one_of_neg];omega))
   | false=>exact Gv.condF rfl ((Gv.pure _).eq (by simp only [sg,cond_false];rw [Int.sign_eq_one_of_pos];omega))
theorem Of_gv {z:Int} (h1:-9223372036854775808≤z) (h2:z≤9223372036854775807):Gv (fun N=>g_e_Of N z) (ofZ z):=by
 have hl:ZB z 4:=ZB.word h1 h2
 unfold ZB at hl
 unfold g_e_Of
 by_cases h:z < 0
 ·refine Gv.condT (decide_eq_true h) (Gv.bind (r:=lm z.natAbs) (.of 5 fun N hN=>?_) ?_)
  ·have e:IntKind.u64.wrap (0 - IntKind.u64.wrap z)=((z.natAbs:Nat):Int):=by rw [wrap64,wrap64];omega
   rw [e];exact natural_eq (by omega) (by omega)
  ·refine (signed_gv true (by simp only [SM];omega)).bind ((Gv.pure _).eq ?_)
   have:sg true z.natAbs=z:=by simp [sg];omega
   rw [this]
 ·refine Gv.condF (decide_eq_false h) (Gv.bind (r:=lm z.natAbs) (.of 5 fun N hN=>?_) ?_)
  ·have e:IntKind.u64.wrap z=((z.natAbs:Nat):Int):=by rw [wrap64];omega
   rw [e];exact natural_eq (by omega) (by omega)
  ·refine (signed_gv false (by simp only [SM];omega)).bind ((Gv.pure _).eq ?_)
   have:sg false z.natAbs=z:=by simp [sg];omega
   rw [this]
theorem Z_gv {z:Int} (h1:-9223372036854775808≤z) (h2:z≤9223372036854775807):Gv (fun N=>g_b_Z N z) (ofZ z):=by
 unfold g_b_Z
 by_cases h:z < 0
 ·refine Gv.condT (decide_eq_true h) (Gv.bind (r:=lm z.natAbs) (.of 5 fun N hN=>?_) ?_)
  ·have e:IntKind.u64.wrap ((IntKind.u64.wrap ((w64 (0 - (w64 (z+1))))))+1)=((z.natAbs:Nat):Int):=by rw [w64_eq (n:=z+1) (by omega) (by omega),w64_eq (by omega) (by omega),wrap64,wrap64];omega
   rw [e];exact limbs_eq (by omega) (by omega)
  ·refine (Gv.pure _).eq ?_
   unfold ofZ;rw [decide_eq_true h]
 ·refine Gv.condF (decide_eq_false h) (Gv.bind (r:=lm z.natAbs) (.of 5 fun N hN=>?_) ?_)
  ·have e:IntKind.u64.wrap z=((z.natAbs:Nat):Int):=by rw [wrap64];omega
   rw [e];exact limbs_eq (by omega) (by omega)
  ·refine (Gv.pure _).eq ?_
   unfold ofZ;rw [decide_eq_false h]
theorem DivMod_gv (ha:IB a m) (hb:IB b n) (hs:SM (m+n+2)) (h0:zv b≠0):Gv (fun N=>g_e_DivMod N a b) (ofZ (zv a / zv b),ofZ (zv a % zv b),0):=by
 simp only [SM] at hs
 have ha':=ha.zb
 have hb':=hb.zb
 unfold ZB at ha' hb'
 refine (trim_gv ha (by simp only [SM];omega)).bind ((trim_gv hb (by simp only [SM];omega)).bind ?_)
 have hX:zv a=sg a.f_Neg (zv a).natAbs:=by rw [zv_natAbs];rfl
 have hY:zv b=sg b.f_Neg (zv b).natAbs:=by rw [zv_natAbs];rfl
 generalize hx:(zv a).natAbs=x at *
 generalize hy:(zv b).natAbs=y at *
 have hy0:y≠0:=by omega
 refine Gv.condF (by have:=lm_len_pos.2 hy0;simp;exact fun h'=>by rw [h'] at this;simp at this) ?_
 refine Gv.bind (r:=(lm (x / y),lm (x % y))) (.of (m+n+20) fun N hN=>divide_lm hy0 (by simp only [SM];omega) (by omega)) ?_
 have hq:(lm (x / y)).length≤m:=Nat.le_trans (lm_len_mono (Nat.div_le_self _ _)) ha'
 have hr:(lm (x % y)).length≤n:=Nat.le_trans (lm_len_mono (Nat.le_of_lt (Nat.mod_lt _ (by omega)))) hb'
 have fin:∀ (k r:Nat),(lm k).length≤m+1→(lm r).length≤n→zv a=zv b * sg (!(a.f_Neg == b.f_Neg)) k+r→r < y →
   Gv (fun N=>g_e_DivMod_J1 N a b (lm k) (lm r)) (ofZ (zv a / zv b),ofZ (zv a % zv b),0):=by
  intro k r hk hr he hlt
  have hmod:zv a % zv b=(r:Int):=by
   rw [he,Int.add_comm,Int.add_mul_emod_self_left]
   have hb2:zv b=(y:Int)∨zv b = -(y:Int):=by omega
   rcases hb2 with h | h
   ·rw [h];exact Int.emod_eq_of_lt (by omega) (by omega)
   ·rw [h,Int.emod_neg];exact Int.emod_eq_of_lt (by omega) (by omega)
  have hdiv:zv a / zv b=sg (!(a.f_Neg == b.f_Neg)) k:=by
   have h1:=Int.mul_ediv_add_emod (zv a) (zv b)
   rw [hmod] at h1
   have h2:zv b * (zv a / zv b)=zv b * sg (!(a.f_Neg == b.f_Neg)) k:=by omega
   exact Int.eq_of_mul_eq_mul_left h0 h2
  refine (signed_gv _ (by simp only [SM];omega)).bind ((signed_gv false (by simp only [SM];omega)).bind ((Gv.pure _).eq ?_))
  rw [hmod,hdiv];rfl
 have hxy:=Nat.div_add_mod x y
 have hml:=Nat.mod_lt x (Nat.pos_of_ne_zero hy0)
 by_cases hcase:a.f_Neg=true∧0 < x % y
 ·obtain ⟨hp,hr0⟩:=hcase
  have hl:=lm_len_pos.2 (show x % y≠0 by omega)
  refine Gv.condT (by rw [hp,cond_true];show decide ((((lm (x % y)).length:Nat):Int) > 0)=true;exact decide_eq_true (by omega)) ?_
  have hk1:(lm (x / y+1)).length≤m+1:=by
   rw [lm_len_le] at hq ⊢
   rw [pw_succ];have:=pw_pos m;omega
  have e1:([1]:List Int)=lm 1:=by rw [lm_pos (by decide)];simp [lm_zero]
  refine Gv.bind (r:=lm (x / y+1)) (.of (m+5) fun N hN=>by rw [e1];exact plus_lm (by simp only [SM];omega) (by rw [← e1];decide) (by omega) (by rw [← e1];simp;omega)) ?_
  refine Gv.bind (r:=lm (y - x % y)) (.of (n+2) fun N hN=>minus_lm (by omega) (by simp only [SM];omega) (by omega)) ?_
  refine fin _ _ hk1 (Nat.le_trans (lm_len_mono (Nat.sub_le _ _)) hb') ?_ (by omega)
  rw [hX,hY,hp]
  have hxy':(x:Int)=y * (x / y:Nat)+(x % y:Nat):=by exact_mod_cast hxy.symm
  have hsub:((y - x % y:Nat):Int)=y - (x % y:Nat):=by omega
  rw [hsub]
  generalize (x / y)=k at *
  generalize (x % y)=r at *
  cases b.f_Neg<;>simp only [sg,cond_true,cond_false,Bool.not_true,Bool.not_false,BEq.rfl,show (true == false)=false from rfl]<;>rw [hxy']<;>push_cast<;>grind
 ·have hcf:cond a.f_Neg (decide ((((lm (x % y)).length:Nat):Int) > 0)) false=false:=by
   cases hp:a.f_Neg with
   | false=>rfl
   | true =>
    have:x % y=0:=Nat.eq_zero_of_not_pos fun h=>hcase ⟨hp,h⟩
    rw [this,lm_zero];rfl
  refine Gv.condF hcf ?_
  refine fin _ _ (by omega) hr ?_ hml
  rw [hX,hY]
  have hxy':(x:Int)=y * (x / y:Nat)+(x % y:Nat):=by exact_mod_cast hxy.symm
  have hz:a.f_Neg=true→x % y=0:=fun hp=>Nat.eq_zero_of_not_pos fun h=>hcase ⟨hp,h⟩
  generalize (x / y)=k at *
  generalize (x % y)=r at *
  cases hp:a.f_Neg<;>cases b.f_Neg<;>simp only [sg,cond_true,cond_false,Bool.not_true,Bool.not_false,BEq.rfl,show (true == false)=false from rfl,show (false == true)=false from rfl]<;>rw [hxy']<;>(try have hr0:=hz hp)<;>grind
end
end Go.Den
namespace Go.Den
open Go.Ab
theorem common_L2 {N:Nat} (K:List Int→List Int→Option (List Int)) (hN:4 < N):∀ (y x fuel:Nat),y < fuel→x < 18446744073709551616→y < 18446744073709551616→g_e_common_L2 N K fuel (x:Int) (y:Int)=some (lm (Nat.gcd x y)):=by
 intro y
 induction y using Nat.strongRecOn with
 | _ y ih =>
  intro x fuel hf hx hy
  obtain ⟨g,rfl⟩:∃ g,fuel=g+1:=⟨fuel - 1,by omega⟩
  rw [g_e_common_L2]
  by_cases h:y=0
  ·subst h
   rw [decide_eq_false (by decide),cond_false,natural_eq hN hx,Option.bind_some,Nat.gcd_zero_right]
  ·rw [decide_eq_true (by omega),cond_true,if_pos (by omega),Int.tmod_eq_emod_of_nonneg (by omega)]
   have e:((x:Int) % (y:Int))=((x % y:Nat):Int):=by simp
   have hlt:=Nat.mod_lt x (Nat.pos_of_ne_zero h)
   rw [e,ih (x % y) hlt y g (by omega) hy (by omega),Nat.gcd_comm x y,Nat.gcd_rec y x,Nat.gcd_comm]
theorem common_L1 {N:Nat} {k:Nat} (hk:SM (2 * k+2)) (hN:2 * k+20 < N):∀ (y x fuel:Nat),y < fuel→y < N→(lm x).length≤k→(lm y).length≤k→g_e_common_L1 N fuel (lm x) (lm y)=some (lm (Nat.gcd x y)):=by
 intro y
 simp only [SM] at hk
 induction y using Nat.strongRecOn with
 | _ y ih =>
  intro x fuel hf hyN hx hy
  obtain ⟨g,rfl⟩:∃ g,fuel=g+1:=⟨fuel - 1,by omega⟩
  rw [g_e_common_L1]
  by_cases h:y=0
  ·subst h
   rw [lm_zero,Nat.gcd_zero_right];rfl
  ·have hl:=lm_len_pos.2 h
   rw [decide_eq_true (by omega),cond_true,word_eq (by omega) (by simp only [SM];omega),Option.bind_some,word_eq (by omega) (by simp only [SM];omega),Option.bind_some]
   by_cases h4:(lm x).length≤4∧(lm y).length≤4
   ·rw [if_pos h4.1,if_pos h4.2]
    have b1:=lm_len_le.1 h4.1
    have b2:=lm_len_le.1 h4.2
    have e4:pw 4=18446744073709551616:=by decide
    exact common_L2 _ (by omega) y x N hyN (by omega) (by omega)
   ·have e:cond (if (lm x).length≤4 then ((x:Int),true) else (0,false)).2 (if (lm y).length≤4 then ((y:Int),true) else (0,false)).2 false=false:=by
     by_cases h1:(lm x).length≤4
     ·have h2:¬ (lm y).length≤4:=fun h2=>h4 ⟨h1,h2⟩
      rw [if_pos h1,if_neg h2];rfl
     ·rw [if_neg h1];rfl
    rw [e,cond_false,divide_lm h (by simp only [SM];omega) (by omega),Option.bind_some]
    have hlt:=Nat.mod_lt x (Nat.pos_of_ne_zero h)
    rw [ih (x % y) hlt y g (by omega) (by omega) hy (Nat.le_trans (lm_len_mono (by omega)) hy),Nat.gcd_comm x y,Nat.gcd_rec y x,Nat.gcd_comm]
theorem common_gv {x y k:Nat} (hx:(lm x).length≤k) (hy:(lm y).length≤k) (hk:SM (2 * k+2)):Gv (fun N=>g_e_common N (lm x) (lm y)) (lm (Nat.gcd x y)) :=
 .of (2 * k+21+y) fun N hN=>common_L1 hk (by omega) y x N (by omega) (by omega) hx hy
def dv (x:TRat):Int:=if zv x.f_Den=0 then 1 else zv x.f_Den
def qv (x:TRat):Rat:=Rat.divInt (zv x.f_Num) (dv x)
def ofQ (q:Rat):TRat:=⟨ofZ q.num,ofZ (q.den:Int)⟩
structure RB (q:Rat) (n:Nat):Prop where
 num:ZB q.num n
 den:ZB (q.den:Int) n
structure IR (x:TRat) (n:Nat):Prop where
 num:IB x.f_Num n
 den:IB x.f_Den n
theorem dv_ne (x:TRat):dv x≠0:=by unfold dv;split<;>omega
theorem RB.le {q:Rat} {m n:Nat} (h:RB q m) (hmn:m≤n):RB q n:=⟨h.num.le hmn,h.den.le hmn⟩
theorem IR.le {x:TRat} {m n:Nat} (h:IR x m) (hmn:m≤n):IR x n:=⟨h.num.le hmn,h.den.le hmn⟩
theorem RB.ir {q:Rat} {n:Nat} (h:RB q n):IR (ofQ q) n:=⟨h.num.ib,h.den.ib⟩
theorem dv_ofQ (q:Rat):dv (ofQ q)=q.den:=by
 unfold dv ofQ;simp only [zv_ofZ];rw [if_neg];have:=q.den_nz;omega
theorem qv_ofQ (q:Rat):qv (ofQ q)=q:=by
 unfold qv;rw [dv_ofQ];simp only [ofQ,zv_ofZ];exact Rat.num_divInt_den q
theorem natAbs_ediv_le (a:Int) (b:Nat) (hb:b≠0):(a / (b:Int)).natAbs≤a.natAbs:=Int.natAbs_ediv_le_natAbs a b
theorem rb_divInt {a b:Int} {n:Nat} (ha:ZB a n) (hb:ZB b n) (h0:b≠0):RB (Rat.divInt a b) n:=by
 have hg:Int.gcd b a≠0:=fun h=>h0 (Int.gcd_eq_zero_iff.1 h).1
 constructor
 ·rw [Rat.num_divInt]
  refine ha.of_le (Nat.le_trans (natAbs_ediv_le _ _ hg) ?_)
  rw [Int.natAbs_mul,Int.natAbs_sign_of_ne_zero h0];omega
 ·rw [Rat.den_divInt,if_neg h0]
  refine hb.of_le ?_
  rw [Int.natAbs_natCast]
  exact Nat.div_le_self _ _
theorem IR.rb {x:TRat} {n:Nat} (h:IR x n) (hn:1≤n):RB (qv x) n:=by
 refine rb_divInt h.num.zb ?_ (dv_ne x)
 unfold dv
 split
 ·exact (ZB.small (by decide)).le hn
 ·exact h.den.zb
theorem RB.int {z:Int} {n:Nat} (h:ZB z n) (hn:1≤n):RB (z:Rat) n:=⟨h,(ZB.small (x:=1) (by decide)).le hn⟩
theorem RB.neg {q:Rat} {n:Nat} (h:RB q n):RB (-q) n:=⟨by rw [Rat.neg_num];exact h.num.neg,by rw [Rat.neg_den];exact h.den⟩
theorem div_parts (q:Rat):q=Rat.divInt q.num q.den:=(Rat.num_divInt_den q).symm
theorem den_ne (q:Rat):(q.den:Int)≠0:=by have:=q.den_nz;omega
theorem RB.add {p q:Rat} {m n:Nat} (h1:RB p m) (h2:RB q n):RB (p+q) (m+n+1):=by
 rw [div_parts p,div_parts q,Rat.divInt_add_divInt _ _ (den_ne p) (den_ne q)]
 refine rb_divInt ((h1.num.mul h2.den).add ((h2.num.mul h1.den).le (by omega))) ((h1.den.mul h2.den).le (by omega)) ?_
 exact Int.mul_ne_zero (den_ne p) (den_ne q)
theorem RB.sub {p q:Rat} {m n:Nat} (h1:RB p m) (h2:RB q n):RB (p - q) (m+n+1):=by rw [Rat.sub_eq_add_neg];exact h1.add h2.neg
theorem RB.mul {p q:Rat} {m n:Nat} (h1:RB p m) (h2:RB q n):RB (p * q) (m+n):=by
 rw [div_parts p,div_parts q,Rat.divInt_mul_divInt]
 exact rb_divInt (h1.num.mul h2.num) (h1.den.mul h2.den) (Int.mul_ne_zero (den_ne p) (den_ne q))
section
variable {a b:TInt} {x y:TRat} {m n:Nat}
theorem fraction_gv (ha:IB a n) (hb:IB b n) (h0:zv b≠0) (hs:SM (2 * n+2)):Gv (fun N=>g_e_fraction N a b) (ofQ (Rat.divInt (zv a) (zv b))):=by
 simp only [SM] at hs
 have ha':=ha.zb
 have hb':=hb.zb
 unfold ZB at ha' hb'
 refine (trim_gv ha (by simp only [SM];omega)).bind ((trim_gv hb (by simp only [SM];omega)).bind ?_)
 have hX:zv a=sg a.f_Neg (zv a).natAbs:=by rw [zv_natAbs];rfl
 have hY:zv b=sg b.f_Neg (zv b).natAbs:=by rw [zv_natAbs];rfl
 generalize hxx:(zv a).natAbs=x at *
 generalize hyy:(zv b).natAbs=y at *
 have hy0:y≠0:=by omega
 have hg0:0 < Nat.gcd x y:=Nat.gcd_pos_of_pos_right _ (by omega)
 refine (common_gv ha' hb' (by simp only [SM];omega)).bind ?_
 have hgl:=lm_len_pos.2 (show Nat.gcd x y≠0 by omega)
 have hgn:(lm (Nat.gcd x y)).length≤n:=Nat.le_trans (lm_len_mono (Nat.gcd_le_right _ (by omega))) hb'
 have fin:∀ u v:Nat,u=x / Nat.gcd x y→v=y / Nat.gcd x y→Gv (fun N=>g_e_fraction_J1 N a b (lm u) (lm v)) (ofQ (Rat.divInt (zv a) (zv b))):=by
  intro u v hu hv
  have hul:(lm u).length≤n:=Nat.le_trans (lm_len_mono (by rw [hu];exact Nat.div_le_self _ _)) ha'
  have hvl:(lm v).length≤n:=Nat.le_trans (lm_len_mono (by rw [hv];exact Nat.div_le_self _ _)) hb'
  refine (signed_gv _ (by simp only [SM];omega)).bind ((signed_gv false (by simp only [SM];omega)).bind ((Gv.pure _).eq ?_))
  have hgcd:Int.gcd (zv b) (zv a)=Nat.gcd x y:=by unfold Int.gcd;rw [hxx,hyy,Nat.gcd_comm]
  unfold ofQ
  rw [Rat.num_divInt,Rat.den_divInt,if_neg h0,hgcd,hyy]
  have hd:(Nat.gcd x y) ∣ x:=Nat.gcd_dvd_left _ _
  have e1:(zv b).sign * zv a / ((Nat.gcd x y:Nat):Int)=sg (!(a.f_Neg == b.f_Neg)) u:=by
   have hxu:(x:Int)=(Nat.gcd x y:Nat) * (u:Int):=by
    have:x=Nat.gcd x y * u:=by rw [hu,Nat.mul_div_cancel' hd]
    exact_mod_cast this
   have e2:(zv b).sign * zv a=(Nat.gcd x y:Nat) * sg (!(a.f_Neg == b.f_Neg)) u:=by
    rw [hX,hY]
    cases a.f_Neg<;>cases b.f_Neg<;>simp only [sg,cond_true,cond_false,Bool.not_true,Bool.not_false,BEq.rfl,show (true == false)=false from rfl,show (false == true)=false from rfl]
    ·rw [Int.sign_eq_one_of_pos (by omega),Int.one_mul,← hxu]
    ·rw [Int.sign_eq_neg_one_of_neg (by omega),Int.mul_neg,← hxu];omega
    ·rw [Int.sign_eq_one_of_pos (by omega),Int.one_mul,Int.mul_neg,← hxu]
    ·rw [Int.sign_eq_neg_one_of_neg (by omega),← hxu];omega
   rw [e2,Int.mul_ediv_cancel_left _ (by omega)]
  rw [e1,← hv];rfl
 have e0:(lm (Nat.gcd x y)).getD 0 0=((Nat.gcd x y % 65536:Nat):Int):=by rw [lm_pos (by omega)];rfl
 refine Gv.if (fun _=>⟨by omega,by omega⟩) ?_
 rw [e0]
 by_cases h1:Nat.gcd x y=1
 ·refine Gv.condF ?_ (fin x y (by rw [h1,Nat.div_one]) (by rw [h1,Nat.div_one]))
  rw [h1,lm_pos (by decide)];simp [lm_zero]
 ·refine Gv.condT ?_ ?_
  ·by_cases h2:(lm (Nat.gcd x y)).length=1
   ·have:=lm_len_le.1 (show (lm (Nat.gcd x y)).length≤1 by omega)
    have e1:pw 1=65536:=by decide
    rw [h2]
    have h3:(((Nat.gcd x y % 65536:Nat):Int) != 1)=true:=by simp;omega
    rw [h3];rfl
   ·have h3:((((lm (Nat.gcd x y)).length:Nat):Int) != 1)=true:=by simp;omega
    rw [h3];rfl
  ·refine Gv.bind (r:=(lm (x / Nat.gcd x y),lm (x % Nat.gcd x y))) (.of (2 * n+20) fun N hN=>divide_lm (by omega) (by simp only [SM];omega) (by omega)) ?_
   refine Gv.bind (r:=(lm (y / Nat.gcd x y),lm (y % Nat.gcd x y))) (.of (2 * n+20) fun N hN=>divide_lm (by omega) (by simp only [SM];omega) (by omega)) ?_
   exact fin _ _ rfl rfl
def blw (x:TRat):TInt:=if zv x.f_Den=0 then ⟨false,[1]⟩ else x.f_Den
theorem zv_one:zv ⟨false,[1]⟩=1:=by decide
theorem zv_blw (x:TRat):zv (blw x)=dv x:=by unfold blw dv;split<;>simp [zv_one]
theorem ib_one {n:Nat} (hn:1≤n):IB ⟨false,[1]⟩ n:=⟨U.one (by decide) (by decide),hn⟩
theorem IR.blw (h:IR x n) (hn:1≤n):IB (blw x) n:=by
 unfold Go.Den.blw;split
 ·exact ib_one hn
 ·exact h.den
theorem below_gv (hx:IR x n) (hs:SM n):Gv (fun N=>g_e_below N x) (blw x):=by
 refine (sign_gv hx.den hs).bind ?_
 unfold blw
 by_cases h:zv x.f_Den=0
 ·rw [if_pos h];exact Gv.condT (by rw [h];rfl) (Gv.pure _)
 ·rw [if_neg h]
  exact Gv.condF (by simp;exact h) (Gv.pure _)
theorem lowest_gv (hx:IR x n) (hn:1≤n) (hs:SM (2 * n+2)):Gv (fun N=>g_e_lowest N x) (ofQ (qv x)):=by
 have hs':=hs
 simp only [SM] at hs'
 refine (below_gv hx (by simp only [SM];omega)).bind ?_
 refine (fraction_gv hx.num (hx.blw hn) (by rw [zv_blw];exact dv_ne x) hs).bind ((Gv.pure _).eq ?_)
 rw [zv_blw];rfl
theorem isZero_gv (hx:IR x n) (hs:SM n):Gv (fun N=>g_e_isZero N x) (decide (qv x=0)):=by
 refine (sign_gv hx.num hs).bind ((Gv.pure _).eq ?_)
 unfold qv
 by_cases h:zv x.f_Num=0
 ·rw [h,Rat.zero_divInt];rfl
 ·have:Rat.divInt (zv x.f_Num) (dv x)≠0:=by
   rw [← Rat.zero_divInt 1,ne_eq,Rat.divInt_eq_divInt_iff (dv_ne x) (by decide)];simpa using h
  rw [decide_eq_false this]
  simp;exact h
theorem AddRat_gv (hx:IR x m) (hy:IR y n) (hm:1≤m) (hn:1≤n) (hs:SM (2 * (m+n+1)+2)):Gv (fun N=>g_e_AddRat N x y) (ofQ (qv x+qv y)):=by
 simp only [SM] at hs
 refine (isZero_gv hx (by simp only [SM];omega)).bind ?_
 by_cases h1:qv x=0
 ·refine Gv.condT (decide_eq_true h1) ((lowest_gv hy hn (by simp only [SM];omega)).bind ((Gv.pure _).eq ?_))
  rw [h1,Rat.zero_add]
 ·refine Gv.condF (decide_eq_false h1) ((isZero_gv hy (by simp only [SM];omega)).bind ?_)
  by_cases h2:qv y=0
  ·refine Gv.condT (decide_eq_true h2) ((lowest_gv hx hm (by simp only [SM];omega)).bind ((Gv.pure _).eq ?_))
   rw [h2,Rat.add_zero]
  ·refine Gv.condF (decide_eq_false h2) ((below_gv hx (by simp only [SM];omega)).bind ((below_gv hy (by simp only [SM];omega)).bind ?_))
   refine (Mul_gv hx.num (hy.blw hn) (by simp only [SM];omega)).bind ((Mul_gv hy.num (hx.blw hm) (by simp only [SM];omega)).bind ?_)
   have z1:=hx.num.zb.mul (hy.blw hn).zb
   have z2:=hy.num.zb.mul (hx.blw hm).zb
   have z3:=(hx.blw hm).zb.mul (hy.blw hn).zb
   rw [zv_blw] at z1 z2
   rw [zv_blw,zv_blw] at z3
   refine Gv.bind (r:=ofZ (zv x.f_Num * dv y+zv y.f_Num * dv x)) ?_ ?_
   ·have:=Add_gv (n:=m+n) (a:=ofZ (zv x.f_Num * zv (blw y))) (b:=ofZ (zv y.f_Num * zv (blw x))) (by rw [zv_blw];exact z1.ib) (by rw [zv_blw];exact (z2.le (by omega)).ib) (by simp only [SM];omega)
    rw [zv_ofZ,zv_ofZ,zv_blw,zv_blw] at this
    rw [zv_blw,zv_blw];exact this
   ·refine Gv.bind (r:=ofZ (dv x * dv y)) ?_ ?_
    ·have:=Mul_gv (hx.blw hm) (hy.blw hn) (by simp only [SM];omega)
     rwa [zv_blw,zv_blw] at this
    ·have h0:dv x * dv y≠0:=Int.mul_ne_zero (dv_ne x) (dv_ne y)
     refine (fraction_gv (n:=m+n+1) (z1.add (z2.le (by omega))).ib (z3.le (by omega)).ib (by rw [zv_ofZ];exact h0) (by simp only [SM];omega)).bind ((Gv.pure _).eq ?_)
     rw [zv_ofZ,zv_ofZ]
     unfold qv
     rw [Rat.divInt_add_divInt _ _ (dv_ne x) (dv_ne y)]
theorem negative_gv (hx:IR x n) (hn:1≤n) (hs:SM (2 * n+2)):Gv (fun N=>g_e_negative N x) (ofQ (-qv x)):=by
 have hs':=hs
 simp only [SM] at hs'
 refine (opposite_gv x.f_Num).bind ((below_gv hx (by simp only [SM];omega)).bind ?_)
 refine (fraction_gv hx.num.opp (hx.blw hn) (by rw [zv_blw];exact dv_ne x) hs).bind ((Gv.pure _).eq ?_)
 rw [zv_opposite,zv_blw];unfold qv;rw [Rat.neg_divInt]
theorem SubRat_gv (hx:IR x m) (hy:IR y n) (hm:1≤m) (hn:1≤n) (hs:SM (2 * (m+n+1)+2)):Gv (fun N=>g_e_SubRat N x y) (ofQ (qv x - qv y)):=by
 have hs':=hs
 simp only [SM] at hs'
 refine (negative_gv hy hn (by simp only [SM];omega)).bind ?_
 refine (AddRat_gv hx (hy.rb hn).neg.ir hm hn hs).bind ((Gv.pure _).eq ?_)
 rw [qv_ofQ,Rat.sub_eq_add_neg]
theorem MulRat_gv (hx:IR x m) (hy:IR y n) (hm:1≤m) (hn:1≤n) (hs:SM (2 * (m+n)+2)):Gv (fun N=>g_e_MulRat N x y) (ofQ (qv x * qv y)):=by
 simp only [SM] at hs
 refine (Mul_gv hx.num hy.num (by simp only [SM];omega)).bind ((below_gv hx (by simp only [SM];omega)).bind ((below_gv hy (by simp only [SM];omega)).bind ?_))
 refine (Mul_gv (hx.blw hm) (hy.blw hn) (by simp only [SM];omega)).bind ?_
 have z1:=hx.num.zb.mul hy.num.zb
 have z3:=(hx.blw hm).zb.mul (hy.blw hn).zb
 have h0:dv x * dv y≠0:=Int.mul_ne_zero (dv_ne x) (dv_ne y)
 refine (fraction_gv (n:=m+n) z1.ib z3.ib (by rw [zv_ofZ,zv_blw,zv_blw];exact h0) (by simp only [SM];omega)).bind ((Gv.pure _).eq ?_)
 rw [zv_ofZ,zv_ofZ,zv_blw,zv_blw]
 unfold qv
 rw [Rat.divInt_mul_divInt]
def sgn (q:Rat):Int:=q.num.sign
theorem sign_divInt {a b:Int} (hb:b≠0):(Rat.divInt a b).num.sign=a.sign * b.sign:=by
 rw [Rat.num_divInt]
 have hg:Int.gcd b a≠0:=fun h=>hb (Int.gcd_eq_zero_iff.1 h).1
 obtain ⟨c,hc⟩:((Int.gcd b a:Nat):Int) ∣ a:=Int.gcd_dvd_right ..
 have e:b.sign * a / ((Int.gcd b a:Nat):Int)=b.sign * c:=by
  have e0:b.sign * a=((Int.gcd b a:Nat):Int) * (b.sign * c):=by rw [Int.mul_left_comm,← hc]
  rw [e0,Int.mul_ediv_cancel_left _ (by omega)]
 rw [e,Int.sign_mul,Int.sign_sign]
 have e2:a.sign=c.sign:=by
  have e0:=congrArg Int.sign hc
  rw [Int.sign_mul,Int.sign_eq_one_of_pos (show 0 < ((Int.gcd b a:Nat):Int) by omega),Int.one_mul] at e0
  exact e0
 rw [e2,Int.mul_comm]
theorem sign_bounds (z:Int):z.sign=0∨z.sign=1∨z.sign = -1:=by
 rcases Int.lt_trichotomy z 0 with h | h | h
 ·right;right;exact Int.sign_eq_neg_one_of_neg h
 ·left;rw [h];rfl
 ·right;left;exact Int.sign_eq_one_of_pos h
theorem signOf_gv (hx:IR x n) (hn:1≤n) (hs:SM n):Gv (fun N=>g_e_signOf N x) (sgn (qv x)):=by
 refine (sign_gv hx.num hs).bind ((below_gv hx hs).bind ((sign_gv (hx.blw hn) hs).bind ((Gv.pure _).eq ?_)))
 rw [zv_blw]
 unfold sgn qv
 rw [sign_divInt (dv_ne x)]
 rcases sign_bounds (zv x.f_Num) with h | h | h<;>rcases sign_bounds (dv x) with h' | h' | h'<;>rw [h,h']<;>rfl
theorem divInt_one (z:Int):Rat.divInt z 1=(z:Rat):=by
 apply Rat.ext
 ·rw [Rat.num_divInt];simp
 ·rw [Rat.den_divInt];simp
theorem Whole_gv (ha:IB a n) (hn:1≤n) (hs:SM (2 * n+2)):Gv (fun N=>g_e_Whole N a) (ofQ (zv a:Rat)):=by
 refine (fraction_gv ha (ib_one hn) (by rw [zv_one];decide) hs).bind ((Gv.pure _).eq ?_)
 rw [zv_one,divInt_one]
theorem number_gv {z:Int} (h1:-9223372036854775808≤z) (h2:z≤9223372036854775807):Gv (fun N=>g_e_number N z) (ofQ (z:Rat)):=by
 refine (Of_gv h1 h2).bind ((Whole_gv (n:=4) (ZB.word h1 h2).ib (by decide) (by simp)).bind ((Gv.pure _).eq ?_))
 rw [zv_ofZ]
theorem W_gv {z:Int} (h1:-9223372036854775808≤z) (h2:z≤9223372036854775807):Gv (fun N=>g_b_W N z) (ofQ (z:Rat)) :=
 (Z_gv h1 h2).bind ((Z_gv (by decide) (by decide)).bind ((Gv.pure _).eq rfl))
theorem Ratio_gv {a b:Int} (h1:-9223372036854775808≤a) (h2:a≤9223372036854775807) (h3:-9223372036854775808≤b) (h4:b≤9223372036854775807) (h0:b≠0):Gv (fun N=>g_e_Ratio N a b) (ofQ (Rat.divInt a b),0):=by
 refine Gv.condF (by simpa using h0) ((Of_gv h1 h2).bind ((Of_gv h3 h4).bind ?_))
 refine (fraction_gv (n:=4) (ZB.word h1 h2).ib (ZB.word h3 h4).ib (by rw [zv_ofZ];exact h0) (by simp)).bind ((Gv.pure _).eq ?_)
 rw [zv_ofZ,zv_ofZ]
end
theorem sgn_neg {q:Rat}:sgn q < 0↔q < 0:=by
 unfold sgn;rw [Rat.lt_iff]
 simp
end Go.Den
namespace Go.Den
open Go.Ab
def Gv2 {α:Type} (f:Nat→Nat→Option α) (r:α):Prop:=∃ N0,∀ N fuel,N0≤N→N0≤fuel→f N fuel=some r
theorem Gv2.diag {α:Type} {f:Nat→Nat→Option α} {r:α} (h:Gv2 f r):Gv (fun N=>f N N) r:=let ⟨N0,h0⟩:=h;⟨N0,fun N hN=>h0 N N hN hN⟩
theorem Gv2.step {α:Type} {f:Nat→Nat→Option α} {r:α} (N1:Nat) (h:∀ N g,N1≤N→N1≤g→f N (g+1)=some r):Gv2 f r :=
 ⟨N1+1,fun N fuel hN hf=>by obtain ⟨g,rfl⟩:∃ g,fuel=g+1:=⟨fuel - 1,by omega⟩;exact h N g (by omega) (by omega)⟩
def cs (c:TCurve) (i:Nat):Int:=c.f_Starts.getD i 0
def cq (c:TCurve) (i:Nat):Rat:=qv (c.f_Slopes.getD i TRat.d)
structure CB (c:TCurve) (n:Nat):Prop where
 one:1≤n
 len:c.f_Starts.length≤1000
 slen:c.f_Slopes.length≤1000
 ir:∀ i,IR (c.f_Slopes.getD i TRat.d) n
def curveStep (c:TCurve) (i:Nat):Option Int :=
 cond (cond (cond (decide (cs c i < -10000000)) true (decide (cs c i > 10000000))) true (decide (sgn (cq c i) < 0))) (some 2) (cond (cond (decide (0 < i)) (decide (cs c i≤cs c (i - 1))) false) (some 10) none)
def curveCode (c:TCurve):Int :=
 cond (decide (((c.f_Starts.length:Nat):Int) > 40)) 8 (cond (((c.f_Slopes.length:Nat):Int) != ((c.f_Starts.length:Nat):Int)) 11 (scan (curveStep c) 0 c.f_Starts.length 0))
theorem CheckCurve_L1 {c:TCurve} {n:Nat} (h:CB c n) (hs:SM n) (hl:c.f_Slopes.length=c.f_Starts.length):∀ k i,i+k=c.f_Starts.length→Gv2 (fun N fuel=>g_e_CheckCurve_L1 N c fuel (i:Int)) (scan (curveStep c) 0 k i)
 | 0,i,hi=>.step 0 fun N g _ _=>by
  have:i=c.f_Starts.length:=by omega
  subst this
  rw [g_e_CheckCurve_L1,dec_nlt];rfl
 | k+1,i,hi=>by
  have hlen:=h.len
  obtain ⟨N1,h1⟩:=signOf_gv (h.ir i) h.one hs
  obtain ⟨N2,h2⟩:=CheckCurve_L1 h hs hl k (i+1) (by omega)
  dsimp only at h1 h2
  refine .step (N1+N2) fun N g hN hg=>?_
  rw [g_e_CheckCurve_L1,dec_lt (by omega),cond_true,if_pos (inb (by omega)),if_pos (fun _=>inb (by omega)),toNat_nat,w64_succ (by omega),h2 N g (by omega) (by omega)]
  have h1':g_e_signOf N (⟨((c.f_Slopes.getD i TRat.d).f_Num),((c.f_Slopes.getD i TRat.d).f_Den)⟩:TRat)=some (sgn (cq c i)):=h1 N (by omega)
  rw [h1']
  have e0:decide ((i:Int) > 0)=decide (0 < i):=by simp
  rw [e0]
  have e1:decide (0 < i)=true→w64 ((i:Int) - 1)=((i - 1:Nat):Int):=fun h=>by have:=of_decide_eq_true h;rw [w64_eq (by omega) (by omega)];omega
  rw [if_pos (fun h=>by rw [e1 h];exact inb (by omega))]
  rw [scan]
  generalize scan (curveStep c) 0 k (i+1)=S
  unfold curveStep
  have e2:cond (decide (0 < i)) (decide (c.f_Starts.getD i 0≤c.f_Starts.getD (w64 ((i:Int) - 1)).toNat 0)) false=cond (decide (0 < i)) (decide (cs c i≤cs c (i - 1))) false:=by
   cases h0:decide (0 < i) with
   | false=>rfl
   | true=>rw [e1 h0];rfl
  rw [e2]
  show (cond (!(cond (decide (cs c i < -10000000)) true (decide (cs c i > 10000000)))) (some (sgn (cq c i))) (some 0)).bind (fun rsignOf=>cond (cond (cond (decide (cs c i < -10000000)) true (decide (cs c i > 10000000))) true (decide (rsignOf < 0))) (some 2) (cond (cond (decide (0 < i)) (decide (cs c i≤cs c (i - 1))) false) (some 10) (some S)))=_
  cases cond (decide (cs c i < -10000000)) true (decide (cs c i > 10000000)) with
  | true=>rfl
  | false =>
   rw [Bool.not_false,cond_true,Option.bind_some]
   cases decide (sgn (cq c i) < 0)<;>cases cond (decide (0 < i)) (decide (cs c i≤cs c (i - 1))) false<;>rfl
theorem CheckCurve_gv {c:TCurve} {n:Nat} (h:CB c n) (hs:SM n):Gv (fun N=>g_e_CheckCurve N c) (curveCode c):=by
 unfold g_e_CheckCurve curveCode
 cases h1:decide (((c.f_Starts.length:Nat):Int) > 40) with
 | true=>exact Gv.condT rfl (Gv.pure _)
 | false =>
  refine Gv.condF rfl ?_
  cases h2:(((c.f_Slopes.length:Nat):Int) != ((c.f_Starts.length:Nat):Int)) with
  | true=>exact Gv.condT rfl (Gv.pure _)
  | false =>
   have:c.f_Slopes.length=c.f_Starts.length:=by simp at h2;omega
   exact Gv.condF rfl (CheckCurve_L1 h hs this c.f_Starts.length 0 (by omega)).diag
structure Right (c:TCurve):Prop where
 len:c.f_Starts.length≤40
 slen:c.f_Slopes.length=c.f_Starts.length
 lo:∀ i,i < c.f_Starts.length→-10000000≤cs c i
 hi:∀ i,i < c.f_Starts.length→cs c i≤10000000
 nn:∀ i,i < c.f_Starts.length→0≤cq c i
 lt:∀ i,i+1 < c.f_Starts.length→cs c i < cs c (i+1)
theorem scan_zero {f:Nat→Option Int} (hf:∀ i,f i≠some 0):∀ (k m:Nat),scan f 0 k m=0→∀ i,m≤i→i < m+k→f i=none:=by
 intro k m h
 rcases scan_inv (f:=f) (z:=0) k m with ⟨i,r,_,_,h3,_,h5⟩ | ⟨h1,_⟩
 ·rw [h5] at h;subst h;exact absurd h3 (hf i)
 ·exact h1
theorem right_of {c:TCurve} (h:curveCode c=0):Right c:=by
 unfold curveCode at h
 cases h1:decide (((c.f_Starts.length:Nat):Int) > 40) with
 | true=>rw [h1] at h;cases h
 | false =>
  rw [h1,cond_false] at h
  cases h2:(((c.f_Slopes.length:Nat):Int) != ((c.f_Starts.length:Nat):Int)) with
  | true=>rw [h2] at h;cases h
  | false =>
   rw [h2,cond_false] at h
   have hall:=scan_zero (f:=curveStep c) (fun i hi=>by
    unfold curveStep at hi
    revert hi
    cases cond (cond (decide (cs c i < -10000000)) true (decide (cs c i > 10000000))) true (decide (sgn (cq c i) < 0))<;>cases cond (decide (0 < i)) (decide (cs c i≤cs c (i - 1))) false<;>decide) _ _ h
   have one:∀ i,i < c.f_Starts.length→(-10000000≤cs c i∧cs c i≤10000000∧0≤cq c i)∧(0 < i→cs c (i - 1) < cs c i):=by
    intro i hi
    have:=hall i (Nat.zero_le _) (by omega)
    unfold curveStep at this
    cases ha:cond (cond (decide (cs c i < -10000000)) true (decide (cs c i > 10000000))) true (decide (sgn (cq c i) < 0)) with
    | true=>rw [ha] at this;cases this
    | false =>
     rw [ha,cond_false] at this
     cases hb:cond (decide (0 < i)) (decide (cs c i≤cs c (i - 1))) false with
     | true=>rw [hb] at this;cases this
     | false =>
      cases h3:decide (cs c i < -10000000) with
      | true=>rw [h3] at ha;cases ha
      | false =>
       rw [h3,cond_false] at ha
       cases h4:decide (cs c i > 10000000) with
       | true=>rw [h4] at ha;cases ha
       | false =>
        rw [h4,cond_false] at ha
        have h3:=of_decide_eq_false h3
        have h4:=of_decide_eq_false h4
        have ha:=of_decide_eq_false ha
        refine ⟨⟨by omega,by omega,?_⟩,fun h0=>?_⟩
        ·rw [sgn_neg] at ha;exact Rat.not_lt.1 ha
        ·rw [decide_eq_true h0,cond_true] at hb
         have:=of_decide_eq_false hb
         omega
   have h1:=of_decide_eq_false h1
   refine ⟨by omega,by simp at h2;omega,fun i hi=>(one i hi).1.1,fun i hi=>(one i hi).1.2.1,fun i hi=>(one i hi).1.2.2,fun i hi=>?_⟩
   have:=(one (i+1) hi).2 (by omega)
   rwa [Nat.add_sub_cancel] at this
def rampF (R:Rat→Rat→Rat→Rat) (c:TCurve) (y:Rat):Nat→Nat→Rat→Rat→Rat
 | 0,_,_,acc=>acc
 | k+1,i,before,acc=>if y - (cs c i:Rat) < 0 then acc else rampF R c y k (i+1) (cq c i) (R (cq c i - before) (y - (cs c i:Rat)) acc)
structure RDok (RD:Nat→TRat→TRat→TRat→Option TRat) (R:Rat→Rat→Rat→Rat) (A B C:Nat):Prop where
 run:∀ (ch fr acc:Rat) (m:Nat),RB ch A→RB fr B→RB acc m→1≤m→m≤100000000→Gv (fun N=>RD N (ofQ ch) (ofQ fr) (ofQ acc)) (ofQ (R ch fr acc))
 bnd:∀ (ch fr acc:Rat) (m:Nat),RB ch A→RB fr B→RB acc m→RB (R ch fr acc) (m+C)
theorem cs_num {c:TCurve} (hr:Right c) {i:Nat} (hi:i < c.f_Starts.length):RB (cs c i:Rat) 4:=by
 have:=hr.lo i hi;have:=hr.hi i hi
 exact RB.int (ZB.word (by omega) (by omega)) (by decide)
theorem ramps_L1 {RD:Nat→TRat→TRat→TRat→Option TRat} {R:Rat→Rat→Rat→Rat} {c:TCurve} {y:TRat} {n p C:Nat} (hR:RDok RD R (2 * n+1) (p+5) C) (h:CB c n) (hr:Right c) (hy:IR y p) (hp:1≤p) (hn1:n≤1000000) (hp1:p≤1000000) (hC:C≤1000000) :
  ∀ (k i m:Nat) (before acc:Rat) (b:TRat),i+k=c.f_Starts.length→RB acc m→1≤m→m+k * C≤100000000→IR b n→qv b=before→Gv2 (fun N fuel=>g_e_ramps_1_L1 N (RD N) c y fuel (ofQ acc) b (i:Int)) (ofQ (rampF R c (qv y) k i before acc))
 | 0,i,m,before,acc,b,hi,_,_,_,_,_=>.step 0 fun N g _ _=>by
  have:i=c.f_Starts.length:=by omega
  subst this
  rw [g_e_ramps_1_L1,dec_nlt];rfl
 | k+1,i,m,before,acc,b,hi,hm,hm1,hmC,hb,hbq=>by
  have hlen:=h.len
  have hil:i < c.f_Starts.length:=by omega
  have hlo:=hr.lo i hil
  have hhi:=hr.hi i hil
  have hsn:=cs_num hr hil
  have hmk:(k+1) * C=k * C+C:=Nat.succ_mul _ _
  obtain ⟨N1,h1⟩:=number_gv (z:=cs c i) (by omega) (by omega)
  obtain ⟨N2,h2⟩:=SubRat_gv (x:=y) (y:=ofQ (cs c i:Rat)) hy hsn.ir hp (by decide) (by simp only [SM];omega)
  rw [qv_ofQ] at h2
  have hfr:RB (qv y - (cs c i:Rat)) (p+5):=(hy.rb hp).sub hsn
  obtain ⟨N3,h3⟩:=signOf_gv hfr.ir (by omega) (by simp only [SM];omega)
  rw [qv_ofQ] at h3
  obtain ⟨N4,h4⟩:=SubRat_gv (x:=c.f_Slopes.getD i TRat.d) (y:=b) (h.ir i) hb h.one h.one (by simp only [SM];omega)
  rw [hbq] at h4
  have hch:RB (cq c i - before) (2 * n+1):=by
   have:=((h.ir i).rb h.one).sub (hb.rb h.one)
   rw [hbq] at this
   exact this.le (by omega)
  obtain ⟨N5,h5⟩:=hR.run (cq c i - before) (qv y - (cs c i:Rat)) acc m hch hfr hm hm1 (by omega)
  have hacc:=hR.bnd (cq c i - before) (qv y - (cs c i:Rat)) acc m hch hfr hm
  obtain ⟨N6,h6⟩:=ramps_L1 hR h hr hy hp hn1 hp1 hC k (i+1) (m+C) (cq c i) (R (cq c i - before) (qv y - (cs c i:Rat)) acc) (c.f_Slopes.getD i TRat.d) (by omega) hacc (by omega) (by omega) (h.ir i) rfl
  dsimp only at h1 h2 h3 h4 h5 h6
  refine .step (N1+N2+N3+N4+N5+N6) fun N g hN hg=>?_
  have hsl:=hr.slen
  rw [g_e_ramps_1_L1,dec_lt hil,cond_true,if_pos (inb hil),toNat_nat]
  have h1':g_e_number N (c.f_Starts.getD i 0)=some (ofQ (cs c i:Rat)):=h1 N (by omega)
  rw [h1',Option.bind_some,h2 N (by omega),Option.bind_some,h3 N (by omega),Option.bind_some,if_pos (fun _=>inb (by omega)),w64_succ (by omega)]
  have h4':g_e_SubRat N (⟨((c.f_Slopes.getD i TRat.d).f_Num),((c.f_Slopes.getD i TRat.d).f_Den)⟩:TRat) b=some (ofQ (cq c i - before)):=h4 N (by omega)
  unfold rampF
  by_cases hneg:qv y - (cs c i:Rat) < 0
  ·have hd:decide (sgn (qv y - (cs c i:Rat)) < 0)=true:=decide_eq_true (sgn_neg.2 hneg)
   rw [hd,if_pos hneg];rfl
  ·have hd:decide (sgn (qv y - (cs c i:Rat)) < 0)=false:=decide_eq_false fun h=>hneg (sgn_neg.1 h)
   rw [hd,if_neg hneg,Bool.not_false,cond_true,h4',Option.bind_some,cond_true,h5 N (by omega),Option.bind_some,cond_false,Bool.not_true,cond_false,if_pos (inb (by omega))]
   exact h6 N g (by omega) (by omega)
theorem ramps_gv {RD:Nat→TRat→TRat→TRat→Option TRat} {R:Rat→Rat→Rat→Rat} {c:TCurve} {y:TRat} {n p C:Nat} (hR:RDok RD R (2 * n+1) (p+5) C) (h:CB c n) (hr:Right c) (hy:IR y p) (hp:1≤p) (hn1:n≤1000000) (hp1:p≤1000000) (hC:C≤1000000) :
  Gv (fun N=>g_e_ramps_1 N (RD N) (ofQ 0) c y) (ofQ (rampF R c (qv y) c.f_Starts.length 0 0 0)):=by
 have h0:RB 0 1:=RB.int (z:=0) (ZB.small (by decide)) (by decide)
 have hl:=hr.len
 have hlC:c.f_Starts.length * C≤40 * 1000000:=Nat.mul_le_mul hl hC
 refine (number_gv (z:=0) (by decide) (by decide)).bind ?_
 exact (ramps_L1 hR h hr hy hp hn1 hp1 hC c.f_Starts.length 0 1 0 0 (ofQ 0) (by omega) h0 (by decide) (by omega) (h0.ir.le h.one) (qv_ofQ 0)).diag
def valR (ch fr acc:Rat):Rat:=acc+ch * fr
theorem valOk {A B:Nat} (hA:1≤A) (hB:1≤B) (h1:A≤10000000) (h2:B≤10000000):RDok g_e_Value_R valR A B (A+B+1) where
 run:=fun ch fr acc m hc hf ha hm hm2=>by
  refine (MulRat_gv hc.ir hf.ir hA hB (by simp only [SM];omega)).bind ?_
  rw [qv_ofQ,qv_ofQ]
  refine (AddRat_gv ha.ir (hc.mul hf).ir hm (by omega) (by simp only [SM];omega)).bind ((Gv.pure _).eq ?_)
  rw [qv_ofQ,qv_ofQ];rfl
 bnd:=fun ch fr acc m hc hf ha=>(ha.add (hc.mul hf)).le (by omega)
section
variable {c:TCurve} {y:TRat} {n p:Nat}
def along (R:Rat→Rat→Rat→Rat) (c:TCurve) (y:Rat):Rat:=rampF R c y c.f_Starts.length 0 0 0
theorem Value_gv (h:CB c n) (h0:curveCode c=0) (hy:IR y p) (hp:1≤p) (hn1:n≤100000) (hp1:p≤100000):Gv (fun N=>g_e_Value N c y) (ofQ (along valR c (qv y)),0):=by
 refine (CheckCurve_gv h (by simp only [SM];omega)).bind (Gv.condF (by rw [h0];rfl) ?_)
 refine (number_gv (z:=0) (by decide) (by decide)).bind (Gv.bind (Gv.pure (c,y)) ?_)
 exact (ramps_gv (valOk (A:=2 * n+1) (B:=p+5) (by omega) (by omega) (by omega) (by omega)) h (right_of h0) hy hp (by omega) (by omega) (by omega)).bind (Gv.pure _)
end
end Go.Den
namespace Go.Den
open Go.Ab
theorem SameInt_L1 {a:TInt} (hl:SM a.f_Limbs.length):∀ k i,i+k=a.f_Limbs.length→Gv2 (fun N fuel=>g_b_SameInt_L1 N a a fuel (i:Int)) true
 | 0,i,hi=>.step 0 fun N g _ _=>by
  have:i=a.f_Limbs.length:=by omega
  subst this
  rw [g_b_SameInt_L1,dec_nlt];rfl
 | k+1,i,hi=>by
  simp only [SM] at hl
  obtain ⟨N1,h1⟩:=SameInt_L1 (a:=a) hl k (i+1) (by omega)
  dsimp only at h1
  refine .step N1 fun N g hN hg=>?_
  rw [g_b_SameInt_L1,dec_lt (by omega),cond_true,if_pos (inb (by omega)),if_pos (inb (by omega)),w64_succ (by omega)]
  have e:(a.f_Limbs.getD ((i:Int)).toNat 0 != a.f_Limbs.getD ((i:Int)).toNat 0)=false:=by simp
  rw [e,cond_false]
  exact h1 N g hN hg
theorem SameInt_gv (a:TInt) (hl:SM a.f_Limbs.length):Gv (fun N=>g_b_SameInt N a a) true:=by
 unfold g_b_SameInt
 refine Gv.condF ?_ (SameInt_L1 hl a.f_Limbs.length 0 (by omega)).diag
 cases a.f_Neg<;>simp
theorem SameZ_gv {z:Int} {n:Nat} (h:ZB z n) (hn:SM n):Gv (fun N=>g_b_SameInt N (ofZ z) (ofZ z)) true :=
 SameInt_gv _ (by unfold ZB at h;simp only [SM,ofZ] at *;omega)
theorem SameRat_gv (x:TRat) (h1:SM x.f_Num.f_Limbs.length) (h2:SM x.f_Den.f_Limbs.length):Gv (fun N=>g_b_SameRat N x x) true :=
 (SameInt_gv _ h1).bind (Gv.bind (Gv.condT rfl (SameInt_gv _ h2)) (Gv.pure _))
theorem SameQ_gv {q:Rat} {n:Nat} (h:RB q n) (hn:SM n):Gv (fun N=>g_b_SameRat N (ofQ q) (ofQ q)) true:=by
 have h1:=h.num
 have h2:=h.den
 unfold ZB at h1 h2
 exact SameRat_gv _ (by simp only [SM,ofQ,ofZ] at *;omega) (by simp only [SM,ofQ,ofZ] at *;omega)
theorem Ws_gv:Gv (fun N=>g_b_Ws N [2,0]) [ofQ 2,ofQ 0]:=by
 obtain ⟨N1,h1⟩:=W_gv (z:=2) (by decide) (by decide)
 obtain ⟨N2,h2⟩:=W_gv (z:=0) (by decide) (by decide)
 dsimp only at h1 h2
 refine .of (N1+N2+5) fun N hN=>?_
 unfold g_b_Ws
 obtain ⟨g,rfl⟩:∃ g,N=g+3:=⟨N - 3,by omega⟩
 rw [g_b_Ws_L1,decide_eq_true (by decide),cond_true,if_pos (by decide)]
 rw [show ([2,0]:List Int).getD ((0:Int)).toNat 0=2 from rfl,h1 _ (by omega),Option.bind_some,if_pos (by decide),w64_eq (by decide) (by decide)]
 rw [g_b_Ws_L1,decide_eq_true (by decide),cond_true,if_pos (by decide)]
 rw [show ([2,0]:List Int).getD ((0:Int)+1).toNat 0=0 from rfl,h2 _ (by omega),Option.bind_some,if_pos (by decide),w64_eq (by decide) (by decide)]
 rw [g_b_Ws_L1,decide_eq_false (by decide),cond_false]
 rfl
theorem Q_gv:Gv (fun N=>g_b_Q N (-3) 2) (ofQ (Rat.divInt (-3) 2)):=by
 obtain ⟨N1,h1⟩:=Z_gv (z:=-3) (by decide) (by decide)
 obtain ⟨N2,h2⟩:=Z_gv (z:=2) (by decide) (by decide)
 dsimp only at h1 h2
 refine .of (N1+N2+8) fun N hN=>?_
 unfold g_b_Q
 rw [decide_eq_false (by decide),cond_false]
 unfold g_b_Q_J1
 rw [decide_eq_true (by decide),cond_true,show w64 (0 - (-3))=3 from by decide]
 obtain ⟨g,rfl⟩:∃ g,N=g+4:=⟨N - 4,by omega⟩
 rw [g_b_Q_L2,decide_eq_true (by decide),cond_true,if_pos (by decide),show (3:Int).tmod 2=1 from by decide]
 rw [g_b_Q_L2,decide_eq_true (by decide),cond_true,if_pos (by decide),show (2:Int).tmod 1=0 from by decide]
 rw [g_b_Q_L2,decide_eq_false (by decide),cond_false,if_pos (by decide),show w64 ((-3:Int).tdiv 1) = -3 from by decide,show w64 ((2:Int).tdiv 1)=2 from by decide,h1 _ (by omega),Option.bind_some,h2 _ (by omega),Option.bind_some]
 rfl
def awakeC:TCurve:=⟨[0,10],[ofQ 2,ofQ 0]⟩
theorem rb_nat {k:Nat} (h:k < 65536):RB (((k:Int):Rat)) 1:=RB.int (ZB.small (by omega)) (by decide)
theorem awakeC_CB:CB awakeC 1 where
 one:=by decide
 len:=by decide
 slen:=by decide
 ir:=fun i=>by
  match i with
  | 0=>exact (rb_nat (k:=2) (by decide)).ir
  | 1=>exact (rb_nat (k:=0) (by decide)).ir
  | i+2=>exact ⟨⟨U.nil,by show (0:Nat)≤1;decide⟩,⟨U.nil,by show (0:Nat)≤1;decide⟩⟩
theorem awake_code:curveCode awakeC=0:=by
 have e0:cq awakeC 0=2:=qv_ofQ 2
 have e1:cq awakeC 1=0:=qv_ofQ 0
 have s0:curveStep awakeC 0=none:=by unfold curveStep;rw [e0];rfl
 have s1:curveStep awakeC 1=none:=by unfold curveStep;rw [e1];rfl
 show scan (curveStep awakeC) 0 2 0=0
 rw [scan,s0]
 show scan (curveStep awakeC) 0 1 1=0
 rw [scan,s1];rfl
theorem awake_val:along valR awakeC 5=10:=by
 have e0:cq awakeC 0=2:=qv_ofQ 2
 show rampF valR awakeC 5 2 0 0 0=10
 unfold rampF
 rw [show cs awakeC 0=0 from rfl,if_neg (by decide +kernel),e0]
 unfold rampF
 rw [show cs awakeC (0+1)=10 from rfl,if_pos (by decide +kernel)]
 decide +kernel
theorem awake_gv:Gv (fun N=>g_w01_awake N) true:=by
 refine (Z_gv (z:=-7) (by decide) (by decide)).bind ((Z_gv (z:=2) (by decide) (by decide)).bind ?_)
 refine Gv.bind (r:=(ofZ (-4),ofZ 1,0)) ?_ ?_
 ·have:=DivMod_gv (a:=ofZ (-7)) (b:=ofZ 2) (m:=1) (n:=1) (ZB.small (by decide)).ib (ZB.small (by decide)).ib (by decide) (by rw [zv_ofZ];decide)
  rw [zv_ofZ,zv_ofZ] at this;exact this
 refine (Ratio_gv (a:=6) (b:=-4) (by decide) (by decide) (by decide) (by decide) (by decide)).bind (Ws_gv.bind ((W_gv (z:=5) (by decide) (by decide)).bind ?_))
 refine Gv.bind (r:=(ofQ 10,0)) ?_ ?_
 ·have:=Value_gv (c:=awakeC) (y:=ofQ 5) (n:=1) (p:=1) awakeC_CB awake_code (rb_nat (k:=5) (by decide)).ir (by decide) (by decide) (by decide)
  rw [qv_ofQ,awake_val] at this;exact this
 refine Gv.bind (Gv.condT rfl (Z_gv (z:=-4) (by decide) (by decide))) ?_
 refine Gv.bind (Gv.condT rfl (SameZ_gv (n:=1) (ZB.small (by decide)) (by decide))) ?_
 refine Gv.bind (Gv.condT rfl (Z_gv (z:=1) (by decide) (by decide))) ?_
 refine Gv.bind (Gv.condT rfl (SameZ_gv (n:=1) (ZB.small (by decide)) (by decide))) ?_
 refine Gv.bind (Gv.condT rfl Q_gv) ?_
 have e:Rat.divInt 6 (-4)=Rat.divInt (-3) 2:=by decide +kernel
 rw [e]
 refine Gv.bind (Gv.condT rfl (SameQ_gv (n:=1) (rb_divInt (ZB.small (by decide)) (ZB.small (by decide)) (by decide)) (by decide))) ?_
 refine Gv.bind (Gv.condT rfl (W_gv (z:=10) (by decide) (by decide))) ?_
 refine Gv.bind (Gv.condT rfl (SameQ_gv (n:=1) (rb_nat (k:=10) (by decide)) (by decide))) (Gv.pure _)
end Go.Den
namespace Go.Den
open Go.Ab
structure RQ (x:TRat) (p:Rat) (n:Nat):Prop where
 ir:IR x n
 v:qv x=p
 pos:1≤n
structure ZI (a:TInt) (z:Int) (n:Nat):Prop where
 ib:IB a n
 v:zv a=z
theorem RQ.rb {x:TRat} {p:Rat} {n:Nat} (h:RQ x p n):RB p n:=h.v ▸ h.ir.rb h.pos
theorem RB.rq {p:Rat} {n:Nat} (h:RB p n) (hn:1≤n):RQ (ofQ p) p n:=⟨h.ir,qv_ofQ p,hn⟩
theorem RQ.le {x:TRat} {p:Rat} {m n:Nat} (h:RQ x p m) (hmn:m≤n):RQ x p n:=⟨h.ir.le hmn,h.v,Nat.le_trans h.pos hmn⟩
theorem ZI.zb {a:TInt} {z:Int} {n:Nat} (h:ZI a z n):ZB z n:=h.v ▸ h.ib.zb
theorem ZB.zi {z:Int} {n:Nat} (h:ZB z n):ZI (ofZ z) z n:=⟨h.ib,zv_ofZ z⟩
theorem ZI.le {a:TInt} {z:Int} {m n:Nat} (h:ZI a z m) (hmn:m≤n):ZI a z n:=⟨h.ib.le hmn,h.v⟩
theorem IB.of_wf {a:TInt} (h:TInt.wf a) {n:Nat} (hn:a.f_Limbs.length≤n):IB a n :=
 ⟨fun x hx=>by
  have:=h.2.2 x hx
  unfold wK at this
  have e1:IntKind.u16.min=0:=by decide
  have e2:IntKind.u16.max=65535:=by decide
  omega,hn⟩
section
variable {a b:TInt} {x y:TRat} {m n:Nat} {p q:Rat} {z w:Int}
theorem RQ.add (hx:RQ x p m) (hy:RQ y q n) (hs:SM (2 * (m+n+1)+2)):Gv (fun N=>g_e_AddRat N x y) (ofQ (p+q)):=by
 have:=AddRat_gv hx.ir hy.ir hx.pos hy.pos hs;rwa [hx.v,hy.v] at this
theorem RQ.sub (hx:RQ x p m) (hy:RQ y q n) (hs:SM (2 * (m+n+1)+2)):Gv (fun N=>g_e_SubRat N x y) (ofQ (p - q)):=by
 have:=SubRat_gv hx.ir hy.ir hx.pos hy.pos hs;rwa [hx.v,hy.v] at this
theorem RQ.mul (hx:RQ x p m) (hy:RQ y q n) (hs:SM (2 * (m+n)+2)):Gv (fun N=>g_e_MulRat N x y) (ofQ (p * q)):=by
 have:=MulRat_gv hx.ir hy.ir hx.pos hy.pos hs;rwa [hx.v,hy.v] at this
theorem RQ.sgn (hx:RQ x p m) (hs:SM m):Gv (fun N=>g_e_signOf N x) (sgn p):=by
 have:=signOf_gv hx.ir hx.pos hs;rwa [hx.v] at this
theorem RQ.low (hx:RQ x p m) (hs:SM (2 * m+2)):Gv (fun N=>g_e_lowest N x) (ofQ p):=by
 have:=lowest_gv hx.ir hx.pos hs;rwa [hx.v] at this
theorem RQ.zero (hx:RQ x p m) (hs:SM m):Gv (fun N=>g_e_isZero N x) (decide (p=0)):=by
 have:=isZero_gv hx.ir hs;rwa [hx.v] at this
theorem ZI.add (ha:ZI a z n) (hb:ZI b w n) (hs:SM (n+1)):Gv (fun N=>g_e_Add N a b) (ofZ (z+w)):=by
 have:=Add_gv ha.ib hb.ib hs;rwa [ha.v,hb.v] at this
theorem ZI.mul (ha:ZI a z m) (hb:ZI b w n) (hs:SM (m+n)):Gv (fun N=>g_e_Mul N a b) (ofZ (z * w)):=by
 have:=Mul_gv ha.ib hb.ib hs;rwa [ha.v,hb.v] at this
end
end Go.Den
namespace Go.Den
open Go.Ab
theorem rtrim_L1 {N:Nat} {a:List Int} (ha:U a) (hs:SM a.length):∀ (n fuel:Nat),n≤a.length→n < fuel→nvl (a.take n)=nvl a→g_r01_trim_L1 N a fuel (n:Int)=some (lm (nvl a).toNat)
 | 0,fuel,_,hf,hv=>by
  obtain ⟨g,rfl⟩:∃ g,fuel=g+1:=⟨fuel - 1,by omega⟩
  rw [g_r01_trim_L1,if_pos (fun h=>by cases h)]
  have e:nvl a=0:=by rw [← hv];simp [nvl]
  rw [e]
  have e1:cond (decide (((0:Nat):Int) > 0)) (a.getD (w64 (((0:Nat):Int) - 1)).toNat 0 == 0) false=false:=rfl
  rw [e1,cond_false,if_pos ⟨by simp,by simp⟩,if_pos (by simp),if_pos (by simp)]
  simp [lm_zero]
 | n+1,fuel,hn,hf,hv=>by
  obtain ⟨g,rfl⟩:∃ g,fuel=g+1:=⟨fuel - 1,by omega⟩
  simp only [SM] at hs
  have e1:w64 (((n+1:Nat):Int) - 1)=(n:Int):=by rw [w64_eq (by omega) (by omega)];omega
  have h1:=nvl_take_succ a n (by omega)
  rw [g_r01_trim_L1,e1,if_pos (fun _=>inb (by omega)),decide_eq_true (by omega),cond_true,toNat_nat]
  cases hx:(a.getD n 0 == 0) with
  | true =>
   have hx0:a.getD n 0=0:=eq_of_beq hx
   rw [cond_true]
   exact rtrim_L1 ha hs n g (by omega) (by omega) (by rw [h1,hx0] at hv;omega)
  | false =>
   have hx0:a.getD n 0≠0:=fun h=>by rw [h] at hx;cases hx
   rw [cond_false,toNat_nat,if_pos ⟨Nat.zero_le _,hn⟩,if_pos (by omega),if_pos (by omega),List.nil_append,List.drop_zero,← hv]
   congr 1
   refine (lm_of (ha.take _) fun m x he=>?_).symm
   have hl:m.length=n:=by have:=congrArg List.length he;rw [List.length_take] at this;simp at this;omega
   have:(a.take (n+1)).getD n 0=x:=by rw [he,← hl];simp [List.getD]
   rw [List.getD_eq_getElem?_getD,List.getElem?_take_of_lt (by omega),← List.getD_eq_getElem?_getD] at this
   rw [← this];exact hx0
theorem rtrim_eq {N:Nat} {a:List Int} (ha:U a) (hs:SM a.length) (hN:a.length < N):g_r01_trim N a=some (lm (nvl a).toNat) :=
 rtrim_L1 ha hs a.length N (Nat.le_refl _) hN (by rw [List.take_length])
theorem read_L1 {N:Nat} {a:List Int} (ha:U a) (hs:SM a.length) (hN:a.length < N):∀ (k i fuel:Nat),i+k=a.length→k < fuel→g_r01_read_L1 N a fuel (a.take i) (i:Int)=some (lm (nvl a).toNat)
 | 0,i,fuel,hi,hf=>by
  obtain ⟨g,rfl⟩:∃ g,fuel=g+1:=⟨fuel - 1,by omega⟩
  have:i=a.length:=by omega
  subst this
  rw [g_r01_read_L1,dec_nlt,cond_false,List.take_length,rtrim_eq ha hs hN,Option.bind_some]
 | k+1,i,fuel,hi,hf=>by
  obtain ⟨g,rfl⟩:∃ g,fuel=g+1:=⟨fuel - 1,by omega⟩
  simp only [SM] at hs
  have h1:=ha.getD i
  rw [g_r01_read_L1,dec_lt (by omega),cond_true,if_pos (inb (by omega)),if_pos (by rw [List.length_take];omega),toNat_nat,w64_eq (by omega) (by omega),w64_succ (by omega)]
  have e:a.take i ++ [a.getD i 0]=a.take (i+1):=by rw [List.take_add_one];simp [List.getD,show i < a.length by omega]
  rw [e]
  exact read_L1 ha (by simp only [SM];omega) hN k (i+1) g (by omega) (by omega)
theorem read_U {N:Nat} {a:List Int} (ha:U a) (hs:SM a.length) (hN:a.length < N):g_r01_read N a=some (lm (nvl a).toNat):=by
 have:=read_L1 ha hs hN a.length 0 N (by omega) hN
 unfold g_r01_read
 simpa using this
theorem made_L1 {N:Nat} {neg:Bool} {a:List Int} (ha:U a) (hs:SM a.length):∀ (k i fuel:Nat),i+k=a.length→k < fuel→g_r01_made_L1 N neg a fuel (a.take i) (i:Int)=some ⟨cond neg (decide (((a.length:Nat):Int) > 0)) false,a⟩
 | 0,i,fuel,hi,hf=>by
  obtain ⟨g,rfl⟩:∃ g,fuel=g+1:=⟨fuel - 1,by omega⟩
  have:i=a.length:=by omega
  subst this
  rw [g_r01_made_L1,dec_nlt,cond_false,List.take_length]
 | k+1,i,fuel,hi,hf=>by
  obtain ⟨g,rfl⟩:∃ g,fuel=g+1:=⟨fuel - 1,by omega⟩
  simp only [SM] at hs
  have h1:=ha.getD i
  rw [g_r01_made_L1,dec_lt (by omega),cond_true,if_pos (inb (by omega)),if_pos (by rw [List.length_take];omega),toNat_nat,wrap16_eq (by omega) (by omega),w64_succ (by omega)]
  have e:a.take i ++ [a.getD i 0]=a.take (i+1):=by rw [List.take_add_one];simp [List.getD,show i < a.length by omega]
  rw [e]
  exact made_L1 ha (by simp only [SM];omega) k (i+1) g (by omega) (by omega)
theorem made_gv (neg:Bool) {k:Nat} (hk:SM (lm k).length):Gv (fun N=>g_r01_made N neg (lm k)) (ofZ (sg neg k)) :=
 .of ((lm k).length+1) fun N hN=>by
  have:=made_L1 (N:=N) (neg:=neg) (U_lm k) hk (lm k).length 0 N (by omega) (by omega)
  rw [List.take_zero] at this
  unfold g_r01_made
  rw [show ((0:Nat):Int)=0 from rfl] at this
  rw [this]
  by_cases h:k=0
  ·subst h;rw [lm_zero,ofZ_sg0];cases neg<;>rfl
  ·rw [ofZ_sg _ _ h]
   have:=lm_len_pos.2 h
   rw [decide_eq_true (by omega)];cases neg<;>rfl
theorem rdigit_eq (N:Nat) (a:List Int) (i:Nat):g_r01_digit N a (i:Int)=some (a.getD i 0):=by
 unfold g_r01_digit
 by_cases h:i < a.length
 ·rw [dec_lt h,cond_true,if_pos (inb h),toNat_nat]
 ·rw [decide_eq_false (by omega),cond_false,getD_ge (by omega)]
theorem take_succ_pad (a:List Int) (i:Nat):nvl (a.take (i+1))=nvl (a.take i)+a.getD i 0 * pw i:=by
 by_cases h:i < a.length
 ·exact nvl_take_succ a i h
 ·rw [List.take_of_length_le (by omega),List.take_of_length_le (by omega),getD_ge (by omega)];simp
theorem rplus_L1 {N:Nat} {a b:List Int} (ha:U a) (hb:U b) (hs:SM (a.length+b.length+2)) (hN:a.length+b.length+2 < N):∀ (k i fuel:Nat) (out:List Int) (c:Int),a.length+b.length+1≤i+k→k < fuel→out.length=i→i≤a.length+b.length+1→U out→0≤c→c≤1 →
  (a.length < i∧b.length < i→c=0)→nvl out+pw i * c=nvl (a.take i)+nvl (b.take i)→g_r01_plus_L1 N a b fuel out c (i:Int)=some (lm (nvl a+nvl b).toNat):=by
 intro k
 simp only [SM] at hs
 induction k with
 | zero =>
  intro i fuel out c hi hf ho hi2 hU hc0 hc1 hc2 hinv
  obtain ⟨g,rfl⟩:∃ g,fuel=g+1:=⟨fuel - 1,by omega⟩
  have hc:=hc2 ⟨by omega,by omega⟩
  subst hc
  rw [g_r01_plus_L1,decide_eq_false (by omega),decide_eq_false (by omega),decide_eq_false (by decide)]
  simp only [cond_false]
  rw [rtrim_eq hU (by simp only [SM];omega) (by omega),Option.bind_some]
  rw [List.take_of_length_le (by omega),List.take_of_length_le (by omega)] at hinv
  rw [show nvl out=nvl a+nvl b by omega]
 | succ k ih =>
  intro i fuel out c hi hf ho hi2 hU hc0 hc1 hc2 hinv
  obtain ⟨g,rfl⟩:∃ g,fuel=g+1:=⟨fuel - 1,by omega⟩
  rw [g_r01_plus_L1]
  by_cases hgo:i < a.length∨i < b.length∨0 < c
  ·have e:cond (cond (decide ((i:Int) < ((a.length:Nat):Int))) true (decide ((i:Int) < ((b.length:Nat):Int)))) true (decide (c > 0))=true:=by
    rcases hgo with h | h | h
    ·rw [dec_lt h];rfl
    ·rw [dec_lt h];cases decide ((i:Int) < ((a.length:Nat):Int))<;>rfl
    ·rw [decide_eq_true (show c > 0 by omega)];cases cond (decide ((i:Int) < ((a.length:Nat):Int))) true (decide ((i:Int) < ((b.length:Nat):Int)))<;>rfl
   have h1:=ha.getD i
   have h2:=hb.getD i
   have hile:i≤a.length+b.length:=by
    rcases hgo with h | h | h
    ·omega
    ·omega
    ·have:¬ (a.length < i∧b.length < i):=fun h'=>by have:=hc2 h';omega
     omega
   rw [e,cond_true,rdigit_eq,Option.bind_some,rdigit_eq,Option.bind_some,if_pos (by omega),w64_eq (n:=a.getD i 0+b.getD i 0) (by omega) (by omega),w64_eq (n:=a.getD i 0+b.getD i 0+c) (by omega) (by omega),w64_succ (by omega)]
   generalize hsm:a.getD i 0+b.getD i 0+c=s
   have hs0:0≤s:=by omega
   rw [Int.tmod_eq_emod_of_nonneg hs0,Int.tdiv_eq_ediv_of_nonneg hs0,w64_eq (n:=s / 65536) (by omega) (by omega)]
   refine ih (i+1) g _ _ (by omega) (by omega) (by simp [ho]) (by omega) (hU.append (U.one (by omega) (by omega))) (by omega) (by omega) (fun h=>?_) ?_
   ·have e1:=getD_ge (show a.length≤i by omega)
    have e2:=getD_ge (show b.length≤i by omega)
    omega
   ·rw [nvl_append,nvl_one,ho,take_succ_pad a,take_succ_pad b,pw_succ]
    have h5:s=s % 65536+65536 * (s / 65536):=by omega
    have h6:pw i * s=pw i * (s % 65536)+pw i * (65536 * (s / 65536)):=by rw [← Int.mul_add,← h5]
    have h7:pw i * s=a.getD i 0 * pw i+b.getD i 0 * pw i+pw i * c:=by rw [← hsm,Int.mul_add,Int.mul_add,Int.mul_comm (pw i) (a.getD i 0),Int.mul_comm (pw i) (b.getD i 0)]
    have h8:65536 * pw i * (s / 65536)=pw i * (65536 * (s / 65536)):=by rw [Int.mul_comm 65536,Int.mul_assoc]
    omega
  ·have e:cond (cond (decide ((i:Int) < ((a.length:Nat):Int))) true (decide ((i:Int) < ((b.length:Nat):Int)))) true (decide (c > 0))=false:=by
    rw [decide_eq_false (by omega),decide_eq_false (by omega),decide_eq_false (by omega)];rfl
   have hc:c=0:=by omega
   subst hc
   rw [e,cond_false,rtrim_eq hU (by simp only [SM];omega) (by omega),Option.bind_some]
   rw [List.take_of_length_le (by omega),List.take_of_length_le (by omega)] at hinv
   rw [show nvl out=nvl a+nvl b by omega]
theorem rplus_lm {N a b:Nat} (hs:SM ((lm a).length+(lm b).length+2)) (hN:(lm a).length+(lm b).length+3 < N):g_r01_plus N (lm a) (lm b)=some (lm (a+b)):=by
 have:=rplus_L1 (N:=N) (U_lm a) (U_lm b) hs (by omega) ((lm a).length+(lm b).length+1) 0 N [] 0 (by omega) (by omega) rfl (by omega) U.nil (by omega) (by omega) (fun _=>rfl) (by simp [nvl])
 rw [nvl_lm,nvl_lm] at this
 exact this
theorem rcompare_L1 {N:Nat} {a b:List Int} (ha:U a) (hb:U b) (hl:a.length=b.length) (hs:SM a.length):∀ (k fuel:Nat),k≤a.length→k < fuel→g_r01_compare_L1 N a b fuel ((k:Int) - 1)=some (cmpL a b k)
 | 0,fuel,_,hf=>by
  obtain ⟨g,rfl⟩:∃ g,fuel=g+1:=⟨fuel - 1,by omega⟩
  rw [g_r01_compare_L1];rfl
 | k+1,fuel,hk,hf=>by
  obtain ⟨g,rfl⟩:∃ g,fuel=g+1:=⟨fuel - 1,by omega⟩
  simp only [SM] at hs
  have e:(((k+1:Nat):Int) - 1)=(k:Int):=by omega
  have h1:=ha.getD k
  have h2:=hb.getD k
  rw [e,g_r01_compare_L1,decide_eq_true (by omega),cond_true,if_pos (inb (by omega)),if_pos (inb (by omega)),toNat_nat,w64_eq (n:=a.getD k 0 - b.getD k 0) (by omega) (by omega),w64_eq (n:=(k:Int) - 1) (by omega) (by omega),rcompare_L1 ha hb hl (by simp only [SM];omega) k g (by omega) (by omega)]
  rw [cmpL]
  cases (a.getD k 0 != b.getD k 0)<;>rfl
theorem rcompare_cmp {N a b:Nat} (hN:(lm a).length < N) (ha:SM (lm a).length) (hb:SM (lm b).length):g_r01_compare N (lm a) (lm b)=some (cmpN a b):=by
 unfold g_r01_compare cmpN
 simp only [SM] at ha hb
 cases hl:((((lm a).length:Nat):Int) != (((lm b).length:Nat):Int)) with
 | true=>rw [cond_true,cond_true,w64_eq (by omega) (by omega)]
 | false =>
  have heq:(lm a).length=(lm b).length:=by simp at hl;omega
  rw [cond_false,cond_false,w64_eq (by omega) (by omega)]
  exact rcompare_L1 (U_lm a) (U_lm b) heq ha _ N (Nat.le_refl _) hN
theorem rminus_L1 {N:Nat} {a b:List Int} (ha:U a) (hb:U b) (hl:b.length≤a.length) (hle:nvl b≤nvl a) (hs:SM a.length) (hN:a.length+1 < N):∀ (k x fuel:Nat) (out:List Int) (c:Int),x+k=a.length→k < fuel→out.length=x→U out→0≤c→c≤1 →
  nvl out - pw x * c=nvl (a.take x) - nvl (b.take x)→g_r01_minus_L1 N a b fuel out c (x:Int)=some (lm (nvl a - nvl b).toNat)
 | 0,x,fuel,out,c,hx,hf,ho,hU,hc0,hc1,hinv=>by
  obtain ⟨g,rfl⟩:∃ g,fuel=g+1:=⟨fuel - 1,by omega⟩
  have hxe:x=a.length:=by omega
  subst hxe
  rw [g_r01_minus_L1,dec_nlt,cond_false,rtrim_eq hU (by simp only [SM] at *;omega) (by omega),Option.bind_some]
  rw [List.take_length,List.take_of_length_le hl] at hinv
  have h1:=hU.lt
  rw [ho] at h1
  have hc:c=0:=by
   rcases Int.lt_or_le 0 c with h | h
   ·have:c=1:=by omega
    subst this;omega
   ·omega
  subst hc
  rw [show nvl out=nvl a - nvl b by omega]
 | k+1,x,fuel,out,c,hx,hf,ho,hU,hc0,hc1,hinv=>by
  obtain ⟨g,rfl⟩:∃ g,fuel=g+1:=⟨fuel - 1,by omega⟩
  simp only [SM] at hs
  have hxl:x < a.length:=by omega
  have h1:=ha.getD x
  have h2:=hb.getD x
  rw [g_r01_minus_L1,dec_lt hxl,cond_true,if_pos (inb hxl),rdigit_eq,Option.bind_some,toNat_nat,w64_eq (n:=a.getD x 0 - b.getD x 0) (by omega) (by omega),w64_eq (n:=a.getD x 0 - b.getD x 0 - c) (by omega) (by omega)]
  have fin:∀ q s:Int,0≤q→q≤1→s=a.getD x 0 - b.getD x 0 - c+q * 65536→0≤s→s < 65536→g_r01_minus_J2 N a b out (x:Int) (g_r01_minus_L1 N a b g) q s=some (lm (nvl a - nvl b).toNat):=by
   intro q s hq0 hq1 hse hs0 hs1
   unfold g_r01_minus_J2
   rw [if_pos (by omega),w64_succ (by omega)]
   refine rminus_L1 ha hb hl hle (by simp only [SM];omega) hN k (x+1) g _ _ (by omega) (by omega) (by simp [ho]) (hU.append (U.one hs0 hs1)) hq0 hq1 ?_
   rw [nvl_append,nvl_one,ho,take_succ_pad a,take_succ_pad b,pw_succ]
   have h3:pw x * s=a.getD x 0 * pw x - b.getD x 0 * pw x - pw x * c+65536 * pw x * q:=by rw [hse];grind
   omega
  cases hlt:decide (a.getD x 0 - b.getD x 0 - c < 0) with
  | true =>
   have hlt:=of_decide_eq_true hlt
   rw [cond_true,w64_eq (by omega) (by omega)]
   exact fin 1 _ (by omega) (by omega) (by omega) (by omega) (by omega)
  | false =>
   have hlt:=of_decide_eq_false hlt
   rw [cond_false]
   exact fin 0 _ (by omega) (by omega) (by omega) (by omega) (by omega)
theorem rminus_lm {N a b:Nat} (hab:b≤a) (hs:SM (lm a).length) (hN:(lm a).length+1 < N):g_r01_minus N (lm a) (lm b)=some (lm (a - b)):=by
 have:=rminus_L1 (N:=N) (U_lm a) (U_lm b) (lm_len_mono hab) (by rw [nvl_lm,nvl_lm];omega) hs hN (lm a).length 0 N [] 0 (by omega) (by omega) rfl U.nil (by omega) (by omega) (by simp [nvl])
 rw [nvl_lm,nvl_lm] at this
 rw [show (lm (a - b))=lm ((a:Int) - (b:Int)).toNat by congr 1;omega]
 exact this
theorem rtimes_L2 {N:Nat} {a b:List Int} {i:Nat} (ha:U a) (hb:U b) (hi:i < a.length) (hs:SM (a.length+b.length+1)) (K:List Int→Int→Option (List Int)) (R:Option (List Int))
  (hK:∀ out,out.length=a.length+b.length+1→U out→(∀ j,i+1+b.length≤j→out.getD j 0=0)→nvl out=nvl (a.take (i+1)) * nvl b→K out ((i+1:Nat):Int)=R) :
  ∀ (k x fuel:Nat) (out:List Int) (c:Int),x+k=b.length+1→k < fuel→out.length=a.length+b.length+1→U out→0≤c→c < 65536→(x=b.length+1→c=0)→(∀ j,i+b.length≤j→x≤b.length→out.getD j 0=0)→(∀ j,i+1+b.length≤j→out.getD j 0=0) →
   nvl out+pw (i+x) * c=nvl (a.take i) * nvl b+a.getD i 0 * pw i * nvl (b.take x)→g_r01_times_L2 N a b (i:Int) K fuel out c (x:Int)=R:=by
 intro k
 simp only [SM] at hs
 induction k with
 | zero =>
  intro x fuel out c hx hf ho hU hc0 hc1 hc2 hz hz2 hinv
  obtain ⟨g,rfl⟩:∃ g,fuel=g+1:=⟨fuel - 1,by omega⟩
  have hxe:x=b.length+1:=by omega
  subst hxe
  have hc:=hc2 rfl
  subst hc
  rw [g_r01_times_L2,decide_eq_false (by omega),decide_eq_false (by decide)]
  simp only [cond_false]
  rw [w64_succ (by omega)]
  refine hK out ho hU hz2 ?_
  rw [show b.take (b.length+1)=b from List.take_of_length_le (by omega)] at hinv
  rw [nvl_take_succ a i hi,Int.add_mul];omega
 | succ k ih =>
  intro x fuel out c hx hf ho hU hc0 hc1 hc2 hz hz2 hinv
  obtain ⟨g,rfl⟩:∃ g,fuel=g+1:=⟨fuel - 1,by omega⟩
  rw [g_r01_times_L2]
  have h1:=ha.getD i
  have h2:=hb.getD x
  have h3:=hU.getD (i+x)
  by_cases hgo:x < b.length∨0 < c
  ·have e:cond (decide ((x:Int) < ((b.length:Nat):Int))) true (decide (c > 0))=true:=by
    rcases hgo with h | h
    ·rw [dec_lt h];rfl
    ·rw [decide_eq_true (show c > 0 by omega)];cases decide ((x:Int) < ((b.length:Nat):Int))<;>rfl
   have ei:w64 ((i:Int)+(x:Int))=((i+x:Nat):Int):=by rw [w64_eq (by omega) (by omega)];omega
   have h4:=mul_lt16 h1.1 h1.2 h2.1 h2.2
   rw [e,cond_true,ei,if_pos (inb (by omega)),if_pos (inb hi),rdigit_eq,Option.bind_some]
   simp only [toNat_nat]
   rw [w64_eq (n:=a.getD i 0 * b.getD x 0) (by omega) (by omega),w64_eq (n:=out.getD (i+x) 0+a.getD i 0 * b.getD x 0) (by omega) (by omega),w64_eq (n:=out.getD (i+x) 0+a.getD i 0 * b.getD x 0+c) (by omega) (by omega),w64_succ (by omega)]
   generalize hs2:out.getD (i+x) 0+a.getD i 0 * b.getD x 0+c=s
   have hs0:0≤s:=by omega
   rw [Int.tmod_eq_emod_of_nonneg hs0,Int.tdiv_eq_ediv_of_nonneg hs0,w64_eq (n:=s / 65536) (by omega) (by omega)]
   refine ih (x+1) g _ _ (by omega) (by omega) (by simp [ho]) (hU.set _ (by omega) (by omega)) (by omega) (by omega) (fun h=>?_) (fun j hj hj2=>?_) (fun j hj=>?_) ?_
   ·have e1:=getD_ge (show b.length≤x by omega)
    have e2:=hz (i+x) (by omega) (by omega)
    rw [e1,e2] at hs2;simp at hs2;omega
   ·rw [getD_set_ne _ _ (by omega)];exact hz j hj (by omega)
   ·rw [getD_set_ne _ _ (by omega)];exact hz2 j hj
   ·rw [nvl_set _ _ _ (by omega),take_succ_pad b,show i+(x+1)=(i+x)+1 by omega,pw_succ]
    have h5:s=s % 65536+65536 * (s / 65536):=by omega
    have h6:pw (i+x) * s=pw (i+x) * (s % 65536)+pw (i+x) * (65536 * (s / 65536)):=by rw [← Int.mul_add,← h5]
    have h7:pw (i+x) * s=pw (i+x) * c+pw (i+x) * (a.getD i 0 * b.getD x 0)+pw (i+x) * out.getD (i+x) 0:=by rw [← hs2,Int.mul_add,Int.mul_add];omega
    have h8:65536 * pw (i+x) * (s / 65536)=pw (i+x) * (65536 * (s / 65536)):=by rw [Int.mul_comm 65536,Int.mul_assoc]
    have h9:(s % 65536 - out.getD (i+x) 0) * pw (i+x)=pw (i+x) * (s % 65536) - pw (i+x) * out.getD (i+x) 0:=by rw [Int.sub_mul,Int.mul_comm,Int.mul_comm (out.getD (i+x) 0)]
    have h10:a.getD i 0 * pw i * (nvl (b.take x)+b.getD x 0 * pw x)=a.getD i 0 * pw i * nvl (b.take x)+pw (i+x) * (a.getD i 0 * b.getD x 0):=by
     rw [pw_add];grind
    omega
  ·have e:cond (decide ((x:Int) < ((b.length:Nat):Int))) true (decide (c > 0))=false:=by
    rw [decide_eq_false (by omega),decide_eq_false (by omega)];rfl
   have hc:c=0:=by omega
   subst hc
   rw [e,cond_false,w64_succ (by omega)]
   refine hK out ho hU hz2 ?_
   rw [show b.take x=b from List.take_of_length_le (by omega)] at hinv
   rw [nvl_take_succ a i hi,Int.add_mul];omega
theorem rtimes_L1 {N:Nat} {a b:List Int} (ha:U a) (hb:U b) (hs:SM (a.length+b.length+1)) (hN:a.length+b.length+2 < N):∀ (k x fuel:Nat) (out:List Int),x+k=a.length→k < fuel→out.length=a.length+b.length+1→U out →
  (∀ j,x+b.length≤j→out.getD j 0=0)→nvl out=nvl (a.take x) * nvl b→g_r01_times_L1 N a b fuel out (x:Int)=some (lm (nvl a * nvl b).toNat)
 | 0,x,fuel,out,hx,hf,ho,hU,hz,hinv=>by
  obtain ⟨g,rfl⟩:∃ g,fuel=g+1:=⟨fuel - 1,by omega⟩
  have hxe:x=a.length:=by omega
  subst hxe
  rw [g_r01_times_L1,dec_nlt,cond_false,rtrim_eq hU (by simp only [SM] at *;omega) (by omega),Option.bind_some,hinv,List.take_length]
 | k+1,x,fuel,out,hx,hf,ho,hU,hz,hinv=>by
  obtain ⟨g,rfl⟩:∃ g,fuel=g+1:=⟨fuel - 1,by omega⟩
  have hxl:x < a.length:=by omega
  rw [g_r01_times_L1,dec_lt hxl,cond_true]
  refine rtimes_L2 ha hb hxl hs _ _ (fun out2 h1 h2 h3 h4=>?_) (b.length+1) 0 N out 0 (by omega) (by omega) ho hU (by omega) (by omega) (fun h=>by omega) (fun j hj _=>hz j hj) (fun j hj=>hz j (by omega)) (by rw [hinv];simp [nvl])
  exact rtimes_L1 ha hb hs hN k (x+1) g out2 (by omega) (by omega) h1 h2 h3 h4
theorem rtimes_U {N:Nat} {a b:List Int} (ha:U a) (hb:U b) (hs:SM (a.length+b.length+1)) (hN:a.length+b.length+2 < N):g_r01_times N a b=some (lm (nvl a * nvl b).toNat):=by
 unfold g_r01_times
 have hs':=hs
 simp only [SM] at hs'
 have e:w64 (w64 (((a.length:Nat):Int)+((b.length:Nat):Int))+1)=((a.length+b.length+1:Nat):Int):=by rw [w64_eq (n:=((a.length:Nat):Int)+((b.length:Nat):Int)) (by omega) (by omega),w64_eq (by omega) (by omega)];omega
 rw [e,if_pos (by omega)]
 exact rtimes_L1 ha hb hs hN a.length 0 N _ (by omega) (by omega) (by simp;omega) (U.replicate _) (fun j _=>getD_replicate _ j) (by rw [nvl_replicate];simp [nvl])
theorem rtimes_lm {N a b:Nat} (hs:SM ((lm a).length+(lm b).length+1)) (hN:(lm a).length+(lm b).length+2 < N):g_r01_times N (lm a) (lm b)=some (lm (a * b)):=by
 rw [rtimes_U (U_lm a) (U_lm b) hs hN,nvl_lm,nvl_lm,toNat_mul_nat]
theorem over_L2 {N:Nat} {a q:List Int} {b i X:Nat} (hb:0 < b) (hX:X < 65536 * b) (hq:i < q.length) (hs:SM ((lm b).length+(lm X).length+3)) (hi:SM i) (hN:(lm b).length+(lm X).length+65546 < N) (K:List Int→List Int→Int→Option (List Int×List Int)) :
  ∀ (d lo hi fuel:Nat),hi - lo≤d→lo≤hi→hi < 65536→d < fuel→lo * b≤X→X < (hi+1) * b→g_r01_over_L2 N a (lm b) q (i:Int) (lm X) K fuel (lo:Int) (hi:Int)=K (lm (X % b)) (q.set i ((X / b:Nat):Int)) ((i:Int) - 1):=by
 intro d
 simp only [SM] at hs hi
 have one:∀ m:Nat,m < 65536→g_r01_times N (lm b) [(m:Int)]=some (lm (b * m)):=fun m hm=>by
  rw [rtimes_U (U_lm b) (U.one (by omega) (by omega)) (by simp only [SM,List.length_singleton];omega) (by simp only [List.length_singleton];omega),nvl_lm,nvl_one,toNat_mul_nat]
 have lenm:∀ m:Nat,m < 65536→(lm (b * m)).length≤(lm b).length+1:=fun m hm=>by
  rw [lm_len_le,pw_succ]
  have:=(lm_len_le (n:=b) (k:=(lm b).length)).1 (Nat.le_refl _)
  have h2:=Nat.mul_le_mul_left b (show m≤65535 by omega)
  have:=pw_pos (lm b).length
  omega
 induction d with
 | zero =>
  intro lo hi' fuel hd hle hhi hf h1 h2
  obtain ⟨g,rfl⟩:∃ g,fuel=g+1:=⟨fuel - 1,by omega⟩
  have hlh:hi'=lo:=by omega
  subst hlh
  have hdiv:X / b=hi':=by
   have h3:X=hi' * b+(X - hi' * b):=by omega
   have h4:X - hi' * b < b:=by rw [Nat.add_mul,Nat.one_mul] at h2;omega
   exact (sub_mod_div h3 h4).1
  have hmod:X % b=X - b * hi':=by
   have:=Nat.div_add_mod X b
   rw [hdiv] at this;omega
  rw [g_r01_over_L2,decide_eq_false (by omega),cond_false,if_pos (inb hq)]
  have h5:b * hi'≤X:=by rw [Nat.mul_comm];exact h1
  by_cases h0:0 < hi'
  ·rw [decide_eq_true (by omega),cond_true,one hi' hhi,Option.bind_some,rminus_lm h5 (by simp only [SM];omega) (by omega),Option.bind_some]
   unfold g_r01_over_J3
   rw [toNat_nat,w64_eq (by omega) (by omega),hdiv,hmod]
  ·have:hi'=0:=by omega
   subst this
   rw [decide_eq_false (by decide),cond_false]
   unfold g_r01_over_J3
   rw [toNat_nat,w64_eq (by omega) (by omega),hdiv,hmod];simp
 | succ d ih =>
  intro lo hi' fuel hd hle hhi hf h1 h2
  obtain ⟨g,rfl⟩:∃ g,fuel=g+1:=⟨fuel - 1,by omega⟩
  by_cases hlt:lo < hi'
  ·rw [g_r01_over_L2,decide_eq_true (by omega),cond_true,w64_eq (n:=(lo:Int)+(hi':Int)) (by omega) (by omega),w64_eq (n:=(lo:Int)+(hi':Int)+1) (by omega) (by omega)]
   have em:((lo:Int)+(hi':Int)+1).tdiv 2=(((lo+hi'+1) / 2:Nat):Int):=by rw [Int.tdiv_eq_ediv_of_nonneg (by omega)];omega
   rw [em,w64_eq (n:=(((lo+hi'+1) / 2:Nat):Int)) (by omega) (by omega)]
   generalize hm:(lo+hi'+1) / 2=m
   have hml:=lenm m (by omega)
   rw [one m (by omega),Option.bind_some,rcompare_cmp (by omega) (by simp only [SM];omega) (by simp only [SM];omega),Option.bind_some]
   have hc:cmpN (b * m) X≤0↔b * m≤X:=by
    obtain ⟨c,_,h3,h4,h5⟩:=compare_eq (N:=(lm (b * m)).length+1) (a:=b * m) (b:=X) (by omega) (by simp only [SM];omega) (by simp only [SM];omega)
    rw [← h5];omega
   by_cases hle2:b * m≤X
   ·rw [decide_eq_true (hc.2 hle2),cond_true]
    exact ih m hi' g (by omega) (by omega) hhi (by omega) (by rw [Nat.mul_comm];exact hle2) h2
   ·rw [decide_eq_false (fun h=>hle2 (hc.1 h)),cond_false,w64_eq (by omega) (by omega)]
    have e1:((m:Int) - 1)=((m - 1:Nat):Int):=by omega
    rw [e1]
    refine ih lo (m - 1) g (by omega) (by omega) (by omega) (by omega) h1 ?_
    rw [show m - 1+1=m by omega,Nat.mul_comm];omega
  ·have:=ih lo hi' (g+1) (by omega) hle hhi (by omega) h1 h2
   exact this
theorem over_L1 {N:Nat} {A b:Nat} (hb:0 < b) (hs:SM (2 * (lm A).length+2 * (lm b).length+10)) (hN:(lm A).length+2 * (lm b).length+65560 < N):∀ (k fuel:Nat) (q:List Int) (r:Nat),k≤(lm A).length→k < fuel→q.length=(lm A).length→U q→r < b →
  (∀ j,j < k→q.getD j 0=0)→pw k * nvl ((lm A).drop k)=nvl q * b+r * pw k→g_r01_over_L1 N (lm A) (lm b) fuel (lm r) q ((k:Int) - 1)=some (lm (A / b),lm (A % b))
 | 0,fuel,q,r,hk,hf,hq,hU,hr,hz,hinv=>by
  obtain ⟨g,rfl⟩:∃ g,fuel=g+1:=⟨fuel - 1,by omega⟩
  have e:decide ((((0:Nat):Int) - 1)≥0)=false:=rfl
  rw [g_r01_over_L1,e,cond_false,rtrim_eq hU (by simp only [SM] at *;omega) (by omega),Option.bind_some]
  rw [pw_zero,List.drop_zero,nvl_lm] at hinv
  have hq0:=hU.nonneg
  obtain ⟨Q,hQ⟩:=Int.eq_ofNat_of_zero_le hq0
  rw [hQ] at hinv ⊢
  have h6:A=Q * b+r:=by
   have h9:(A:Int)=Q * b+r:=by omega
   exact_mod_cast h9
  obtain ⟨h7,h8⟩:=sub_mod_div h6 hr
  rw [h7,h8];rfl
 | k+1,fuel,q,r,hk,hf,hq,hU,hr,hz,hinv=>by
  obtain ⟨g,rfl⟩:∃ g,fuel=g+1:=⟨fuel - 1,by omega⟩
  have hs':=hs
  simp only [SM] at hs'
  have e:(((k+1:Nat):Int) - 1)=(k:Int):=by omega
  have h1:=(U_lm A).getD k
  have hrl:(lm r).length≤(lm b).length:=lm_len_mono (by omega)
  rw [e,g_r01_over_L1,decide_eq_true (by omega),cond_true,if_pos (inb (by omega)),if_pos (by omega),toNat_nat]
  obtain ⟨D,hD⟩:=Int.eq_ofNat_of_zero_le h1.1
  have hX:lm (nvl ([(lm A).getD k 0] ++ lm r)).toNat=lm (D+65536 * r):=by
   have e9:nvl ([(lm A).getD k 0] ++ lm r)=((D+65536 * r:Nat):Int):=by rw [nvl_append,nvl_one,nvl_lm,hD];simp [pw]
   rw [e9,Int.toNat_natCast]
  have hD2:D < 65536:=by omega
  rw [rtrim_eq ((U.one h1.1 h1.2).append (U_lm r)) (by simp only [SM,List.length_append,List.length_singleton];omega) (by simp only [List.length_append,List.length_singleton];omega),Option.bind_some,hX]
  have hXb:D+65536 * r < 65536 * b:=by omega
  have hXl:(lm (D+65536 * r)).length≤(lm b).length+1:=by
   rw [lm_len_le,pw_succ]
   have:=(lm_len_le (n:=b) (k:=(lm b).length)).1 (Nat.le_refl _)
   omega
  have:=over_L2 (N:=N) (a:=lm A) (q:=q) (b:=b) (i:=k) (X:=D+65536 * r) hb hXb (by omega) (by simp only [SM];omega) (by simp only [SM];omega) (by omega) (g_r01_over_L1 N (lm A) (lm b) g) 65535 0 65535 N (by omega) (by omega) (by omega) (by omega) (by omega) (by omega)
  rw [show ((0:Nat):Int)=0 from rfl,show ((65535:Nat):Int)=65535 from rfl] at this
  rw [this]
  have hdv:(D+65536 * r) / b < 65536:=Nat.div_lt_of_lt_mul (by omega)
  have hml:=Nat.mod_lt (D+65536 * r) hb
  have hdm:=Nat.div_add_mod (D+65536 * r) b
  generalize (D+65536 * r) / b=u at *
  generalize (D+65536 * r) % b=v at *
  refine over_L1 hb hs hN k g _ _ (by omega) (by omega) (by simp [hq]) (hU.set _ (by omega) (by omega)) hml (fun j hj=>by rw [getD_set_ne _ _ (by omega)];exact hz j (by omega)) ?_
  rw [nvl_set _ _ _ (by omega),hz k (by omega),Int.sub_zero,nvl_drop _ k (by omega),hD]
  rw [pw_succ] at hinv
  have h2:(D:Int)+65536 * r=b * u+v:=by
   have:=congrArg (fun x:Nat=>(x:Int)) hdm
   simp only [Int.natCast_add,Int.natCast_mul] at this
   omega
  have h3:pw k * ((D:Int)+65536 * r)=pw k * (b * u+v):=by rw [h2]
  grind
theorem over_lm {N A b:Nat} (hb:b≠0) (hs:SM (2 * (lm A).length+2 * (lm b).length+10)) (hN:(lm A).length+2 * (lm b).length+65560 < N):g_r01_over N (lm A) (lm b)=some (lm (A / b),lm (A % b)):=by
 have hs':=hs
 simp only [SM] at hs'
 unfold g_r01_over
 rw [if_pos (by omega),w64_eq (by omega) (by omega)]
 have:=over_L1 (N:=N) (A:=A) (b:=b) (by omega) hs hN (lm A).length N (List.replicate (lm A).length 0) 0 (Nat.le_refl _) (by omega) (by simp) (U.replicate _) (by omega) (fun j _=>getD_replicate _ j) (by rw [List.drop_length,nvl_replicate];simp [nvl])
 rw [lm_zero] at this
 exact this
end Go.Den
namespace Go.Den
open Go.Ab
abbrev LM (n:Nat):Prop:=n < 1000000000000
section
variable {a b:TInt} {x y:TRat} {m n:Nat} {p q:Rat} {z w:Int}
theorem ZI.read (ha:ZI a z n) (hs:LM n):Gv (fun N=>g_r01_read N a.f_Limbs) (lm z.natAbs) :=
 .of (n+1) fun N hN=>by
  have:=read_U (N:=N) ha.ib.U (by have:=ha.ib.len;simp only [SM,LM] at *;omega) (by have:=ha.ib.len;omega)
  rwa [← zv_natAbs,ha.v] at this
theorem ZI.sgeq (ha:ZI a z n):z=sg a.f_Neg z.natAbs:=by
 have h1:=zv_natAbs a
 have:zv a=sg a.f_Neg (zv a).natAbs:=by rw [h1];rfl
 rwa [ha.v] at this
theorem rmade_of {neg:Bool} {k:Nat} (hz:ZB (sg neg k) n) (hs:LM n):Gv (fun N=>g_r01_made N neg (lm k)) (ofZ (sg neg k)):=by
 unfold ZB at hz
 rw [sg_natAbs] at hz
 exact made_gv neg (by simp only [SM,LM] at *;omega)
theorem rOf_L1 {N:Nat} {z:Int}:∀ (fuel n:Nat) (out:List Int) (r:Option TInt),(lm n).length < fuel→out.length+(lm n).length < 1000→n < 18446744073709551616→((g_r01_made N (decide (z < 0)) (out ++ lm n)).bind fun r=>some r)=r→g_r01_Of_L1 N z fuel out (n:Int)=r
 | 0,n,out,r,h,_,_,_=>by omega
 | fuel+1,n,out,r,h,h2,h3,hr=>by
  rw [g_r01_Of_L1]
  by_cases hn:n=0
  ·subst hn
   rw [lm_zero,List.append_nil] at hr
   exact hr
  ·have e:decide ((n:Int) > 0)=true:=by simp;omega
   rw [lm_pos hn] at h h2
   simp only [List.length_cons] at h h2
   have e1:((n:Int) / 65536)=((n / 65536:Nat):Int):=by omega
   have e2:((n:Int) % 65536)=((n % 65536:Nat):Int):=by omega
   rw [e,cond_true,if_pos (by omega),Int.tmod_eq_emod_of_nonneg (by omega),Int.tdiv_eq_ediv_of_nonneg (by omega),e1,e2,wrap64_eq (by omega) (by omega),w64_eq (by omega) (by omega)]
   refine rOf_L1 fuel (n / 65536) _ r (by omega) (by simp;omega) (by omega) ?_
   rw [← hr,lm_pos hn,List.append_assoc];rfl
theorem rOf (h1:-9223372036854775808≤z) (h2:z≤9223372036854775807):Gv (fun N=>g_r01_Of N z) (ofZ z):=by
 have hl:ZB z 4:=ZB.word h1 h2
 have key:Gv (fun N=>g_r01_Of_L1 N z N [] ((z.natAbs:Nat):Int)) (ofZ z):=by
  have hm:Gv (fun N=>(g_r01_made N (decide (z < 0)) (lm z.natAbs)).bind fun r=>some r) (ofZ z):=by
   by_cases h:z < 0
   ·have e:sg true z.natAbs=z:=by simp [sg];omega
    have:=rmade_of (neg:=true) (k:=z.natAbs) (n:=4) (by rw [e];exact hl) (by decide)
    rw [e] at this
    rw [decide_eq_true h]
    exact this.bind (Gv.pure _)
   ·have e:sg false z.natAbs=z:=by simp [sg];omega
    have:=rmade_of (neg:=false) (k:=z.natAbs) (n:=4) (by rw [e];exact hl) (by decide)
    rw [e] at this
    rw [decide_eq_false h]
    exact this.bind (Gv.pure _)
  obtain ⟨N0,hm⟩:=hm
  refine .of (N0+5) fun N hN=>?_
  unfold ZB at hl
  exact rOf_L1 N z.natAbs [] _ (by omega) (by simp;omega) (by omega) (by have:=hm N (by omega);simpa using this)
 unfold g_r01_Of
 by_cases h:z < 0
 ·have e:IntKind.u64.wrap (0 - IntKind.u64.wrap z)=((z.natAbs:Nat):Int):=by rw [wrap64,wrap64];omega
  refine Gv.condT (decide_eq_true h) ?_
  rw [e];exact key
 ·have e:IntKind.u64.wrap z=((z.natAbs:Nat):Int):=by rw [wrap64];omega
  refine Gv.condF (decide_eq_false h) ?_
  rw [e];exact key
theorem ZI.rnorm (ha:ZI a z n) (hs:LM n):Gv (fun N=>g_r01_Norm N a) (ofZ z):=by
 refine (ha.read hs).bind ?_
 have e:=ha.sgeq
 refine Gv.bind (r:=ofZ z) ?_ (Gv.pure _)
 have:=rmade_of (neg:=a.f_Neg) (k:=z.natAbs) (n:=n) (by rw [← e];exact ha.zb) hs
 rwa [← e] at this
theorem rover_gv {A B:Nat} (ha:(lm A).length≤m) (hb:(lm B).length≤n) (h0:B≠0) (hs:LM (m+n+10)):Gv (fun N=>g_r01_over N (lm A) (lm B)) (lm (A / B),lm (A % B)) :=
 .of (m+2 * n+65561) fun N hN=>over_lm h0 (by simp only [SM,LM] at *;omega) (by omega)
end
end Go.Den
namespace Go.Den
open Go.Ab
section
variable {a b:TInt} {x y:TRat} {m n:Nat} {p q:Rat} {z w:Int}
theorem rgcd_L1 {N k:Nat} (hk:LM (4 * k+30)) (hN:3 * k+65570 < N):∀ (y x fuel:Nat),y < fuel→(lm x).length≤k→(lm y).length≤k→g_r01_gcd_L1 N fuel (lm x) (lm y)=some (lm (Nat.gcd x y)):=by
 intro y
 simp only [LM] at hk
 induction y using Nat.strongRecOn with
 | _ y ih =>
  intro x fuel hf hx hy
  obtain ⟨g,rfl⟩:∃ g,fuel=g+1:=⟨fuel - 1,by omega⟩
  rw [g_r01_gcd_L1]
  by_cases h:y=0
  ·subst h
   rw [lm_zero,Nat.gcd_zero_right];rfl
  ·have hl:=lm_len_pos.2 h
   rw [decide_eq_true (by omega),cond_true,over_lm h (by simp only [SM];omega) (by omega),Option.bind_some]
   have hlt:=Nat.mod_lt x (Nat.pos_of_ne_zero h)
   rw [ih (x % y) hlt y g (by omega) hy (Nat.le_trans (lm_len_mono (by omega)) hy),Nat.gcd_comm x y,Nat.gcd_rec y x,Nat.gcd_comm]
theorem rgcd_gv {x y k:Nat} (hx:(lm x).length≤k) (hy:(lm y).length≤k) (hk:LM (4 * k+30)):Gv (fun N=>g_r01_gcd N (lm x) (lm y)) (lm (Nat.gcd x y)) :=
 .of (3 * k+65571+y) fun N hN=>rgcd_L1 hk (by omega) y x N (by omega) hx hy
theorem ZI.rover (ha:ZI a z n) (hb:ZI b w n) (h0:w≠0) (hs:LM (4 * n+30)):Gv (fun N=>g_r01_Over N a b) (ofQ (Rat.divInt z w)):=by
 simp only [LM] at hs
 have ha':=ha.zb
 have hb':=hb.zb
 unfold ZB at ha' hb'
 refine (ha.read (by simp only [LM];omega)).bind ((hb.read (by simp only [LM];omega)).bind ?_)
 have hX:=ha.sgeq
 have hY:=hb.sgeq
 clear ha hb
 generalize hxx:z.natAbs=x at *
 generalize hyy:w.natAbs=y at *
 have hy0:y≠0:=by omega
 have hg0:0 < Nat.gcd x y:=Nat.gcd_pos_of_pos_right _ (by omega)
 refine Gv.condF (by have:=lm_len_pos.2 hy0;simp;exact fun h'=>by rw [h'] at this;simp at this) ?_
 refine (rgcd_gv ha' hb' (by simp only [LM];omega)).bind ?_
 have hgn:(lm (Nat.gcd x y)).length≤n:=Nat.le_trans (lm_len_mono (Nat.gcd_le_right _ (by omega))) hb'
 refine (rover_gv ha' hgn (by omega) (by simp only [LM];omega)).bind ((rover_gv hb' hgn (by omega) (by simp only [LM];omega)).bind ?_)
 generalize hu:x / Nat.gcd x y=u
 generalize hv:y / Nat.gcd x y=v
 have hul:(lm u).length≤n:=Nat.le_trans (lm_len_mono (by rw [← hu];exact Nat.div_le_self _ _)) ha'
 have hvl:(lm v).length≤n:=Nat.le_trans (lm_len_mono (by rw [← hv];exact Nat.div_le_self _ _)) hb'
 refine (rmade_of (neg:=!(a.f_Neg == b.f_Neg)) (k:=u) (n:=n) (by unfold ZB;rw [sg_natAbs];exact hul) (by simp only [LM];omega)).bind ((rmade_of (neg:=false) (k:=v) (n:=n) (by unfold ZB;rw [sg_natAbs];exact hvl) (by simp only [LM];omega)).bind ((Gv.pure _).eq ?_))
 have hgcd:Int.gcd w z=Nat.gcd x y:=by unfold Int.gcd;rw [hxx,hyy,Nat.gcd_comm]
 unfold ofQ
 rw [Rat.num_divInt,Rat.den_divInt,if_neg h0,hgcd,hyy,hv]
 have hd:(Nat.gcd x y) ∣ x:=Nat.gcd_dvd_left _ _
 have e1:w.sign * z / ((Nat.gcd x y:Nat):Int)=sg (!(a.f_Neg == b.f_Neg)) u:=by
  have hxu:(x:Int)=(Nat.gcd x y:Nat) * (u:Int):=by
   have:x=Nat.gcd x y * u:=by rw [← hu,Nat.mul_div_cancel' hd]
   exact_mod_cast this
  have e2:w.sign * z=(Nat.gcd x y:Nat) * sg (!(a.f_Neg == b.f_Neg)) u:=by
   rw [hX,hY]
   cases a.f_Neg<;>cases b.f_Neg<;>simp only [sg,cond_true,cond_false,Bool.not_true,Bool.not_false,BEq.rfl,show (true == false)=false from rfl,show (false == true)=false from rfl]
   ·rw [Int.sign_eq_one_of_pos (by omega),Int.one_mul,← hxu]
   ·rw [Int.sign_eq_neg_one_of_neg (by omega),Int.mul_neg,← hxu];omega
   ·rw [Int.sign_eq_one_of_pos (by omega),Int.one_mul,Int.mul_neg,← hxu]
   ·rw [Int.sign_eq_neg_one_of_neg (by omega),← hxu];omega
  rw [e2,Int.mul_ediv_cancel_left _ (by omega)]
 rw [e1];rfl
theorem rone:Gv (fun N=>g_r01_Of N 1) (ofZ 1):=rOf (by decide) (by decide)
theorem ZI.rover0 (ha:ZI a z n) (hb:ZI b w n) (h0:w=0) (hs:LM (4 * n+30)):Gv (fun N=>g_r01_Over N a b) (ofQ (z:Rat)):=by
 simp only [LM] at hs
 refine (ha.read (by simp only [LM];omega)).bind ((hb.read (by simp only [LM];omega)).bind ?_)
 refine Gv.condT (by rw [h0];show (((lm 0).length:Nat):Int) == 0;rw [lm_zero];rfl) ?_
 have e:=ha.sgeq
 have:=rmade_of (neg:=a.f_Neg) (k:=z.natAbs) (n:=n) (by rw [← e];exact ha.zb) (by simp only [LM];omega)
 rw [← e] at this
 exact this.bind (rone.bind (Gv.pure _))
theorem RQ.parts (h:RQ x p n):∃ z w,ZI x.f_Num z n∧ZI x.f_Den w n∧p=Rat.divInt z (if w=0 then 1 else w) :=
 ⟨zv x.f_Num,zv x.f_Den,⟨h.ir.num,rfl⟩,⟨h.ir.den,rfl⟩,h.v.symm⟩
theorem RQ.rnorm (h:RQ x p n) (hs:LM (4 * n+30)):Gv (fun N=>g_r01_NormRat N x) (ofQ p):=by
 obtain ⟨z,w,hz,hw,e⟩:=h.parts
 by_cases h0:w=0
 ·rw [if_pos h0] at e
  refine (hz.rover0 hw h0 hs).bind ((Gv.pure _).eq ?_)
  rw [e,divInt_one]
 ·rw [if_neg h0] at e
  refine (hz.rover hw h0 hs).bind ((Gv.pure _).eq ?_)
  rw [e]
end
end Go.Den
namespace Go.Den
open Go.Ab
theorem Gv2.succ {α:Type} {f f':Nat→Nat→Option α} {r:α} (e:∀ N g,f N (g+1)=f' N g) (h:Gv2 f' r):Gv2 f r :=
 let ⟨N0,h0⟩:=h;.step N0 fun N g hN hg=>(e N g).trans (h0 N g hN hg)
theorem Gv2.bind {α β:Type} {f:Nat→Option α} {k:Nat→Nat→α→Option β} {r:α} {s:β} (h:Gv f r) (h2:Gv2 (fun N g=>k N g r) s):Gv2 (fun N g=>(f N).bind (k N g)) s:=by
 obtain ⟨N0,h⟩:=h
 obtain ⟨N1,h2⟩:=h2
 exact ⟨N0+N1,fun N g hN hg=>by dsimp only;rw [h N (by omega)];exact h2 N g (by omega) (by omega)⟩
theorem Gv2.condT {α:Type} {f g:Nat→Nat→Option α} {r:α} {q:Bool} (hq:q=true) (h:Gv2 f r):Gv2 (fun N n=>cond q (f N n) (g N n)) r:=by subst hq;exact h
theorem Gv2.condF {α:Type} {f g:Nat→Nat→Option α} {r:α} {q:Bool} (hq:q=false) (h:Gv2 g r):Gv2 (fun N n=>cond q (f N n) (g N n)) r:=by subst hq;exact h
theorem Gv2.if {α:Type} {f:Nat→Nat→Option α} {r:α} {p:Prop} [Decidable p] (hp:p) (h:Gv2 f r):Gv2 (fun N n=>if p then f N n else none) r:=by
 obtain ⟨N0,h⟩:=h
 exact ⟨N0,fun N g hN hg=>by dsimp only;rw [if_pos hp];exact h N g hN hg⟩
theorem Gv2.one {α:Type} {f:Nat→Option α} {r:α} (h:Gv f r):Gv2 (fun N _=>f N) r:=let ⟨N0,h⟩:=h;⟨N0,fun N _ hN _=>h N hN⟩
theorem Gv2.eq {α:Type} {f:Nat→Nat→Option α} {r s:α} (h:Gv2 f r) (e:r=s):Gv2 f s:=e ▸ h
theorem RB.zero:RB 0 1:=RB.int (z:=0) (ZB.small (by decide)) (by decide)
theorem RB.one:RB 1 1:=RB.int (z:=1) (ZB.small (by decide)) (by decide)
end Go.Den
namespace Go.Den
open Go.Ab
def bz (l:List UInt8):ByteArray:=⟨l.toArray⟩
theorem bz_data (s:ByteArray):bz s.data.toList=s:=by cases s;rfl
theorem bz_size (l:List UInt8):(bz l).size=l.length:=rfl
theorem bz_app (a b:List UInt8):bz a ++ bz b=bz (a ++ b):=by
 apply ByteArray.ext
 simp [bz,ByteArray.data_append]
theorem bz_ext (l:List UInt8) (a b:Nat):(bz l).extract a b=bz ((l.take b).drop a):=by
 apply ByteArray.ext
 simp [bz,ByteArray.data_extract,List.drop_take]
theorem bz_at (l:List UInt8) (i:Nat):byteAt (bz l) i=((l.getD i 0).toNat:Int):=by
 unfold byteAt
 by_cases h:i < l.length
 ·have h2:i < (bz l).size:=h
  rw [getElem?_pos (bz l) i h2]
  have:(bz l)[i]=l[i]:=rfl
  rw [this,List.getD_eq_getElem?_getD,List.getElem?_eq_getElem h];rfl
 ·have h2:¬ i < (bz l).size:=h
  rw [getElem?_neg (bz l) i h2];simp [List.getD,h]
theorem bz_inj {a b:List UInt8}:bz a=bz b↔a=b:=by
 constructor
 ·intro h
  have:(bz a).data.toList=(bz b).data.toList:=by rw [h]
  simpa [bz] using this
 ·intro h;rw [h]
theorem bz_streq (a b:List UInt8):streq (bz a) (bz b)=decide (a=b):=by
 rw [Bool.eq_iff_iff,streq_iff,bz_inj,decide_eq_true_eq]
def iB (l:List UInt8):List Int:=l.map fun b=>(b.toNat:Int)
theorem iB_len (l:List UInt8):(iB l).length=l.length:=List.length_map ..
theorem iB_app (a b:List UInt8):iB (a ++ b)=iB a ++ iB b:=List.map_append
theorem strL_iB (l:List UInt8):strL (iB l)=bz l:=by
 unfold strL strOf bz
 congr 1
 congr 1
 rw [iB_len]
 apply List.ext_getElem
 ·simp
 ·intro i h1 h2
  have hl:i < l.length:=by simpa using h1
  simp [iB,cU,u8v,hl]
def dc (d:Nat):UInt8:=UInt8.ofNat (48+d)
theorem dc_nat {d:Nat} (h:d < 10):(dc d).toNat=48+d:=by
 unfold dc;rw [UInt8.toNat_ofNat'];omega
def dg (n:Nat):List UInt8:=if h:n=0 then [] else dg (n / 10) ++ [dc (n % 10)]
termination_by n
theorem dg_zero:dg 0=[]:=by rw [dg];rfl
theorem dg_pos {n:Nat} (h:n≠0):dg n=dg (n / 10) ++ [dc (n % 10)]:=by rw [dg,dif_neg h]
def fmtL (z:Int):List UInt8:=if z=0 then [48] else if z < 0 then 45 :: dg z.natAbs else dg z.natAbs
theorem dg_mem:∀ (n:Nat) (b:UInt8),b∈dg n→48≤b.toNat∧b.toNat≤57:=by
 intro n
 induction n using Nat.strongRecOn with
 | ind n ih =>
  intro b hb
  by_cases h:n=0
  ·subst h;rw [dg_zero] at hb;cases hb
  ·rw [dg_pos h] at hb
   rcases List.mem_append.1 hb with hb | hb
   ·exact ih (n / 10) (by omega) b hb
   ·have:b=dc (n % 10):=by simpa using hb
    rw [this,dc_nat (by omega)];omega
theorem dg_len:∀ (k n:Nat),n < 10 ^ k→(dg n).length≤k
 | 0,n,h=>by
  have:n=0:=by omega
  subst this;rw [dg_zero];exact Nat.le_refl _
 | k+1,n,h=>by
  by_cases h0:n=0
  ·subst h0;rw [dg_zero];exact Nat.zero_le _
  ·rw [dg_pos h0,List.length_append]
   have:=dg_len k (n / 10) (by rw [Nat.pow_succ] at h;omega)
   show _+1≤_;omega
theorem dg_head:∀ (n:Nat),n≠0→∃ b r,dg n=b :: r∧b≠48:=by
 intro n
 induction n using Nat.strongRecOn with
 | ind n ih =>
  intro h
  by_cases h1:n / 10=0
  ·refine ⟨dc (n % 10),[],by rw [dg_pos h,h1,dg_zero];rfl,fun e=>?_⟩
   have:=dc_nat (d:=n % 10) (by omega)
   rw [e] at this
   have h48:(48:UInt8).toNat=48:=rfl
   omega
  ·obtain ⟨b,r,e,hb⟩:=ih (n / 10) (by omega) h1
   exact ⟨b,r ++ [dc (n % 10)],by rw [dg_pos h,e];rfl,hb⟩
def pv:Nat→List UInt8→Option Nat
 | v,[]=>some v
 | v,b :: r=>if b.toNat < 48∨57 < b.toNat then none else pv (v * 10+(b.toNat - 48)) r
theorem pv_app:∀ (l m:List UInt8) (v:Nat),pv v (l ++ m)=(pv v l).bind fun w=>pv w m
 | [],m,v=>rfl
 | b :: l,m,v=>by
  show (if b.toNat < 48∨57 < b.toNat then none else pv (v * 10+(b.toNat - 48)) (l ++ m))=Option.bind (if b.toNat < 48∨57 < b.toNat then none else pv (v * 10+(b.toNat - 48)) l) fun w=>pv w m
  split
  ·rfl
  ·exact pv_app l m _
theorem pv_dg:∀ (n:Nat),pv 0 (dg n)=some n:=by
 intro n
 induction n using Nat.strongRecOn with
 | ind n ih =>
  by_cases h:n=0
  ·subst h;rw [dg_zero];rfl
  ·rw [dg_pos h,pv_app,ih (n / 10) (by omega)]
   show (if (dc (n % 10)).toNat < 48∨57 < (dc (n % 10)).toNat then none else pv _ [])=_
   rw [dc_nat (by omega),if_neg (by omega)]
   show some _=some n
   congr 1;omega
theorem pv_lt:∀ (l:List UInt8) (v w:Nat) (k:Nat),pv v l=some w→v < 10 ^ k→w < 10 ^ (k+l.length)
 | [],v,w,k,h,hv=>by cases h;exact hv
 | b :: l,v,w,k,h,hv=>by
  unfold pv at h
  split at h
  ·cases h
  ·have:=pv_lt l _ w (k+1) h (by rw [Nat.pow_succ];omega)
   rw [show k+(b :: l).length=k+1+l.length by simp;omega];exact this
def wholeV (l:List UInt8):Option Int :=
 match l with
 | b :: r=>if b=45 then (pv 0 r).map (sg true) else (pv 0 (b :: r)).map (sg false)
 | []=>some 0
theorem sg_of (z:Int):sg (decide (z < 0)) z.natAbs=z:=by
 unfold sg
 by_cases h:z < 0
 ·rw [decide_eq_true h];show -((z.natAbs:Nat):Int)=z;omega
 ·rw [decide_eq_false h];show ((z.natAbs:Nat):Int)=z;omega
theorem wholeV_fmt (z:Int):wholeV (fmtL z)=some z:=by
 unfold fmtL
 by_cases h0:z=0
 ·rw [if_pos h0,h0];decide
 ·rw [if_neg h0]
  by_cases h:z < 0
  ·rw [if_pos h]
   show (if (45:UInt8)=45 then (pv 0 (dg z.natAbs)).map (sg true) else (pv 0 (45 :: dg z.natAbs)).map (sg false))=_
   rw [if_pos rfl,pv_dg]
   show some (sg true z.natAbs)=some z
   have:=sg_of z;rw [decide_eq_true h] at this;rw [this]
  ·rw [if_neg h]
   obtain ⟨b,r,e,_⟩:=dg_head z.natAbs (by omega)
   have hb:=dg_mem z.natAbs b (by rw [e];exact List.mem_cons_self ..)
   rw [e]
   show (if b=45 then (pv 0 r).map (sg true) else (pv 0 (b :: r)).map (sg false))=_
   rw [if_neg (fun h=>by rw [h] at hb;exact absurd hb.1 (by decide)),← e,pv_dg]
   show some (sg false z.natAbs)=some z
   have:=sg_of z;rw [decide_eq_false h] at this;rw [this]
theorem fmtL_inj {x y:Int} (h:fmtL x=fmtL y):x=y:=by
 have:=wholeV_fmt x;rw [h,wholeV_fmt y] at this;exact (Option.some.inj this).symm
theorem fmtL_mem (z:Int) (b:UInt8) (h:b∈fmtL z):b=45∨48≤b.toNat:=by
 unfold fmtL at h
 split at h
 ·right;have:b=48:=by simpa using h
  rw [this];decide
 ·split at h
  ·rcases List.mem_cons.1 h with h | h
   ·exact .inl h
   ·exact .inr (dg_mem _ _ h).1
  ·exact .inr (dg_mem _ _ h).1
theorem fmtL_len {z:Int} {k:Nat} (h:z.natAbs < 10 ^ k):(fmtL z).length≤k+1:=by
 have:=dg_len k _ h
 unfold fmtL
 split
 ·show 1≤_;omega
 ·split
  ·show _+1≤_;omega
  ·omega
end Go.Den
namespace Go.Den
open Go.Ab
theorem rev_L1 {l:List Int} (hs:l.length < 1000000000000000):∀ (k i:Nat) (c:List Int),l.length≤2 * (i+k)→2 * i≤l.length+1→c.length=l.length →
  (∀ j,j < l.length→c.getD j 0=if j < i∨l.length≤j+i then l.getD (l.length - 1 - j) 0 else l.getD j 0) →
  Gv2 (fun N g=>g_slices_Reverse_byte_byte_L1 N g c (i:Int) ((l.length:Int) - 1 - i)) l.reverse:=by
 have fin:∀ (i:Nat) (c:List Int),l.length≤2 * i+1→c.length=l.length→(∀ j,j < l.length→c.getD j 0=if j < i∨l.length≤j+i then l.getD (l.length - 1 - j) 0 else l.getD j 0)→c=l.reverse:=by
  intro i c hi hc hj
  apply List.ext_getElem
  ·rw [hc,List.length_reverse]
  ·intro j h1 h2
   have hl:j < l.length:=by omega
   have:=hj j hl
   rw [getD_lt h1] at this
   rw [this,List.getElem_reverse]
   split
   ·rw [getD_lt (by omega)]
   ·have e:l.length - 1 - j=j:=by omega
    rw [getD_lt hl];congr 1;exact e.symm
 intro k
 induction k with
 | zero =>
  intro i c h1 h2 hc hj
  refine Gv2.succ (fun N g=>g_slices_Reverse_byte_byte_L1.eq_2 ..) (Gv2.condF (decide_eq_false (by omega)) ?_)
  rw [fin i c (by omega) hc hj]
  exact Gv2.one (Gv.pure _)
 | succ k ih =>
  intro i c h1 h2 hc hj
  by_cases hlt:(i:Int) < (l.length:Int) - 1 - i
  ·refine Gv2.succ (fun N g=>g_slices_Reverse_byte_byte_L1.eq_2 ..) (Gv2.condT (decide_eq_true hlt) (Gv2.if (by omega) (Gv2.if (by omega) ?_)))
   have e1:w64 ((i:Int)+1)=((i+1:Nat):Int):=w64_succ (by omega)
   have e2:w64 ((l.length:Int) - 1 - i - 1)=(l.length:Int) - 1 - ((i+1:Nat):Int):=by rw [w64_eq (by omega) (by omega)];omega
   have e3:((l.length:Int) - 1 - i).toNat=l.length - 1 - i:=by omega
   rw [e1,e2,e3,toNat_nat]
   refine ih (i+1) _ (by omega) (by omega) (by simp [hc]) fun j hjl=>?_
   have gi:=hj i (by omega)
   have gj:=hj (l.length - 1 - i) (by omega)
   rw [if_neg (by omega)] at gi gj
   by_cases ha:l.length - 1 - i=j
   ·subst ha
    rw [getD_set_eq _ _ (by simp [hc];omega),if_pos (by omega),gi]
    congr 1;omega
   ·rw [getD_set_ne _ _ ha]
    by_cases hb:i=j
    ·subst hb
     rw [getD_set_eq _ _ (by omega),if_pos (by omega),gj]
    ·rw [getD_set_ne _ _ hb,hj j hjl]
     by_cases hq:j < i∨l.length≤j+i
     ·rw [if_pos hq,if_pos (by omega)]
     ·rw [if_neg hq,if_neg (by omega)]
  ·refine Gv2.succ (fun N g=>g_slices_Reverse_byte_byte_L1.eq_2 ..) (Gv2.condF (decide_eq_false hlt) ?_)
   rw [fin i c (by omega) hc hj]
   exact Gv2.one (Gv.pure _)
theorem rev_gv {l:List Int} (hs:l.length < 1000000000000000):Gv (fun N=>g_slices_Reverse_byte_byte N l) l.reverse:=by
 have e:w64 (((l.length:Nat):Int) - 1)=(l.length:Int) - 1 - ((0:Nat):Int):=by rw [w64_eq (by omega) (by omega)];omega
 unfold g_slices_Reverse_byte_byte
 rw [e]
 refine (rev_L1 hs l.length 0 l (by omega) (by omega) rfl fun j hj=>?_).diag
 rw [if_neg (by omega)]
theorem trimB_L1:∀ (z:Nat) (l:List UInt8),(∀ r,l≠48 :: r)→Gv2 (fun N g=>g_strings_trimLeftByte_L1 N 48 g (bz (List.replicate z 48 ++ l))) (bz l)
 | 0,l,h=>by
  refine Gv2.succ (fun N g=>g_strings_trimLeftByte_L1.eq_2 ..) (Gv2.if (fun h=>⟨by decide,of_decide_eq_true h⟩) ?_)
  show Gv2 (fun N g=>cond (cond (decide (((bz l).size:Int) > 0)) (byteAt (bz l) 0 == 48) false) _ (some (bz l))) (bz l)
  refine Gv2.condF ?_ (Gv2.one (Gv.pure _))
  cases l with
  | nil=>rfl
  | cons b r =>
   have hb:b≠48:=fun e=>h r (by rw [e])
   rw [bz_at]
   have:((b.toNat:Int) == 48)=false:=by
    rw [beq_eq_false_iff_ne];intro e
    exact hb (UInt8.toNat_inj.1 (by have:b.toNat=48:=(by omega);rw [this];rfl))
   show cond _ ((b.toNat:Int) == 48) false=false
   rw [this];cases decide (((bz (b :: r)).size:Int) > 0)<;>rfl
 | z+1,l,h=>by
  refine Gv2.succ (fun N g=>g_strings_trimLeftByte_L1.eq_2 ..) (Gv2.if (fun h=>⟨by decide,of_decide_eq_true h⟩) ?_)
  have e0:List.replicate (z+1) (48:UInt8) ++ l=48 :: (List.replicate z 48 ++ l):=rfl
  rw [e0]
  have hsz:(bz (48 :: (List.replicate z 48 ++ l))).size=(List.replicate z (48:UInt8) ++ l).length+1:=rfl
  refine Gv2.condT ?_ (Gv2.if (by rw [hsz];omega) ?_)
  ·rw [bz_at,decide_eq_true (by rw [hsz];omega)];rfl
  ·rw [bz_ext,hsz,List.take_succ_cons,List.take_length]
   exact trimB_L1 z l h
theorem trim0_gv {z:Nat} {l:List UInt8} (h:∀ r,l≠48 :: r) (hl:l≠[]):Gv (fun N=>g_strings_TrimLeft N (bz (List.replicate z 48 ++ l)) (⟨#[48]⟩:ByteArray)) (bz l):=by
 unfold g_strings_TrimLeft
 have q:0≤(0:Int)∧0 < (((⟨#[48]⟩:ByteArray).size:Nat):Int):=⟨Int.le_refl _,by show (0:Int) < ((1:Nat):Int);omega⟩
 have hb:byteAt (⟨#[48]⟩:ByteArray) 0=48:=bz_at [48] 0
 refine Gv.condF ?_ (Gv.if (fun _=>q) (Gv.condT (by rw [hb];rfl) (Gv.if q (Gv.bind (r:=bz l) ?_ (Gv.pure _)))))
 ·have e:streq (bz (List.replicate z 48 ++ l)) ByteArray.empty=false:=by
   rw [show ByteArray.empty=bz [] from rfl,bz_streq]
   exact decide_eq_false fun e=>hl (List.append_eq_nil_iff.1 e).2
  have e2:streq (⟨#[48]⟩:ByteArray) ByteArray.empty=false:=(bz_streq [48] []).trans (by decide)
  rw [e,e2];rfl
 ·rw [hb];exact (trimB_L1 z l h).diag
theorem wrap8 (n:Int):IntKind.u8.wrap n=n % 256:=by
 unfold IntKind.wrap
 simp [IntKind.signed,IntKind.bits]
theorem dig_byte {r:Nat} (h:r < 65536):IntKind.u8.wrap (IntKind.u16.wrap (48+((r:Int).tmod 10)))=((dc (r % 10)).toNat:Int):=by
 have e:((r:Int).tmod 10)=((r % 10:Nat):Int):=by rw [Int.tmod_eq_emod_of_nonneg (by omega)];omega
 rw [e,wrap16_eq (by omega) (by omega),dc_nat (by omega),wrap8]
 omega
theorem dig_rest {r:Nat} (h:r < 65536):IntKind.u16.wrap ((r:Int).tdiv 10)=((r / 10:Nat):Int):=by
 have e:((r:Int).tdiv 10)=((r / 10:Nat):Int):=by rw [Int.tdiv_eq_ediv_of_nonneg (by omega)];omega
 rw [e,wrap16_eq (by omega) (by omega)]
theorem fmt_L2 {a:TInt} {rs:List Int×Int} {K:Nat→Nat→List Int→List Int→Option ByteArray} {R:ByteArray} {l:List UInt8} {r:Nat} (hr:r < 65536) (hl:l.length < 1000000000000)
  (h:Gv2 (fun N g=>K N g rs.1 (iB (l ++ [dc (r % 10),dc (r / 10 % 10),dc (r / 10 / 10 % 10),dc (r / 10 / 10 / 10 % 10)]))) R) :
  Gv2 (fun N g=>g_e_Format_L2 N a rs (K N g) N (iB l) (r:Int) 0) R:=by
 obtain ⟨N0,h0⟩:=h
 refine ⟨N0+5,fun N g hN hg=>?_⟩
 obtain ⟨f,rfl⟩:∃ f,N=f+5:=⟨N - 5,by omega⟩
 have step:∀ (x:Nat) (m:List UInt8) (q u:Nat),x < 4→m.length < 1000000000010→q < 65536→g_e_Format_L2 (f+5) a rs (K (f+5) g) (u+1) (iB m) (q:Int) (x:Int)=g_e_Format_L2 (f+5) a rs (K (f+5) g) u (iB (m ++ [dc (q % 10)])) ((q / 10:Nat):Int) ((x+1:Nat):Int):=by
  intro x m q u hx hm hq
  rw [g_e_Format_L2.eq_2,decide_eq_true (show (x:Int) < 4 by omega),cond_true,if_pos (by rw [iB_len];omega),dig_byte hq,dig_rest hq,w64_succ (by omega)]
  congr 1
  exact (iB_app m [dc (q % 10)]).symm
 have e0:g_e_Format_L2 (f+5) a rs (K (f+5) g) (f+5) (iB l) (r:Int) 0=g_e_Format_L2 (f+5) a rs (K (f+5) g) (f+4+1) (iB l) (r:Int) ((0:Nat):Int):=rfl
 show g_e_Format_L2 (f+5) a rs (K (f+5) g) (f+5) (iB l) (r:Int) 0=_
 rw [e0,step 0 l r (f+4) (by decide) (by omega) hr]
 show g_e_Format_L2 (f+5) a rs (K (f+5) g) (f+3+1) _ _ _=_
 rw [step 1 _ _ (f+3) (by decide) (by simp;omega) (by omega)]
 show g_e_Format_L2 (f+5) a rs (K (f+5) g) (f+2+1) _ _ _=_
 rw [step 2 _ _ (f+2) (by decide) (by simp;omega) (by omega)]
 show g_e_Format_L2 (f+5) a rs (K (f+5) g) (f+1+1) _ _ _=_
 rw [step 3 _ _ (f+1) (by decide) (by simp;omega) (by omega),g_e_Format_L2.eq_2,decide_eq_false (by omega),cond_false]
 simpa using h0 (f+5) g (by omega) (by omega)
theorem dg_shift (n:Nat):dg (n / 10) ++ [dc (n % 10)]=List.replicate (if n=0 then 1 else 0) 48 ++ dg n:=by
 by_cases h:n=0
 ·subst h;rw [if_pos rfl,dg_zero];rfl
 ·rw [if_neg h,dg_pos h];rfl
theorem dg_four (n:Nat):∃ z,dg (n / 10000) ++ [dc (n / 10 / 10 / 10 % 10),dc (n / 10 / 10 % 10),dc (n / 10 % 10),dc (n % 10)]=List.replicate z 48 ++ dg n:=by
 have e:n / 10000=n / 10 / 10 / 10 / 10:=by omega
 refine ⟨(if n / 10 / 10 / 10=0 then 1 else 0)+((if n / 10 / 10=0 then 1 else 0)+((if n / 10=0 then 1 else 0)+(if n=0 then 1 else 0))),?_⟩
 have e4:∀ (l:List UInt8) (a b c d:UInt8),l ++ [a,b,c,d]=(((l ++ [a]) ++ [b]) ++ [c]) ++ [d]:=fun l a b c d=>by simp
 rw [e4,e,dg_shift (n / 10 / 10 / 10),List.append_assoc _ (dg (n / 10 / 10 / 10)),dg_shift (n / 10 / 10),← List.append_assoc,List.replicate_append_replicate,List.append_assoc _ (dg (n / 10 / 10)),dg_shift (n / 10),← List.append_assoc,List.replicate_append_replicate,
  List.append_assoc _ (dg (n / 10)),dg_shift n,← List.append_assoc,List.replicate_append_replicate]
 congr 2;omega
theorem fmt_L1 {a:TInt} {n:Nat} (hn:n≠0):∀ (k m:Nat) (l:List UInt8),m < 10000 ^ k→l.length+4 * k < 1000000000000→(lm m).length≤1000000000000→(∃ z,dg m ++ l.reverse=List.replicate z 48 ++ dg n) →
  Gv2 (fun N g=>g_e_Format_L1 N a g (lm m) (iB l)) (bz (cond a.f_Neg (45 :: dg n) (dg n))):=by
 have fin:∀ (l:List UInt8),l.length < 1000000000000→(∃ z,dg 0 ++ l.reverse=List.replicate z 48 ++ dg n)→Gv2 (fun N g=>g_e_Format_L1 N a g (lm 0) (iB l)) (bz (cond a.f_Neg (45 :: dg n) (dg n))):=by
  rintro l hl ⟨z,hz⟩
  rw [dg_zero,List.nil_append] at hz
  refine Gv2.succ (fun N g=>g_e_Format_L1.eq_2 ..) (Gv2.condF (by rw [lm_zero];rfl) (Gv2.one ?_))
  refine Gv.bind (rev_gv (l:=iB l) (by rw [iB_len];omega)) (Gv.if (by simp) ?_)
  have e:(iB l).reverse=iB l.reverse:=(List.map_reverse ..).symm
  rw [e,strL_iB,hz]
  obtain ⟨b,r,hb,hb2⟩:=dg_head n hn
  refine Gv.bind (trim0_gv (fun r' e=>?_) (by rw [hb];simp)) ?_
  ·rw [hb] at e;injection e with e _;exact hb2 e
  ·have hsz:(dg n).length < 1000000000000:=by
    have:=congrArg List.length hz
    simp at this;omega
   cases a.f_Neg with
   | false=>exact Gv.condF rfl (Gv.pure _)
   | true =>
    refine Gv.condT rfl (Gv.if ?_ ((Gv.pure _).eq ?_))
    ·show (((1+(dg n).length:Nat)):Int)≤9223372036854775807;omega
    ·show bz [45] ++ bz (dg n)=_
     rw [bz_app];rfl
 intro k
 induction k with
 | zero =>
  intro m l hm hl _ hz
  obtain rfl:m=0:=by simpa using hm
  exact fin l (by omega) hz
 | succ k ih =>
  intro m l hm hl hs hz
  by_cases h0:m=0
  ·subst h0;exact fin l (by omega) hz
  ·refine Gv2.succ (fun N g=>g_e_Format_L1.eq_2 ..) (Gv2.condT (decide_eq_true (by have:=lm_len_pos.2 h0;omega)) ?_)
   refine Gv2.bind (r:=(lm (m / 10000),((m % 10000:Nat):Int))) (.of ((lm m).length+1) fun N hN=>short_lm (by decide) (by decide) (by show (lm m).length < 10000000000000;omega) (by omega)) ?_
   refine fmt_L2 (K:=fun N g=>g_e_Format_L1 N a g) (by omega) (by omega) ?_
   refine ih (m / 10000) _ (by rw [Nat.pow_succ] at hm;omega) (by simp;omega) (Nat.le_trans (lm_len_mono (by omega)) hs) ?_
   obtain ⟨z,hz⟩:=hz
   obtain ⟨y,hy⟩:=dg_four m
   have e1:m % 10000 % 10=m % 10:=by omega
   have e2:m % 10000 / 10 % 10=m / 10 % 10:=by omega
   have e3:m % 10000 / 10 / 10 % 10=m / 10 / 10 % 10:=by omega
   have e4:m % 10000 / 10 / 10 / 10 % 10=m / 10 / 10 / 10 % 10:=by omega
   refine ⟨y+z,?_⟩
   rw [e1,e2,e3,e4,List.reverse_append,← List.append_assoc]
   show dg (m / 10000) ++ [dc (m / 10 / 10 / 10 % 10),dc (m / 10 / 10 % 10),dc (m / 10 % 10),dc (m % 10)] ++ l.reverse=_
   rw [hy,List.append_assoc,hz,← List.append_assoc,List.replicate_append_replicate]
theorem pw4 (n:Nat):65536 ^ n≤10000 ^ (2 * n):=by
 rw [Nat.pow_mul];exact Nat.pow_le_pow_left (by decide) n
theorem fmt_gv {a:TInt} {z:Int} {n:Nat} (h:ZI a z n) (hn:n < 100000000000):Gv (fun N=>g_e_Format N a) (bz (fmtL z)):=by
 have hz:=h.zb
 have e:=h.sgeq
 unfold g_e_Format
 have ht:Gv (fun N=>g_e_trim N a.f_Limbs) (lm z.natAbs):=by have:=trim_gv h.ib (show n < 10000000000000 by omega);rwa [h.v] at this
 refine Gv.bind ht ?_
 by_cases h0:z=0
 ·subst h0
  exact Gv.condT (by rw [show (0:Int).natAbs=0 from rfl,lm_zero];rfl) (Gv.pure _)
 ·have hp:z.natAbs≠0:=by omega
  refine Gv.condF (by rw [beq_eq_false_iff_ne];have:=lm_len_pos.2 hp;omega) ?_
  have hlt:z.natAbs < 65536 ^ n:=zb_pw.1 hz
  refine ((fmt_L1 (a:=a) hp (2 * n) z.natAbs [] (Nat.lt_of_lt_of_le hlt (pw4 n)) (by simp;omega) (by have:(lm z.natAbs).length≤n:=hz;omega) ⟨0,by simp⟩).diag).eq ?_
  unfold fmtL
  rw [if_neg h0]
  cases hf:a.f_Neg with
  | true=>rw [hf] at e;rw [if_pos (show z < 0 by unfold sg at e;simp at e;omega)];rfl
  | false=>rw [hf] at e;rw [if_neg (show ¬ z < 0 by unfold sg at e;simp at e;omega)];rfl
theorem tenth {d:Nat} (h:d < 10):(⟨#[48,49,50,51,52,53,54,55,56,57]⟩:ByteArray).extract d (d+1)=bz [dc d]:=by
 show (bz [48,49,50,51,52,53,54,55,56,57]).extract d (d+1)=_
 rw [bz_ext,bz_inj]
 match d,h with
 | 0,_=>decide
 | 1,_=>decide
 | 2,_=>decide
 | 3,_=>decide
 | 4,_=>decide
 | 5,_=>decide
 | 6,_=>decide
 | 7,_=>decide
 | 8,_=>decide
 | 9,_=>decide
theorem lm_small {d:Nat} (h:d < 65536):(lm d).getD 0 0=(d:Int):=by
 by_cases h0:d=0
 ·subst h0;rw [lm_zero];rfl
 ·rw [lm_pos h0];show ((d % 65536:Nat):Int)=d;omega
theorem rfmt_L1 {a:TInt} {n:Nat} (hn:n≠0):∀ (k m:Nat) (l:List UInt8),m < 10 ^ k→l.length+k < 1000000000000→(lm m).length < 100000000000→dg m ++ l=dg n →
  Gv2 (fun N g=>g_r01_Format_L1 N a g (lm m) (bz l)) (bz (cond a.f_Neg (45 :: dg n) (dg n))):=by
 have fin:∀ (l:List UInt8),l.length < 1000000000000→dg 0 ++ l=dg n→Gv2 (fun N g=>g_r01_Format_L1 N a g (lm 0) (bz l)) (bz (cond a.f_Neg (45 :: dg n) (dg n))):=by
  intro l hl hz
  rw [dg_zero,List.nil_append] at hz
  subst hz
  obtain ⟨b,r,hb,hb2⟩:=dg_head n hn
  have hne:streq (bz (dg n)) ByteArray.empty=false:=by
   rw [show ByteArray.empty=bz [] from rfl,bz_streq,hb];exact decide_eq_false (by simp)
  refine Gv2.succ (fun N g=>g_r01_Format_L1.eq_2 ..) (Gv2.condF (by rw [lm_zero];rfl) (Gv2.condF hne (Gv2.one ?_)))
  cases a.f_Neg with
  | false=>exact Gv.condF rfl (Gv.pure _)
  | true =>
   refine Gv.condT rfl (Gv.if ?_ ((Gv.pure _).eq ?_))
   ·show (((1+(dg n).length:Nat)):Int)≤9223372036854775807;omega
   ·show bz [45] ++ bz (dg n)=_
    rw [bz_app];rfl
 intro k
 induction k with
 | zero =>
  intro m l hm hl _ hz
  obtain rfl:m=0:=by simpa using hm
  exact fin l (by omega) hz
 | succ k ih =>
  intro m l hm hl hs hz
  by_cases h0:m=0
  ·subst h0;exact fin l (by omega) hz
  ·refine Gv2.succ (fun N g=>g_r01_Format_L1.eq_2 ..) (Gv2.condT (decide_eq_true (by have:=lm_len_pos.2 h0;omega)) ?_)
   have h10:([10]:List Int)=lm 10:=by rw [lm_pos (by decide)];rw [show (10:Nat) / 65536=0 from rfl,lm_zero];rfl
   rw [h10]
   refine Gv2.bind (rover_gv (Nat.le_refl (lm m).length) (Nat.le_refl (lm 10).length) (by decide) (by rw [← h10];show (lm m).length+1+10 < 1000000000000;omega)) ?_
   have hd:Gv (fun N=>g_r01_digit N (lm (m % 10)) 0) ((m % 10:Nat):Int):=.of 0 fun N _=>by
    have:=rdigit_eq N (lm (m % 10)) 0
    rw [lm_small (by omega)] at this;exact this
   refine Gv2.bind hd (Gv2.bind hd ?_)
   have e1:(w64 (((m % 10:Nat):Int)+1)).toNat=m % 10+1:=by rw [w64_succ (by omega)];omega
   rw [e1,toNat_nat,tenth (by omega)]
   refine Gv2.if ⟨by omega,by show m % 10+1≤10;omega⟩ (Gv2.if (by omega) (Gv2.if (by rw [w64_succ (by omega)];omega) (Gv2.if ?_ ?_)))
   ·show (((1+l.length:Nat)):Int)≤9223372036854775807;omega
   ·rw [bz_app]
    refine ih (m / 10) ([dc (m % 10)] ++ l) (by rw [Nat.pow_succ] at hm;omega) (by simp;omega) (Nat.lt_of_le_of_lt (lm_len_mono (by omega)) hs) ?_
    rw [← List.append_assoc,← dg_pos h0,hz]
theorem pw5 (n:Nat):65536 ^ n≤10 ^ (5 * n):=by
 rw [Nat.pow_mul];exact Nat.pow_le_pow_left (by decide) n
theorem rfmt_gv {a:TInt} {z:Int} {n:Nat} (h:ZI a z n) (hn:n < 10000000000):Gv (fun N=>g_r01_Format N a) (bz (fmtL z)):=by
 have hz:=h.zb
 have e:=h.sgeq
 unfold g_r01_Format
 refine Gv.bind (h.read (show n < 1000000000000 by omega)) ?_
 by_cases h0:z=0
 ·subst h0
  refine (Gv2.diag (f:=fun N g=>g_r01_Format_L1 N a g (lm 0) ByteArray.empty) ?_).congr fun N=>rfl
  exact Gv2.succ (fun N g=>g_r01_Format_L1.eq_2 ..) (Gv2.condF (by rw [lm_zero];rfl) (Gv2.condT (by rw [streq_iff]) (Gv2.one (Gv.pure _))))
 ·have hp:z.natAbs≠0:=by omega
  have hlt:z.natAbs < 65536 ^ n:=zb_pw.1 hz
  refine ((rfmt_L1 (a:=a) hp (5 * n) z.natAbs [] (Nat.lt_of_lt_of_le hlt (pw5 n)) (by simp;omega) (by have:(lm z.natAbs).length≤n:=hz;omega) (by simp)).diag).eq ?_
  unfold fmtL
  rw [if_neg h0]
  cases hf:a.f_Neg with
  | true=>rw [hf] at e;rw [if_pos (show z < 0 by unfold sg at e;simp at e;omega)];rfl
  | false=>rw [hf] at e;rw [if_neg (show ¬ z < 0 by unfold sg at e;simp at e;omega)];rfl
end Go.Den
namespace Go.Den
open Go.Ab
theorem lm_ten:([10]:List Int)=lm 10:=by rw [lm_pos (by decide),show (10:Nat) / 65536=0 from rfl,lm_zero];rfl
theorem lm_of10 {v k:Nat} (h:v < 10 ^ k):(lm v).length≤k:=by
 have h1:10 ^ k≤65536 ^ k:=Nat.pow_le_pow_left (by decide) k
 have:=(zb_pw (z:=(v:Int)) (n:=k)).2 (by rw [Int.natAbs_natCast];omega)
 unfold ZB at this;rwa [Int.natAbs_natCast] at this
theorem shl_gv {v d k:Nat} (hv:v < 10 ^ k) (hk:k < 10000) (hd:d < 10) :
  Gv (fun N=>g_e_times N (lm v) ([10]:List Int)) (lm (v * 10))∧Gv (fun N=>g_e_trim N ([(d:Int)]:List Int)) (lm d)∧Gv (fun N=>g_e_plus N (lm (v * 10)) (lm d)) (lm (v * 10+d)):=by
 have h1:=lm_of10 hv
 have hv2:v * 10 < 10 ^ (k+1):=by rw [Nat.pow_succ];omega
 have h2:=lm_of10 hv2
 have hd2:(lm d).length≤1:=lm_of10 (k:=1) (by omega)
 have h10:(lm 10).length=1:=by rw [← lm_ten];rfl
 refine ⟨?_,?_,?_⟩
 ·rw [lm_ten]
  exact .of (k+10) fun N hN=>times_lm (by show _ < 10000000000000;omega) (by omega)
 ·refine .of 10 fun N hN=>?_
  have:=exact_trim (N:=N) (l:=[(d:Int)]) (U.one (by omega) (by omega)) (by show 1 < N;omega) (by show 1 < 9223372036854775807;decide)
  rw [this,nvl_one];rfl
 ·exact .of (k+20) fun N hN=>plus_lm (by show _ < 10000000000000;omega) (by show _ < 10000000000000;omega) (by omega) (by omega)
theorem rshl_gv {v d k:Nat} (hv:v < 10 ^ k) (hk:k < 10000) (hd:d < 10) :
  Gv (fun N=>g_r01_times N (lm v) ([10]:List Int)) (lm (v * 10))∧Gv (fun N=>g_r01_trim N ([(d:Int)]:List Int)) (lm d)∧Gv (fun N=>g_r01_plus N (lm (v * 10)) (lm d)) (lm (v * 10+d)):=by
 have h1:=lm_of10 hv
 have hv2:v * 10 < 10 ^ (k+1):=by rw [Nat.pow_succ];omega
 have h2:=lm_of10 hv2
 have hd2:(lm d).length≤1:=lm_of10 (k:=1) (by omega)
 have h10:(lm 10).length=1:=by rw [← lm_ten];rfl
 refine ⟨?_,?_,?_⟩
 ·rw [lm_ten]
  exact .of (k+10) fun N hN=>rtimes_lm (by show _ < 10000000000000;omega) (by omega)
 ·refine .of 10 fun N hN=>?_
  have:=rtrim_eq (N:=N) (a:=[(d:Int)]) (U.one (by omega) (by omega)) (by show 1 < 10000000000000;omega) (by show 1 < N;omega)
  rw [this,nvl_one];rfl
 ·exact .of (k+20) fun N hN=>rplus_lm (by show _ < 10000000000000;omega) (by omega)
theorem dig_val {b:UInt8} (h1:48≤b.toNat) (h2:b.toNat≤57):IntKind.u8.wrap ((b.toNat:Int) - 48)=((b.toNat - 48:Nat):Int):=by rw [wrap8];omega
theorem dig_val16 {b:UInt8} (h1:48≤b.toNat) (h2:b.toNat≤57):IntKind.u16.wrap (IntKind.u8.wrap ((b.toNat:Int) - 48))=((b.toNat - 48:Nat):Int):=by rw [dig_val h1 h2,wrap16_eq (by omega) (by omega)]
theorem dig_val64 {b:UInt8} (h1:48≤b.toNat) (h2:b.toNat≤57):w64 (IntKind.u8.wrap ((b.toNat:Int) - 48))=((b.toNat - 48:Nat):Int):=by rw [dig_val h1 h2,w64_eq (by omega) (by omega)]
theorem bad_iff (b:UInt8):cond (decide ((b.toNat:Int) < 48)) true (decide ((b.toNat:Int) > 57))=decide (b.toNat < 48∨57 < b.toNat):=by
 rw [Bool.eq_iff_iff,decide_eq_true_eq]
 by_cases h:(b.toNat:Int) < 48
 ·rw [decide_eq_true h];show true=true↔_;simp;omega
 ·rw [decide_eq_false h];show decide _=true↔_;rw [decide_eq_true_eq];omega
theorem getD_app_r (a:List UInt8) (b:UInt8) (r:List UInt8):(a ++ b :: r).getD a.length 0=b:=by simp
theorem cut_gv (l:List UInt8):Gv (fun N=>g_strings_CutPrefix N (bz l) (⟨#[45]⟩:ByteArray)) (match l with | b :: r=>if b=45 then (bz r,true) else (bz l,false) | []=>(bz [],false)):=by
 unfold g_strings_CutPrefix
 have hp:Gv (fun N=>g_internal_stringslite_HasPrefix N (bz l) (⟨#[45]⟩:ByteArray)) (match l with | b :: _=>decide (b=45) | []=>false):=by
  unfold g_internal_stringslite_HasPrefix
  refine Gv.if (fun h=>⟨Nat.zero_le _,by have:=of_decide_eq_true h;omega⟩) ((Gv.pure _).eq ?_)
  cases l with
  | nil=>rfl
  | cons b r =>
   rw [decide_eq_true (by show (((r.length+1:Nat)):Int)≥((1:Nat):Int);omega),cond_true]
   show streq ((bz (b :: r)).extract 0 1) (bz [45])=decide (b=45)
   rw [bz_ext,bz_streq];simp
 have hc:Gv (fun N=>g_internal_stringslite_CutPrefix N (bz l) (⟨#[45]⟩:ByteArray)) (match l with | b :: r=>if b=45 then (bz r,true) else (bz l,false) | []=>(bz [],false)):=by
  unfold g_internal_stringslite_CutPrefix
  refine Gv.bind hp ?_
  cases l with
  | nil=>exact Gv.condT rfl (Gv.pure _)
  | cons b r =>
   by_cases h:b=45
   ·subst h
    refine Gv.condF rfl (Gv.if ⟨by show 1≤r.length+1;omega,Nat.le_refl _⟩ ((Gv.pure _).eq ?_))
    show ((bz (45 :: r)).extract 1 (r.length+1),true)=_
    rw [bz_ext];simp
   ·refine Gv.condT (by show (!decide (b=45))=true;rw [decide_eq_false h];rfl) ((Gv.pure _).eq ?_)
    show _=if b=45 then (bz r,true) else (bz (b :: r),false)
    rw [if_neg h]
 exact Gv.bind hc ((Gv.pure _).eq (by split<;>rfl))
def zeroI:TInt:=⟨false,[]⟩
def readV (w:Option Int):TInt×Int:=match w with
 | some z=>(ofZ z,0)
 | none=>(zeroI,7)
theorem whole_L1 {neg:Bool}:∀ (r p:List UInt8) (v:Nat),v < 10 ^ p.length→p.length+r.length < 5000 →
  Gv2 (fun N g=>g_e_whole_L1 N (bz (p ++ r),neg) g (lm v) (p.length:Int)) (readV ((pv v r).map (sg neg)))
 | [],p,v,hv,hl=>by
  refine Gv2.succ (fun N g=>g_e_whole_L1.eq_2 ..) (Gv2.condF (decide_eq_false (by show ¬ (p.length:Int) < (((p ++ []).length:Nat):Int);simp)) (Gv2.one ?_))
  refine Gv.bind (signed_gv neg (k:=v) (by have:=lm_of10 hv;show _ < 10000000000000;omega)) (Gv.pure _)
 | b :: r,p,v,hv,hl=>by
  have hl2:p.length+(r.length+1) < 5000:=hl
  have hsz:(bz (p ++ b :: r)).size=p.length+(r.length+1):=by show (p ++ b :: r).length=_;simp
  have hat:byteAt (bz (p ++ b :: r)) ((p.length:Int)).toNat=(b.toNat:Int):=by rw [toNat_nat,bz_at,getD_app_r]
  refine Gv2.succ (fun N g=>g_e_whole_L1.eq_2 ..) (Gv2.condT (decide_eq_true (by rw [hsz];omega)) (Gv2.if (by rw [hsz];omega) ?_))
  simp only [hat]
  rw [bad_iff]
  unfold pv
  by_cases hb:b.toNat < 48∨57 < b.toNat
  ·rw [if_pos hb];exact Gv2.condT (decide_eq_true hb) (Gv2.one (Gv.pure _))
  ·rw [if_neg hb,dig_val16 (by omega) (by omega),w64_succ (by omega)]
   obtain ⟨h1,h2,h3⟩:=shl_gv (d:=b.toNat - 48) hv (by omega) (by omega)
   refine Gv2.condF (decide_eq_false hb) (Gv2.bind h1 (Gv2.bind h2 (Gv2.bind h3 ?_)))
   have e:p ++ b :: r=(p ++ [b]) ++ r:=by simp
   have e2:p.length+1=(p ++ [b]).length:=by simp
   rw [e,e2]
   refine whole_L1 r (p ++ [b]) _ (by rw [← e2,Nat.pow_succ];omega) (by rw [← e2];omega)
theorem whole_gv (l:List UInt8) (hl:l.length < 4000):Gv (fun N=>g_e_whole N (bz l)) (readV (wholeV l)):=by
 unfold g_e_whole
 refine Gv.bind (cut_gv l) ?_
 have key:∀ (r:List UInt8) (neg:Bool),r.length < 4000→Gv (fun N=>g_e_whole_L1 N (bz r,neg) N ([]:List Int) 0) (readV ((pv 0 r).map (sg neg))):=fun r neg h=>by
  have:=(whole_L1 (neg:=neg) r [] 0 (by decide) (by simp;omega)).diag
  rwa [lm_zero] at this
 cases l with
 | nil=>exact (key [] false (by decide)).eq rfl
 | cons b r =>
  have hl2:r.length+1 < 4000:=hl
  by_cases h:b=45
  ·subst h
   exact (key r true (by omega)).eq rfl
  ·show Gv (fun N=>g_e_whole_L1 N (if b=45 then (bz r,true) else (bz (b :: r),false)) N [] 0) (readV (if b=45 then _ else _))
   rw [if_neg h,if_neg h]
   exact key (b :: r) false hl
def parseV (l:List UInt8):TInt×Int:=if 400 < l.length then (zeroI,8) else match wholeV l with
 | some z=>if fmtL z=l then (ofZ z,0) else (zeroI,7)
 | none=>(zeroI,7)
def endV (l:List UInt8) (w:Option Int):TInt×Int:=match w with
 | some z=>if fmtL z=l then (ofZ z,0) else (zeroI,7)
 | none=>(zeroI,7)
theorem zb10 {neg:Bool} {v k:Nat} (h:v < 10 ^ k):ZB (sg neg v) k:=by unfold ZB;rw [sg_natAbs];exact lm_of10 h
theorem parse_L1 {neg:Bool} {l:List UInt8}:∀ (r p:List UInt8) (v:Nat),v < 10 ^ p.length→p.length+r.length < 5000 →
  Gv2 (fun N g=>g_e_Parse_L1 N (bz l) (bz (p ++ r),neg) g (lm v) (p.length:Int)) (endV l ((pv v r).map (sg neg)))
 | [],p,v,hv,hl=>by
  have hl2:p.length+0 < 5000:=hl
  refine Gv2.succ (fun N g=>g_e_Parse_L1.eq_2 ..) (Gv2.condF (decide_eq_false (by show ¬ (p.length:Int) < (((p ++ []).length:Nat):Int);simp)) (Gv2.one ?_))
  refine Gv.bind (signed_gv neg (k:=v) (by have:=lm_of10 hv;show _ < 10000000000000;omega)) (Gv.bind (fmt_gv (zb10 (neg:=neg) hv).zi (by omega)) ?_)
  rw [bz_streq]
  show Gv _ (if fmtL (sg neg v)=l then (ofZ (sg neg v),0) else (zeroI,7))
  by_cases h:fmtL (sg neg v)=l
  ·rw [if_pos h,decide_eq_true h];exact Gv.condF rfl (Gv.pure _)
  ·rw [if_neg h,decide_eq_false h];exact Gv.condT rfl (Gv.pure _)
 | b :: r,p,v,hv,hl=>by
  have hl2:p.length+(r.length+1) < 5000:=hl
  have hsz:(bz (p ++ b :: r)).size=p.length+(r.length+1):=by show (p ++ b :: r).length=_;simp
  have hat:byteAt (bz (p ++ b :: r)) ((p.length:Int)).toNat=(b.toNat:Int):=by rw [toNat_nat,bz_at,getD_app_r]
  refine Gv2.succ (fun N g=>g_e_Parse_L1.eq_2 ..) (Gv2.condT (decide_eq_true (by rw [hsz];omega)) (Gv2.if (by rw [hsz];omega) ?_))
  simp only [hat]
  rw [bad_iff]
  unfold pv
  by_cases hb:b.toNat < 48∨57 < b.toNat
  ·rw [if_pos hb];exact Gv2.condT (decide_eq_true hb) (Gv2.one (Gv.pure _))
  ·rw [if_neg hb,dig_val16 (by omega) (by omega),w64_succ (by omega)]
   obtain ⟨h1,h2,h3⟩:=shl_gv (d:=b.toNat - 48) hv (by omega) (by omega)
   refine Gv2.condF (decide_eq_false hb) (Gv2.bind h1 (Gv2.bind h2 (Gv2.bind h3 ?_)))
   have e:p ++ b :: r=(p ++ [b]) ++ r:=by simp
   have e2:p.length+1=(p ++ [b]).length:=by simp
   rw [e,e2]
   refine parse_L1 r (p ++ [b]) _ (by rw [← e2,Nat.pow_succ];omega) (by rw [← e2];omega)
theorem parse_gv (l:List UInt8) (hl:l.length < 4000):Gv (fun N=>g_e_Parse N (bz l)) (parseV l):=by
 unfold g_e_Parse parseV
 by_cases h4:400 < l.length
 ·rw [if_pos h4];exact Gv.condT (decide_eq_true (by show ((l.length:Nat):Int) > 400;omega)) (Gv.pure _)
 ·rw [if_neg h4]
  refine Gv.condF (decide_eq_false (by show ¬ ((l.length:Nat):Int) > 400;omega)) (Gv.bind (cut_gv l) ?_)
  have key:∀ (r:List UInt8) (neg:Bool),r.length < 4000→Gv (fun N=>g_e_Parse_L1 N (bz l) (bz r,neg) N ([]:List Int) 0) (endV l ((pv 0 r).map (sg neg))):=fun r neg h=>by
   have:=(parse_L1 (l:=l) (neg:=neg) r [] 0 (by decide) (by simp;omega)).diag
   rwa [lm_zero] at this
  show Gv _ (endV l (wholeV l))
  cases l with
  | nil=>exact (key [] false (by decide)).eq rfl
  | cons b r =>
   have hl2:r.length+1 < 4000:=hl
   by_cases h:b=45
   ·subst h
    exact (key r true (by omega)).eq rfl
   ·show Gv (fun N=>g_e_Parse_L1 N (bz (b :: r)) (if b=45 then (bz r,true) else (bz (b :: r),false)) N [] 0) (endV (b :: r) (if b=45 then _ else _))
    rw [if_neg h,if_neg h]
    exact key (b :: r) false hl
end Go.Den
namespace Go.Den
open Go.Ab
def ngL:List UInt8→Bool
 | b :: _=>decide (b=45)
 | []=>false
theorem byte45 (b:UInt8):((b.toNat:Int) == 45)=decide (b=45):=by
 rw [Bool.eq_iff_iff,beq_iff_eq,decide_eq_true_eq]
 constructor
 ·intro h;exact UInt8.toNat_inj.1 (by have:b.toNat=45:=(by omega);rw [this];rfl)
 ·rintro rfl;rfl
theorem neg_at (l:List UInt8):cond (decide ((((bz l).size:Nat):Int) > 0)) (byteAt (bz l) 0 == 45) false=ngL l:=by
 cases l with
 | nil=>rfl
 | cons b r =>
  rw [decide_eq_true (by show (((r.length+1:Nat)):Int) > 0;omega),cond_true,bz_at]
  exact byte45 b
theorem wholeV_cons (b:UInt8) (r:List UInt8):wholeV (b :: r)=if b=45 then (pv 0 r).map (sg true) else (pv 0 (b :: r)).map (sg false):=rfl
theorem decimal_L1 {l:List UInt8}:∀ (r p:List UInt8) (v:Nat),p ++ r=l→p≠[]→v < 10 ^ p.length→l.length < 5000 →
  Gv2 (fun N g=>g_r01_decimal_L1 N (bz l) g (lm v) (p.length:Int)) (readV ((pv v r).map (sg (ngL l))))
 | [],p,v,e,hp,hv,hl=>by
  have e':p=l:=by rw [← e];simp
  have hpl:p.length < 5000:=by rw [e'];exact hl
  refine Gv2.succ (fun N g=>g_r01_decimal_L1.eq_2 ..) (Gv2.condF (decide_eq_false (by show ¬ (p.length:Int) < ((l.length:Nat):Int);rw [e'];omega)) (Gv2.if (fun h=>⟨Int.le_refl _,of_decide_eq_true h⟩) (Gv2.one ?_)))
  rw [neg_at]
  exact Gv.bind (made_gv (ngL l) (k:=v) (by have:=lm_of10 hv;show _ < 10000000000000;omega)) (Gv.pure _)
 | b :: r,p,v,e,hp,hv,hl=>by
  have hsz:(bz l).size=p.length+(r.length+1):=by show l.length=_;rw [← e];simp
  have hl2:p.length+(r.length+1) < 5000:=by rw [← hsz];exact hl
  have hp0:0 < p.length:=List.length_pos_iff.2 hp
  have hat:byteAt (bz l) ((p.length:Int)).toNat=(b.toNat:Int):=by rw [toNat_nat,bz_at,← e,getD_app_r]
  have hi0:((p.length:Int) == 0)=false:=by rw [beq_eq_false_iff_ne];omega
  refine Gv2.succ (fun N g=>g_r01_decimal_L1.eq_2 ..) (Gv2.condT (decide_eq_true (by rw [hsz];omega)) (Gv2.if (fun _=>by rw [hsz];omega) ?_))
  rw [hi0]
  refine Gv2.condF rfl (Gv2.if (by rw [hsz];omega) (Gv2.if (fun _=>by rw [hsz];omega) ?_))
  simp only [hat]
  rw [bad_iff]
  unfold pv
  by_cases hb:b.toNat < 48∨57 < b.toNat
  ·rw [if_pos hb];exact Gv2.condT (decide_eq_true hb) (Gv2.one (Gv.pure _))
  ·rw [if_neg hb,dig_val64 (by omega) (by omega)]
   obtain ⟨h1,h2,h3⟩:=rshl_gv (d:=b.toNat - 48) hv (by omega) (by omega)
   refine Gv2.condF (decide_eq_false hb) (Gv2.bind h1 (Gv2.bind h2 (Gv2.bind h3 ?_)))
   have e2:p.length+1=(p ++ [b]).length:=by simp
   show Gv2 (fun N g=>g_r01_decimal_L1 N (bz l) g (lm (v * 10+(b.toNat - 48))) (w64 ((p.length:Int)+1))) _
   rw [w64_succ (by omega),e2]
   exact decimal_L1 r (p ++ [b]) _ (by rw [← e];simp) (by simp) (by rw [← e2,Nat.pow_succ];omega) hl
theorem decimal_gv (l:List UInt8) (hl:l.length < 4000):Gv (fun N=>g_r01_decimal N (bz l)) (readV (wholeV l)):=by
 unfold g_r01_decimal
 refine Gv2.diag (f:=fun N g=>g_r01_decimal_L1 N (bz l) g ([]:List Int) 0) ?_
 cases l with
 | nil =>
  refine Gv2.succ (fun N g=>g_r01_decimal_L1.eq_2 ..) (Gv2.condF rfl (Gv2.if (fun h=>absurd h (by decide)) (Gv2.one ?_)))
  rw [neg_at,← lm_zero]
  exact Gv.bind (made_gv false (k:=0) (by rw [lm_zero];decide)) (Gv.pure _)
 | cons b r =>
  have hl2:r.length+1 < 4000:=hl
  have hsz:(bz (b :: r)).size=r.length+1:=rfl
  have hat:byteAt (bz (b :: r)) ((0:Int)).toNat=(b.toNat:Int):=bz_at _ _
  refine Gv2.succ (fun N g=>g_r01_decimal_L1.eq_2 ..) (Gv2.condT (decide_eq_true (by rw [hsz];omega)) (Gv2.if (fun _=>by rw [hsz];omega) ?_))
  simp only [hat]
  rw [byte45,wholeV_cons]
  by_cases h:b=45
  ·subst h
   rw [if_pos rfl]
   refine Gv2.condT rfl ?_
   have:=decimal_L1 (l:=45 :: r) r [45] 0 rfl (by simp) (by decide) (by show r.length+1 < 5000;omega)
   rw [lm_zero] at this;exact this
  ·rw [if_neg h]
   refine Gv2.condF (by rw [decide_eq_false h];rfl) (Gv2.if (by rw [hsz];omega) (Gv2.if (fun _=>by rw [hsz];omega) ?_))
   rw [bad_iff]
   unfold pv
   by_cases hb:b.toNat < 48∨57 < b.toNat
   ·rw [if_pos hb];exact Gv2.condT (decide_eq_true hb) (Gv2.one (Gv.pure _))
   ·rw [if_neg hb,dig_val64 (by omega) (by omega)]
    obtain ⟨h1,h2,h3⟩:=rshl_gv (d:=b.toNat - 48) (v:=0) (k:=0) (by decide) (by decide) (by omega)
    refine Gv2.condF (decide_eq_false hb) (Gv2.bind (h1.congr fun N=>by rw [lm_zero]) (Gv2.bind h2 (Gv2.bind h3 ?_)))
    have:=decimal_L1 (l:=b :: r) r [b] (0 * 10+(b.toNat - 48)) rfl (by simp) (by show _ < 10;omega) (by show r.length+1 < 5000;omega)
    rw [show ngL (b :: r)=false from decide_eq_false h] at this
    exact this
theorem rparse_L1 {l:List UInt8}:∀ (r p:List UInt8) (v:Nat),p ++ r=l→p≠[]→v < 10 ^ p.length→l.length < 5000 →
  Gv2 (fun N g=>g_r01_Parse_L1 N (bz l) g (lm v) (p.length:Int)) (endV l ((pv v r).map (sg (ngL l))))
 | [],p,v,e,hp,hv,hl=>by
  have e':p=l:=by rw [← e];simp
  have hpl:p.length < 5000:=by rw [e'];exact hl
  refine Gv2.succ (fun N g=>g_r01_Parse_L1.eq_2 ..) (Gv2.condF (decide_eq_false (by show ¬ (p.length:Int) < ((l.length:Nat):Int);rw [e'];omega)) (Gv2.one ?_))
  rw [neg_at]
  refine Gv.bind (made_gv (ngL l) (k:=v) (by have:=lm_of10 hv;show _ < 10000000000000;omega)) (Gv.bind (rfmt_gv (zb10 (neg:=ngL l) hv).zi (by omega)) ?_)
  rw [bz_streq]
  show Gv _ (if fmtL (sg (ngL l) v)=l then (ofZ (sg (ngL l) v),0) else (zeroI,7))
  by_cases h:fmtL (sg (ngL l) v)=l
  ·rw [if_pos h,decide_eq_true h];exact Gv.condT rfl (Gv.pure _)
  ·rw [if_neg h,decide_eq_false h];exact Gv.condF rfl (Gv.pure _)
 | b :: r,p,v,e,hp,hv,hl=>by
  have hsz:(bz l).size=p.length+(r.length+1):=by show l.length=_;rw [← e];simp
  have hl2:p.length+(r.length+1) < 5000:=by rw [← hsz];exact hl
  have hp0:0 < p.length:=List.length_pos_iff.2 hp
  have hat:byteAt (bz l) ((p.length:Int)).toNat=(b.toNat:Int):=by rw [toNat_nat,bz_at,← e,getD_app_r]
  have hi0:((p.length:Int) == 0)=false:=by rw [beq_eq_false_iff_ne];omega
  refine Gv2.succ (fun N g=>g_r01_Parse_L1.eq_2 ..) (Gv2.condT (decide_eq_true (by rw [hsz];omega)) ?_)
  rw [hi0]
  refine Gv2.condF rfl (Gv2.if (by rw [hsz];omega) (Gv2.if (fun _=>by rw [hsz];omega) ?_))
  simp only [hat]
  rw [bad_iff]
  unfold pv
  by_cases hb:b.toNat < 48∨57 < b.toNat
  ·rw [if_pos hb];exact Gv2.condT (decide_eq_true hb) (Gv2.one (Gv.pure _))
  ·rw [if_neg hb,dig_val64 (by omega) (by omega)]
   obtain ⟨h1,h2,h3⟩:=rshl_gv (d:=b.toNat - 48) hv (by omega) (by omega)
   refine Gv2.condF (decide_eq_false hb) (Gv2.bind h1 (Gv2.bind h2 (Gv2.bind h3 ?_)))
   have e2:p.length+1=(p ++ [b]).length:=by simp
   show Gv2 (fun N g=>g_r01_Parse_L1 N (bz l) g (lm (v * 10+(b.toNat - 48))) (w64 ((p.length:Int)+1))) _
   rw [w64_succ (by omega),e2]
   exact rparse_L1 r (p ++ [b]) _ (by rw [← e];simp) (by simp) (by rw [← e2,Nat.pow_succ];omega) hl
theorem rparse_gv (l:List UInt8) (hl:l.length < 4000):Gv (fun N=>g_r01_Parse N (bz l)) (parseV l):=by
 unfold g_r01_Parse parseV
 by_cases h4:400 < l.length
 ·rw [if_pos h4];exact Gv.condT (decide_eq_true (by show ((l.length:Nat):Int) > 400;omega)) (Gv.pure _)
 rw [if_neg h4]
 refine Gv.condF (decide_eq_false (by show ¬ ((l.length:Nat):Int) > 400;omega)) (Gv.if (fun h=>⟨Int.le_refl _,of_decide_eq_true h⟩) ?_)
 show Gv _ (endV l (wholeV l))
 refine Gv2.diag (f:=fun N g=>g_r01_Parse_L1 N (bz l) g ([]:List Int) 0) ?_
 cases l with
 | nil =>
  refine Gv2.succ (fun N g=>g_r01_Parse_L1.eq_2 ..) (Gv2.condF rfl (Gv2.one ?_))
  rw [neg_at]
  have hm:=made_gv false (k:=0) (by rw [lm_zero];decide)
  rw [lm_zero] at hm
  refine Gv.bind hm (Gv.bind (rfmt_gv (zb10 (neg:=false) (v:=0) (k:=0) (by decide)).zi (by decide)) ?_)
  rw [show sg false 0=0 from rfl,bz_streq]
  exact Gv.condF (decide_eq_false (by decide)) (Gv.pure _)
 | cons b r =>
  have hl2:r.length+1 < 4000:=hl
  have hsz:(bz (b :: r)).size=r.length+1:=rfl
  have hat:byteAt (bz (b :: r)) ((0:Int)).toNat=(b.toNat:Int):=bz_at _ _
  refine Gv2.succ (fun N g=>g_r01_Parse_L1.eq_2 ..) (Gv2.condT (decide_eq_true (by rw [hsz];omega)) ?_)
  rw [neg_at,wholeV_cons]
  simp only [hat]
  by_cases h:b=45
  ·subst h
   rw [if_pos rfl]
   refine Gv2.condT rfl ?_
   have:=rparse_L1 (l:=45 :: r) r [45] 0 rfl (by simp) (by decide) (by show r.length+1 < 5000;omega)
   rw [lm_zero] at this;exact this
  ·rw [if_neg h]
   have hng:ngL (b :: r)=false:=decide_eq_false h
   refine Gv2.condF (by rw [hng];rfl) (Gv2.if (by rw [hsz];omega) (Gv2.if (fun _=>by rw [hsz];omega) ?_))
   rw [bad_iff]
   unfold pv
   by_cases hb:b.toNat < 48∨57 < b.toNat
   ·rw [if_pos hb];exact Gv2.condT (decide_eq_true hb) (Gv2.one (Gv.pure _))
   ·rw [if_neg hb,dig_val64 (by omega) (by omega)]
    obtain ⟨h1,h2,h3⟩:=rshl_gv (d:=b.toNat - 48) (v:=0) (k:=0) (by decide) (by decide) (by omega)
    refine Gv2.condF (decide_eq_false hb) (Gv2.bind (h1.congr fun N=>by rw [lm_zero]) (Gv2.bind h2 (Gv2.bind h3 ?_)))
    have:=rparse_L1 (l:=b :: r) r [b] (0 * 10+(b.toNat - 48)) rfl (by simp) (by show _ < 10;omega) (by show r.length+1 < 5000;omega)
    rw [hng] at this
    exact this
end Go.Den
namespace Go.Den
open Go.Ab
theorem fmt_one:fmtL 1=[49]:=by
 unfold fmtL
 rw [if_neg (by decide),if_neg (by decide),show (1:Int).natAbs=1 from rfl,dg_pos (by decide),show 1 / 10=0 from rfl,dg_zero];rfl
def fmtQL (q:Rat):List UInt8:=if q.den=1 then fmtL q.num else (fmtL q.num ++ [47]) ++ fmtL (q.den:Int)
theorem den_one (q:Rat):decide (fmtL (q.den:Int)=[49])=decide (q.den=1):=by
 rw [Bool.eq_iff_iff,decide_eq_true_eq,decide_eq_true_eq,← fmt_one]
 constructor
 ·intro h;have:=fmtL_inj h;omega
 ·intro h;rw [h];rfl
theorem fmtL_zb {z:Int} {n:Nat} (h:ZB z n):(fmtL z).length≤5 * n+1:=fmtL_len (Nat.lt_of_lt_of_le (zb_pw.1 h) (pw5 n))
theorem small64 {a b:Nat} (h:a < 1000000000000) (h2:b < 1000000000000):((a+b:Nat):Int)≤IntKind.i64.max:=by show ((a+b:Nat):Int)≤9223372036854775807;omega
theorem fmtQ_gv {x:TRat} {q:Rat} {n:Nat} (h:RQ x q n) (hn:n < 1000000000):Gv (fun N=>g_e_FormatRat N x) (bz (fmtQL q)):=by
 have hb:=h.rb
 have l1:=fmtL_zb hb.num
 have l2:=fmtL_zb hb.den
 unfold g_e_FormatRat
 refine Gv.bind (h.low (show 2 * n+2 < 10000000000000 by omega)) (Gv.bind (fmt_gv hb.den.zi (by omega)) ?_)
 have hs:streq (bz (fmtL (q.den:Int))) (⟨#[49]⟩:ByteArray)=decide (q.den=1):=by rw [show (⟨#[49]⟩:ByteArray)=bz [49] from rfl,bz_streq,den_one]
 rw [hs]
 unfold fmtQL
 by_cases h1:q.den=1
 ·rw [if_pos h1,decide_eq_true h1]
  exact Gv.condT rfl (Gv.bind (fmt_gv hb.num.zi (by omega)) (Gv.pure _))
 ·rw [if_neg h1,decide_eq_false h1]
  refine Gv.condF rfl (Gv.bind (fmt_gv hb.num.zi (by omega)) (Gv.if (small64 (by rw [bz_size];omega) (by decide)) ?_))
  rw [show (⟨#[47]⟩:ByteArray)=bz [47] from rfl,bz_app]
  refine Gv.if (small64 (by rw [bz_size,List.length_append];show _+1 < _;omega) (by rw [bz_size];omega)) ?_
  rw [bz_app];exact Gv.pure _
theorem rfmtQ_gv {x:TRat} {q:Rat} {n:Nat} (h:RQ x q n) (hn:n < 1000000000):Gv (fun N=>g_r01_FormatRat N x) (bz (fmtQL q)):=by
 have hb:=h.rb
 have l1:=fmtL_zb hb.num
 have l2:=fmtL_zb hb.den
 unfold g_r01_FormatRat
 refine Gv.bind (h.rnorm (show 4 * n+30 < 1000000000000 by omega)) (Gv.bind (rfmt_gv hb.den.zi (by omega)) ?_)
 have hs:streq (bz (fmtL (q.den:Int))) (⟨#[49]⟩:ByteArray)=decide (q.den=1):=by rw [show (⟨#[49]⟩:ByteArray)=bz [49] from rfl,bz_streq,den_one]
 rw [hs]
 unfold fmtQL
 by_cases h1:q.den=1
 ·rw [if_pos h1,decide_eq_true h1]
  exact Gv.condT rfl (Gv.bind (rfmt_gv hb.num.zi (by omega)) (Gv.pure _))
 ·rw [if_neg h1,decide_eq_false h1]
  refine Gv.condF rfl (Gv.bind (rfmt_gv hb.num.zi (by omega)) (Gv.if (small64 (by rw [bz_size];omega) (by decide)) (Gv.bind (rfmt_gv hb.den.zi (by omega)) ?_)))
  rw [show (⟨#[47]⟩:ByteArray)=bz [47] from rfl,bz_app]
  refine Gv.if (small64 (by rw [bz_size,List.length_append];show _+1 < _;omega) (by rw [bz_size];omega)) ?_
  rw [bz_app];exact Gv.pure _
def fi:List UInt8→Nat
 | []=>0
 | b :: r=>if b=47 then 0 else fi r+1
theorem fi_le:∀ l:List UInt8,fi l≤l.length
 | []=>Nat.le_refl _
 | b :: r=>by
  unfold fi
  split
  ·exact Nat.zero_le _
  ·have:=fi_le r;show _≤r.length+1;omega
theorem fi_none {l:List UInt8} (h:∀ b∈l,b≠47):fi l=l.length:=by
 induction l with
 | nil=>rfl
 | cons b r ih =>
  unfold fi
  rw [if_neg (h b (List.mem_cons_self ..)),ih fun c hc=>h c (List.mem_cons_of_mem _ hc)];rfl
theorem fi_app {x y:List UInt8} (h:∀ b∈x,b≠47):fi ((x ++ [47]) ++ y)=x.length:=by
 induction x with
 | nil=>rfl
 | cons b r ih =>
  show fi (b :: ((r ++ [47]) ++ y))=_
  unfold fi
  rw [if_neg (h b (List.mem_cons_self ..)),ih fun c hc=>h c (List.mem_cons_of_mem _ hc)];rfl
theorem fi_mem:∀ {l:List UInt8},fi l < l.length→(47:UInt8)∈l
 | [],h=>absurd h (Nat.not_lt_zero _)
 | b :: r,h=>by
  unfold fi at h
  by_cases hb:b=47
  ·rw [hb];exact List.mem_cons_self ..
  ·rw [if_neg hb] at h
   exact List.mem_cons_of_mem _ (fi_mem (by have h:fi r+1 < r.length+1:=h;omega))
theorem fi_index (l:List UInt8):Lib.indexByte l 47=if fi l < l.length then ((fi l:Nat):Int) else -1:=by
 induction l with
 | nil=>rfl
 | cons b r ih =>
  unfold Lib.indexByte fi
  by_cases hb:b=47
  ·subst hb;simp
  ·rw [if_neg (show ¬ (b == 47)=true by rw [beq_iff_eq];exact hb),if_neg hb,ih]
   by_cases h:fi r < r.length
   ·rw [if_pos h,if_neg (show ¬ (((fi r:Nat):Int) == -1)=true by rw [beq_iff_eq];omega),if_pos (show fi r+1 < (b :: r).length by simp;omega)];rfl
   ·rw [if_neg h,if_pos (show ((-1:Int) == -1)=true by rfl),if_neg (show ¬ fi r+1 < (b :: r).length by simp;omega)]
theorem index_gv (l:List UInt8):Gv (fun N=>g_internal_stringslite_Index N (bz l) (⟨#[47]⟩:ByteArray)) (if fi l < l.length then ((fi l:Nat):Int) else -1):=by
 unfold g_internal_stringslite_Index
 have hs:streq (⟨#[47]⟩:ByteArray) (bz l)=decide ([47]=l):=bz_streq [47] l
 rw [hs]
 by_cases h:[47]=l
 ·subst h
  exact Gv.condT (by rfl) (Gv.pure _)
 ·rw [decide_eq_false h]
  have hb:byteAt (⟨#[47]⟩:ByteArray) 0=47:=bz_at [47] 0
  refine Gv.condF rfl (Gv.condT rfl (Gv.if ⟨Int.le_refl _,by show (0:Int) < ((1:Nat):Int);omega⟩ (Gv.bind (r:=if fi l < l.length then ((fi l:Nat):Int) else -1) ?_ (Gv.pure _))))
  rw [hb]
  refine (Gv.pure _).eq ?_
  rw [← fi_index];rfl
theorem cutS_gv (l:List UInt8) (hl:l.length < 4000):Gv (fun N=>g_strings_Cut N (bz l) (⟨#[47]⟩:ByteArray)) (if fi l < l.length then (bz (l.take (fi l)),bz (l.drop (fi l+1)),true) else (bz l,ByteArray.empty,false)):=by
 have hc:Gv (fun N=>g_internal_stringslite_Cut N (bz l) (⟨#[47]⟩:ByteArray)) (if fi l < l.length then (bz (l.take (fi l)),bz (l.drop (fi l+1)),true) else (bz l,ByteArray.empty,false)):=by
  unfold g_internal_stringslite_Cut
  refine Gv.bind (index_gv l) ?_
  by_cases h:fi l < l.length
  ·rw [if_pos h,if_pos h]
   have e:w64 (((fi l:Nat):Int)+(((⟨#[47]⟩:ByteArray).size:Nat):Int))=((fi l+1:Nat):Int):=w64_succ (by omega)
   rw [e,toNat_nat,toNat_nat]
   refine Gv.condT (decide_eq_true (by omega)) (Gv.if ⟨Nat.zero_le _,by rw [bz_size];omega⟩ (Gv.if (by omega) (Gv.if ⟨by rw [bz_size];omega,Nat.le_refl _⟩ (Gv.if (by omega) ((Gv.pure _).eq ?_)))))
   rw [bz_ext,bz_ext,bz_size,List.take_length,List.drop_zero]
  ·rw [if_neg h,if_neg h]
   exact Gv.condF (decide_eq_false (by omega)) (Gv.pure _)
 exact Gv.bind hc (Gv.pure _)
def zeroQ:TRat:=⟨zeroI,zeroI⟩
def finV (l:List UInt8) (a b:Option Int):TRat×Int:=match a,b with
 | some z,some w=>if w=0 then (zeroQ,7) else if fmtQL (Rat.divInt z w)=l then (ofQ (Rat.divInt z w),0) else (zeroQ,7)
 | _,_=>(zeroQ,7)
def pqV (l:List UInt8):TRat×Int:=if 800 < l.length then (zeroQ,8) else
 if fi l < l.length then finV l (wholeV (l.take (fi l))) (wholeV (l.drop (fi l+1))) else finV l (wholeV l) (some 1)
theorem wholeV_zb {l:List UInt8} {z:Int} (h:wholeV l=some z):ZB z l.length:=by
 have key:∀ (r:List UInt8) (neg:Bool),(pv 0 r).map (sg neg)=some z→ZB z r.length:=by
  intro r neg h
  cases hp:pv 0 r with
  | none=>rw [hp] at h;cases h
  | some v =>
   rw [hp] at h
   obtain rfl:=Option.some.inj h
   have:=pv_lt r 0 v 0 hp (by decide)
   rw [Nat.zero_add] at this
   exact zb10 this
 cases l with
 | nil=>obtain rfl:=Option.some.inj h;exact zb10 (neg:=false) (v:=0) (k:=0) (by decide)
 | cons b r =>
  rw [wholeV_cons] at h
  split at h
  ·exact (key r true h).le (Nat.le_succ _)
  ·exact key (b :: r) false h
theorem qb {z w:Int} {n:Nat} (hz:ZB z n) (hw:ZB w n) (h0:w≠0) (hn:1≤n):RQ (ofQ (Rat.divInt z w)) (Rat.divInt z w) n:=(rb_divInt hz hw h0).rq hn
theorem J1_gv {l:List UInt8} {rc:ByteArray×ByteArray×Bool} {x y:List UInt8} (hx:x.length < 1000) (hy:y.length < 1000) (h1:rc.1=bz x):Gv (fun N=>g_e_ParseRat_J1 N (bz l) rc (bz y)) (finV l (wholeV x) (wholeV y)):=by
 unfold g_e_ParseRat_J1
 rw [h1]
 refine Gv.bind (whole_gv x (by omega)) (Gv.bind (whole_gv y (by omega)) ?_)
 cases hz:wholeV x with
 | none=>exact Gv.bind (r:=0) (Gv.condF rfl (Gv.pure _)) (Gv.condT rfl (Gv.pure _))
 | some z =>
  cases hw:wholeV y with
  | none=>exact Gv.bind (r:=0) (Gv.condF rfl (Gv.pure _)) (Gv.condT rfl (Gv.pure _))
  | some w =>
   have bz':ZB z 1000:=(wholeV_zb hz).le (by omega)
   have bw':ZB w 1000:=(wholeV_zb hw).le (by omega)
   have hs:Gv (fun N=>g_e_sign N (ofZ w)) w.sign:=by have:=sign_gv (bw'.ib) (by decide:SM 1000);rwa [zv_ofZ] at this
   refine Gv.bind (r:=w.sign) (Gv.condT rfl hs) ?_
   show Gv _ (if w=0 then (zeroQ,7) else if fmtQL (Rat.divInt z w)=l then (ofQ (Rat.divInt z w),0) else (zeroQ,7))
   by_cases h0:w=0
   ·subst h0;rw [if_pos rfl];exact Gv.condT rfl (Gv.pure _)
   ·rw [if_neg h0]
    have hne:((readV (some w)).1,w.sign == 0).2=false:=by
     show (w.sign == 0)=false
     rw [beq_eq_false_iff_ne];intro e;exact h0 (Int.sign_eq_zero_iff_zero.1 e)
    refine Gv.condF (by show cond false true (w.sign == 0)=false;exact hne) ?_
    have hf:=fraction_gv (a:=ofZ z) (b:=ofZ w) (n:=1000) bz'.ib bw'.ib (by rw [zv_ofZ];exact h0) (by decide)
    rw [zv_ofZ,zv_ofZ] at hf
    refine Gv.bind hf (Gv.bind (fmtQ_gv (qb bz' bw' h0 (by decide)) (by decide)) ?_)
    rw [bz_streq]
    by_cases h:fmtQL (Rat.divInt z w)=l
    ·rw [if_pos h,decide_eq_true h];exact Gv.condF rfl (Gv.pure _)
    ·rw [if_neg h,decide_eq_false h];exact Gv.condT rfl (Gv.pure _)
theorem wholeV_one:wholeV [49]=some 1:=by rw [← fmt_one];exact wholeV_fmt 1
theorem parseQ_gv (l:List UInt8) (hl:l.length < 1000):Gv (fun N=>g_e_ParseRat N (bz l)) (pqV l):=by
 unfold g_e_ParseRat pqV
 by_cases h8:800 < l.length
 ·rw [if_pos h8];exact Gv.condT (decide_eq_true (by show ((l.length:Nat):Int) > 800;omega)) (Gv.pure _)
 ·rw [if_neg h8]
  refine Gv.condF (decide_eq_false (by show ¬ ((l.length:Nat):Int) > 800;omega)) (Gv.bind (cutS_gv l (by omega)) ?_)
  by_cases h:fi l < l.length
  ·rw [if_pos h,if_pos h]
   exact Gv.condF rfl (J1_gv (by simp;omega) (by simp;omega) rfl)
  ·rw [if_neg h,if_neg h,← wholeV_one]
   exact Gv.condT rfl (J1_gv (y:=[49]) (by omega) (by decide) rfl)
theorem zeroI_zi:ZI zeroI 0 1000:=⟨⟨U.nil,Nat.zero_le _⟩,by decide⟩
theorem no_slash (z:Int):∀ b∈fmtL z,b≠47:=fun b hb e=>by
 rcases fmtL_mem z b hb with h | h
 ·rw [h] at e;exact absurd e (by decide)
 ·rw [e] at h;exact absurd h (by decide)
theorem J3_gv {l x:List UInt8} (hx:x.length < 1000) {b:TInt} {f:Int} {w:Option Int} (hw:((b,f)=readV w∧(47:UInt8)∈l)∨(w=some 1∧b=zeroI∧f=0)) (hwl:∀ z,w=some z→ZB z 1000):Gv (fun N=>g_r01_ParseRat_J3 N (bz l) (readV (wholeV x)) b f) (finV l (wholeV x) w):=by
 unfold g_r01_ParseRat_J3
 have LM1:LM (4 * 1000+30):=by decide
 -- what is divided, whatever it is
 have hdiv:∀ {z u:Int},ZB z 1000→ZI b u 1000→∃ p,RQ (ofQ p) p 1000∧Gv (fun N=>g_r01_Over N (ofZ z) b) (ofQ p)∧p=if u=0 then (z:Rat) else Rat.divInt z u:=by
  intro z u hz hu
  by_cases h0:u=0
  ·exact ⟨_,(RB.int hz (by decide)).rq (by decide),hz.zi.rover0 hu h0 LM1,by rw [if_pos h0]⟩
  ·exact ⟨_,qb hz (hu.zb) h0 (by decide),hz.zi.rover hu h0 LM1,by rw [if_neg h0]⟩
 have hbz:∃ u,ZI b u 1000:=by
  rcases hw with ⟨hw,_⟩ | ⟨_,h,_⟩
  ·cases w with
   | none=>exact ⟨0,by rw [show b=zeroI from congrArg Prod.fst hw];exact zeroI_zi⟩
   | some u=>exact ⟨u,by rw [show b=ofZ u from congrArg Prod.fst hw];exact (hwl u rfl).zi⟩
  ·exact ⟨0,by rw [h];exact zeroI_zi⟩
 obtain ⟨u,hu⟩:=hbz
 cases hz:wholeV x with
 | none =>
  have h0z:ZB 0 1000:=zeroI_zi.zb
  have hov:∃ r,Gv (fun N=>g_r01_Over N zeroI b) r:=by
   by_cases h0:u=0
   ·exact ⟨_,zeroI_zi.rover0 hu h0 LM1⟩
   ·exact ⟨_,zeroI_zi.rover hu h0 LM1⟩
  obtain ⟨r,hr⟩:=hov
  exact Gv.bind hr (Gv.bind (r:=ByteArray.empty) (Gv.condF rfl (Gv.pure _)) (Gv.condF rfl (Gv.pure _)))
 | some z =>
  have hzb:ZB z 1000:=(wholeV_zb hz).le (by omega)
  obtain ⟨p,hp,hov,ep⟩:=hdiv hzb hu
  refine Gv.bind hov ?_
  have hend:∀ (good:Bool),good=(f == 0)→Gv (fun N=>(cond (cond ((0:Int) == 0) (f == 0) false) (g_r01_FormatRat N (ofQ p)) (some ByteArray.empty)).bind fun rF =>
    cond (cond (cond ((0:Int) == 0) (f == 0) false) (streq rF (bz l)) false) (some (ofQ p,0)) (some (zeroQ,7))) (if f=0∧fmtQL p=l then (ofQ p,(0:Int)) else (zeroQ,7)):=by
   intro good _
   by_cases hf:f=0
   ·subst hf
    refine Gv.bind (Gv.condT rfl (rfmtQ_gv hp (by decide))) ?_
    rw [bz_streq]
    by_cases h:fmtQL p=l
    ·rw [if_pos ⟨rfl,h⟩,decide_eq_true h];exact Gv.condT rfl (Gv.pure _)
    ·rw [if_neg (fun q=>h q.2),decide_eq_false h];exact Gv.condF rfl (Gv.pure _)
   ·have hb:(f == 0)=false:=beq_eq_false_iff_ne.2 hf
    rw [hb,if_neg (fun q=>hf q.1)]
    exact Gv.bind (r:=ByteArray.empty) (Gv.condF rfl (Gv.pure _)) (Gv.condF rfl (Gv.pure _))
  refine (hend _ rfl).eq ?_
  rcases hw with ⟨hw,hm⟩ | ⟨rfl,hb,rfl⟩
  ·cases w with
   | none =>
    have:f=7:=congrArg Prod.snd hw
    rw [if_neg (by rintro ⟨h,_⟩;omega)];rfl
   | some w =>
    have hf:f=0:=congrArg Prod.snd hw
    have hbw:b=ofZ w:=congrArg Prod.fst hw
    have huw:u=w:=by rw [← hu.v,hbw,zv_ofZ]
    subst huw
    show _=if u=0 then (zeroQ,7) else if fmtQL (Rat.divInt z u)=l then (ofQ (Rat.divInt z u),0) else (zeroQ,7)
    by_cases h0:u=0
    ·rw [if_pos h0]
     rw [if_pos h0] at ep
     rw [if_neg]
     rintro ⟨_,h⟩
     have e:fmtQL p=fmtL z:=by rw [ep];unfold fmtQL;rw [if_pos (by simp)];simp
     rw [e] at h
     rw [← h] at hm;exact no_slash z 47 hm rfl
    ·rw [if_neg h0]
     rw [if_neg h0] at ep
     rw [← ep]
     by_cases h:fmtQL p=l
     ·rw [if_pos ⟨hf,h⟩,if_pos h]
     ·rw [if_neg (fun q=>h q.2),if_neg h]
  ·have hu0:u=0:=by rw [← hu.v,hb];decide
   rw [if_pos hu0] at ep
   show _=if (1:Int)=0 then (zeroQ,7) else if fmtQL (Rat.divInt z 1)=l then (ofQ (Rat.divInt z 1),0) else (zeroQ,7)
   rw [if_neg (show ¬ (1:Int)=0 by decide),divInt_one,← ep]
   by_cases h:fmtQL p=l
   ·rw [if_pos ⟨rfl,h⟩,if_pos h]
   ·rw [if_neg (fun q=>h q.2),if_neg h]
end Go.Den
namespace Go.Den
open Go.Ab
theorem fi_drop (l:List UInt8) (k:Nat) (h:k < l.length):fi (l.drop k)=if l.getD k 0=47 then 0 else fi (l.drop (k+1))+1:=by
 rw [List.drop_eq_getElem_cons h,show l.getD k 0=l[k] by simp [List.getD,h]]
 rfl
theorem slash_at (b:UInt8):((b.toNat:Int) == 47)=decide (b=47):=by
 rw [Bool.eq_iff_iff,beq_iff_eq,decide_eq_true_eq]
 constructor
 ·intro h;exact UInt8.toNat_inj.1 (by have:b.toNat=47:=(by omega);rw [this];rfl)
 ·rintro rfl;rfl
theorem rparse_end {l:List UInt8} (hl:l.length < 1000) {g:Nat→Nat→Int→Int→Option (TRat×Int)} :
  Gv (fun N=>(if 0≤(((fi l:Nat):Int)).toNat∧(((fi l:Nat):Int)).toNat≤(bz l).size then
   (if (0:Int)≤((fi l:Nat):Int) then
   ((g_r01_decimal N ((bz l).extract 0 ((((fi l:Nat):Int)).toNat))).bind fun rdecimal =>
   (cond (decide (((fi l:Nat):Int) < (((bz l).size:Nat):Int)))
   ((if (w64 (((fi l:Nat):Int)+1)).toNat≤(bz l).size∧(bz l).size≤(bz l).size then
   (if (0:Int)≤(w64 (((fi l:Nat):Int)+1)) then
   ((g_r01_decimal N ((bz l).extract ((w64 (((fi l:Nat):Int)+1)).toNat) (bz l).size)).bind fun rdecimal2 =>
   g_r01_ParseRat_J3 N (bz l) rdecimal rdecimal2.1 rdecimal2.2)
   else none)
   else none))
   (g_r01_ParseRat_J3 N (bz l) rdecimal (⟨false,([]:List Int)⟩:TInt) 0)))
   else none)
   else none)) (if fi l < l.length then finV l (wholeV (l.take (fi l))) (wholeV (l.drop (fi l+1))) else finV l (wholeV l) (some 1)):=by
 have hf:=fi_le l
 have e:w64 (((fi l:Nat):Int)+1)=((fi l+1:Nat):Int):=w64_succ (by omega)
 rw [e,toNat_nat,toNat_nat,bz_ext,bz_ext,bz_size,List.take_length,List.drop_zero]
 refine Gv.if ⟨Nat.zero_le _,hf⟩ (Gv.if (by omega) (Gv.bind (decimal_gv (l.take (fi l)) (by simp;omega)) ?_))
 by_cases h:fi l < l.length
 ·rw [if_pos h]
  refine Gv.condT (decide_eq_true (by omega)) (Gv.if ⟨by omega,Nat.le_refl _⟩ (Gv.if (by omega) (Gv.bind (decimal_gv (l.drop (fi l+1)) (by simp;omega)) ?_)))
  exact J3_gv (by simp;omega) (.inl ⟨rfl,fi_mem h⟩) fun z hz=>(wholeV_zb hz).le (by simp;omega)
 ·rw [if_neg h]
  refine Gv.condF (decide_eq_false (by omega)) ?_
  rw [show l.take (fi l)=l by rw [List.take_of_length_le (by omega)]]
  exact J3_gv hl (.inr ⟨rfl,rfl,rfl⟩) fun z hz=>by
   obtain rfl:=Option.some.inj hz
   exact (ZB.small (x:=1) (by decide)).le (by decide)
theorem rparseQ_L1 {l:List UInt8} (hl:l.length < 1000):∀ (k:Nat),k≤l.length →
  Gv2 (fun N g=>g_r01_ParseRat_L1 N (bz l) g ((k+fi (l.drop k):Nat):Int) ((k:Int) - 1)) (if fi l < l.length then finV l (wholeV (l.take (fi l))) (wholeV (l.drop (fi l+1))) else finV l (wholeV l) (some 1)):=by
 intro k
 induction k with
 | zero =>
  intro _
  refine Gv2.succ (fun N g=>g_r01_ParseRat_L1.eq_2 ..) (Gv2.condF (decide_eq_false (by omega)) (Gv2.one ?_))
  rw [Nat.zero_add,List.drop_zero]
  exact rparse_end hl (g:=fun _ _ _ _=>none)
 | succ k ih =>
  intro hk
  have e1:(((k+1:Nat):Int) - 1)=(k:Int):=by omega
  rw [e1]
  have hat:byteAt (bz l) ((k:Int)).toNat=((l.getD k 0).toNat:Int):=by rw [toNat_nat,bz_at]
  have hd:=fi_drop l k (by omega)
  have e2:w64 ((k:Int) - 1)=(k:Int) - 1:=w64_eq (by omega) (by omega)
  refine Gv2.succ (fun N g=>g_r01_ParseRat_L1.eq_2 ..) (Gv2.condT (decide_eq_true (by omega)) (Gv2.if ⟨by omega,by rw [bz_size];omega⟩ ?_))
  rw [hat,slash_at]
  have ih:=ih (by omega)
  by_cases h:l.getD k 0=47
  ·rw [if_pos h] at hd
   rw [hd] at ih
   refine Gv2.condT (decide_eq_true h) ?_
   show Gv2 (fun N g=>g_r01_ParseRat_L1 N (bz l) g (k:Int) (w64 ((k:Int) - 1))) _
   rw [e2];exact ih
  ·rw [if_neg h] at hd
   rw [hd,show k+(fi (l.drop (k+1))+1)=k+1+fi (l.drop (k+1)) by omega] at ih
   refine Gv2.condF (decide_eq_false h) ?_
   show Gv2 (fun N g=>g_r01_ParseRat_L1 N (bz l) g ((k+1+fi (l.drop (k+1)):Nat):Int) (w64 ((k:Int) - 1))) _
   rw [e2];exact ih
theorem rparseQ_gv (l:List UInt8) (hl:l.length < 1000):Gv (fun N=>g_r01_ParseRat N (bz l)) (pqV l):=by
 unfold g_r01_ParseRat pqV
 by_cases h8:800 < l.length
 ·rw [if_pos h8];exact Gv.condT (decide_eq_true (by show ((l.length:Nat):Int) > 800;omega)) (Gv.pure _)
 ·rw [if_neg h8]
  refine Gv.condF (decide_eq_false (by show ¬ ((l.length:Nat):Int) > 800;omega)) ?_
  have:=(rparseQ_L1 hl l.length (Nat.le_refl _)).diag
  rw [List.drop_length,show fi []=0 from rfl,Nat.add_zero] at this
  have e:w64 ((((bz l).size:Nat):Int) - 1)=(l.length:Int) - 1:=by rw [bz_size];exact w64_eq (by omega) (by omega)
  rw [e];exact this
theorem ne_slash (z:Int):∀ b∈fmtL z,b≠47:=no_slash z
theorem parse_fmt {z:Int} (hb:ZB z 12):parseV (fmtL z)=(ofZ z,0):=by
 unfold parseV
 have:=fmtL_zb hb
 rw [if_neg (by omega),wholeV_fmt]
 show (if fmtL z=fmtL z then (ofZ z,(0:Int)) else (zeroI,7))=_
 rw [if_pos rfl]
theorem parseQ_fmt {q:Rat} (hb:RB q 12):pqV (fmtQL q)=(ofQ q,0):=by
 have h1:=fmtL_zb hb.num
 have h2:=fmtL_zb hb.den
 unfold pqV
 by_cases hd:q.den=1
 ·have e:fmtQL q=fmtL q.num:=by unfold fmtQL;rw [if_pos hd]
  have hf:fi (fmtL q.num)=(fmtL q.num).length:=fi_none (ne_slash _)
  rw [e,if_neg (by omega),if_neg (by omega),wholeV_fmt]
  have eq:Rat.divInt q.num 1=q:=by have:=div_parts q;rw [hd] at this;exact this.symm
  show (if (1:Int)=0 then (zeroQ,(7:Int)) else if fmtQL (Rat.divInt q.num 1)=fmtL q.num then (ofQ (Rat.divInt q.num 1),(0:Int)) else (zeroQ,7))=_
  rw [if_neg (by decide),eq,if_pos e]
 ·have e:fmtQL q=(fmtL q.num ++ [47]) ++ fmtL (q.den:Int):=by unfold fmtQL;rw [if_neg hd]
  have hl:(fmtQL q).length=(fmtL q.num).length+1+(fmtL (q.den:Int)).length:=by rw [e];simp;omega
  have hf:fi (fmtQL q)=(fmtL q.num).length:=by rw [e];exact fi_app (ne_slash _)
  rw [if_neg (by omega),if_pos (by rw [hf,hl];omega),hf]
  have t1:(fmtQL q).take (fmtL q.num).length=fmtL q.num:=by rw [e,List.append_assoc];simp
  have t2:(fmtQL q).drop ((fmtL q.num).length+1)=fmtL (q.den:Int):=by
   rw [e,show (fmtL q.num).length+1=(fmtL q.num ++ [47]).length by simp,List.drop_left]
  rw [t1,t2,wholeV_fmt,wholeV_fmt]
  show (if (q.den:Int)=0 then (zeroQ,(7:Int)) else if fmtQL (Rat.divInt q.num q.den)=fmtQL q then (ofQ (Rat.divInt q.num q.den),(0:Int)) else (zeroQ,7))=_
  rw [if_neg (den_ne q),← div_parts,if_pos rfl]
theorem textWide_cases {x:TRat} (h:TRat.wf x):Gv (fun N=>g_w01_wide N x) true∨(Gv (fun N=>g_w01_wide N x) false∧RQ x (qv x) 12):=by
 have:Gv (fun N=>g_w01_wide N x) (cond (decide (((x.f_Num.f_Limbs.length:Nat):Int) > 12)) true (decide (((x.f_Den.f_Limbs.length:Nat):Int) > 12))):=Gv.pure _
 by_cases h1:x.f_Num.f_Limbs.length≤12
 ·by_cases h2:x.f_Den.f_Limbs.length≤12
  ·rw [decide_eq_false (by omega),decide_eq_false (by omega)] at this
   exact .inr ⟨this,⟨IB.of_wf h.1 h1,IB.of_wf h.2 h2⟩,rfl,by decide⟩
  ·rw [decide_eq_true (p:=((x.f_Den.f_Limbs.length:Nat):Int) > 12) (by omega)] at this
   left;revert this;cases decide (((x.f_Num.f_Limbs.length:Nat):Int) > 12)<;>exact id
 ·rw [decide_eq_true (by omega)] at this
  exact .inl this
theorem parseV_len (l:List UInt8) (hl:l.length < 1000):(parseV l).1.f_Limbs.length < 10000000000000:=by
 unfold parseV
 split
 ·decide
 ·cases h:wholeV l with
  | none=>show (0:Nat) < 10000000000000;decide
  | some z =>
   show (if fmtL z=l then (ofZ z,(0:Int)) else (zeroI,7)).1.f_Limbs.length < _
   split
   ·have:(lm z.natAbs).length≤l.length:=wholeV_zb h
    show (lm z.natAbs).length < _;omega
   ·decide
theorem pqV_cases (l:List UInt8) (hl:l.length < 1000):(∃ q,pqV l=(ofQ q,0)∧RB q 1000)∨(∃ e:Int,pqV l=(zeroQ,e)∧e≠0):=by
 have fin:∀ (a b:Option Int),(∀ z,a=some z→ZB z 1000)→(∀ z,b=some z→ZB z 1000)→(∃ q,finV l a b=(ofQ q,0)∧RB q 1000)∨(∃ e:Int,finV l a b=(zeroQ,e)∧e≠0):=by
  intro a b ha hb
  cases a with
  | none=>exact .inr ⟨7,rfl,by decide⟩
  | some z =>
   cases b with
   | none=>exact .inr ⟨7,rfl,by decide⟩
   | some w =>
    unfold finV
    by_cases h0:w=0
    ·exact .inr ⟨7,if_pos h0,by decide⟩
    ·by_cases h:fmtQL (Rat.divInt z w)=l
     ·exact .inl ⟨Rat.divInt z w,by simp only [if_neg h0,if_pos h],rb_divInt (ha z rfl) (hb w rfl) h0⟩
     ·exact .inr ⟨7,by simp only [if_neg h0,if_neg h],by decide⟩
 unfold pqV
 split
 ·exact .inr ⟨8,rfl,by decide⟩
 ·split
  ·exact fin _ _ (fun z h=>(wholeV_zb h).le (by simp;omega)) fun z h=>(wholeV_zb h).le (by simp;omega)
  ·exact fin _ _ (fun z h=>(wholeV_zb h).le (by omega)) fun z h=>by
    obtain rfl:=Option.some.inj h
    exact (ZB.small (x:=1) (by decide)).le (by decide)
theorem ratT_err {e:Int} (he:e≠0):Gv (fun N=>g_w01_rat N zeroQ e zeroQ e) true:=by
 have h1:(e != 0)=true:=by rw [bne_iff_ne];exact he
 have h2:(e == e)=true:=beq_self_eq_true e
 unfold g_w01_rat
 rw [h1,h2]
 exact Gv.condT rfl ((SameRat_gv zeroQ (by decide) (by decide)).bind (Gv.pure _))
theorem ratT_same {q:Rat} {n:Nat} (h:RB q n) (hn:SM n):Gv (fun N=>g_w01_rat N (ofQ q) 0 (ofQ q) 0) true :=
 Gv.condF rfl (Gv.bind (Gv.condT rfl (SameQ_gv h hn)) (Gv.pure _))
theorem exactTexts_plain (x:TRat) (s:ByteArray) (hx:TRat.wf x) (_:wS s):∃ N,g_w01_ExactTexts N x s=some true:=by
 refine Gv.ex ?_
 obtain ⟨l,rfl⟩:∃ l,s=bz l:=⟨_,(bz_data s).symm⟩
 unfold g_w01_ExactTexts
 rcases textWide_cases hx with hw | ⟨hw,hq⟩
 ·exact Gv.bind hw (Gv.condT rfl (Gv.bind awake_gv (Gv.pure _)))
 ·by_cases hl:900 < l.length
  ·exact Gv.bind hw (Gv.condT (by rw [decide_eq_true (show (((bz l).size:Nat):Int) > 900 by rw [bz_size];omega)];rfl) (Gv.bind awake_gv (Gv.pure _)))
  ·refine Gv.bind hw (Gv.condF (by rw [decide_eq_false (show ¬ (((bz l).size:Nat):Int) > 900 by rw [bz_size];omega)];rfl) ?_)
   have hz:ZI x.f_Num (zv x.f_Num) 12:=⟨hq.ir.num,rfl⟩
   have hrb:=hq.rb
   have hlen:(fmtL (zv x.f_Num)).length≤61:=fmtL_zb hz.zb
   have hlq:(fmtQL (qv x)).length < 1000:=by
    have h1:=fmtL_zb hrb.num
    have h2:=fmtL_zb hrb.den
    unfold fmtQL
    split
    ·omega
    ·simp;omega
   have hpe:=parseV_len l (by omega)
   have hrat:Gv (fun N=>g_w01_rat N (pqV l).1 (pqV l).2 (pqV l).1 (pqV l).2) true:=by
    rcases pqV_cases l (by omega) with ⟨q,e,hb⟩ | ⟨e,e2,he⟩
    ·rw [e];exact ratT_same hb (by decide)
    ·rw [e2];exact ratT_err he
   have hne:∀ e:Int,(e != e)=false:=fun e=>by rw [bne_self_eq_false]
   have t1:streq (bz (fmtL (zv x.f_Num))) (bz (fmtL (zv x.f_Num)))=true:=streq_iff.2 rfl
   have t2:streq (bz (fmtQL (qv x))) (bz (fmtQL (qv x)))=true:=streq_iff.2 rfl
   refine Gv.bind (fmt_gv hz (by decide)) (Gv.bind (fmtQ_gv hq (by decide)) (Gv.bind (parse_gv l (by omega)) (Gv.bind (rparse_gv l (by omega)) (Gv.bind (parseQ_gv l (by omega)) (Gv.bind (rparseQ_gv l (by omega)) ?_)))))
   refine Gv.bind (parse_gv (fmtL (zv x.f_Num)) (by omega)) (Gv.bind (parseQ_gv (fmtQL (qv x)) hlq) (Gv.bind (rfmt_gv hz (by decide)) ?_))
   rw [t1]
   refine Gv.bind (Gv.condT rfl (rfmtQ_gv hq (by decide))) ?_
   rw [t2]
   refine Gv.bind (r:=true) (Gv.condT rfl (SameInt_gv _ hpe)) ?_
   rw [hne]
   refine Gv.bind (r:=true) (Gv.condT rfl hrat) (Gv.condF rfl ?_)
   rw [parse_fmt hz.zb,parseQ_fmt hrb]
   refine Gv.bind (r:=ofZ (zv x.f_Num)) (Gv.condT rfl (hz.rnorm (by decide))) (Gv.bind (r:=true) (Gv.condT rfl (SameZ_gv hz.zb (by decide))) (Gv.bind (r:=ofQ (qv x)) (Gv.condT rfl (hq.rnorm (by decide))) (Gv.bind (r:=true) (Gv.condT rfl (ratT_same hrb (by decide))) (Gv.bind (r:=true) (Gv.condT rfl awake_gv) (Gv.pure _)))))
end Go.Den
