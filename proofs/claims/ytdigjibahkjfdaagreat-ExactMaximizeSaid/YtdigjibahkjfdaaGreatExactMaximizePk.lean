/- The plain law: the Lean function of the law returns true for every input, and what it needs. No conditions. -/
import Derived.Test.YtdigjibahkjfdaaGreatExactMaximizeDen
set_option linter.unusedVariables false
set_option linter.unusedSimpArgs false
namespace Go.Den
open Go.Ab
theorem Vg (n:Int):aq n=if n % 18446744073709551616≥9223372036854775808 then n % 18446744073709551616 - 18446744073709551616 else n % 18446744073709551616:=by
 have e:aq n=(if (true && decide (n % 18446744073709551616≥9223372036854775808))=true then n % 18446744073709551616 - 18446744073709551616 else n % 18446744073709551616):=rfl
 rw [e];simp
theorem bE {n:Int} (h1:-9223372036854775808≤n) (h2:n≤9223372036854775807):aq n=n:=by
 rw [Vg];split<;>omega
theorem bh {m:Nat} (h:m < 9223372036854775807):aq ((m:Int)+1)=((m+1:Nat):Int):=by rw [bE (by omega) (by omega)];simp
def scan {R:Type} (f:Nat→Option R) (z:R):Nat→Nat→R
 | 0,_=>z
 | k+1,m=>match f m with
  | some r=>r
  | none=>scan f z k (m+1)
theorem K0 {R:Type} {f:Nat→Option R} {z:R}:∀ (k m:Nat),(∃ i r,m≤i∧i < m+k∧f i=some r∧(∀ j,m≤j→j < i→f j=none)∧scan f z k m=r)∨((∀ i,m≤i→i < m+k→f i=none)∧scan f z k m=z)
 | 0,m=>.inr ⟨fun i h1 h2=>by omega,rfl⟩
 | k+1,m=>by
  cases hm:f m with
  | some r=>exact .inl ⟨m,r,aR _,by omega,hm,fun j h1 h2=>by omega,by unfold scan;rw [hm]⟩
  | none =>
   have e:scan f z (k+1) m=scan f z k (m+1):=by rw [scan,hm]
   rcases K0 (f:=f) (z:=z) k (m+1) with ⟨i,r,h1,h2,h3,h4,h5⟩ | ⟨h1,h2⟩
   ·refine .inl ⟨i,r,by omega,by omega,h3,fun j hj1 Qa=>?_,e.trans h5⟩
    by_cases hj:j=m
    ·subst hj;exact hm
    ·exact h4 j (by omega) Qa
   ·refine .inr ⟨fun i hi1 Tt=>?_,e.trans h2⟩
    by_cases hj:i=m
    ·subst hj;exact hm
    ·exact h1 i (by omega) (by omega)
theorem RV {α:Type} (l:List α) (m:Nat) (d:α) (h:m < l.length):l.getD m d∈l:=by
 simp [List.getD,h]
theorem an (m:Nat):((m:Int)).toNat=m:=rfl
theorem mQ {m n:Nat} (h:m < n):0≤(m:Int)∧(m:Int) < ((n:Nat):Int):=⟨by omega,by omega⟩
theorem dec_lt {m n:Nat} (h:m < n):decide ((m:Int) < ((n:Nat):Int))=true:=by simp;omega
theorem eJ {n:Nat}:decide ((n:Int) < ((n:Nat):Int))=false:=by simp
end Go.Den
namespace Go.Den
open Go.Ab
theorem sn (n:Int):IntKind.u16.wrap n=n % 65536:=by
 have e:IntKind.u16.wrap n=(if (false && decide (n % 65536≥32768))=true then n % 65536 - 65536 else n % 65536):=rfl
 rw [e];simp
theorem wrap32 (n:Int):IntKind.u32.wrap n=n % 4294967296:=by
 have e:IntKind.u32.wrap n=(if (false && decide (n % 4294967296≥2147483648))=true then n % 4294967296 - 4294967296 else n % 4294967296):=rfl
 rw [e];simp
theorem wrap64 (n:Int):IntKind.u64.wrap n=n % 18446744073709551616:=by
 have e:IntKind.u64.wrap n=(if (false && decide (n % 18446744073709551616≥9223372036854775808))=true then n % 18446744073709551616 - 18446744073709551616 else n % 18446744073709551616):=rfl
 rw [e];simp
theorem n4 {n:Int} (h:0≤n) (h2:n < 65536):IntKind.u16.wrap n=n:=by rw [sn];omega
theorem cX {n:Int} (h:0≤n) (h2:n < 4294967296):IntKind.u32.wrap n=n:=by rw [wrap32];omega
theorem gQ {n:Int} (h:0≤n) (h2:n < 18446744073709551616):IntKind.u64.wrap n=n:=by rw [wrap64];omega
theorem BZ (n:Int):ow .u32 n 16=n / 65536:=by
 unfold ow
 have:(2:Int) ^ (min (16:Int).toNat IntKind.u32.bits)=65536:=by decide
 rw [this,Int.fdiv_eq_ediv_of_nonneg _ (by decide)]
theorem Gp (n:Int):ow .u64 n 16=n / 65536:=by
 unfold ow
 have:(2:Int) ^ (min (16:Int).toNat IntKind.u64.bits)=65536:=by decide
 rw [this,Int.fdiv_eq_ediv_of_nonneg _ (by decide)]
theorem PH (n:Int):ow .i64 n 16=n / 65536:=by
 unfold ow
 have:(2:Int) ^ (min (16:Int).toNat IntKind.i64.bits)=65536:=by decide
 rw [this,Int.fdiv_eq_ediv_of_nonneg _ (by decide)]
theorem Gq {n:Int} (h:0≤n) (h2:n < 65536):iC .u32 n 16=n * 65536:=by
 unfold iC
 have:(2:Int) ^ (min (16:Int).toNat IntKind.u32.bits)=65536:=by decide
 rw [this,wrap32];omega
theorem Gr {n:Int} (h:0≤n) (h2:n < 281474976710656):iC .u64 n 16=n * 65536:=by
 unfold iC
 have:(2:Int) ^ (min (16:Int).toNat IntKind.u64.bits)=65536:=by decide
 rw [this,wrap64];omega
theorem RX {n:Nat} (a b:Nat) (ha:a < 2 ^ n) (hb:b < 2 ^ n):(BitVec.ofInt n (a:Int) ||| BitVec.ofInt n (b:Int)).toNat=a ||| b:=by
 rw [BitVec.ofInt_natCast,BitVec.ofInt_natCast,BitVec.toNat_or,BitVec.toNat_ofNat,BitVec.toNat_ofNat,Nat.mod_eq_of_lt ha,Nat.mod_eq_of_lt hb]
theorem bv_and {n:Nat} (a b:Nat) (ha:a < 2 ^ n) (hb:b < 2 ^ n):(BitVec.ofInt n (a:Int) &&& BitVec.ofInt n (b:Int)).toNat=a &&& b:=by
 rw [BitVec.ofInt_natCast,BitVec.ofInt_natCast,BitVec.toNat_and,BitVec.toNat_ofNat,BitVec.toNat_ofNat,Nat.mod_eq_of_lt ha,Nat.mod_eq_of_lt hb]
theorem A1 (a b k:Nat) (hb:b < 2 ^ k):(a * 2 ^ k) ||| b=a * 2 ^ k+b:=by
 have:=Nat.shiftLeft_add_eq_or_of_lt hb a
 rw [Nat.shiftLeft_eq] at this
 exact this.symm
theorem Om {a b:Int} (ha:0≤a) (Tu:a < 65536) (hb:0≤b) (lN:b < 65536):vz .u32 (a * 65536) b=a * 65536+b:=by
 obtain ⟨a,rfl⟩:=Int.eq_ofNat_of_zero_le ha
 obtain ⟨b,rfl⟩:=Int.eq_ofNat_of_zero_le hb
 unfold vz
 have e:((a:Int) * 65536)=((a * 2 ^ 16:Nat):Int):=by simp
 rw [e,show IntKind.u32.bits=32 from rfl,RX _ _ (by omega) (by omega),A1 _ _ 16 (by omega),wrap32]
 omega
theorem JI {a b:Int} (ha:0≤a) (Tu:a < 281474976710656) (hb:0≤b) (lN:b < 65536):vz .u64 (a * 65536) b=a * 65536+b:=by
 obtain ⟨a,rfl⟩:=Int.eq_ofNat_of_zero_le ha
 obtain ⟨b,rfl⟩:=Int.eq_ofNat_of_zero_le hb
 unfold vz
 have e:((a:Int) * 65536)=((a * 2 ^ 16:Nat):Int):=by simp
 rw [e,show IntKind.u64.bits=64 from rfl,RX _ _ (by omega) (by omega),A1 _ _ 16 (by omega),wrap64]
 omega
theorem K3 {a:Int} (ha:0≤a) (Tu:a < 18446744073709551616):vA .u64 a 65535=a % 65536:=by
 obtain ⟨a,rfl⟩:=Int.eq_ofNat_of_zero_le ha
 unfold vA
 have e:(65535:Int)=((65535:Nat):Int):=rfl
 rw [e,show IntKind.u64.bits=64 from rfl,bv_and _ _ (by omega) (by omega),show (65535:Nat)=2 ^ 16 - 1 from rfl,Nat.and_two_pow_sub_one_eq_mod,wrap64]
 omega
def bL:List Int→Int
 | []=>0
 | x :: l=>x+65536 * bL l
def U (l:List Int):Prop:=∀ x,x∈l→0≤x∧x < 65536
def lm (n:Nat):List Int:=if h:n=0 then [] else ((n % 65536:Nat):Int) :: lm (n / 65536)
termination_by n
decreasing_by omega
def pw (k:Nat):Int:=65536 ^ k
theorem zJ:pw 0=1:=rfl
theorem fU (k:Nat):pw (k+1)=65536 * pw k:=by unfold pw;rw [Int.pow_succ];omega
theorem kz (k:Nat):0 < pw k:=by
 induction k with
 | zero=>decide
 | succ k ih=>rw [fU];omega
theorem Gs (j k:Nat):pw (j+k)=pw j * pw k:=Int.pow_add _ _ _
theorem U.nil:U []:=fun x h=>by simp at h
theorem U.cons {x:Int} {l:List Int} (h1:0≤x) (h2:x < 65536) (h:U l):U (x :: l):=fun y hy=>by
 rcases jq.1 hy with rfl | hy
 ·exact ⟨h1,h2⟩
 ·exact h y hy
theorem U.tail {x:Int} {l:List Int} (h:U (x :: l)):U l:=fun y hy=>h y (List.mem_cons_of_mem _ hy)
theorem U.head {x:Int} {l:List Int} (h:U (x :: l)):0≤x∧x < 65536:=h x (by simp)
theorem U.append {l m:List Int} (h1:U l) (h2:U m):U (l ++ m):=fun y hy=>by
 rcases List.mem_append.1 hy with hy | hy
 ·exact h1 y hy
 ·exact h2 y hy
theorem U.left {l m:List Int} (h:U (l ++ m)):U l:=fun y hy=>h y (List.mem_append_left _ hy)
theorem U.right {l m:List Int} (h:U (l ++ m)):U m:=fun y hy=>h y (List.mem_append_right _ hy)
theorem U.one {x:Int} (h1:0≤x) (h2:x < 65536):U [x]:=U.cons h1 h2 U.nil
theorem U.take {l:List Int} (h:U l) (k:Nat):U (l.take k):=fun y hy=>h y (List.mem_of_mem_take hy)
theorem U.drop {l:List Int} (h:U l) (k:Nat):U (l.drop k):=fun y hy=>h y (List.mem_of_mem_drop hy)
theorem U.getD {l:List Int} (h:U l) (i:Nat):0≤l.getD i 0∧l.getD i 0 < 65536:=by
 by_cases hi:i < l.length
 ·exact h _ (RV l i 0 hi)
 ·rw [eh,oI (by omega)];decide
theorem U.set {l:List Int} (h:U l) (i:Nat) {x:Int} (h1:0≤x) (h2:x < 65536):U (l.set i x):=fun y hy=>by
 rcases List.mem_or_eq_of_mem_set hy with hy | rfl
 ·exact h y hy
 ·exact ⟨h1,h2⟩
theorem U.replicate (n:Nat):U (List.replicate n 0):=fun y hy=>by
 rw [(List.mem_replicate.1 hy).2];decide
theorem lr (l m:List Int):bL (l ++ m)=bL l+pw l.length * bL m:=by
 induction l with
 | nil=>simp [bL,zJ]
 | cons x l ih =>
  simp only [List.cons_append,bL,ih,qI,fU]
  rw [gX,← kF];omega
theorem qO (x:Int):bL [x]=x:=by simp [bL]
theorem jL (n:Nat):bL (List.replicate n 0)=0:=by
 induction n with
 | zero=>rfl
 | succ n ih=>simp [List.replicate_succ,bL,ih]
theorem U.ph:∀ {l:List Int},U l→0≤bL l
 | [],_=>by simp [bL]
 | x :: l,h=>by have:=U.ph h.tail;have:=h.head;simp only [bL];omega
theorem U.lt:∀ {l:List Int},U l→bL l < pw l.length
 | [],_=>by simp [bL,zJ]
 | x :: l,h=>by have:=U.lt h.tail;have:=h.head;simp only [bL,qI,fU];omega
theorem mS:∀ (l:List Int) (i:Nat) (x:Int),i < l.length→bL (l.set i x)=bL l+(x - l.getD i 0) * pw i
 | [],i,x,h=>by simp at h
 | y :: l,0,x,h=>by simp [bL,zJ];omega
 | y :: l,i+1,x,h=>by
  simp only [List.set_cons_succ,bL,mS l i x (by simpa using h),fU]
  rw [show (y :: l).getD (i+1) 0=l.getD i 0 from rfl,gX,show (x - l.getD i 0) * (65536 * pw i)=65536 * ((x - l.getD i 0) * pw i) by rw [Int.mul_left_comm]]
  omega
theorem cZ (l:List Int) (i:Nat) (h:i < l.length):bL (l.take (i+1))=bL (l.take i)+l.getD i 0 * pw i:=by
 have e:l.take (i+1)=l.take i ++ [l.getD i 0]:=by
  rw [List.take_add_one];simp [List.getD,h]
 rw [e,lr,qO,oK,Nat.min_eq_left (by omega),gp]
theorem nA (l:List Int) (i:Nat) (h:i < l.length):bL (l.drop i)=l.getD i 0+65536 * bL (l.drop (i+1)):=by
 rw [List.drop_eq_getElem_cons h];simp [bL,List.getD,h]
theorem qP (l:List Int) (i:Nat) (h:i≤l.length):bL l=bL (l.take i)+pw i * bL (l.drop i):=by
 have:=lr (l.take i) (l.drop i)
 rwa [List.take_append_drop,oK,Nat.min_eq_left h] at this
theorem fV:lm 0=[]:=by rw [lm];rfl
theorem pj {n:Nat} (h:n≠0):lm n=((n % 65536:Nat):Int) :: lm (n / 65536):=by rw [lm,dif_neg h]
theorem rK (n:Nat):U (lm n):=by
 induction n using Nat.strongRecOn with
 | _ n ih =>
  by_cases h:n=0
  ·subst h;rw [fV];exact U.nil
  ·rw [pj h];exact U.cons (by omega) (by omega) (ih _ (by omega))
theorem gV (n:Nat):bL (lm n)=n:=by
 induction n using Nat.strongRecOn with
 | _ n ih =>
  by_cases h:n=0
  ·subst h;rw [fV];rfl
  ·rw [pj h,bL,ih _ (by omega)];omega
theorem M7 {n:Nat}:lm n=[]↔n=0:=by
 constructor
 ·intro h
  have:=gV n
  rw [h] at this;simp [bL] at this;omega
 ·rintro rfl;exact fV
theorem j7 {n:Nat}:0 < (lm n).length↔n≠0:=by
 rw [List.length_pos_iff,ne_eq,M7]
theorem ij {n k:Nat}:(lm n).length≤k↔(n:Int) < pw k:=by
 induction k generalizing n with
 | zero =>
  rw [zJ]
  constructor
  ·intro h;have:lm n=[]:=List.length_eq_zero_iff.1 (by omega);rw [M7] at this;omega
  ·intro h;have:n=0:=by omega
   rw [M7.2 this];simp
 | succ k ih =>
  by_cases h:n=0
  ·subst h;rw [fV];have:=kz (k+1);simp;omega
  ·rw [pj h,qI,fU]
   have:=ih (n:=n / 65536)
   constructor
   ·intro h;have:=this.1 (by omega);omega
   ·intro h;have:=this.2 (by omega);omega
theorem Vh {n:Nat} (h:n≠0):∃ l x,lm n=l ++ [x]∧x≠0∧U l∧0≤x∧x < 65536:=by
 induction n using Nat.strongRecOn with
 | _ n ih =>
  rw [pj h]
  by_cases h2:n / 65536=0
  ·rw [h2,fV];exact ⟨[],_,rfl,by omega,U.nil,by omega,by omega⟩
  ·obtain ⟨l,x,e,hx,hl,h3,h4⟩:=ih _ (by omega) h2
   rw [e];exact ⟨_ :: l,x,rfl,hx,U.cons (by omega) (by omega) hl,h3,h4⟩
theorem On:∀ {l:List Int},U l→(∀ m x,l=m ++ [x]→x≠0)→lm (bL l).toNat=l
 | [],_,_=>by simp [bL,fV]
 | x :: l,h,hn=>by
  have h1:=h.head
  have h2:=h.tail.ph
  have e:bL (x :: l)=x+65536 * bL l:=rfl
  have eE:(bL (x :: l)).toNat≠0:=by
   rw [e]
   cases l with
   | nil=>have:=hn [] x rfl;simp [bL];omega
   | cons y l =>
    have hl:=On (l:=y :: l) h.tail fun m z hz=>hn (x :: m) z (by rw [hz];rfl)
    have:bL (y :: l)≠0:=fun h0=>by rw [h0] at hl;simp [fV] at hl
    omega
  rw [pj eE]
  have hl:=On (l:=l) h.tail fun m z hz=>hn (x :: m) z (by rw [hz];rfl)
  have e1:(((bL (x :: l)).toNat % 65536:Nat):Int)=x:=by rw [e];omega
  have e2:(bL (x :: l)).toNat / 65536=(bL l).toNat:=by rw [e];omega
  rw [e1,e2,hl]
theorem Oo {N:Nat}:∀ (fuel:Nat) (l:List Int),U l→l.length < fuel→l.length < 9223372036854775807→m8 N fuel l=some (lm (bL l).toNat)
 | 0,l,_,h,_=>by omega
 | fuel+1,l,hU,h,hs=>by
  rw [m8]
  rcases List.eq_nil_or_concat l with rfl | ⟨m,x,Tm⟩
  ·simp [bL,fV]
  ·rw [List.concat_eq_append] at Tm
   subst Tm
   have hlen:(m ++ [x]).length=m.length+1:=by simp
   have e1:aq ((((m ++ [x]).length:Nat):Int) - 1)=(m.length:Int):=by rw [hlen,bE (by omega) (by rw [hlen] at hs;omega)];omega
   have e2:(m ++ [x]).getD m.length 0=x:=by simp [List.getD]
   have e3:decide ((((m ++ [x]).length:Nat):Int) > 0)=true:=by simp
   rw [e1,e3]
   rw [if_pos (fun _=>⟨by omega,by rw [hlen];omega⟩),cond_true]
   simp only [an,e2]
   cases hx:(x == 0) with
   | true =>
    have Rf:x=0:=by simpa using hx
    subst Rf
    rw [cond_true,if_pos ⟨Nat.zero_le _,by rw [hlen];omega⟩,if_pos (by omega)]
    have e4:((m ++ [(0:Int)]).take m.length).drop 0=m:=by simp
    rw [e4,Oo fuel m hU.left (by rw [hlen] at h;omega) (by rw [hlen] at hs;omega),lr,qO];simp
   | false =>
    rw [cond_false,On hU]
    intro m' x' he
    have:=(List.append_inj' he rfl).2
    simp at this hx
    omega
theorem mb {N:Nat} {l:List Int} (hU:U l) (hN:l.length < N) (hs:l.length < 9223372036854775807):fH N l=some (lm (bL l).toNat):=Oo N l hU hN hs
end Go.Den
namespace Go.Den
open Go.Ab
abbrev SM (n:Nat):Prop:=n < 1000000000000
def M8 (a b:List Int):Nat→Int
 | 0=>0
 | k+1=>cond (a.getD k 0 != b.getD k 0) (a.getD k 0 - b.getD k 0) (M8 a b k)
def HH (a b:Nat):Int:=cond ((((lm a).length:Nat):Int) != (((lm b).length:Nat):Int)) ((((lm a).length:Nat):Int) - (((lm b).length:Nat):Int)) (M8 (lm a) (lm b) (lm a).length)
theorem Gu {N:Nat} {a b:List Int} (ha:U a) (hb:U b) (hl:a.length=b.length) (hs:SM a.length):∀ (k fuel:Nat),k≤a.length→k < fuel →
  ∃ c,iE N a b fuel ((k:Int) - 1)=some c∧(c < 0↔bL (a.take k) < bL (b.take k))∧(c=0↔bL (a.take k)=bL (b.take k))∧c=M8 a b k
 | 0,fuel,_,hf=>by
  obtain ⟨g,rfl⟩:∃ g,fuel=g+1:=⟨fuel - 1,by omega⟩
  exact ⟨0,by rw [iE];rfl,by simp,by simp,rfl⟩
 | k+1,fuel,hk,hf=>by
  obtain ⟨g,rfl⟩:∃ g,fuel=g+1:=⟨fuel - 1,by omega⟩
  have e:(((k+1:Nat):Int) - 1)=(k:Int):=by omega
  rw [e,iE]
  have hA:=cZ a k (by omega)
  have hB:=cZ b k (by omega)
  have h1:=ha.getD k
  have h2:=hb.getD k
  have hla:=(ha.take k).lt
  have Vi:=(hb.take k).lt
  have hna:=(ha.take k).ph
  have YA:=(hb.take k).ph
  rw [oK,Nat.min_eq_left (by omega)] at hla Vi
  have e0:decide ((k:Int)≥0)=true:=by simp
  rw [e0,cond_true,if_pos ⟨by omega,by omega⟩,if_pos ⟨by omega,by omega⟩]
  simp only [an]
  cases hd:(a.getD k 0 != b.getD k 0) with
  | true =>
   have eE:a.getD k 0≠b.getD k 0:=by simpa using hd
   refine ⟨a.getD k 0 - b.getD k 0,?_,?_,?_,by rw [M8,hd];rfl⟩
   ·rw [cond_true]
    congr 1
    rw [bE (by rw [bE (by omega) (by omega),bE (by omega) (by omega)];omega) (by rw [bE (by omega) (by omega),bE (by omega) (by omega)];omega),bE (by omega) (by omega),bE (by omega) (by omega)]
   ·rw [hA,hB]
    generalize a.getD k 0=x at *
    generalize b.getD k 0=y at *
    rcases Int.lt_or_lt_of_ne eE with h | h
    ·have:=j9 (show x+1≤y by omega) (Int.le_of_lt (kz k))
     rw [eI] at this
     constructor<;>intro<;>omega
    ·have:=j9 (show y+1≤x by omega) (Int.le_of_lt (kz k))
     rw [eI] at this
     constructor<;>intro<;>omega
   ·rw [hA,hB]
    generalize a.getD k 0=x at *
    generalize b.getD k 0=y at *
    rcases Int.lt_or_lt_of_ne eE with h | h
    ·have:=j9 (show x+1≤y by omega) (Int.le_of_lt (kz k))
     rw [eI] at this
     constructor<;>intro<;>omega
    ·have:=j9 (show y+1≤x by omega) (Int.le_of_lt (kz k))
     rw [eI] at this
     constructor<;>intro<;>omega
  | false =>
   have heq:a.getD k 0=b.getD k 0:=by simpa using hd
   obtain ⟨c,h3,h4,h5,h6⟩:=Gu ha hb hl hs k g (by omega) (by omega)
   refine ⟨c,?_,?_,?_,by rw [M8,hd];exact h6⟩
   ·rw [cond_false,bE (by omega) (by simp only [SM] at hs;omega)];exact h3
   ·rw [hA,hB,heq,h4];omega
   ·rw [hA,hB,heq,h5];omega
theorem zK {a b:Nat} (h:(lm a).length < (lm b).length):a < b:=by
 have h1:=ij (n:=a) (k:=(lm a).length)
 have h2:=ij (n:=b) (k:=(lm a).length)
 have:=h1.1 (aR _)
 have:¬ (b:Int) < pw (lm a).length:=fun h'=>by have:=h2.2 h';omega
 omega
theorem xe {N:Nat} {a b:Nat} (hN:(lm a).length < N) (ha:SM (lm a).length) (hb:SM (lm b).length):∃ c,na N (lm a) (lm b)=some c∧(c < 0↔a < b)∧(c=0↔a=b)∧c=HH a b:=by
 unfold na
 simp only [SM] at ha hb
 cases hl:((((lm a).length:Nat):Int) != (((lm b).length:Nat):Int)) with
 | true =>
  have eE:(lm a).length≠(lm b).length:=by intro h;rw [h] at hl;simp at hl
  refine ⟨_,cond_true _ _,?_,?_,by unfold HH;rw [hl,cond_true,bE (by omega) (by omega)]⟩
  ·rw [bE (by omega) (by omega)]
   rcases Nat.lt_or_gt_of_ne eE with h | h
   ·have:=zK h;omega
   ·have:=zK h;omega
  ·rw [bE (by omega) (by omega)]
   rcases Nat.lt_or_gt_of_ne eE with h | h
   ·have:=zK h;omega
   ·have:=zK h;omega
 | false =>
  have heq:(lm a).length=(lm b).length:=by simp at hl;omega
  rw [cond_false,bE (by omega) (by omega)]
  obtain ⟨c,h1,h2,h3,h4⟩:=Gu (N:=N) (rK a) (rK b) heq ha (lm a).length N (aR _) hN
  rw [List.take_length,heq,List.take_length,gV,gV] at h2 h3
  exact ⟨c,h1,by omega,by omega,by unfold HH;rw [hl];exact h4⟩
theorem K4 {N a b:Nat} (hN:(lm a).length < N) (ha:SM (lm a).length) (hb:SM (lm b).length):na N (lm a) (lm b)=some (HH a b):=by
 obtain ⟨c,h1,_,_,rfl⟩:=xe hN ha hb
 exact h1
theorem Oq {a b:Nat} (ha:SM (lm a).length) (hb:SM (lm b).length):HH a b < 0↔a < b:=by
 obtain ⟨c,_,h,_,rfl⟩:=xe (N:=(lm a).length+1) (by omega) ha hb
 exact h
theorem Ot {N:Nat} {a b:List Int} (ha:U a) (hb:U b) (hl:b.length≤a.length) (hs:SM a.length) (hN:a.length+1 < N):∀ (k x fuel:Nat) (out:List Int) (c:Int),x+k=a.length→k < fuel→out.length=x→U out→0≤c→c≤1 →
  bL out+pw x * c=bL (a.take x)+bL (b.take x)→jF N a b fuel out c (x:Int)=some (lm (bL a+bL b).toNat)
 | 0,x,fuel,out,c,hx,hf,ho,hU,tW,s5,hinv=>by
  obtain ⟨g,rfl⟩:∃ g,fuel=g+1:=⟨fuel - 1,by omega⟩
  have FI:x=a.length:=by omega
  subst FI
  rw [jF]
  simp only [SM] at hs
  rw [eJ,cond_false,if_pos (by omega),n4 tW (by omega)]
  have hU2:U (out ++ [c]):=hU.append (U.one tW (by omega))
  have hlen:(out ++ [c]).length=a.length+1:=by simp [ho]
  rw [mb hU2 (by rw [hlen];omega) (by rw [hlen];omega),bV,lr,qO,ho,hinv,List.take_length,iY hl]
 | k+1,x,fuel,out,c,hx,hf,ho,hU,tW,s5,hinv=>by
  obtain ⟨g,rfl⟩:∃ g,fuel=g+1:=⟨fuel - 1,by omega⟩
  simp only [SM] at hs
  have wj:x < a.length:=by omega
  have h1:=ha.getD x
  have h2:=hb.getD x
  rw [jF,dec_lt wj,cond_true,if_pos (mQ wj)]
  simp only [an]
  have hA:=cZ a x wj
  have hB:bL (b.take (x+1))=bL (b.take x)+b.getD x 0 * pw x:=by
   by_cases h:x < b.length
   ·exact cZ b x h
   ·rw [iY (by omega),iY (by omega),eh,oI (by omega)];simp
  have step:∀ s:Int,s=c+a.getD x 0+b.getD x 0→(pD N a b out (x:Int) (jF N a b g) s)=some (lm (bL a+bL b).toNat):=by
   intro s hse
   unfold pD
   rw [if_pos (by omega),sn,BZ,bh (by omega)]
   refine Ot ha hb hl hs hN k (x+1) g _ _ (by omega) (by omega) (by simp [ho]) (hU.append (U.one (by omega) (by omega))) (by omega) (by omega) ?_
   rw [lr,qO,ho,hA,hB,fU]
   have h5:s=s % 65536+65536 * (s / 65536):=by omega
   have h6:pw x * s=pw x * (s % 65536)+pw x * (65536 * (s / 65536)):=by rw [← gX,← h5]
   have h7:pw x * s=pw x * c+a.getD x 0 * pw x+b.getD x 0 * pw x:=by rw [hse,gX,gX,gp (pw x) (a.getD x 0),gp (pw x) (b.getD x 0)]
   have h8:65536 * pw x * (s / 65536)=pw x * (65536 * (s / 65536)):=by rw [gp 65536,kF]
   omega
  by_cases lN:x < b.length
  ·rw [dec_lt lN,cond_true,if_pos (mQ lN)]
   refine step _ ?_
   rw [cX (n:=a.getD x 0) (by omega) (by omega),cX (n:=b.getD x 0) (by omega) (by omega),cX (n:=c+a.getD x 0) (by omega) (by omega),cX (by omega) (by omega)]
  ·have e:decide ((x:Int) < ((b.length:Nat):Int))=false:=by simp;omega
   rw [e,cond_false]
   refine step _ ?_
   have h0:b.getD x 0=0:=by rw [eh,oI (by omega)];rfl
   rw [cX (n:=a.getD x 0) (by omega) (by omega),cX (n:=c+a.getD x 0) (by omega) (by omega),h0];omega
theorem Ou {N:Nat} {a b:List Int} (ha:U a) (hb:U b) (hl:b.length≤a.length) (hs:SM a.length) (hN:a.length+1 < N):pE N a b=some (lm (bL a+bL b).toNat):=by
 unfold pE
 simp only [SM] at hs
 rw [if_pos (by rw [bE (by omega) (by omega)];omega)]
 exact Ot ha hb hl hs hN a.length 0 N _ 0 (by omega) (by omega) rfl (U.replicate 0) (by omega) (by omega) (by simp [bL])
theorem XJ {N:Nat} {a b:List Int} (ha:U a) (hb:U b) (hs:SM a.length) (LY:SM b.length) (hN:a.length+1 < N) (hN2:b.length+1 < N):tA N a b=some (lm (bL a+bL b).toNat):=by
 unfold tA
 cases h:decide (((a.length:Nat):Int) < ((b.length:Nat):Int)) with
 | true =>
  simp at h
  rw [cond_true,Ou hb ha (by omega) LY hN2,Int.add_comm]
 | false =>
  simp at h
  rw [cond_false,Ou ha hb (by omega) hs hN]
theorem Ov {N a b:Nat} (hs:SM (lm a).length) (LY:SM (lm b).length) (hN:(lm a).length+1 < N) (hN2:(lm b).length+1 < N):tA N (lm a) (lm b)=some (lm (a+b)):=by
 rw [XJ (rK a) (rK b) hs LY hN hN2,gV,gV];congr 1
theorem K5 {N:Nat} {a b:List Int} (ha:U a) (hb:U b) (hl:b.length≤a.length) (hle:bL b≤bL a) (hs:SM a.length) (hN:a.length+1 < N):∀ (k x fuel:Nat) (out:List Int) (c:Int),x+k=a.length→k < fuel→out.length=a.length→U out→0≤c→c≤1 →
  (∀ j,x≤j→out.getD j 0=0)→bL out - pw x * c=bL (a.take x) - bL (b.take x)→gJ N a b fuel out c (x:Int)=some (lm (bL a - bL b).toNat)
 | 0,x,fuel,out,c,hx,hf,ho,hU,tW,s5,hz,hinv=>by
  obtain ⟨g,rfl⟩:∃ g,fuel=g+1:=⟨fuel - 1,by omega⟩
  have FI:x=a.length:=by omega
  subst FI
  simp only [SM] at hs
  rw [gJ,eJ,cond_false,mb hU (by omega) (by omega),bV]
  rw [List.take_length,iY hl] at hinv
  have h1:=hU.lt
  rw [ho] at h1
  have hc:c=0:=by
   rcases Int.lt_or_le 0 c with h | h
   ·have:c=1:=by omega
    subst this;omega
   ·omega
  subst hc
  have:bL out=bL a - bL b:=by omega
  rw [this]
 | k+1,x,fuel,out,c,hx,hf,ho,hU,tW,s5,hz,hinv=>by
  obtain ⟨g,rfl⟩:∃ g,fuel=g+1:=⟨fuel - 1,by omega⟩
  simp only [SM] at hs
  have wj:x < a.length:=by omega
  have h1:=ha.getD x
  have h2:=hb.getD x
  rw [gJ,dec_lt wj,cond_true,if_pos (mQ wj)]
  simp only [an]
  have hA:=cZ a x wj
  have hB:bL (b.take (x+1))=bL (b.take x)+b.getD x 0 * pw x:=by
   by_cases h:x < b.length
   ·exact cZ b x h
   ·rw [iY (by omega),iY (by omega),eh,oI (by omega)];simp
  have step:∀ y:Int,y=c+b.getD x 0→(nR N a b out (x:Int) (gJ N a b g) y)=some (lm (bL a - bL b).toNat):=by
   intro y hy
   unfold nR
   have fin:∀ q:Int,0≤q→q≤1→0≤a.getD x 0+q * 65536 - y→a.getD x 0+q * 65536 - y < 65536→nQ N a b out (x:Int) y (gJ N a b g) q=some (lm (bL a - bL b).toNat):=by
    intro q EE Fo Qg YB
    unfold nQ
    rw [if_pos ⟨by omega,by omega⟩,Gq (by omega) (by omega),an,cX (n:=a.getD x 0) (by omega) (by omega),cX (n:=a.getD x 0+q * 65536) (by omega) (by omega),cX (by omega) (by omega),n4 (by omega) (by omega),bh (by omega)]
    refine K5 ha hb hl hle hs hN k (x+1) g _ _ (by omega) (by omega) (by simp [ho]) (hU.set x (by omega) (by omega)) EE Fo ?_ ?_
    ·intro j hj
     have:=hz j (by omega)
     rw [eh] at this ⊢
     rw [List.getElem?_set_ne (by omega)];exact this
    ·rw [mS _ _ _ (by omega),hz x (aR _),hA,hB,fU]
     have h3:(a.getD x 0+q * 65536 - y - 0) * pw x=a.getD x 0 * pw x+q * 65536 * pw x - y * pw x:=by rw [Int.sub_zero,Int.sub_mul,eI]
     have h4:y * pw x=c * pw x+b.getD x 0 * pw x:=by rw [hy,eI]
     have h5:q * 65536 * pw x=65536 * pw x * q:=by rw [gp q 65536,kF,kF,gp q]
     have h6:c * pw x=pw x * c:=gp _ _
     omega
   rw [an,cX (n:=a.getD x 0) (by omega) (by omega)]
   cases fo:decide (a.getD x 0 < y) with
   | true=>have fo:=oJ fo;rw [cond_true];exact fin 1 (by omega) (by omega) (by omega) (by omega)
   | false=>have fo:=lz fo;rw [cond_false];exact fin 0 (by omega) (by omega) (by omega) (by omega)
  by_cases lN:x < b.length
  ·rw [dec_lt lN,cond_true,if_pos (mQ lN)]
   refine step _ ?_
   rw [cX (n:=b.getD x 0) (by omega) (by omega),cX (by omega) (by omega)]
  ·have e:decide ((x:Int) < ((b.length:Nat):Int))=false:=by simp;omega
   rw [e,cond_false]
   refine step _ ?_
   have h0:b.getD x 0=0:=by rw [eh,oI (by omega)];rfl
   omega
theorem gM (n j:Nat):(List.replicate n (0:Int)).getD j 0=0:=by
 rw [eh,List.getElem?_replicate];split<;>rfl
theorem Vj {N:Nat} {a b:List Int} (ha:U a) (hb:U b) (hl:b.length≤a.length) (hle:bL b≤bL a) (hs:SM a.length) (hN:a.length+1 < N):pF N a b=some (lm (bL a - bL b).toNat):=by
 unfold pF
 simp only [SM] at hs
 rw [if_pos (by omega)]
 exact K5 ha hb hl hle hs hN a.length 0 N _ 0 (by omega) (by omega) (by simp) (U.replicate _) (by omega) (by omega) (fun j _=>gM _ j) (by rw [jL];simp [bL])
theorem fe {a b:Nat} (h:a≤b):(lm a).length≤(lm b).length:=ij.2 (by have:=(ij (n:=b) (k:=(lm b).length)).1 (aR _);omega)
theorem Gw {N a b:Nat} (TC:b≤a) (hs:SM (lm a).length) (hN:(lm a).length+1 < N):pF N (lm a) (lm b)=some (lm (a - b)):=by
 rw [Vj (rK a) (rK b) (fe TC) (by rw [gV,gV];omega) hs hN,gV,gV]
 congr 2;omega
end Go.Den
namespace Go.Den
open Go.Ab
theorem getD_set_ne (l:List Int) {i j:Nat} (x:Int) (h:i≠j):(l.set i x).getD j 0=l.getD j 0:=by
 rw [eh,List.getElem?_set_ne h,← eh]
theorem K6 (l:List Int) {i:Nat} (x:Int) (h:i < l.length):(l.set i x).getD i 0=x:=by
 rw [eh,List.getElem?_set_self h];rfl
theorem uD {l:List Int} {i:Nat} (h:l.length≤i):l.getD i 0=0:=by
 rw [eh,oI h];rfl
theorem Gx {x y:Int} (h1:0≤x) (h2:x < 65536) (h3:0≤y) (h4:y < 65536):0≤x * y∧x * y≤4294836225:=by
 refine ⟨Int.mul_nonneg h1 h3,?_⟩
 have:=Int.mul_le_mul (show x≤65535 by omega) (show y≤65535 by omega) h3 (by omega)
 omega
theorem K7 {N:Nat} {a b:List Int} {i:Nat} (ha:U a) (hb:U b) (hi:i < a.length) (hs:SM (a.length+b.length)) (K:List Int→Int→Option (List Int)) (R:Option (List Int))
  (hK:∀ out,out.length=a.length+b.length→U out→(∀ j,i+b.length < j→out.getD j 0=0)→bL out=bL (a.take (i+1)) * bL b→K out ((i+1:Nat):Int)=R) :
  ∀ (k x fuel:Nat) (out:List Int) (c:Int),x+k=b.length→k < fuel→out.length=a.length+b.length→U out→0≤c→c < 65536→(∀ j,i+b.length≤j→out.getD j 0=0) →
   bL out+pw (i+x) * c=bL (a.take i) * bL b+a.getD i 0 * pw i * bL (b.take x)→kQ N a b (i:Int) K fuel out c (x:Int)=R
 | 0,x,fuel,out,c,hx,hf,ho,hU,tW,s5,hz,hinv=>by
  obtain ⟨g,rfl⟩:∃ g,fuel=g+1:=⟨fuel - 1,by omega⟩
  have FI:x=b.length:=by omega
  subst FI
  simp only [SM] at hs
  have e:aq ((i:Int)+((b.length:Nat):Int))=((i+b.length:Nat):Int):=by rw [bE (by omega) (by omega)];omega
  rw [kQ,eJ,cond_false,e,if_pos (mQ (by omega)),an,n4 tW s5,bh (by omega)]
  refine hK _ (by simp [ho]) (hU.set _ tW s5) (fun j hj=>?_) ?_
  ·rw [getD_set_ne _ _ (by omega)];exact hz j (by omega)
  ·rw [mS _ _ _ (by omega),hz _ (aR _),Int.sub_zero,cZ a i hi,eI,gp c]
   rw [List.take_length] at hinv
   exact hinv
 | k+1,x,fuel,out,c,hx,hf,ho,hU,tW,s5,hz,hinv=>by
  obtain ⟨g,rfl⟩:∃ g,fuel=g+1:=⟨fuel - 1,by omega⟩
  simp only [SM] at hs
  have wj:x < b.length:=by omega
  have h1:=ha.getD i
  have h2:=hb.getD x
  have h3:=hU.getD (i+x)
  have e:aq ((i:Int)+(x:Int))=((i+x:Nat):Int):=by rw [bE (by omega) (by omega)];omega
  have h4:=Gx h1.1 h1.2 h2.1 h2.2
  rw [kQ,dec_lt wj,cond_true,if_pos (mQ wj),e,if_pos (mQ (by omega))]
  simp only [an]
  rw [cX (n:=a.getD i 0) (by omega) (by omega),cX (n:=b.getD x 0) (by omega) (by omega),cX (n:=out.getD (i+x) 0) (by omega) (by omega),cX (n:=a.getD i 0 * b.getD x 0) (by omega) (by omega),
   cX (n:=a.getD i 0 * b.getD x 0+out.getD (i+x) 0) (by omega) (by omega),cX (n:=c+(a.getD i 0 * b.getD x 0+out.getD (i+x) 0)) (by omega) (by omega),sn,BZ,bh (by omega)]
  generalize LY:c+(a.getD i 0 * b.getD x 0+out.getD (i+x) 0)=s
  refine K7 ha hb hi hs K R hK k (x+1) g _ _ (by omega) (by omega) (by simp [ho]) (hU.set _ (by omega) (by omega)) (by omega) (by omega) (fun j hj=>?_) ?_
  ·rw [getD_set_ne _ _ (by omega)];exact hz j hj
  ·rw [mS _ _ _ (by omega),cZ b x wj,show i+(x+1)=(i+x)+1 by omega,fU]
   have h5:s=s % 65536+65536 * (s / 65536):=by omega
   have h6:pw (i+x) * s=pw (i+x) * (s % 65536)+pw (i+x) * (65536 * (s / 65536)):=by rw [← gX,← h5]
   have h7:pw (i+x) * s=pw (i+x) * c+pw (i+x) * (a.getD i 0 * b.getD x 0)+pw (i+x) * out.getD (i+x) 0:=by rw [← LY,gX,gX];omega
   have h8:65536 * pw (i+x) * (s / 65536)=pw (i+x) * (65536 * (s / 65536)):=by rw [gp 65536,kF]
   have h9:(s % 65536 - out.getD (i+x) 0) * pw (i+x)=pw (i+x) * (s % 65536) - pw (i+x) * out.getD (i+x) 0:=by rw [Int.sub_mul,gp,gp (out.getD (i+x) 0)]
   have h10:a.getD i 0 * pw i * (bL (b.take x)+b.getD x 0 * pw x)=a.getD i 0 * pw i * bL (b.take x)+pw (i+x) * (a.getD i 0 * b.getD x 0):=by
    rw [Gs];grind
   omega
theorem K8 {N:Nat} {a b:List Int} (ha:U a) (hb:U b) (hs:SM (a.length+b.length)) (hN:a.length+b.length < N):∀ (k x fuel:Nat) (out:List Int),x+k=a.length→k < fuel→out.length=a.length+b.length→U out →
  (∀ j,x+b.length≤j→out.getD j 0=0)→bL out=bL (a.take x) * bL b→kR N a b fuel out (x:Int)=some (lm (bL a * bL b).toNat)
 | 0,x,fuel,out,hx,hf,ho,hU,hz,hinv=>by
  obtain ⟨g,rfl⟩:∃ g,fuel=g+1:=⟨fuel - 1,by omega⟩
  have FI:x=a.length:=by omega
  subst FI
  simp only [SM] at hs
  rw [kR,eJ,cond_false,mb hU (by omega) (by omega),bV,hinv,List.take_length]
 | k+1,x,fuel,out,hx,hf,ho,hU,hz,hinv=>by
  obtain ⟨g,rfl⟩:∃ g,fuel=g+1:=⟨fuel - 1,by omega⟩
  have wj:x < a.length:=by omega
  rw [kR,dec_lt wj,cond_true,if_pos (mQ wj)]
  refine K7 ha hb wj hs _ _ (fun fX h1 h2 h3 h4=>?_) b.length 0 N out 0 (by omega) (by omega) ho hU (by omega) (by omega) hz (by rw [hinv];simp [bL])
  exact K8 ha hb hs hN k (x+1) g fX (by omega) (by omega) h1 h2 (fun j hj=>h3 j (by omega)) h4
theorem Vk {N:Nat} {a b:List Int} (ha:U a) (hb:U b) (hs:SM (a.length+b.length)) (hN:a.length+b.length < N):tc N a b=some (lm (bL a * bL b).toNat):=by
 unfold tc
 have HI:=hs
 simp only [SM] at HI
 have e:aq (((a.length:Nat):Int)+((b.length:Nat):Int))=((a.length+b.length:Nat):Int):=by rw [bE (by omega) (by omega)];omega
 rw [e,if_pos (by omega)]
 exact K8 ha hb hs hN a.length 0 N _ (by omega) (by omega) (by simp;omega) (U.replicate _) (fun j _=>gM _ j) (by rw [jL];simp [bL])
theorem u9 (a b:Nat):((a:Int) * (b:Int)).toNat=a * b:=by rw [← Int.natCast_mul];rfl
theorem RY {N a b:Nat} (hs:SM ((lm a).length+(lm b).length)) (hN:(lm a).length+(lm b).length < N):tc N (lm a) (lm b)=some (lm (a * b)):=by
 rw [Vk (rK a) (rK b) hs hN,gV,gV,u9]
theorem K9 {N:Nat} {a:List Int} {d:Int} (ha:U a) (Qg:0 < d) (YB:d < 65536) (hs:SM a.length) (hN:a.length < N):∀ (k fuel:Nat) (q:List Int) (r:Int),k≤a.length→k < fuel→q.length=a.length→U q→0≤r→r < d →
  (∀ j,j < k→q.getD j 0=0)→pw k * bL (a.drop k)=bL q * d+r * pw k→∃ Q R:Int,0≤Q∧0≤R∧R < d∧bL a=Q * d+R∧kK N a d fuel q r ((k:Int) - 1)=some (lm Q.toNat,R)
 | 0,fuel,q,r,hk,hf,ho,hU,HJ,RZ,hz,hinv=>by
  obtain ⟨g,rfl⟩:∃ g,fuel=g+1:=⟨fuel - 1,by omega⟩
  simp only [SM] at hs
  refine ⟨bL q,r,hU.ph,HJ,RZ,by rw [zJ] at hinv;simpa using hinv,?_⟩
  rw [kK]
  have e:decide ((((0:Nat):Int) - 1)≥0)=false:=rfl
  rw [e,cond_false,mb hU (by omega) (by omega),bV,n4 HJ (by omega)]
 | k+1,fuel,q,r,hk,hf,ho,hU,HJ,RZ,hz,hinv=>by
  obtain ⟨g,rfl⟩:∃ g,fuel=g+1:=⟨fuel - 1,by omega⟩
  simp only [SM] at hs
  have e:(((k+1:Nat):Int) - 1)=(k:Int):=by omega
  have h1:=ha.getD k
  have e0:decide ((k:Int)≥0)=true:=by simp
  rw [e,kK,e0,cond_true,if_pos (mQ (by omega)),cX (n:=d) (by omega) (by omega),if_pos (by omega),if_pos (mQ (by omega))]
  simp only [an]
  rw [cX (n:=a.getD k 0) (by omega) (by omega),Gq HJ (by omega),Om HJ (by omega) h1.1 h1.2,bE (by omega) (by omega)]
  have L9:0≤r * 65536+a.getD k 0:=by omega
  have G6:r * 65536+a.getD k 0 < d * 65536:=by omega
  generalize hn:r * 65536+a.getD k 0=n at L9 G6 ⊢
  rw [Int.tdiv_eq_ediv_of_nonneg L9,Int.tmod_eq_emod_of_nonneg L9]
  have Fo:n / d < 65536:=Int.ediv_lt_of_lt_mul Qg (by rw [gp];exact G6)
  have EE:0≤n / d:=Int.ediv_nonneg L9 (by omega)
  rw [cX EE (by omega),n4 EE Fo]
  refine K9 ha Qg YB hs hN k g _ _ (by omega) (by omega) (by simp [ho]) (hU.set _ EE Fo) (Int.emod_nonneg _ (by omega)) (Int.emod_lt_of_pos _ Qg) (fun j hj=>?_) ?_
  ·rw [getD_set_ne _ _ (by omega)];exact hz j (by omega)
  ·rw [mS _ _ _ (by omega),hz k (by omega),Int.sub_zero,nA a k (by omega)]
   have h2:=Int.mul_ediv_add_emod n d
   rw [fU] at hinv
   have h3:pw k * n=pw k * (d * (n / d))+pw k * (n % d):=by rw [← gX,h2]
   have h4:pw k * n=pw k * (r * 65536)+pw k * a.getD k 0:=by rw [← hn,gX]
   grind
theorem R0 {N a d:Nat} (Qg:0 < d) (YB:d < 65536) (hs:SM (lm a).length) (hN:(lm a).length < N):vD N (lm a) (d:Int)=some (lm (a / d),((a % d:Nat):Int)):=by
 unfold vD
 have HI:=hs
 simp only [SM] at HI
 rw [if_pos (by omega),bE (by omega) (by omega)]
 obtain ⟨Q,R,h1,h2,h3,h4,h5⟩:=K9 (N:=N) (d:=(d:Int)) (rK a) (by omega) (by omega) hs hN (lm a).length N (List.replicate (lm a).length 0) 0 (aR _) hN (by simp) (U.replicate _) (by omega) (by omega) (fun j _=>gM _ j)
  (by rw [List.drop_length,jL];simp [bL])
 rw [h5]
 rw [gV] at h4
 obtain ⟨Q,rfl⟩:=Int.eq_ofNat_of_zero_le h1
 obtain ⟨R,rfl⟩:=Int.eq_ofNat_of_zero_le h2
 have h6:a=Q * d+R:=by exact_mod_cast h4
 have h7:R < d:=by omega
 have h8:a / d=Q:=by rw [h6,oL,Nat.mul_add_div Qg,Nat.div_eq_of_lt h7];rfl
 have h9:a % d=R:=by rw [h6,oL,Nat.mul_add_mod,Nat.mod_eq_of_lt h7]
 rw [h8,h9];rfl
theorem Gy {N:Nat}:∀ (fuel n:Nat) (out:List Int),(lm n).length < fuel→out.length+(lm n).length < 1000→n < 18446744073709551616→jU N fuel (n:Int) out=some (out ++ lm n)
 | 0,n,out,h,_,_=>by omega
 | fuel+1,n,out,h,h2,h3=>by
  rw [jU]
  by_cases hn:n=0
  ·subst hn;rw [fV];simp
  ·have e:decide ((n:Int) > 0)=true:=by simp;omega
   rw [pj hn] at h h2
   simp only [qI] at h h2
   rw [e,cond_true,if_pos (by omega),Gp,sn]
   have e1:((n:Int) / 65536)=((n / 65536:Nat):Int):=by omega
   have e2:((n:Int) % 65536)=((n % 65536:Nat):Int):=by omega
   rw [e1,e2,Gy fuel (n / 65536) _ (by omega) (by simp;omega) (by omega),pj hn,y7];rfl
theorem La {n:Nat} (h:n < 18446744073709551616):(lm n).length≤4:=ij.2 (by show (n:Int) < 65536 ^ 4;omega)
theorem A2 {N n:Nat} (hN:4 < N) (h:n < 18446744073709551616):m7 N (n:Int)=some (lm n):=by
 unfold m7
 have:=La h
 rw [Gy N n [] (by omega) (by simp;omega) h];rfl
theorem Lb {N:Nat}:∀ (fuel n:Nat) (out:List Int),(lm n).length < fuel→out.length+(lm n).length < 1000→n < 18446744073709551616→l4 N fuel (n:Int) out=some (out ++ lm n)
 | 0,n,out,h,_,_=>by omega
 | fuel+1,n,out,h,h2,h3=>by
  rw [l4]
  by_cases hn:n=0
  ·subst hn;rw [fV];simp
  ·have e:decide ((n:Int) > 0)=true:=by simp;omega
   rw [pj hn] at h h2
   simp only [qI] at h h2
   rw [e,cond_true,if_pos (by omega),Gp,K3 (by omega) (by omega),sn]
   have e1:((n:Int) / 65536)=((n / 65536:Nat):Int):=by omega
   have e2:((n:Int) % 65536 % 65536)=((n % 65536:Nat):Int):=by omega
   rw [e1,e2,Lb fuel (n / 65536) _ (by omega) (by simp;omega) (by omega),pj hn,y7];rfl
theorem Lc {N n:Nat} (hN:4 < N) (h:n < 18446744073709551616):tf N (n:Int)=some (lm n):=by
 unfold tf
 have:=La h
 rw [Lb N n [] (by omega) (by simp;omega) h];rfl
theorem Ow {N:Nat} {a:List Int} (ha:U a) (hs:a.length≤4):∀ (k fuel:Nat) (r:Int),k≤a.length→k < fuel→0≤r→r < pw (4 - k)→bL (a.drop k)=r→lQ N a fuel r ((k:Int) - 1)=some (bL a,true)
 | 0,fuel,r,hk,hf,HJ,RZ,hinv=>by
  obtain ⟨g,rfl⟩:∃ g,fuel=g+1:=⟨fuel - 1,by omega⟩
  rw [lQ]
  have e:decide ((((0:Nat):Int) - 1)≥0)=false:=rfl
  rw [e,cond_false,← hinv,List.drop_zero]
 | k+1,fuel,r,hk,hf,HJ,RZ,hinv=>by
  obtain ⟨g,rfl⟩:∃ g,fuel=g+1:=⟨fuel - 1,by omega⟩
  have e:(((k+1:Nat):Int) - 1)=(k:Int):=by omega
  have h1:=ha.getD k
  have e0:decide ((k:Int)≥0)=true:=by simp
  have hp:pw (4 - k)=65536 * pw (4 - (k+1)):=by rw [← fU];congr 1;omega
  have hle:pw (4 - (k+1))≤281474976710656:=by
   have:k=0∨k=1∨k=2∨k=3:=by omega
   rcases this with rfl | rfl | rfl | rfl<;>decide
  rw [e,lQ,e0,cond_true,if_pos (mQ (by omega)),an,gQ (n:=a.getD k 0) (by omega) (by omega),Gr HJ (by omega),JI HJ (by omega) h1.1 h1.2,bE (by omega) (by omega)]
  refine Ow ha hs k g _ (by omega) (by omega) (by omega) (by omega) ?_
  rw [nA a k (by omega),hinv];omega
theorem Ox {N a:Nat} (hN:5 < N) (hs:SM (lm a).length):vC N (lm a)=some (if (lm a).length≤4 then ((a:Int),true) else (0,false)):=by
 unfold vC
 by_cases h:(lm a).length≤4
 ·rw [if_pos h]
  have e:decide ((((lm a).length:Nat):Int) > 4)=false:=by simp;omega
  rw [e,cond_false,bE (by omega) (by omega),Ow (rK a) h (lm a).length N 0 (aR _) (by omega) (by omega) (kz _) (by rw [List.drop_length];rfl),gV]
 ·rw [if_neg h]
  have e:decide ((((lm a).length:Nat):Int) > 4)=true:=by simp;omega
  rw [e];rfl
end Go.Den
namespace Go.Den
open Go.Ab
theorem R1:∀ x:Fin 256,(match cN 0 ((x.val:Nat):Int) 0 with | some L=>decide (0≤L∧L≤8∧(x.val≠0→1≤L∧2 ^ (L.toNat - 1)≤x.val∧x.val < 2 ^ L.toNat)) | none=>false)=true:=by decide +kernel
theorem R2:∀ x:Fin 256,(match cN 0 ((x.val:Nat):Int) 8 with | some L=>decide (8≤L∧L≤16∧(x.val≠0→9≤L∧2 ^ (L.toNat - 1 - 8)≤x.val∧x.val < 2 ^ (L.toNat - 8))) | none=>false)=true:=by decide +kernel
theorem R3 {N x:Nat} (h0:0 < x) (h1:x < 65536):∃ L:Nat,1≤L∧L≤16∧kL N (x:Int)=some (L:Int)∧2 ^ (L - 1)≤x∧x < 2 ^ L:=by
 unfold kL
 by_cases h:x < 256
 ·have e:decide ((x:Int)≥256)=false:=by simp;omega
  rw [e,cond_false]
  have:=R1 ⟨x,h⟩
  simp only at this
  show ∃ L:Nat,1≤L∧L≤16∧cN 0 (x:Int) 0=some (L:Int)∧2 ^ (L - 1)≤x∧x < 2 ^ L
  cases hr:cN 0 (x:Int) 0 with
  | none=>rw [hr] at this;cases this
  | some L =>
   rw [hr] at this
   obtain ⟨q1,q2,q3⟩:=oJ this
   obtain ⟨q4,q5,q6⟩:=q3 (by omega)
   obtain ⟨L,rfl⟩:=Int.eq_ofNat_of_zero_le q1
   exact ⟨L,by omega,by omega,rfl,q5,q6⟩
 ·have e:decide ((x:Int)≥256)=true:=by simp;omega
  rw [e,cond_true]
  have e2:ow .u16 (x:Int) 8=((x / 256:Nat):Int):=by
   unfold ow
   have:(2:Int) ^ (min (8:Int).toNat IntKind.u16.bits)=256:=by decide
   rw [this,Int.fdiv_eq_ediv_of_nonneg _ (by decide)];omega
  rw [e2]
  have:=R2 ⟨x / 256,by omega⟩
  simp only at this
  have hJ:cN N ((x / 256:Nat):Int) 8=cN 0 ((x / 256:Nat):Int) 8:=rfl
  rw [hJ]
  cases hr:cN 0 ((x / 256:Nat):Int) 8 with
  | none=>rw [hr] at this;cases this
  | some L =>
   rw [hr] at this
   obtain ⟨q1,q2,q3⟩:=oJ this
   obtain ⟨q4,q5,q6⟩:=q3 (by omega)
   obtain ⟨L,rfl⟩:=Int.eq_ofNat_of_zero_le (show 0≤L by omega)
   simp only [Int.toNat_natCast] at q5 q6
   refine ⟨L,by omega,by omega,rfl,?_,?_⟩
   ·have:2 ^ (L - 1 - 8+8)=2 ^ (L - 1 - 8) * 2 ^ 8:=Nat.pow_add _ _ _
    have h8:(2:Nat) ^ 8=256:=by decide
    have h9:L - 1 - 8+8=L - 1:=by omega
    rw [h8,h9] at this
    omega
   ·have:2 ^ (L - 8+8)=2 ^ (L - 8) * 2 ^ 8:=Nat.pow_add _ _ _
    have h8:(2:Nat) ^ 8=256:=by decide
    have h9:L - 8+8=L:=by omega
    rw [h8,h9] at this
    omega
theorem ZV {N x:Nat} (h0:0 < x) (h1:x < 65536):∃ s:Nat,s≤15∧eY N (x:Int)=some (s:Int)∧32768≤x * 2 ^ s∧x * 2 ^ s < 65536:=by
 obtain ⟨L,h2,h3,h4,h5,h6⟩:=R3 (N:=N) h0 h1
 refine ⟨16 - L,by omega,?_,?_,?_⟩
 ·unfold eY
  rw [h4,bV,bE (by omega) (by omega)];congr 1;omega
 ·have e:2 ^ (L - 1) * 2 ^ (16 - L)=32768:=by rw [← Nat.pow_add,show L - 1+(16 - L)=15 by omega]
  have:=dB (2 ^ (16 - L)) h5
  omega
 ·have e:2 ^ L * 2 ^ (16 - L)=65536:=by rw [← Nat.pow_add,show L+(16 - L)=16 by omega]
  have:=Nat.mul_lt_mul_of_pos_right h6 (Nat.two_pow_pos (16 - L))
  omega
theorem XK {n:Int} {s:Nat} (h:0≤n) (h2:n < 65536) (hs:s≤15):iC .u32 n (s:Int)=n * 2 ^ s∧0≤n * 2 ^ s∧n * 2 ^ s < 65536 * 2 ^ s∧n * 2 ^ s < 2147483648:=by
 have hp:(0:Int) < 2 ^ s:=Int.pow_pos (by decide)
 have vk:(2:Int) ^ s≤32768:=by
  have:=Nat.pow_le_pow_right (n:=2) (by decide) hs
  have e:((2 ^ s:Nat):Int)=(2:Int) ^ s:=by simp
  omega
 have h3:0≤n * 2 ^ s:=Int.mul_nonneg h (by omega)
 have h4:n * 2 ^ s < 65536 * 2 ^ s:=Int.mul_lt_mul_of_pos_right h2 hp
 refine ⟨?_,h3,h4,by omega⟩
 unfold iC
 have:min ((s:Nat):Int).toNat IntKind.u32.bits=s:=by show min s 32=s;omega
 rw [this,cX h3 (by omega)]
theorem XL {c a:Int} {s:Nat} (hs:s≤15) (tW:0≤c) (s5:c < 2 ^ s) (ha0:0≤a):vz .u16 c (a * 2 ^ s % 65536)=c+a * 2 ^ s % 65536∧c+a * 2 ^ s % 65536 < 65536:=by
 obtain ⟨c,rfl⟩:=Int.eq_ofNat_of_zero_le tW
 obtain ⟨a,rfl⟩:=Int.eq_ofNat_of_zero_le ha0
 have hc:c < 2 ^ s:=by
  have e:((2 ^ s:Nat):Int)=(2:Int) ^ s:=by simp
  omega
 have hp:2 ^ s≤32768:=Nat.pow_le_pow_right (n:=2) (by decide) hs
 have e1:(a:Int) * 2 ^ s % 65536=((a * 2 ^ s % 65536:Nat):Int):=by simp
 have e2:a * 2 ^ s % 65536=a % 2 ^ (16 - s) * 2 ^ s:=by
  have:65536=2 ^ (16 - s) * 2 ^ s:=by rw [← Nat.pow_add,show 16 - s+s=16 by omega]
  rw [this,Nat.mul_mod_mul_right]
 have e3:a % 2 ^ (16 - s) * 2 ^ s+2 ^ s≤65536:=by
  have h1:a % 2 ^ (16 - s)+1≤2 ^ (16 - s):=Nat.mod_lt _ (Nat.two_pow_pos _)
  have h2:=dB (2 ^ s) h1
  rw [← Nat.pow_add,show 16 - s+s=16 by omega,cb] at h2
  omega
 rw [e1,e2]
 generalize a % 2 ^ (16 - s)=m at *
 constructor
 ·unfold vz
  rw [show IntKind.u16.bits=16 from rfl,RX _ _ (by omega) (by omega),Nat.or_comm,A1 _ _ s hc,sn]
  omega
 ·omega
theorem Gz {N:Nat} {a:List Int} {s:Nat} (ha:U a) (hs:s≤15) (hS:SM a.length):∀ (k x fuel:Nat) (out:List Int),x+k=a.length→k < fuel→out.length=a.length+1→U out→out.getD x 0 < 2 ^ s→(∀ j,x < j→out.getD j 0=0) →
  bL out=bL (a.take x) * 2 ^ s→∃ o,iG N a (s:Int) fuel out (x:Int)=some o∧o.length=a.length+1∧U o∧bL o=bL a * 2 ^ s∧o.getD a.length 0 < 2 ^ s
 | 0,x,fuel,out,hx,hf,ho,hU,hc,hz,hinv=>by
  obtain ⟨g,rfl⟩:∃ g,fuel=g+1:=⟨fuel - 1,by omega⟩
  have FI:x=a.length:=by omega
  subst FI
  exact ⟨out,by rw [iG,eJ,cond_false],ho,hU,by rw [hinv,List.take_length],hc⟩
 | k+1,x,fuel,out,hx,hf,ho,hU,hc,hz,hinv=>by
  obtain ⟨g,rfl⟩:∃ g,fuel=g+1:=⟨fuel - 1,by omega⟩
  simp only [SM] at hS
  have wj:x < a.length:=by omega
  have h1:=ha.getD x
  have h2:=hU.getD x
  obtain ⟨w1,w2,w3,w4⟩:=XK h1.1 h1.2 hs
  obtain ⟨o1,o2⟩:=XL hs h2.1 hc h1.1
  rw [iG,dec_lt wj,cond_true,if_pos (mQ wj),if_pos (by omega),if_pos (mQ (by omega)),bh (by omega)]
  simp only [an]
  rw [cX (n:=a.getD x 0) (by omega) (by omega),w1,sn,BZ,sn,o1]
  rw [if_pos ⟨by omega,by simp;omega⟩]
  generalize hw:a.getD x 0 * 2 ^ s=w at *
  have hw5:w / 65536 < 2 ^ s:=by omega
  have hw6:w / 65536 % 65536=w / 65536:=by omega
  rw [hw6]
  have hU1:U (out.set x (out.getD x 0+w % 65536)):=hU.set x (by omega) o2
  refine Gz ha hs hS k (x+1) g _ (by omega) (by omega) (by simp [ho]) (hU1.set (x+1) (by omega) (by omega)) ?_ (fun j hj=>?_) ?_
  ·rw [K6 _ _ (by simp;omega)];exact hw5
  ·rw [getD_set_ne _ _ (by omega),getD_set_ne _ _ (by omega)];exact hz j (by omega)
  ·rw [mS _ _ _ (by simp;omega),getD_set_ne _ _ (by omega),hz (x+1) (by omega),mS _ _ _ (by omega),cZ a x wj,hinv,fU,eI]
   have h3:w=w % 65536+65536 * (w / 65536):=by omega
   have h4:w * pw x=(w % 65536+65536 * (w / 65536)) * pw x:=by rw [← h3]
   have h5:a.getD x 0 * pw x * 2 ^ s=w * pw x:=by rw [← hw];grind
   grind
theorem GA {N:Nat} {a:List Int} {s:Nat} (ha:U a) (hs:s≤15) (hS:SM a.length) (hN:a.length < N):∃ o,pC N a (s:Int)=some o∧o.length=a.length+1∧U o∧bL o=bL a * 2 ^ s∧o.getD a.length 0 < 2 ^ s:=by
 unfold pC
 have Wx:=hS
 simp only [SM] at Wx
 have e:aq (((a.length:Nat):Int)+1)=((a.length+1:Nat):Int):=bh (by omega)
 rw [e,if_pos (by omega)]
 exact Gz ha hs hS a.length 0 N _ (by omega) hN (by simp) (U.replicate _) (by rw [gM];exact Int.pow_pos (by decide)) (fun j _=>gM _ j) (by rw [jL];simp [bL])
theorem qZ (p w:List Int) (i:Nat):(p ++ w).getD (bT p.length i) 0=w.getD i 0:=by
 rw [dk,eh,gF (by omega),eh];congr 2;omega
theorem JJ (p w:List Int) (i:Nat) (x:Int):(p ++ w).set (bT p.length i) x=p ++ w.set i x:=by
 rw [dk,List.set_append_right _ _ (by omega)];congr 2;omega
theorem tg:∀ {l:List Int} (m:Nat),(∀ j,m≤j→l.getD j 0=0)→bL l=bL (l.take m)
 | [],m,_=>by simp
 | x :: l,0,h=>by
  have h0:x=0:=h 0 (aR _)
  have:=tg (l:=l) 0 fun j _=>h (j+1) (by omega)
  simp [bL] at this;simp [bL,h0,this]
 | x :: l,m+1,h=>by
  have:=tg (l:=l) m fun j hj=>h (j+1) (by omega)
  simp only [List.take_succ_cons,bL,this]
theorem Ld {l:List Int} (hU:U l) (m:Nat) (h:∀ j,m≤j→l.getD j 0=0):bL l < pw m:=by
 rw [tg m h]
 have h1:=(hU.take m).lt
 rw [oK] at h1
 by_cases hm:m≤l.length
 ·rwa [Nat.min_eq_left hm] at h1
 ·rw [Nat.min_eq_right (by omega)] at h1
  have:pw m=pw l.length * pw (m - l.length):=by rw [← Gs];congr 1;omega
  have h2:=kz (m - l.length)
  have h3:=sG (show 1≤pw (m - l.length) by omega) (Int.le_of_lt (kz l.length))
  omega
theorem GB {l:List Int} (hU:U l) (m:Nat) (h:bL l < pw m):∀ j,m≤j→l.getD j 0=0:=by
 intro j hj
 by_cases hl:j < l.length
 ·have h1:=qP l j (by omega)
  have h2:=nA l j hl
  have h3:=(hU.take j).ph
  have h4:=(hU.drop (j+1)).ph
  have h5:=hU.getD j
  have h6:pw m≤pw j:=by
   have:pw j=pw m * pw (j - m):=by rw [← Gs];congr 1;omega
   have h2:=kz (j - m)
   have h3:=sG (show 1≤pw (j - m) by omega) (Int.le_of_lt (kz m))
   omega
  have h7:¬ 0 < bL (l.drop j):=fun h0=>by
   have:=sG (show 1≤bL (l.drop j) by omega) (Int.le_of_lt (kz j))
   omega
  omega
 ·exact uD (by omega)
theorem Lf {N:Nat} {p v:List Int} {q:Int} (hv:U v) (EE:0≤q) (Fo:q < 65536) (hS:SM v.length) (W:Int) :
  ∀ (k x fuel:Nat) (w:List Int) (c br:Int),x+k=v.length+1→k < fuel→v.length+1≤w.length→U w→0≤c→c < 65536→(x=v.length+1→c=0)→(br=0∨br = -1)→(∀ j,v.length+1≤j→w.getD j 0=0) →
   bL w=W - q * bL (v.take x)+pw x * (c - br)→∃ (w':List Int) (Vl:Int),w'.length=w.length∧U w'∧(Vl=0∨Vl = -1)∧(∀ j,v.length+1≤j→w'.getD j 0=0)∧bL w'=W - q * bL v - pw (v.length+1) * Vl ∧
    fQ N p.length (v.length+1) v q fuel (p ++ w) c br (x:Int)=cond (decide (Vl < 0)) (iq N p.length (v.length+1) v q N (p ++ w') 0 0) (kM N (p ++ w') q)
 | 0,x,fuel,w,c,br,hx,hf,hw,hU,tW,s5,EX,hbr,hz,hinv=>by
  obtain ⟨g,rfl⟩:∃ g,fuel=g+1:=⟨fuel - 1,by omega⟩
  have FI:x=v.length+1:=by omega
  subst FI
  simp only [SM] at hS
  rw [EX rfl] at hinv
  refine ⟨w,br,rfl,hU,hbr,hz,?_,by rw [fQ,bh (by omega),eJ,cond_false]⟩
  rw [hinv,iY (by omega),Int.zero_sub,Int.mul_neg];omega
 | k+1,x,fuel,w,c,br,hx,hf,hw,hU,tW,s5,EX,hbr,hz,hinv=>by
  obtain ⟨g,rfl⟩:∃ g,fuel=g+1:=⟨fuel - 1,by omega⟩
  simp only [SM] at hS
  have wj:x < v.length+1:=by omega
  have h1:=hU.getD x
  have hlen:(p ++ w).length=p.length+w.length:=mK
  have step:∀ y:Int,0≤y→y < 4294967296→(x=v.length→y < 65536)→y=q * v.getD x 0+c →
    ∃ (w':List Int) (Vl:Int),w'.length=w.length∧U w'∧(Vl=0∨Vl = -1)∧(∀ j,v.length+1≤j→w'.getD j 0=0)∧bL w'=W - q * bL v - pw (v.length+1) * Vl ∧
    nO N p.length (v.length+1) v q (p ++ w) br (x:Int) (fQ N p.length (v.length+1) v q g) y=cond (decide (Vl < 0)) (iq N p.length (v.length+1) v q N (p ++ w') 0 0) (kM N (p ++ w') q):=by
   intro y Nw hy1 G9 hy
   unfold nO
   rw [if_pos (mQ wj),if_pos (by omega)]
   simp only [an]
   rw [qZ,K3 Nw (by omega),bE (n:=w.getD x 0) (by omega) (by omega),bE (n:=y % 65536) (by omega) (by omega),bE (n:=w.getD x 0 - y % 65536) (by omega) (by omega),
    bE (n:=w.getD x 0 - y % 65536+br) (by omega) (by omega),sn,Gp,PH,bh (by omega),JJ]
   generalize hd:w.getD x 0 - y % 65536+br=d
   have YB:-65536≤d∧d < 65536:=by omega
   have:=Lf (N:=N) (p:=p) hv EE Fo hS W k (x+1) g (w.set x (d % 65536)) (y / 65536) (d / 65536) (by omega) (by omega) (by simp;omega) (hU.set _ (by omega) (by omega)) (by omega) (by omega) (fun h=>by have:=G9 (by omega);omega) (by omega) (fun j hj=>?_) ?_
   ·rwa [List.length_set] at this
   ·rw [getD_set_ne _ _ (by omega)];exact hz j hj
   ·rw [mS _ _ _ (by omega),hinv,fU]
    have hV:bL (v.take (x+1))=bL (v.take x)+v.getD x 0 * pw x:=by
     by_cases h:x < v.length
     ·exact cZ v x h
     ·rw [iY (by omega),iY (by omega),uD (by omega)];simp
    rw [hV]
    have h5:d=d % 65536+65536 * (d / 65536):=by omega
    have h6:y=y % 65536+65536 * (y / 65536):=by omega
    have h7:d * pw x=(d % 65536) * pw x+65536 * (d / 65536) * pw x:=by rw [← eI,← h5]
    have h8:y * pw x=(y % 65536) * pw x+65536 * (y / 65536) * pw x:=by rw [← eI,← h6]
    have h9:d * pw x=w.getD x 0 * pw x - (y % 65536) * pw x+br * pw x:=by rw [← hd,eI,Int.sub_mul]
    have h10:y * pw x=q * (v.getD x 0 * pw x)+c * pw x:=by rw [hy,eI,kF]
    grind
  rw [fQ,bh (by omega),dec_lt wj,cond_true]
  by_cases hxv:x < v.length
  ·have h2:=hv.getD x
   have h3:0≤q * v.getD x 0∧q * v.getD x 0≤4294836225:=Gx EE Fo h2.1 h2.2
   rw [dec_lt hxv,cond_true,if_pos (mQ hxv),an]
   refine step _ ?_ ?_ (fun h=>by omega) ?_<;>rw [gQ (n:=v.getD x 0) (by omega) (by omega),gQ (n:=q * v.getD x 0) (by omega) (by omega),gQ (by omega) (by omega)]<;>omega
  ·have e:decide ((x:Int) < ((v.length:Nat):Int))=false:=by simp;omega
   rw [e,cond_false]
   refine step c tW (by omega) (fun _=>s5) ?_
   rw [uD (show v.length≤x by omega)];simp
theorem Lg {N:Nat} {p v:List Int} {q:Int} (hv:U v) (EE:0 < q) (Fo:q < 65536) (hS:SM v.length) (W:Int) (hV0:0≤W - (q - 1) * bL v) (hV1:W - (q - 1) * bL v < pw v.length) :
  ∀ (k x fuel:Nat) (w:List Int) (c:Int),x+k=v.length→k < fuel→v.length+1≤w.length→U w→0≤c→c≤1→(∀ j,v.length+1≤j→w.getD j 0=0) →
   bL w=W - q * bL v+pw (v.length+1)+bL (v.take x) - pw x * c→∃ w',iq N p.length (v.length+1) v q fuel (p ++ w) c (x:Int)=some (q - 1,p ++ w')∧w'.length=w.length∧U w'∧bL w'=W - (q - 1) * bL v
 | 0,x,fuel,w,c,hx,hf,hw,hU,tW,s5,hz,hinv=>by
  obtain ⟨g,rfl⟩:∃ g,fuel=g+1:=⟨fuel - 1,by omega⟩
  have FI:x=v.length:=by omega
  subst FI
  simp only [SM] at hS
  have h1:=hU.getD v.length
  have hlen:(p ++ w).length=p.length+w.length:=mK
  rw [List.take_length] at hinv
  rw [iq,eJ,cond_false,if_pos (by omega),if_pos (by omega),qZ,JJ,n4 tW (by omega),sn]
  unfold kM
  rw [gQ (by omega) (by omega),n4 (by omega) (by omega)]
  generalize hd:w.getD v.length 0+c=d
  have hU2:U (w.set v.length (d % 65536)):=hU.set _ (by omega) (by omega)
  refine ⟨_,rfl,by simp,hU2,?_⟩
  have h2:=mS w v.length (d % 65536) (by omega)
  have h3:d % 65536=d - 65536 * (d / 65536):=by omega
  have h4:bL (w.set v.length (d % 65536))=W - (q - 1) * bL v+(1 - d / 65536) * pw (v.length+1):=by
   rw [h2,hinv,fU,h3,← hd];grind
  have h5:d / 65536=0∨d / 65536=1:=by omega
  rcases h5 with h5 | h5
  ·have h6:=Ld hU2 (v.length+1) (fun j hj=>by rw [getD_set_ne _ _ (by omega)];exact hz j hj)
   rw [h4,h5] at h6;omega
  ·rw [h4,h5];simp
 | k+1,x,fuel,w,c,hx,hf,hw,hU,tW,s5,hz,hinv=>by
  obtain ⟨g,rfl⟩:∃ g,fuel=g+1:=⟨fuel - 1,by omega⟩
  simp only [SM] at hS
  have wj:x < v.length:=by omega
  have h1:=hU.getD x
  have h2:=hv.getD x
  have hlen:(p ++ w).length=p.length+w.length:=mK
  rw [iq,dec_lt wj,cond_true,if_pos (mQ (by omega)),if_pos (by omega),if_pos (mQ wj)]
  simp only [an]
  rw [qZ,cX (n:=w.getD x 0) (by omega) (by omega),cX (n:=v.getD x 0) (by omega) (by omega),cX (n:=w.getD x 0+v.getD x 0) (by omega) (by omega),cX (n:=c+(w.getD x 0+v.getD x 0)) (by omega) (by omega),
   sn,BZ,bh (by omega),JJ]
  generalize hd:c+(w.getD x 0+v.getD x 0)=d
  obtain ⟨w',q1,q2,q3,q4⟩:=Lg (N:=N) (p:=p) hv EE Fo hS W hV0 hV1 k (x+1) g (w.set x (d % 65536)) (d / 65536) (by omega) (by omega) (by simp;omega) (hU.set _ (by omega) (by omega)) (by omega) (by omega)
   (fun j hj=>by rw [getD_set_ne _ _ (by omega)];exact hz j hj) (by
    rw [mS _ _ _ (by omega),hinv,cZ v x wj,fU x]
    have h5:d=d % 65536+65536 * (d / 65536):=by omega
    have h7:d * pw x=(d % 65536) * pw x+65536 * (d / 65536) * pw x:=by rw [← eI,← h5]
    have h9:d * pw x=c * pw x+(w.getD x 0 * pw x+v.getD x 0 * pw x):=by rw [← hd,eI,eI]
    grind)
  exact ⟨w',q1,by simpa using q2,q3,q4⟩
end Go.Den
namespace Go.Den
open Go.Ab
structure Qh (v1 v2 w0 w1 w2 A V W:Int):Prop where
 A0:0 < A
 v1a:32768≤v1
 v1b:v1 < 65536
 v2a:0≤v2
 v2b:v2 < 65536
 w0a:0≤w0
 w0b:w0 < 65536
 w1a:0≤w1
 w1b:w1 < 65536
 w2a:0≤w2
 w2b:w2 < 65536
 V0:(v1 * 65536+v2) * A≤V
 V1:V < (v1 * 65536+v2+1) * A
 W0:((w0 * 65536+w1) * 65536+w2) * A≤W
 W1:W < ((w0 * 65536+w1) * 65536+w2+1) * A
 WV:W < 65536 * V
section
variable {v1 v2 w0 w1 w2 A V W:Int}
theorem Qh.R4 (t:Qh v1 v2 w0 w1 w2 A V W):65536 * A≤V:=by
 have:=t.V0;have:=t.A0;have:=t.v1a;have:=t.v2a
 have h:=j9 (show (65536:Int)≤v1 * 65536+v2 by omega) (Int.le_of_lt t.A0)
 omega
theorem xf {x y A:Int} (hA:0 < A) (h:x * A < y * A):x < y:=Int.lt_of_mul_lt_mul_right h (Int.le_of_lt hA)
theorem Qh.adi (t:Qh v1 v2 w0 w1 w2 A V W):w0≤v1:=by
 have h1:((w0 * 65536+w1) * 65536+w2) * A < (65536 * (v1 * 65536+v2+1)) * A:=by
  rw [kF 65536]
  have:=t.W0;have:=t.WV;have:=t.V1
  omega
 have h2:=xf t.A0 h1
 have:=t.w1a;have:=t.w2a;have:=t.v2b
 omega
theorem Qh.ZW (t:Qh v1 v2 w0 w1 w2 A V W) {q r Q:Int} (hq:q * v1+r=w0 * 65536+w1) (h:q * v2 > r * 65536+w2) (EE:0≤q) (hQ:Q * V≤W):Q < q:=by
 rcases Int.lt_or_le Q q with h' | h'
 ·exact h'
 ·exfalso
  have hV:=t.R4
  have hA:=t.A0
  have h1:q * V≤W:=Int.le_trans (j9 h' (by omega)) hQ
  have h2:q * ((v1 * 65536+v2) * A)≤q * V:=sG t.V0 EE
  have h3:(q * (v1 * 65536+v2)) * A < ((w0 * 65536+w1) * 65536+w2+1) * A:=by
   rw [kF];have:=t.W1;omega
  have h4:=xf hA h3
  rw [← hq] at h4
  have h5:q * (v1 * 65536+v2)=q * v1 * 65536+q * v2:=by rw [gX,← kF]
  rw [h5] at h4
  have h6:(q * v1+r) * 65536=q * v1 * 65536+r * 65536:=eI _ _ _
  omega
theorem Qh.ZX (t:Qh v1 v2 w0 w1 w2 A V W) {q r:Int} (hq:q * v1+r=w0 * 65536+w1) (EE:0≤q) (hr:0≤r) (h:65536≤r∨(q≤65535∧q * v2≤r * 65536+w2)):q≤65535∧q * V < W+V:=by
 have hA:=t.A0
 have Fo:q≤65535:=by
  rcases h with h | h
  ·rcases Int.lt_or_le 65535 q with h' | h'
   ·exfalso
    have h1:=j9 (show 65536≤q by omega) (show 0≤v1 by have:=t.v1a;omega)
    have:=t.adi;have:=t.w1b
    omega
   ·exact h'
  ·exact h.1
 refine ⟨Fo,?_⟩
 have h2:q * v2≤r * 65536+w2:=by
  rcases h with h | h
  ·have h1:q * v2≤65535 * 65535:=Int.mul_le_mul Fo (by have:=t.v2b;omega) t.v2a (by omega)
   have:=t.w2a
   omega
  ·exact h.2
 -- q V < (q (v1 B + v2) + q) A
 have h3:q * V≤q * ((v1 * 65536+v2+1) * A):=sG (Int.le_of_lt t.V1) EE
 have h4:q * ((v1 * 65536+v2+1) * A)=(q * v1 * 65536+q * v2+q) * A:=by
  rw [← kF];congr 1
  rw [gX,gX,Int.mul_one,← kF]
 have h5:(q * v1 * 65536+q * v2+q) * A≤(((w0 * 65536+w1) * 65536+w2)+65535) * A:=by
  refine j9 ?_ (Int.le_of_lt hA)
  rw [← hq]
  have:(q * v1+r) * 65536=q * v1 * 65536+r * 65536:=eI _ _ _
  omega
 have h6:(((w0 * 65536+w1) * 65536+w2)+65535) * A=((w0 * 65536+w1) * 65536+w2) * A+65535 * A:=eI _ _ _
 have:=t.W0
 have:=t.R4
 omega
theorem Qh.first (t:Qh v1 v2 w0 w1 w2 A V W) {Q:Int} (Wi:0≤Q) (hQ:Q * V≤W):Q≤(w0 * 65536+w1) / v1:=by
 rw [Int.le_ediv_iff_mul_le (by have:=t.v1a;omega)]
 have h1:Q * ((v1 * 65536+v2) * A)≤Q * V:=sG t.V0 Wi
 have h2:(Q * (v1 * 65536+v2)) * A < ((w0 * 65536+w1) * 65536+w2+1) * A:=by rw [kF];have:=t.W1;omega
 have h3:=xf t.A0 h2
 have h4:Q * (v1 * 65536+v2)=Q * v1 * 65536+Q * v2:=by rw [gX,← kF]
 have h5:0≤Q * v2:=Int.mul_nonneg Wi t.v2a
 have:=t.w2b
 omega
end
theorem R5 {N:Nat} {p v w:List Int} (hv:U v) (hw:U w) (hn:2≤v.length) (Qd:v.length+1≤w.length) (hS:SM (p.length+w.length)) {A V W:Int}
  (t:Qh (v.getD (v.length - 1) 0) (v.getD (v.length - 2) 0) (w.getD v.length 0) (w.getD (v.length - 1) 0) (w.getD (v.length - 2) 0) A V W) {Q:Int} (Wi:0≤Q) (hQ1:Q * V≤W) (hQ2:W < Q * V+V) :
  ∀ (k fuel:Nat) (q r:Int),k < fuel→65536≤r+32768 * (k:Int)→0≤r→r < 131072→0≤q→q < 4294967296→Q≤q→q * v.getD (v.length - 1) 0+r=w.getD v.length 0 * 65536+w.getD (v.length - 1) 0 →
   ∃ q',Q≤q'∧q'≤Q+1∧q'≤65535∧kN N p.length (v.length+1) v (p ++ w) fuel q r=fQ N p.length (v.length+1) v q' N (p ++ w) 0 0 0:=by
 intro k
 simp only [SM] at hS
 have hlen:(p ++ w).length=p.length+w.length:=mK
 have e2:aq (((v.length:Nat):Int) - 2)=((v.length - 2:Nat):Int):=by rw [bE (by omega) (by omega)];omega
 have e1:aq (((v.length:Nat):Int) - 1)=((v.length - 1:Nat):Int):=by rw [bE (by omega) (by omega)];omega
 have YB:=hv.getD (v.length - 1)
 have Vm:=hv.getD (v.length - 2)
 have G5:=hw.getD (v.length - 2)
 induction k with
 | zero =>
  intro fuel q r hf hk HJ RZ EE Fo hQq hinv
  obtain ⟨g,rfl⟩:∃ g,fuel=g+1:=⟨fuel - 1,by omega⟩
  have hr:65536≤r:=by simpa using hk
  obtain ⟨n1,n2⟩:=t.ZX hinv EE HJ (.inl hr)
  have dR:q≤Q+1:=by
   rcases Int.lt_or_le (Q+1) q with h | h
   ·exfalso
    have:=j9 (show Q+2≤q by omega) (show 0≤V by have:=t.R4;have:=t.A0;omega)
    rw [eI] at this;omega
   ·exact h
  have ed:decide (r < 65536)=false:=by simp;omega
  refine ⟨q,hQq,dR,n1,?_⟩
  rw [kN]
  simp only [ed,Bool.false_and,cond_false]
  rw [if_pos (fun h=>by cases h),if_pos (fun h=>by cases h),if_pos (fun h=>by cases h)]
 | succ k ih =>
  intro fuel q r hf hk HJ RZ EE Fo hQq hinv
  obtain ⟨g,rfl⟩:∃ g,fuel=g+1:=⟨fuel - 1,by omega⟩
  rw [kN,e1,e2,if_pos (fun _=>⟨by omega,by omega⟩),if_pos (fun _=>⟨by omega,by omega⟩),if_pos (fun _=>by omega)]
  rw [an,an,qZ,if_pos ⟨by omega,by omega⟩,gQ (n:=v.getD (v.length - 2) 0) (by omega) (by omega),gQ (n:=w.getD (v.length - 2) 0) (by omega) (by omega),gQ (n:=v.getD (v.length - 1) 0) (by omega) (by omega)]
  have tX:0≤q * v.getD (v.length - 2) 0:=Int.mul_nonneg EE Vm.1
  have vk:q * v.getD (v.length - 2) 0≤4294967295 * 65535:=Int.mul_le_mul (by omega) (by omega) Vm.1 (by omega)
  rw [gQ tX (by omega),Gr HJ (by omega),JI HJ (by omega) G5.1 G5.2]
  have hV:=t.R4
  have hA:=t.A0
  by_cases hex:65536≤r∨(q≤65535∧q * v.getD (v.length - 2) 0≤r * 65536+w.getD (v.length - 2) 0)
  ·obtain ⟨n1,n2⟩:=t.ZX hinv EE HJ hex
   have dR:q≤Q+1:=by
    rcases Int.lt_or_le (Q+1) q with h | h
    ·exfalso
     have:=j9 (show Q+2≤q by omega) (show 0≤V by omega)
     rw [eI] at this;omega
    ·exact h
   have hc:cond (decide (r < 65536)) (cond (decide (q > 65535)) true (decide (q * v.getD (v.length - 2) 0 > r * 65536+w.getD (v.length - 2) 0))) false=false:=by
    rcases hex with h | ⟨h1,h2⟩
    ·rw [decide_eq_false (show ¬ r < 65536 by omega)];rfl
    ·rw [decide_eq_false (show ¬ q > 65535 by omega),cond_false,decide_eq_false (show ¬ q * v.getD (v.length - 2) 0 > r * 65536+w.getD (v.length - 2) 0 by omega)]
     cases decide (r < 65536)<;>rfl
   exact ⟨q,hQq,dR,n1,by rw [hc,cond_false]⟩
  ·have eW:r < 65536:=by omega
   have hqQ:Q < q:=by
    by_cases h65:65535 < q
    ·rcases Int.lt_or_le Q q with h | h
     ·exact h
     ·exfalso
      have:=j9 (show 65536≤Q by omega) (show 0≤V by omega)
      have:=t.WV
      omega
    ·exact t.ZW hinv (by omega) EE hQ1
   have hc:cond (decide (r < 65536)) (cond (decide (q > 65535)) true (decide (q * v.getD (v.length - 2) 0 > r * 65536+w.getD (v.length - 2) 0))) false=true:=by
    rw [decide_eq_true eW,cond_true]
    by_cases h65:65535 < q
    ·rw [decide_eq_true (show q > 65535 by omega)];rfl
    ·rw [decide_eq_false (show ¬ q > 65535 by omega),cond_false,decide_eq_true];omega
   have Hf:=t.v1a
   rw [hc,cond_true,gQ (n:=q - 1) (by omega) (by omega),gQ (by omega) (by omega)]
   refine ih g _ _ (by omega) (by omega) (by omega) (by omega) (by omega) (by omega) (by omega) ?_
   rw [Int.sub_mul];omega
theorem R6 {N:Nat} {p v w:List Int} (hv:U v) (hw:U w) (hn:2≤v.length) (Qd:v.length+1≤w.length) (hS:SM (p.length+w.length)) (hN:v.length+3 < N) (hb:32768≤v.getD (v.length - 1) 0) (hz:∀ j,v.length+1≤j→w.getD j 0=0)
  (fo:bL w < 65536 * bL v):∃ Q w',vE N p.length (v.length+1) v (p ++ w)=some (Q,p ++ w')∧w'.length=w.length∧U w'∧0≤Q∧Q < 65536∧bL w'=bL w - Q * bL v∧bL w' < bL v:=by
 have Wx:=hS
 simp only [SM] at Wx
 have hlen:(p ++ w).length=p.length+w.length:=mK
 have e1:aq (((v.length:Nat):Int) - 1)=((v.length - 1:Nat):Int):=by rw [bE (by omega) (by omega)];omega
 obtain ⟨n,Mi⟩:∃ n,v.length=n+2:=⟨v.length - 2,by omega⟩
 have hA:=kz n
 -- the top digits
 have Cl:bL v=bL (v.take n)+pw n * (v.getD n 0+65536 * v.getD (n+1) 0):=by
  rw [qP v n (by omega),nA v n (by omega),nA v (n+1) (by omega),List.drop_eq_nil_of_le (by omega)];simp [bL]
 have YD:bL w=bL (w.take n)+pw n * (w.getD n 0+65536 * (w.getD (n+1) 0+65536 * w.getD (n+2) 0)):=by
  have h3:bL (w.drop (n+3))=0:=by
   have:=tg (l:=w.drop (n+3)) 0 fun j _=>by
    have:=hz (n+3+j) (by omega)
    rw [eh] at this ⊢
    rw [kc];exact this
   simpa [bL] using this
  rw [qP w n (by omega),nA w n (by omega),nA w (n+1) (by omega),nA w (n+2) (by omega),h3];simp
 have Zm:=(hv.take n).lt
 have agt:=(hv.take n).ph
 have hwt:=(hw.take n).lt
 have agv:=(hw.take n).ph
 rw [oK,Nat.min_eq_left (by omega)] at Zm hwt
 have d1:=hv.getD (n+1)
 have d2:=hv.getD n
 have u0:=hw.getD (n+2)
 have u1:=hw.getD (n+1)
 have u2:=hw.getD n
 have qT:32768≤v.getD (n+1) 0:=by rw [Mi] at hb;exact hb
 have t:Qh (v.getD (v.length - 1) 0) (v.getD (v.length - 2) 0) (w.getD v.length 0) (w.getD (v.length - 1) 0) (w.getD (v.length - 2) 0) (pw n) (bL v) (bL w):=by
  have x1:v.length - 1=n+1:=by omega
  have x2:v.length - 2=n:=by omega
  rw [x1,x2,Mi]
  refine ⟨hA,qT,d1.2,d2.1,d2.2,u0.1,u0.2,u1.1,u1.2,u2.1,u2.2,?_,?_,?_,?_,fo⟩
  ·rw [Cl];grind
  ·rw [Cl];grind
  ·rw [YD];grind
  ·rw [YD];grind
 have hVp:0 < bL v:=by have:=t.R4;omega
 obtain ⟨Q,R7⟩:∃ Q,Q=bL w / bL v:=⟨_,rfl⟩
 have Wi:0≤Q:=by rw [R7];exact Int.ediv_nonneg hw.ph (by omega)
 have hQ1:Q * bL v≤bL w:=by rw [R7];exact Int.ediv_mul_le _ (by omega)
 have hQ2:bL w < Q * bL v+bL v:=by
  have:=Int.lt_ediv_add_one_mul_self (bL w) hVp
  rw [R7];rw [eI] at this;omega
 have hQ3:Q < 65536:=by
  rcases Int.lt_or_le Q 65536 with h | h
  ·exact h
  ·exfalso;have:=j9 h (Int.le_of_lt hVp);omega
 have agx:bL v < pw v.length:=hv.lt
 have hK:∀ q,Q≤q→q≤Q+1→q≤65535→∃ w',fQ N p.length (v.length+1) v q N (p ++ w) 0 0 0=some (Q,p ++ w')∧w'.length=w.length∧U w'∧bL w'=bL w - Q * bL v:=by
  intro q EE Fo dR
  obtain ⟨w',br,q1,q2,q3,q4,q5,q6⟩:=Lf (N:=N) (p:=p) hv (show 0≤q by omega) (show q < 65536 by omega) (by simp only [SM];omega) (bL w) (v.length+1) 0 N w 0 0 (by omega) (by omega) Qd hw (by omega) (by omega) (fun h=>rfl) (.inl rfl) hz
   (by rw [List.take_zero];simp [bL])
  have h1:=q2.ph
  have h2:=Ld q2 _ q4
  have hpv:pw (v.length+1)=65536 * pw v.length:=fU _
  rw [show ((0:Nat):Int)=0 from rfl] at q6
  rw [q6]
  rcases q3 with rfl | rfl
  ·have hqQ:q=Q:=by
    rcases Int.lt_or_le Q q with h | h
    ·exfalso
     have:=j9 (show Q+1≤q by omega) (Int.le_of_lt hVp)
     rw [eI] at this
     simp at q5
     omega
    ·omega
   subst hqQ
   refine ⟨w',?_,q1,q2,by simpa using q5⟩
   rw [decide_eq_false (by decide),cond_false]
   unfold kM
   rw [n4 Wi (by omega)]
  ·have hqQ:q=Q+1:=by
    rcases Int.lt_or_le Q q with h | h
    ·omega
    ·exfalso
     have:q=Q:=by omega
     subst this
     rw [Int.mul_neg,Int.mul_one] at q5
     omega
   subst hqQ
   rw [decide_eq_true (by decide),cond_true]
   have hQV:(Q+1 - 1) * bL v=Q * bL v:=by rw [Int.add_sub_cancel]
   obtain ⟨w2,r1,r2,r3,r4⟩:=Lg (N:=N) (p:=p) hv (show 0 < Q+1 by omega) (show Q+1 < 65536 by omega) (by simp only [SM];omega) (bL w) (by rw [hQV];omega) (by rw [hQV];omega) v.length 0 N w' 0 (by omega) (by omega) (by omega) q2 (by omega) (by omega) q4
    (by rw [q5,List.take_zero];simp [bL])
   rw [hQV] at r4
   refine ⟨w2,?_,by omega,r3,r4⟩
   rw [show ((0:Nat):Int)=0 from rfl] at r1
   rw [r1,Int.add_sub_cancel]
 unfold vE
 rw [e1,if_pos ⟨by omega,by omega⟩,if_pos (by omega),if_pos ⟨by omega,by omega⟩,if_pos ⟨by omega,by omega⟩,an]
 have b1:32768≤v.getD (v.length - 1) 0:=hb
 have b2:=hv.getD (v.length - 1)
 have c1:=hw.getD v.length
 have c2:=hw.getD (v.length - 1)
 rw [gQ (n:=v.getD (v.length - 1) 0) (by omega) (by omega),if_pos (by omega),qZ,qZ,gQ (n:=w.getD v.length 0) (by omega) (by omega),gQ (n:=w.getD (v.length - 1) 0) (by omega) (by omega),Gr (by omega) (by omega),JI (by omega) (by omega) (by omega) (by omega)]
 have hT0:0≤w.getD v.length 0 * 65536+w.getD (v.length - 1) 0:=by omega
 have hT1:w.getD v.length 0 * 65536+w.getD (v.length - 1) 0 < 4294967296:=by omega
 rw [Int.tdiv_eq_ediv_of_nonneg hT0,Int.tmod_eq_emod_of_nonneg hT0]
 have oc:=Int.emod_nonneg (w.getD v.length 0 * 65536+w.getD (v.length - 1) 0) (show v.getD (v.length - 1) 0≠0 by omega)
 have J5:=Int.emod_lt_of_pos (w.getD v.length 0 * 65536+w.getD (v.length - 1) 0) (show 0 < v.getD (v.length - 1) 0 by omega)
 have Qg:=Int.ediv_nonneg hT0 (show 0≤v.getD (v.length - 1) 0 by omega)
 have hda:=Int.mul_ediv_add_emod (w.getD v.length 0 * 65536+w.getD (v.length - 1) 0) (v.getD (v.length - 1) 0)
 have hdl:(w.getD v.length 0 * 65536+w.getD (v.length - 1) 0) / v.getD (v.length - 1) 0≤w.getD v.length 0 * 65536+w.getD (v.length - 1) 0:=Int.ediv_le_self _ hT0
 rw [gQ Qg (by omega)]
 obtain ⟨q,h1,h2,h3,h4⟩:=R5 (N:=N) (p:=p) hv hw hn Qd hS t Wi hQ1 hQ2 2 N ((w.getD v.length 0 * 65536+w.getD (v.length - 1) 0) / v.getD (v.length - 1) 0) ((w.getD v.length 0 * 65536+w.getD (v.length - 1) 0) % v.getD (v.length - 1) 0)
  (by omega) (by omega) oc (by omega) Qg (by omega) (t.first Wi hQ1) (by rw [gp];exact hda)
 rw [h4]
 obtain ⟨w',k1,k2,k3,k4⟩:=hK q h1 h2 h3
 exact ⟨Q,w',k1,k2,k3,Wi,hQ3,k4,by omega⟩
end Go.Den
namespace Go.Den
open Go.Ab
theorem R8 {a b:Int} (ha:0≤a) (Tu:a < 65536) (hb:0≤b) (lN:b < 65536):vz .u32 b (a * 65536)=a * 65536+b:=by
 have h:=Om ha Tu hb lN
 unfold vz at h ⊢
 rw [BitVec.or_comm];exact h
theorem XM {n:Int} {s:Nat} (hs:s≤15):ow .u32 n (s:Int)=n / 2 ^ s:=by
 unfold ow
 have:min ((s:Nat):Int).toNat IntKind.u32.bits=s:=by show min s 32=s;omega
 rw [this,Int.fdiv_eq_ediv_of_nonneg _ (Int.le_of_lt (Int.pow_pos (by decide)))]
theorem It {N:Nat} {b q u:List Int} {s:Nat} (hs:s≤15) (hU:U u) (hb:b.length+1≤u.length) (hS:SM u.length) (hz:u.getD b.length 0=0) (h0:u.getD 0 0 % 2 ^ s=0) (hq:U q) (hqN:q.length < N) (hqS:SM q.length) (hN:b.length < N) :
  ∀ (k x fuel:Nat) (r:List Int),x+k=b.length→k < fuel→r.length=b.length→U r→(∀ j,x≤j→r.getD j 0=0)→2 ^ s * bL r=bL (u.take x)+u.getD x 0 % 2 ^ s * pw x →
   ∃ R:List Int,jC N b (s:Int) q u fuel r (x:Int)=some (lm (bL q).toNat,lm (bL R).toNat)∧U R∧2 ^ s * bL R=bL (u.take b.length)
 | 0,x,fuel,r,hx,hf,hr,hUr,hzr,hinv=>by
  obtain ⟨g,rfl⟩:∃ g,fuel=g+1:=⟨fuel - 1,by omega⟩
  have FI:x=b.length:=by omega
  subst FI
  simp only [SM] at hS hqS
  have hp:(2:Int) ^ s≠0:=Int.ne_of_gt (Int.pow_pos (by decide))
  refine ⟨r,?_,hUr,?_⟩
  ·rw [jC,Nat.sub_zero,eJ,cond_false,mb hq hqN (by omega),bV,mb hUr (by omega) (by omega),bV]
  ·rw [hinv,hz];simp
 | k+1,x,fuel,r,hx,hf,hr,hUr,hzr,hinv=>by
  obtain ⟨g,rfl⟩:∃ g,fuel=g+1:=⟨fuel - 1,by omega⟩
  simp only [SM] at hS
  have wj:x < b.length:=by omega
  have h1:=hU.getD x
  have h2:=hU.getD (x+1)
  rw [jC,Nat.sub_zero,dec_lt wj,cond_true,if_pos (mQ (by omega)),bh (by omega),if_pos (mQ (by omega)),if_pos (by omega),if_pos (mQ (by omega))]
  simp only [an]
  rw [cX (n:=u.getD x 0) (by omega) (by omega),cX (n:=u.getD (x+1) 0) (by omega) (by omega),Gq h2.1 h2.2,R8 h2.1 h2.2 h1.1 h1.2,XM hs,sn]
  generalize hae:u.getD x 0=a at *
  generalize DJ:u.getD (x+1) 0=a' at *
  -- 65536 = P c
  obtain ⟨P,hP⟩:∃ P:Int,P=2 ^ s:=⟨_,rfl⟩
  obtain ⟨c,hc⟩:∃ c:Int,c=2 ^ (16 - s):=⟨_,rfl⟩
  have Wj:(65536:Int)=P * c:=by rw [hP,hc,← Int.pow_add,show s+(16 - s)=16 by omega];decide
  have hP0:0 < P:=by rw [hP];exact Int.pow_pos (by decide)
  have tW:0 < c:=by rw [hc];exact Int.pow_pos (by decide)
  rw [← hP] at hinv ⊢
  have e1:(a' * 65536+a) / P=a' * c+a / P:=by
   rw [Wj,show a' * (P * c)+a=a+(a' * c) * P by rw [gp P c,← kF];omega,Int.add_mul_ediv_right _ _ (by omega)];omega
  have e2:a'=P * (a' / P)+a' % P:=(Int.mul_ediv_add_emod a' P).symm
  have l0:=Int.emod_nonneg a' (show P≠0 by omega)
  have l1:=Int.emod_lt_of_pos a' hP0
  have m0:0≤a / P:=Int.ediv_nonneg h1.1 (by omega)
  have m1:a / P < c:=Int.ediv_lt_of_lt_mul hP0 (by rw [gp,← Wj];exact h1.2)
  have e3:(a' * 65536+a) / P % 65536=a' % P * c+a / P:=by
   rw [e1]
   have h3:a' * c=(a' / P) * 65536+a' % P * c:=by
    have:a' * c=(P * (a' / P)+a' % P) * c:=by rw [← e2]
    rw [this,eI,Wj];grind
   have h4:a' % P * c+a / P < 65536:=by
    have:=j9 (show a' % P+1≤P by omega) (Int.le_of_lt tW)
    rw [eI,← Wj] at this;omega
   have h5:0≤a' % P * c:=Int.mul_nonneg l0 (Int.le_of_lt tW)
   rw [h3];omega
  rw [e3]
  have h4:a' % P * c+a / P < 65536:=by
   have:=j9 (show a' % P+1≤P by omega) (Int.le_of_lt tW)
   rw [eI,← Wj] at this;omega
  have h5:0≤a' % P * c:=Int.mul_nonneg l0 (Int.le_of_lt tW)
  have:=It (N:=N) (s:=s) hs hU hb (by simp only [SM];omega) hz h0 hq hqN hqS hN k (x+1) g (r.set x (a' % P * c+a / P)) (by omega) (by omega) (by simp [hr]) (hUr.set _ (by omega) h4) (fun j hj=>by rw [getD_set_ne _ _ (by omega)];exact hzr j (by omega))
   (by
    rw [← hP,mS _ _ _ (by omega),hzr x (aR _),cZ u x (by omega),Int.sub_zero,DJ,fU,gX,hinv]
    have e4:a=P * (a / P)+a % P:=(Int.mul_ediv_add_emod a P).symm
    rw [hae]
    have e6:P * ((a' % P * c+a / P) * pw x)=a' % P * (P * c) * pw x+P * (a / P) * pw x:=by grind
    rw [e6,← Wj]
    grind)
  rw [← hP] at this
  exact this
theorem GC {l:List Int} (hU:U l) (n:Nat) (h:bL l < pw n):bL (l.take n)=bL l:=(tg n (GB hU n h)).symm
theorem Iu {N:Nat} {b o2:List Int} {s:Nat} (hs:s≤15) {v:List Int} (hv:v=(o2.take b.length).drop 0) (XN:U v) (Nz:v.length=b.length) (hn:2≤b.length) (hb:32768≤v.getD (b.length - 1) 0) (cD:b.length≤o2.length)
  {Lu:Nat} (hLu:b.length+1≤Lu) (hS:SM Lu) (hN:Lu+3 < N) {A B:Int} (hA:0≤A) (hB:0 < B) (hV:bL v=B * 2 ^ s) :
  ∀ (k fuel:Nat) (q u:List Int),k≤Lu - b.length→k < fuel→u.length=Lu→U u→q.length=Lu - b.length→U q→(∀ j,j < k→q.getD j 0=0)→bL (u.drop k) < bL v→A * 2 ^ s=bL q * bL v+bL u →
   jD N b (s:Int) o2 fuel q u ((k:Int) - 1)=some (lm (A / B).toNat,lm (A % B).toNat)
 | 0,fuel,q,u,hk,hf,hu,hU,hq,hqU,hqz,fo,hinv=>by
  obtain ⟨g,rfl⟩:∃ g,fuel=g+1:=⟨fuel - 1,by omega⟩
  simp only [SM] at hS
  have e:decide ((((0:Nat):Int) - 1)≥0)=false:=rfl
  rw [jD,e,cond_false,Nat.sub_zero,if_pos (by omega)]
  rw [List.drop_zero] at fo
  have hp:(0:Int) < 2 ^ s:=Int.pow_pos (by decide)
  have hvp:bL v < pw b.length:=by rw [← Nz];exact XN.lt
  have hz:=GB hU b.length (by omega)
  -- nvl u is a multiple of 2^s
  have hR:bL u=(A - bL q * B) * 2 ^ s:=by rw [Int.sub_mul,hinv,hV];grind
  have h0:u.getD 0 0 % 2 ^ s=0:=by
   have h1:=nA u 0 (by omega)
   rw [List.drop_zero] at h1
   obtain ⟨c,hc⟩:∃ c:Int,c=2 ^ (16 - s):=⟨_,rfl⟩
   have Wj:(65536:Int)=2 ^ s * c:=by rw [hc,← Int.pow_add,show s+(16 - s)=16 by omega];decide
   have h2:u.getD 0 0=(A - bL q * B - c * bL (u.drop (0+1))) * 2 ^ s:=by
    have:u.getD 0 0=bL u - 65536 * bL (u.drop (0+1)):=by omega
    rw [this,hR,Wj];grind
   rw [h2];exact Int.mul_emod_left _ _
  obtain ⟨R,r1,r2,r3⟩:=It (N:=N) (b:=b) (q:=q) hs hU (by omega) (by simp only [SM];omega) (hz _ (aR _)) h0 hqU (by omega) (by simp only [SM];omega) (by omega) b.length 0 N (List.replicate b.length 0) (by omega) (by omega) (by simp) (U.replicate _) (fun j _=>gM _ j)
   (by rw [jL,h0];simp [bL])
  rw [show ((0:Nat):Int)=0 from rfl] at r1
  rw [r1]
  rw [← tg b.length hz,hR,gp] at r3
  have r4:bL R=A - bL q * B:=Int.eq_of_mul_eq_mul_right (Int.ne_of_gt hp) r3
  have r5:=r2.ph
  have r6:bL R < B:=by
   refine xf hp ?_
   rw [r4,← hR,← hV];exact fo
  have Fo:A / B=bL q:=by
   rw [show A=bL R+bL q * B by omega,Int.add_mul_ediv_right _ _ (by omega),Int.ediv_eq_zero_of_lt r5 r6];omega
  have dR:A % B=bL R:=by
   rw [show A=bL R+bL q * B by omega,Int.add_mul_emod_self_right,Int.emod_eq_of_lt r5 r6]
  rw [Fo,dR]
 | k+1,fuel,q,u,hk,hf,hu,hU,hq,hqU,hqz,fo,hinv=>by
  obtain ⟨g,rfl⟩:∃ g,fuel=g+1:=⟨fuel - 1,by omega⟩
  simp only [SM] at hS
  have e:(((k+1:Nat):Int) - 1)=(k:Int):=by omega
  have e0:decide ((k:Int)≥0)=true:=by simp
  have e1:aq ((aq ((k:Int)+((b.length:Nat):Int)))+1)=((k+b.length+1:Nat):Int):=by rw [bE (n:=(k:Int)+((b.length:Nat):Int)) (by omega) (by omega),bE (by omega) (by omega)];omega
  rw [e,jD,e0,cond_true,Nat.sub_zero,e1]
  simp only [an]
  rw [if_pos ⟨by omega,by omega⟩,if_pos (by omega),if_pos (by omega),if_pos ⟨Nat.zero_le _,cD⟩,← hv]
  have hp:u.take k ++ u.drop k=u:=List.take_append_drop _ _
  have Ba:(u.take k).length=k:=by rw [oK];omega
  have Qd:(u.drop k).length=Lu - k:=by rw [List.length_drop,hu]
  have hd:=nA u k (by omega)
  have J1:=hU.getD k
  have hvp:bL v < pw b.length:=by rw [← Nz];exact XN.lt
  have RA:bL (u.drop k) < 65536 * bL v:=by omega
  have YD:bL (u.drop k) < pw (v.length+1):=by rw [fU,Nz];omega
  obtain ⟨Q,w',d1,d2,d3,d4,d5,d6,d7⟩:=R6 (N:=N) (p:=u.take k) (v:=v) (w:=u.drop k) XN (hU.drop k) (by omega) (by omega) (by simp only [SM];omega) (by omega) (by rw [Nz];exact hb) (GB (hU.drop k) _ YD) RA
  rw [Ba,hp,Nz] at d1
  rw [show k+b.length+1 - k=b.length+1 by omega,d1,bV]
  have ZY:(u.take k ++ w').length=u.length:=by rw [mK,Ba,d2,Qd,hu];omega
  simp only [ZY]
  rw [if_pos trivial,if_pos (mQ (by omega)),bE (by omega) (by omega)]
  have eE:∀ j,j < k→(q.set k Q).getD j 0=0:=fun j hj=>by rw [getD_set_ne _ _ (by omega)];exact hqz j (by omega)
  refine Iu (A:=A) hs hv XN Nz hn hb cD hLu (by simp only [SM];omega) hN hA hB hV k g _ _ (by omega) (by omega) (by rw [ZY,hu]) ((hU.take k).append d3) (by simp [hq]) (hqU.set _ d4 d5) eE ?_ ?_
  ·have:(u.take k ++ w').drop k=w':=by rw [List.drop_append_of_le_length (by omega),List.drop_of_length_le (by omega)];rfl
   rw [this];exact d7
  ·have h1:=lr (u.take k) w'
   have h2:=qP u k (by omega)
   rw [Ba] at h1
   rw [h1,mS _ _ _ (by omega),hqz k (by omega),d6,hinv,h2];grind
theorem DR {A B q r:Nat} (h:A=q * B+r) (hr:r < B):A / B=q∧A % B=r:=by
 subst h
 have hB:0 < B:=by omega
 exact ⟨by rw [oL,Nat.mul_add_div hB,Nat.div_eq_of_lt hr];rfl,by rw [oL,Nat.mul_add_mod,Nat.mod_eq_of_lt hr]⟩
theorem zL {N a b:Nat} (hb:b≠0) (hs:SM ((lm a).length+(lm b).length+2)) (hN:(lm a).length+(lm b).length+10 < N):nb N (lm a) (lm b)=some (lm (a / b),lm (a % b)):=by
 have HI:=hs
 simp only [SM] at HI
 unfold nb
 obtain ⟨c,hc,s5,EX,-⟩:=xe (N:=N) (a:=a) (b:=b) (by omega) (by simp only [SM];omega) (by simp only [SM];omega)
 rw [hc,bV]
 by_cases TC:a < b
 ·rw [decide_eq_true (s5.2 TC),cond_true]
  unfold dz
  rw [if_pos (by omega),bV,Nat.div_eq_of_lt TC,Nat.mod_eq_of_lt TC,fV];rfl
 ·rw [decide_eq_false (fun h=>TC (s5.1 h)),cond_false]
  have hbl:=j7.2 hb
  cases h1:(((lm b).length:Nat):Int) == 1 with
  | true =>
   have h1:(lm b).length=1:=by have h1:=eq_of_beq h1;omega
   have nJ:b < 65536:=by have:=(ij (n:=b) (k:=1)).1 (by omega);simp [pw] at this;omega
   have e:(lm b).getD 0 0=(b:Int):=by
    rw [pj hb];show ((b % 65536:Nat):Int)=b;omega
   rw [cond_true,if_pos (by omega),e,R0 (by omega) nJ (by simp only [SM];omega) (by omega),bV]
   have hm:a % b < 65536:=lV (Nat.mod_lt _ (by omega)) (by omega)
   rw [mb (U.one (by omega) (by omega)) (by simp;omega) (by simp),bV,qO,Int.toNat_natCast]
  | false =>
   have h2:2≤(lm b).length:=by simp at h1;omega
   rw [cond_false]
   obtain ⟨lb,x,Vi,Rf,hlU,Yu,Tr⟩:=Vh hb
   have Qi:(lm b).length=lb.length+1:=by rw [Vi];simp
   have e1:aq ((((lm b).length:Nat):Int) - 1)=((lb.length:Nat):Int):=by rw [bE (by omega) (by omega)];omega
   rw [e1,if_pos (by omega),an]
   have ex:(lm b).getD lb.length 0=x:=by rw [Vi];simp [List.getD]
   rw [ex]
   obtain ⟨X,rfl⟩:=Int.eq_ofNat_of_zero_le Yu
   obtain ⟨s,s1,s2,s3,s4⟩:=ZV (N:=N) (x:=X) (by omega) (by omega)
   rw [s2,bV]
   obtain ⟨o1,p1,p2,p3,p4,p5⟩:=GA (N:=N) (a:=lm a) (rK a) s1 (by simp only [SM];omega) (by omega)
   obtain ⟨o2,q1,q2,q3,q4,q5⟩:=GA (N:=N) (a:=lm b) (rK b) s1 (by simp only [SM];omega) (by omega)
   rw [p1,bV,q1,bV,if_pos ⟨Nat.zero_le _,by omega⟩,Nat.sub_zero]
   rw [gV] at p4 q4
   have Ty:(lm b).length≤(lm a).length:=fe (by omega)
   have e2:aq (((o1.length:Nat):Int) - (((lm b).length:Nat):Int))=((o1.length - (lm b).length:Nat):Int):=by rw [bE (by omega) (by omega)];omega
   rw [e2,if_pos (by omega)]
   -- the divisor, shifted
   have vk:(0:Int) < 2 ^ s:=Int.pow_pos (by decide)
   have hbv:(b:Int)=bL lb+pw lb.length * X:=by
    have:=gV b
    rw [Vi,lr,qO] at this;omega
   have hs3:(32768:Int)≤X * 2 ^ s:=by
    have e:((X * 2 ^ s:Nat):Int)=(X:Int) * 2 ^ s:=by simp
    omega
   have Yt:(X:Int) * 2 ^ s+2 ^ s≤65536:=by
    have e:((X * 2 ^ s:Nat):Int)=(X:Int) * 2 ^ s:=by simp
    have hdv:(65536:Nat)=2 ^ (16 - s) * 2 ^ s:=by rw [← Nat.pow_add,show 16 - s+s=16 by omega]
    have h9:X < 2 ^ (16 - s):=by
     rw [hdv] at s4;exact Nat.lt_of_mul_lt_mul_right s4
    have h10:=dB (2 ^ s) (show X+1≤2 ^ (16 - s) by omega)
    rw [← hdv,cb] at h10
    have e3:((2 ^ s:Nat):Int)=(2:Int) ^ s:=by simp
    omega
   have agD:=hlU.lt
   have adr:=hlU.ph
   have hV:(b:Int) * 2 ^ s=bL lb * 2 ^ s+pw lb.length * (X * 2 ^ s):=by rw [hbv,eI,kF]
   have hV1:(b:Int) * 2 ^ s < pw (lm b).length:=by
    rw [Qi,fU,hV]
    have h5:=j9 (show bL lb+1≤pw lb.length by omega) (Int.le_of_lt vk)
    have h6:=sG Yt (Int.le_of_lt (kz lb.length))
    rw [gX] at h6
    rw [eI] at h5
    have:=kz lb.length
    omega
   have hV2:32768 * pw lb.length≤(b:Int) * 2 ^ s:=by
    rw [hV]
    have h6:=sG hs3 (Int.le_of_lt (kz lb.length))
    have h7:0≤bL lb * 2 ^ s:=Int.mul_nonneg adr (Int.le_of_lt vk)
    rw [gp 32768];omega
   have XN:U ((o2.take (lm b).length).drop 0):=by rw [List.drop_zero];exact q3.take _
   have Nz:((o2.take (lm b).length).drop 0).length=(lm b).length:=by simp;omega
   have hvv:bL ((o2.take (lm b).length).drop 0)=(b:Int) * 2 ^ s:=by rw [List.drop_zero,GC q3 _ (by rw [q4];exact hV1),q4]
   have XO:32768≤((o2.take (lm b).length).drop 0).getD ((lm b).length - 1) 0:=by
    have h5:=cZ ((o2.take (lm b).length).drop 0) lb.length (by omega)
    have h6:=(XN.take lb.length).lt
    rw [iY (by omega),hvv] at h5
    rw [oK,Nat.min_eq_left (by omega)] at h6
    rw [show (lm b).length - 1=lb.length by omega]
    rcases Int.lt_or_le (((o2.take (lm b).length).drop 0).getD lb.length 0) 32768 with h | h
    ·exfalso
     have:=j9 (show ((o2.take (lm b).length).drop 0).getD lb.length 0≤32767 by omega) (Int.le_of_lt (kz lb.length))
     have:=kz lb.length
     omega
    ·exact h
   have e3:aq (((o1.length - (lm b).length:Nat):Int) - 1)=((o1.length - (lm b).length:Nat):Int) - 1:=bE (by omega) (by omega)
   rw [e3,an]
   have ZZ:bL (o1.drop (o1.length - (lm b).length)) < bL ((o2.take (lm b).length).drop 0):=by
    -- the top n digits: the last one is below 2 ^ s
    have hl:(o1.drop (o1.length - (lm b).length)).length=(lm b).length:=by rw [List.length_drop];omega
    have hUd:=q3
    have hU1:=p3.drop (o1.length - (lm b).length)
    have h5:=cZ (o1.drop (o1.length - (lm b).length)) lb.length (by omega)
    rw [iY (by omega)] at h5
    have h6:=(hU1.take lb.length).lt
    rw [oK,Nat.min_eq_left (by omega)] at h6
    have h7:(o1.drop (o1.length - (lm b).length)).getD lb.length 0=o1.getD (lm a).length 0:=by
     rw [eh,kc,eh];congr 2;omega
    rw [h7] at h5
    rw [hvv]
    have h8:o1.getD (lm a).length 0+1≤32768:=by
     have:(2:Int) ^ s≤32768:=by
      have h:=Nat.pow_le_pow_right (n:=2) (by decide) s1
      have e:((2 ^ s:Nat):Int)=(2:Int) ^ s:=by simp
      omega
     omega
    have h9:=j9 h8 (Int.le_of_lt (kz lb.length))
    rw [eI] at h9
    omega
   rw [Iu (N:=N) (A:=(a:Int)) (B:=(b:Int)) s1 rfl XN Nz h2 XO (by omega) (Lu:=o1.length) (by omega) (by simp only [SM];omega) (by omega) (by omega) (by omega) hvv (o1.length - (lm b).length) N _ o1 (aR _) (by omega) rfl p3 (by simp) (U.replicate _)
    (fun j _=>gM _ j) ZZ (by rw [jL,p4];simp)]
   rfl
end Go.Den
namespace Go.Den
open Go.Ab
def Gv {α:Type} (f:Nat→Option α) (r:α):Prop:=∃ N0,∀ N,N0≤N→f N=some r
theorem Gv.pure {α:Type} (r:α):Gv (fun _=>some r) r:=⟨0,fun _ _=>rfl⟩
theorem Gv.bind {α β:Type} {f:Nat→Option α} {k:Nat→α→Option β} {r:α} {s:β} (h:Gv f r) (h2:Gv (fun N=>k N r) s):Gv (fun N=>(f N).bind (k N)) s:=by
 obtain ⟨N1,h1⟩:=h
 obtain ⟨N2,h2⟩:=h2
 exact ⟨N1+N2,fun N hN=>by show (f N).bind (k N)=some s;rw [h1 N (by omega)];exact h2 N (by omega)⟩
theorem Gv.congr {α:Type} {f g:Nat→Option α} {r:α} (h:Gv f r) (e:∀ N,g N=f N):Gv g r:=let ⟨N0,h0⟩:=h;⟨N0,fun N hN=>(e N).trans (h0 N hN)⟩
theorem Gv.of {α:Type} {f:Nat→Option α} {r:α} (N0:Nat) (h:∀ N,N0≤N→f N=some r):Gv f r:=⟨N0,h⟩
theorem Gv.aG {α:Type} {f g:Nat→Option α} {r:α} {q:Bool} (hq:q=true) (h:Gv f r):Gv (fun N=>cond q (f N) (g N)) r:=by subst hq;exact h
theorem Gv.bg {α:Type} {f g:Nat→Option α} {r:α} {q:Bool} (hq:q=false) (h:Gv g r):Gv (fun N=>cond q (f N) (g N)) r:=by subst hq;exact h
theorem Gv.if {α:Type} {f:Nat→Option α} {r:α} {p:Prop} [Decidable p] (hp:p) (h:Gv f r):Gv (fun N=>if p then f N else none) r:=h.congr fun _=>if_pos hp
theorem Gv.eq {α:Type} {f:Nat→Option α} {r s:α} (h:Gv f r) (e:r=s):Gv f s:=e ▸ h
theorem Gv.ex {α:Type} {f:Nat→Option α} {r:α} (h:Gv f r):∃ N,f N=some r:=let ⟨N,h⟩:=h;⟨N,h N (aR _)⟩
def sg (neg:Bool) (n:Nat):Int:=cond neg (-(n:Int)) (n:Int)
def tS (z:Int):bM:=⟨decide (z < 0),lm z.natAbs⟩
def zv (a:bM):Int:=sg a.fG (bL a.fL).toNat
def ZB (z:Int) (n:Nat):Prop:=(lm z.natAbs).length≤n
structure IB (a:bM) (n:Nat):Prop where
 U:U a.fL
 len:a.fL.length≤n
theorem pP (neg:Bool) (n:Nat):(sg neg n).natAbs=n:=by cases neg<;>simp [sg]
theorem jO (a:bM):(zv a).natAbs=(bL a.fL).toNat:=pP _ _
theorem R9 (neg:Bool) (n:Nat) (h:n≠0):tS (sg neg n)=⟨neg,lm n⟩:=by
 unfold tS
 rw [pP]
 cases neg
 ·rw [decide_eq_false (show ¬ sg false n < 0 by simp [sg])]
 ·rw [decide_eq_true (show sg true n < 0 by simp [sg];omega)]
theorem Sa:tS 0=⟨false,[]⟩:=by unfold tS;rw [show (0:Int).natAbs=0 from rfl,fV];rfl
theorem Oy (neg:Bool):tS (sg neg 0)=⟨false,[]⟩:=by cases neg<;>exact Sa
theorem lu (z:Int):zv (tS z)=z:=by
 unfold zv tS
 simp only [gV,Int.toNat_natCast]
 unfold sg
 by_cases h:z < 0
 ·rw [decide_eq_true h];simp only [cond_true];omega
 ·rw [decide_eq_false h];simp only [cond_false];omega
theorem ZB.le {z:Int} {m n:Nat} (h:ZB z m) (Oz:m≤n):ZB z n:=dj h Oz
theorem Sb {z:Int} {n:Nat}:ZB z n↔(z.natAbs:Int) < pw n:=ij
theorem Lh {z:Int} {n:Nat}:ZB z n↔z.natAbs < 65536 ^ n:=by
 rw [Sb];unfold pw
 have:((65536 ^ n:Nat):Int)=65536 ^ n:=by simp
 omega
theorem ZB.neg {z:Int} {n:Nat} (h:ZB z n):ZB (-z) n:=by unfold ZB at *;rwa [Int.natAbs_neg]
theorem ZB.mul {x y:Int} {m n:Nat} (h1:ZB x m) (h2:ZB y n):ZB (x * y) (m+n):=by
 rw [Lh] at *
 rw [Int.natAbs_mul,Nat.pow_add]
 exact Nat.mul_lt_mul'' h1 h2
theorem ZB.add {x y:Int} {n:Nat} (h1:ZB x n) (h2:ZB y n):ZB (x+y) (n+1):=by
 rw [Lh] at *
 have:=Int.natAbs_add_le x y
 have h3:65536 ^ (n+1)=65536 * 65536 ^ n:=by rw [Nat.pow_succ];omega
 have:=Nat.pow_pos (n:=n) (show 0 < 65536 by decide)
 omega
theorem ZB.sub {x y:Int} {n:Nat} (h1:ZB x n) (h2:ZB y n):ZB (x - y) (n+1):=by rw [Int.sub_eq_add_neg];exact h1.add h2.neg
theorem ZB.of_le {x y:Int} {n:Nat} (h:ZB y n) (Pr:x.natAbs≤y.natAbs):ZB x n:=by rw [Lh] at *;omega
theorem ZB.small {x:Int} (h:x.natAbs < 65536):ZB x 1:=by rw [Lh];simpa using h
theorem ZB.word {x:Int} (h:-9223372036854775808≤x) (h2:x≤9223372036854775807):ZB x 4:=by rw [Lh];omega
theorem IB.zb {a:bM} {n:Nat} (h:IB a n):ZB (zv a) n:=by
 rw [Sb,jO]
 have h1:=h.U.lt
 have h2:=h.U.ph
 have h3:pw a.fL.length≤pw n:=by
  have e:pw n=pw a.fL.length * pw (n - a.fL.length):=by rw [← Gs];congr 1;have:=h.len;omega
  have:=kz (n - a.fL.length)
  have:=sG (show 1≤pw (n - a.fL.length) by omega) (Int.le_of_lt (kz a.fL.length))
  omega
 omega
theorem ZB.ib {z:Int} {n:Nat} (h:ZB z n):IB (tS z) n:=⟨rK _,h⟩
theorem IB.le {a:bM} {m n:Nat} (h:IB a m) (Oz:m≤n):IB a n:=⟨h.U,dj h.len Oz⟩
section
variable {a b:bM} {m n:Nat}
theorem sU (ha:IB a n) (hn:SM n):Gv (fun N=>fH N a.fL) (lm (zv a).natAbs) :=
 .of (n+1) fun N hN=>by
  simp only [SM] at hn
  have:=ha.len
  rw [mb ha.U (by omega) (by omega),jO]
theorem mA (neg:Bool) {k:Nat} (hk:SM (lm k).length):Gv (fun N=>gH N neg (lm k)) (tS (sg neg k)) :=
 .of ((lm k).length+1) fun N hN=>by
  simp only [SM] at hk
  unfold gH
  rw [mb (rK k) (by omega) (by omega),gV,Int.toNat_natCast,bV]
  by_cases h:k=0
  ·subst h
   rw [fV,Oy];rfl
  ·have e:((((lm k).length:Nat):Int) == 0)=false:=by
    have:=j7.2 h
    simp;exact fun h'=>by rw [h'] at this;simp at this
   rw [e,cond_false]
   unfold dz
   rw [if_pos (by omega),bV,R9 _ _ h];rfl
theorem Li (a:bM):Gv (fun N=>sJ N a) ⟨!a.fG,a.fL⟩:=.pure _
theorem Lj (a:bM):zv ⟨!a.fG,a.fL⟩ = -zv a:=by unfold zv sg;cases a.fG<;>simp
theorem sign_eq (a b:Bool) (x y:Nat):sg (!(a == b)) (x * y)=sg a x * sg b y:=by
 cases a<;>cases b<;>simp [sg,Int.neg_mul,Int.mul_neg]
theorem yO (ha:IB a m) (hb:IB b n) (hs:SM (m+n)):Gv (fun N=>pY N a b) (tS (zv a * zv b)):=by
 simp only [SM] at hs
 have DJ:=ha.zb
 have qT:=hb.zb
 unfold ZB at DJ qT
 refine (sU ha (by simp only [SM];omega)).bind ((sU hb (by simp only [SM];omega)).bind ?_)
 refine Gv.bind (r:=lm ((zv a).natAbs * (zv b).natAbs)) (.of (m+n+1) fun N hN=>RY (by simp only [SM];omega) (by omega)) ?_
 have hz:=ha.zb.mul hb.zb
 unfold ZB at hz
 rw [Int.natAbs_mul] at hz
 refine (mA _ (by simp only [SM];omega)).bind ((Gv.pure _).eq ?_)
 rw [jO,jO,sign_eq];rfl
theorem Sc (ha:IB a n) (hb:IB b n) (hs:SM (n+1)):Gv (fun N=>BD N a b) (tS (zv a+zv b)):=by
 simp only [SM] at hs
 have DJ:=ha.zb
 have qT:=hb.zb
 have hz:=DJ.add qT
 unfold ZB at DJ qT
 refine (sU ha (by simp only [SM];omega)).bind ((sU hb (by simp only [SM];omega)).bind ?_)
 have hX:zv a=sg a.fG (zv a).natAbs:=by rw [jO];rfl
 have hY:zv b=sg b.fG (zv b).natAbs:=by rw [jO];rfl
 generalize (zv a).natAbs=x at *
 generalize (zv b).natAbs=y at *
 rw [hX,hY] at hz ⊢
 generalize a.fG=p at *
 generalize b.fG=q at *
 cases J3:(p == q) with
 | true =>
  have J3:p=q:=by simpa using J3
  subst J3
  have e:sg p x+sg p y=sg p (x+y):=by cases p<;>simp [sg]<;>omega
  rw [e] at hz ⊢
  unfold ZB at hz
  rw [pP] at hz
  refine Gv.aG rfl (Gv.bind (r:=lm (x+y)) (.of (n+2) fun N hN=>Ov (by simp only [SM];omega) (by simp only [SM];omega) (by omega) (by omega)) ?_)
  exact (mA _ (by simp only [SM];omega)).bind (Gv.pure _)
 | false =>
  have J3:q=!p:=by cases p<;>cases q<;>simp_all
  subst J3
  refine Gv.bg rfl ?_
  refine Gv.bind (r:=HH x y) (.of (n+2) fun N hN=>K4 (by omega) (by simp only [SM];omega) (by simp only [SM];omega)) ?_
  have fo:=Oq (a:=x) (b:=y) (by simp only [SM];omega) (by simp only [SM];omega)
  by_cases Pr:x < y
  ·refine Gv.bg (decide_eq_false (by have:=fo.2 Pr;omega)) (Gv.bind (r:=lm (y - x)) (.of (n+2) fun N hN=>Gw (by omega) (by simp only [SM];omega) (by omega)) ?_)
   have e:sg p x+sg (!p) y=sg (!p) (y - x):=by cases p<;>simp [sg]<;>omega
   rw [e] at hz ⊢
   unfold ZB at hz
   rw [pP] at hz
   exact (mA _ (by simp only [SM];omega)).bind (Gv.pure _)
  ·refine Gv.aG (decide_eq_true (by have:=fun h=>Pr (fo.1 h);omega)) (Gv.bind (r:=lm (x - y)) (.of (n+2) fun N hN=>Gw (by omega) (by simp only [SM];omega) (by omega)) ?_)
   have e:sg p x+sg (!p) y=sg p (x - y):=by cases p<;>simp [sg]<;>omega
   rw [e] at hz ⊢
   unfold ZB at hz
   rw [pP] at hz
   exact (mA _ (by simp only [SM];omega)).bind (Gv.pure _)
theorem IB.opp (ha:IB a n):IB ⟨!a.fG,a.fL⟩ n:=⟨ha.U,ha.len⟩
theorem EO (ha:IB a n) (hn:SM n):Gv (fun N=>tz N a) (zv a).sign:=by
 refine (sU ha hn).bind ?_
 have hX:zv a=sg a.fG (zv a).natAbs:=by rw [jO];rfl
 generalize (zv a).natAbs=x at *
 rw [hX]
 generalize a.fG=p
 by_cases h:x=0
 ·subst h
  refine Gv.aG (by rw [fV];rfl) ((Gv.pure _).eq ?_)
  cases p<;>rfl
 ·refine Gv.bg ?_ ?_
  ·have:=j7.2 h
   simp;exact fun h'=>by rw [h'] at this;simp at this
  ·cases p with
   | true=>exact Gv.aG rfl ((Gv.pure _).eq (by simp only [sg,cond_true];rw [Int.sign_eq_neg_one_of_neg];omega))
   | false=>exact Gv.bg rfl ((Gv.pure _).eq (by simp only [sg,cond_false];rw [Int.sign_eq_one_of_pos];omega))
theorem Se {z:Int} (h1:-9223372036854775808≤z) (h2:z≤9223372036854775807):Gv (fun N=>AI N z) (tS z):=by
 have hl:ZB z 4:=ZB.word h1 h2
 unfold ZB at hl
 unfold AI
 by_cases h:z < 0
 ·refine Gv.aG (decide_eq_true h) (Gv.bind (r:=lm z.natAbs) (.of 5 fun N hN=>?_) ?_)
  ·have e:IntKind.u64.wrap (0 - IntKind.u64.wrap z)=((z.natAbs:Nat):Int):=by rw [wrap64,wrap64];omega
   rw [e];exact A2 (by omega) (by omega)
  ·refine (mA true (by simp only [SM];omega)).bind ((Gv.pure _).eq ?_)
   have:sg true z.natAbs=z:=by simp [sg];omega
   rw [this]
 ·refine Gv.bg (decide_eq_false h) (Gv.bind (r:=lm z.natAbs) (.of 5 fun N hN=>?_) ?_)
  ·have e:IntKind.u64.wrap z=((z.natAbs:Nat):Int):=by rw [wrap64];omega
   rw [e];exact A2 (by omega) (by omega)
  ·refine (mA false (by simp only [SM];omega)).bind ((Gv.pure _).eq ?_)
   have:sg false z.natAbs=z:=by simp [sg];omega
   rw [this]
theorem Lk {z:Int} (h1:-9223372036854775808≤z) (h2:z≤9223372036854775807):Gv (fun N=>xt N z) (tS z):=by
 unfold xt
 by_cases h:z < 0
 ·refine Gv.aG (decide_eq_true h) (Gv.bind (r:=lm z.natAbs) (.of 5 fun N hN=>?_) ?_)
  ·have e:IntKind.u64.wrap ((IntKind.u64.wrap ((aq (0 - (aq (z+1))))))+1)=((z.natAbs:Nat):Int):=by rw [bE (n:=z+1) (by omega) (by omega),bE (by omega) (by omega),wrap64,wrap64];omega
   rw [e];exact Lc (by omega) (by omega)
  ·refine (Gv.pure _).eq ?_
   unfold tS;rw [decide_eq_true h]
 ·refine Gv.bg (decide_eq_false h) (Gv.bind (r:=lm z.natAbs) (.of 5 fun N hN=>?_) ?_)
  ·have e:IntKind.u64.wrap z=((z.natAbs:Nat):Int):=by rw [wrap64];omega
   rw [e];exact Lc (by omega) (by omega)
  ·refine (Gv.pure _).eq ?_
   unfold tS;rw [decide_eq_false h]
theorem PJ (ha:IB a m) (hb:IB b n) (hs:SM (m+n+2)) (h0:zv b≠0):Gv (fun N=>wT N a b) (tS (zv a / zv b),tS (zv a % zv b),0):=by
 simp only [SM] at hs
 have DJ:=ha.zb
 have qT:=hb.zb
 unfold ZB at DJ qT
 refine (sU ha (by simp only [SM];omega)).bind ((sU hb (by simp only [SM];omega)).bind ?_)
 have hX:zv a=sg a.fG (zv a).natAbs:=by rw [jO];rfl
 have hY:zv b=sg b.fG (zv b).natAbs:=by rw [jO];rfl
 generalize hx:(zv a).natAbs=x at *
 generalize hy:(zv b).natAbs=y at *
 have Nw:y≠0:=by omega
 refine Gv.bg (by have:=j7.2 Nw;simp;exact fun h'=>by rw [h'] at this;simp at this) ?_
 refine Gv.bind (r:=(lm (x / y),lm (x % y))) (.of (m+n+20) fun N hN=>zL Nw (by simp only [SM];omega) (by omega)) ?_
 have hq:(lm (x / y)).length≤m:=dj (fe (Nat.div_le_self _ _)) DJ
 have hr:(lm (x % y)).length≤n:=dj (fe (Nat.le_of_lt (Nat.mod_lt _ (by omega)))) qT
 have fin:∀ (k r:Nat),(lm k).length≤m+1→(lm r).length≤n→zv a=zv b * sg (!(a.fG == b.fG)) k+r→r < y →
   Gv (fun N=>oz N a b (lm k) (lm r)) (tS (zv a / zv b),tS (zv a % zv b),0):=by
  intro k r hk hr he fo
  have Sf:zv a % zv b=(r:Int):=by
   rw [he,Int.add_comm,Int.add_mul_emod_self_left]
   have lN:zv b=(y:Int)∨zv b = -(y:Int):=by omega
   rcases lN with h | h
   ·rw [h];exact Int.emod_eq_of_lt (by omega) (by omega)
   ·rw [h,Int.emod_neg];exact Int.emod_eq_of_lt (by omega) (by omega)
  have hdiv:zv a / zv b=sg (!(a.fG == b.fG)) k:=by
   have h1:=Int.mul_ediv_add_emod (zv a) (zv b)
   rw [Sf] at h1
   have h2:zv b * (zv a / zv b)=zv b * sg (!(a.fG == b.fG)) k:=by omega
   exact Int.eq_of_mul_eq_mul_left h0 h2
  refine (mA _ (by simp only [SM];omega)).bind ((mA false (by simp only [SM];omega)).bind ((Gv.pure _).eq ?_))
  rw [Sf,hdiv];rfl
 have Pr:=Nat.div_add_mod x y
 have hml:=Nat.mod_lt x (Nat.pos_of_ne_zero Nw)
 by_cases Sg:a.fG=true∧0 < x % y
 ·obtain ⟨hp,HJ⟩:=Sg
  have hl:=j7.2 (show x % y≠0 by omega)
  refine Gv.aG (by rw [hp,cond_true];show decide ((((lm (x % y)).length:Nat):Int) > 0)=true;exact decide_eq_true (by omega)) ?_
  have Zt:(lm (x / y+1)).length≤m+1:=by
   rw [ij] at hq ⊢
   rw [fU];have:=kz m;omega
  have e1:([1]:List Int)=lm 1:=by rw [pj (by decide)];simp [fV]
  refine Gv.bind (r:=lm (x / y+1)) (.of (m+5) fun N hN=>by rw [e1];exact Ov (by simp only [SM];omega) (by rw [← e1];decide) (by omega) (by rw [← e1];simp;omega)) ?_
  refine Gv.bind (r:=lm (y - x % y)) (.of (n+2) fun N hN=>Gw (by omega) (by simp only [SM];omega) (by omega)) ?_
  refine fin _ _ Zt (dj (fe (Nat.sub_le _ _)) qT) ?_ (by omega)
  rw [hX,hY,hp]
  have XP:(x:Int)=y * (x / y:Nat)+(x % y:Nat):=by exact_mod_cast Pr.symm
  have ZC:((y - x % y:Nat):Int)=y - (x % y:Nat):=by omega
  rw [ZC]
  generalize (x / y)=k at *
  generalize (x % y)=r at *
  cases b.fG<;>simp only [sg,cond_true,cond_false,Bool.not_true,Bool.not_false,BEq.rfl,show (true == false)=false from rfl]<;>rw [XP]<;>push_cast<;>grind
 ·have hcf:cond a.fG (decide ((((lm (x % y)).length:Nat):Int) > 0)) false=false:=by
   cases hp:a.fG with
   | false=>rfl
   | true =>
    have:x % y=0:=Nat.eq_zero_of_not_pos fun h=>Sg ⟨hp,h⟩
    rw [this,fV];rfl
  refine Gv.bg hcf ?_
  refine fin _ _ (by omega) hr ?_ hml
  rw [hX,hY]
  have XP:(x:Int)=y * (x / y:Nat)+(x % y:Nat):=by exact_mod_cast Pr.symm
  have hz:a.fG=true→x % y=0:=fun hp=>Nat.eq_zero_of_not_pos fun h=>Sg ⟨hp,h⟩
  generalize (x / y)=k at *
  generalize (x % y)=r at *
  cases hp:a.fG<;>cases b.fG<;>simp only [sg,cond_true,cond_false,Bool.not_true,Bool.not_false,BEq.rfl,show (true == false)=false from rfl,show (false == true)=false from rfl]<;>rw [XP]<;>(try have HJ:=hz hp)<;>grind
end
end Go.Den
namespace Go.Den
open Go.Ab
theorem PK {N:Nat} (K:List Int→List Int→Option (List Int)) (hN:4 < N):∀ (y x fuel:Nat),y < fuel→x < 18446744073709551616→y < 18446744073709551616→lh N K fuel (x:Int) (y:Int)=some (lm (Nat.gcd x y)):=by
 intro y
 induction y using Nat.strongRecOn with
 | _ y ih =>
  intro x fuel hf hx hy
  obtain ⟨g,rfl⟩:∃ g,fuel=g+1:=⟨fuel - 1,by omega⟩
  rw [lh]
  by_cases h:y=0
  ·subst h
   rw [decide_eq_false (by decide),cond_false,A2 hN hx,bV,Nat.gcd_zero_right]
  ·rw [decide_eq_true (by omega),cond_true,if_pos (by omega),Int.tmod_eq_emod_of_nonneg (by omega)]
   have e:((x:Int) % (y:Int))=((x % y:Nat):Int):=by simp
   have fo:=Nat.mod_lt x (Nat.pos_of_ne_zero h)
   rw [e,ih (x % y) fo y g (by omega) hy (by omega),Nat.gcd_comm x y,Nat.gcd_rec y x,Nat.gcd_comm]
theorem PL {N:Nat} {k:Nat} (hk:SM (2 * k+2)) (hN:2 * k+20 < N):∀ (y x fuel:Nat),y < fuel→y < N→(lm x).length≤k→(lm y).length≤k→jE N fuel (lm x) (lm y)=some (lm (Nat.gcd x y)):=by
 intro y
 simp only [SM] at hk
 induction y using Nat.strongRecOn with
 | _ y ih =>
  intro x fuel hf hyN hx hy
  obtain ⟨g,rfl⟩:∃ g,fuel=g+1:=⟨fuel - 1,by omega⟩
  rw [jE]
  by_cases h:y=0
  ·subst h
   rw [fV,Nat.gcd_zero_right];rfl
  ·have hl:=j7.2 h
   rw [decide_eq_true (by omega),cond_true,Ox (by omega) (by simp only [SM];omega),bV,Ox (by omega) (by simp only [SM];omega),bV]
   by_cases h4:(lm x).length≤4∧(lm y).length≤4
   ·rw [if_pos h4.1,if_pos h4.2]
    have b1:=ij.1 h4.1
    have b2:=ij.1 h4.2
    have e4:pw 4=18446744073709551616:=by decide
    exact PK _ (by omega) y x N hyN (by omega) (by omega)
   ·have e:cond (if (lm x).length≤4 then ((x:Int),true) else (0,false)).2 (if (lm y).length≤4 then ((y:Int),true) else (0,false)).2 false=false:=by
     by_cases h1:(lm x).length≤4
     ·have h2:¬ (lm y).length≤4:=fun h2=>h4 ⟨h1,h2⟩
      rw [if_pos h1,if_neg h2];rfl
     ·rw [if_neg h1];rfl
    rw [e,cond_false,zL h (by simp only [SM];omega) (by omega),bV]
    have fo:=Nat.mod_lt x (Nat.pos_of_ne_zero h)
    rw [ih (x % y) fo y g (by omega) (by omega) hy (dj (fe (by omega)) hy),Nat.gcd_comm x y,Nat.gcd_rec y x,Nat.gcd_comm]
theorem PM {x y k:Nat} (hx:(lm x).length≤k) (hy:(lm y).length≤k) (hk:SM (2 * k+2)):Gv (fun N=>wQ N (lm x) (lm y)) (lm (Nat.gcd x y)) :=
 .of (2 * k+21+y) fun N hN=>PL hk (by omega) y x N (by omega) (by omega) hx hy
def dv (x:aa):Int:=if zv x.fD=0 then 1 else zv x.fD
def qv (x:aa):Rat:=Rat.divInt (zv x.fN) (dv x)
def bj (q:Rat):aa:=⟨tS q.num,tS (q.den:Int)⟩
structure RB (q:Rat) (n:Nat):Prop where
 num:ZB q.num n
 den:ZB (q.den:Int) n
structure IR (x:aa) (n:Nat):Prop where
 num:IB x.fN n
 den:IB x.fD n
theorem uE (x:aa):dv x≠0:=by unfold dv;split<;>omega
theorem RB.le {q:Rat} {m n:Nat} (h:RB q m) (Oz:m≤n):RB q n:=⟨h.num.le Oz,h.den.le Oz⟩
theorem IR.le {x:aa} {m n:Nat} (h:IR x m) (Oz:m≤n):IR x n:=⟨h.num.le Oz,h.den.le Oz⟩
theorem RB.ir {q:Rat} {n:Nat} (h:RB q n):IR (bj q) n:=⟨h.num.ib,h.den.ib⟩
theorem XQ (q:Rat):dv (bj q)=q.den:=by
 unfold dv bj;simp only [lu];rw [if_neg];have:=q.den_nz;omega
theorem iV (q:Rat):qv (bj q)=q:=by
 unfold qv;rw [XQ];simp only [bj,lu];exact Rat.num_divInt_den q
theorem GD (a:Int) (b:Nat) (hb:b≠0):(a / (b:Int)).natAbs≤a.natAbs:=Int.natAbs_ediv_le_natAbs a b
theorem wm {a b:Int} {n:Nat} (ha:ZB a n) (hb:ZB b n) (h0:b≠0):RB (Rat.divInt a b) n:=by
 have hg:Int.gcd b a≠0:=fun h=>h0 (Int.gcd_eq_zero_iff.1 h).1
 constructor
 ·rw [Rat.num_divInt]
  refine ha.of_le (dj (GD _ _ hg) ?_)
  rw [Int.natAbs_mul,Int.natAbs_sign_of_ne_zero h0];omega
 ·rw [Rat.den_divInt,if_neg h0]
  refine hb.of_le ?_
  rw [Int.natAbs_natCast]
  exact Nat.div_le_self _ _
theorem IR.rb {x:aa} {n:Nat} (h:IR x n) (hn:1≤n):RB (qv x) n:=by
 refine wm h.num.zb ?_ (uE x)
 unfold dv
 split
 ·exact (ZB.small (by decide)).le hn
 ·exact h.den.zb
theorem RB.int {z:Int} {n:Nat} (h:ZB z n) (hn:1≤n):RB (z:Rat) n:=⟨h,(ZB.small (x:=1) (by decide)).le hn⟩
theorem RB.neg {q:Rat} {n:Nat} (h:RB q n):RB (-q) n:=⟨by rw [Rat.neg_num];exact h.num.neg,by rw [Rat.neg_den];exact h.den⟩
theorem mB (q:Rat):q=Rat.divInt q.num q.den:=(Rat.num_divInt_den q).symm
theorem pk (q:Rat):(q.den:Int)≠0:=by have:=q.den_nz;omega
theorem RB.add {p q:Rat} {m n:Nat} (h1:RB p m) (h2:RB q n):RB (p+q) (m+n+1):=by
 rw [mB p,mB q,Rat.divInt_add_divInt _ _ (pk p) (pk q)]
 refine wm ((h1.num.mul h2.den).add ((h2.num.mul h1.den).le (by omega))) ((h1.den.mul h2.den).le (by omega)) ?_
 exact Int.mul_ne_zero (pk p) (pk q)
theorem RB.sub {p q:Rat} {m n:Nat} (h1:RB p m) (h2:RB q n):RB (p - q) (m+n+1):=by rw [Rat.sub_eq_add_neg];exact h1.add h2.neg
theorem RB.mul {p q:Rat} {m n:Nat} (h1:RB p m) (h2:RB q n):RB (p * q) (m+n):=by
 rw [mB p,mB q,Rat.divInt_mul_divInt]
 exact wm (h1.num.mul h2.num) (h1.den.mul h2.den) (Int.mul_ne_zero (pk p) (pk q))
theorem uF {a b c d:Int} (hb:b≠0) (hd:d≠0):Rat.divInt a b / Rat.divInt c d=Rat.divInt (a * d) (b * c):=by
 rw [Rat.div_def,Rat.inv_divInt,Rat.divInt_mul_divInt]
theorem XR {q:Rat} (h:q≠0):q.num≠0:=fun h'=>h (Rat.num_eq_zero.1 h')
theorem RB.div {p q:Rat} {m n:Nat} (h1:RB p m) (h2:RB q n) (h0:q≠0):RB (p / q) (m+n):=by
 rw [mB p,mB q,uF (pk p) (pk q)]
 exact wm (h1.num.mul h2.den) (h1.den.mul h2.num) (Int.mul_ne_zero (pk p) (XR h0))
section
variable {a b:bM} {x y:aa} {m n:Nat}
theorem nB (ha:IB a n) (hb:IB b n) (h0:zv b≠0) (hs:SM (2 * n+2)):Gv (fun N=>iu N a b) (bj (Rat.divInt (zv a) (zv b))):=by
 simp only [SM] at hs
 have DJ:=ha.zb
 have qT:=hb.zb
 unfold ZB at DJ qT
 refine (sU ha (by simp only [SM];omega)).bind ((sU hb (by simp only [SM];omega)).bind ?_)
 have hX:zv a=sg a.fG (zv a).natAbs:=by rw [jO];rfl
 have hY:zv b=sg b.fG (zv b).natAbs:=by rw [jO];rfl
 generalize hxx:(zv a).natAbs=x at *
 generalize Z0:(zv b).natAbs=y at *
 have Nw:y≠0:=by omega
 have hg0:0 < Nat.gcd x y:=Nat.gcd_pos_of_pos_right _ (by omega)
 refine (PM DJ qT (by simp only [SM];omega)).bind ?_
 have VU:=j7.2 (show Nat.gcd x y≠0 by omega)
 have hgn:(lm (Nat.gcd x y)).length≤n:=dj (fe (Nat.gcd_le_right _ (by omega))) qT
 have fin:∀ u v:Nat,u=x / Nat.gcd x y→v=y / Nat.gcd x y→Gv (fun N=>mf N a b (lm u) (lm v)) (bj (Rat.divInt (zv a) (zv b))):=by
  intro u v hu hv
  have ZY:(lm u).length≤n:=dj (fe (by rw [hu];exact Nat.div_le_self _ _)) DJ
  have Nz:(lm v).length≤n:=dj (fe (by rw [hv];exact Nat.div_le_self _ _)) qT
  refine (mA _ (by simp only [SM];omega)).bind ((mA false (by simp only [SM];omega)).bind ((Gv.pure _).eq ?_))
  have XS:Int.gcd (zv b) (zv a)=Nat.gcd x y:=by unfold Int.gcd;rw [hxx,Z0,Nat.gcd_comm]
  unfold bj
  rw [Rat.num_divInt,Rat.den_divInt,if_neg h0,XS,Z0]
  have hd:(Nat.gcd x y) ∣ x:=Nat.gcd_dvd_left _ _
  have e1:(zv b).sign * zv a / ((Nat.gcd x y:Nat):Int)=sg (!(a.fG == b.fG)) u:=by
   have Vn:(x:Int)=(Nat.gcd x y:Nat) * (u:Int):=by
    have:x=Nat.gcd x y * u:=by rw [hu,Nat.mul_div_cancel' hd]
    exact_mod_cast this
   have e2:(zv b).sign * zv a=(Nat.gcd x y:Nat) * sg (!(a.fG == b.fG)) u:=by
    rw [hX,hY]
    cases a.fG<;>cases b.fG<;>simp only [sg,cond_true,cond_false,Bool.not_true,Bool.not_false,BEq.rfl,show (true == false)=false from rfl,show (false == true)=false from rfl]
    ·rw [Int.sign_eq_one_of_pos (by omega),Int.one_mul,← Vn]
    ·rw [Int.sign_eq_neg_one_of_neg (by omega),Int.mul_neg,← Vn];omega
    ·rw [Int.sign_eq_one_of_pos (by omega),Int.one_mul,Int.mul_neg,← Vn]
    ·rw [Int.sign_eq_neg_one_of_neg (by omega),← Vn];omega
   rw [e2,Int.mul_ediv_cancel_left _ (by omega)]
  rw [e1,← hv];rfl
 have e0:(lm (Nat.gcd x y)).getD 0 0=((Nat.gcd x y % 65536:Nat):Int):=by rw [pj (by omega)];rfl
 refine Gv.if (fun _=>⟨by omega,by omega⟩) ?_
 rw [e0]
 by_cases h1:Nat.gcd x y=1
 ·refine Gv.bg ?_ (fin x y (by rw [h1,Nat.div_one]) (by rw [h1,Nat.div_one]))
  rw [h1,pj (by decide)];simp [fV]
 ·refine Gv.aG ?_ ?_
  ·by_cases h2:(lm (Nat.gcd x y)).length=1
   ·have:=ij.1 (show (lm (Nat.gcd x y)).length≤1 by omega)
    have e1:pw 1=65536:=by decide
    rw [h2]
    have h3:(((Nat.gcd x y % 65536:Nat):Int) != 1)=true:=by simp;omega
    rw [h3];rfl
   ·have h3:((((lm (Nat.gcd x y)).length:Nat):Int) != 1)=true:=by simp;omega
    rw [h3];rfl
  ·refine Gv.bind (r:=(lm (x / Nat.gcd x y),lm (x % Nat.gcd x y))) (.of (2 * n+20) fun N hN=>zL (by omega) (by simp only [SM];omega) (by omega)) ?_
   refine Gv.bind (r:=(lm (y / Nat.gcd x y),lm (y % Nat.gcd x y))) (.of (2 * n+20) fun N hN=>zL (by omega) (by simp only [SM];omega) (by omega)) ?_
   exact fin _ _ rfl rfl
def Ci (x:aa):bM:=if zv x.fD=0 then ⟨false,[1]⟩ else x.fD
theorem M9:zv ⟨false,[1]⟩=1:=by decide
theorem j8 (x:aa):zv (Ci x)=dv x:=by unfold Ci dv;split<;>simp [M9]
theorem Sh {n:Nat} (hn:1≤n):IB ⟨false,[1]⟩ n:=⟨U.one (by decide) (by decide),hn⟩
theorem IR.Ci (h:IR x n) (hn:1≤n):IB (Ci x) n:=by
 unfold Go.Den.Ci;split
 ·exact Sh hn
 ·exact h.den
theorem qh (hx:IR x n) (hs:SM n):Gv (fun N=>kC N x) (Ci x):=by
 refine (EO hx.den hs).bind ?_
 unfold Ci
 by_cases h:zv x.fD=0
 ·rw [if_pos h];exact Gv.aG (by rw [h];rfl) (Gv.pure _)
 ·rw [if_neg h]
  exact Gv.bg (by simp;exact h) (Gv.pure _)
theorem Dp (hx:IR x n) (hn:1≤n) (hs:SM (2 * n+2)):Gv (fun N=>jg N x) (bj (qv x)):=by
 have HI:=hs
 simp only [SM] at HI
 refine (qh hx (by simp only [SM];omega)).bind ?_
 refine (nB hx.num (hx.Ci hn) (by rw [j8];exact uE x) hs).bind ((Gv.pure _).eq ?_)
 rw [j8];rfl
theorem Dq (hx:IR x n) (hs:SM n):Gv (fun N=>gI N x) (decide (qv x=0)):=by
 refine (EO hx.num hs).bind ((Gv.pure _).eq ?_)
 unfold qv
 by_cases h:zv x.fN=0
 ·rw [h,Rat.zero_divInt];rfl
 ·have:Rat.divInt (zv x.fN) (dv x)≠0:=by
   rw [← Rat.zero_divInt 1,ne_eq,Rat.divInt_eq_divInt_iff (uE x) (by decide)];simpa using h
  rw [decide_eq_false this]
  simp;exact h
theorem Dr (hx:IR x m) (hy:IR y n) (hm:1≤m) (hn:1≤n) (hs:SM (2 * (m+n+1)+2)):Gv (fun N=>er N x y) (bj (qv x+qv y)):=by
 simp only [SM] at hs
 refine (Dq hx (by simp only [SM];omega)).bind ?_
 by_cases h1:qv x=0
 ·refine Gv.aG (decide_eq_true h1) ((Dp hy hn (by simp only [SM];omega)).bind ((Gv.pure _).eq ?_))
  rw [h1,Rat.zero_add]
 ·refine Gv.bg (decide_eq_false h1) ((Dq hy (by simp only [SM];omega)).bind ?_)
  by_cases h2:qv y=0
  ·refine Gv.aG (decide_eq_true h2) ((Dp hx hm (by simp only [SM];omega)).bind ((Gv.pure _).eq ?_))
   rw [h2,Rat.add_zero]
  ·refine Gv.bg (decide_eq_false h2) ((qh hx (by simp only [SM];omega)).bind ((qh hy (by simp only [SM];omega)).bind ?_))
   refine (yO hx.num (hy.Ci hn) (by simp only [SM];omega)).bind ((yO hy.num (hx.Ci hm) (by simp only [SM];omega)).bind ?_)
   have z1:=hx.num.zb.mul (hy.Ci hn).zb
   have z2:=hy.num.zb.mul (hx.Ci hm).zb
   have z3:=(hx.Ci hm).zb.mul (hy.Ci hn).zb
   rw [j8] at z1 z2
   rw [j8,j8] at z3
   refine Gv.bind (r:=tS (zv x.fN * dv y+zv y.fN * dv x)) ?_ ?_
   ·have:=Sc (n:=m+n) (a:=tS (zv x.fN * zv (Ci y))) (b:=tS (zv y.fN * zv (Ci x))) (by rw [j8];exact z1.ib) (by rw [j8];exact (z2.le (by omega)).ib) (by simp only [SM];omega)
    rw [lu,lu,j8,j8] at this
    rw [j8,j8];exact this
   ·refine Gv.bind (r:=tS (dv x * dv y)) ?_ ?_
    ·have:=yO (hx.Ci hm) (hy.Ci hn) (by simp only [SM];omega)
     rwa [j8,j8] at this
    ·have h0:dv x * dv y≠0:=Int.mul_ne_zero (uE x) (uE y)
     refine (nB (n:=m+n+1) (z1.add (z2.le (by omega))).ib (z3.le (by omega)).ib (by rw [lu];exact h0) (by simp only [SM];omega)).bind ((Gv.pure _).eq ?_)
     rw [lu,lu]
     unfold qv
     rw [Rat.divInt_add_divInt _ _ (uE x) (uE y)]
theorem nC (hx:IR x n) (hn:1≤n) (hs:SM (2 * n+2)):Gv (fun N=>en N x) (bj (-qv x)):=by
 have HI:=hs
 simp only [SM] at HI
 refine (Li x.fN).bind ((qh hx (by simp only [SM];omega)).bind ?_)
 refine (nB hx.num.opp (hx.Ci hn) (by rw [j8];exact uE x) hs).bind ((Gv.pure _).eq ?_)
 rw [Lj,j8];unfold qv;rw [Rat.neg_divInt]
theorem zM (hx:IR x m) (hy:IR y n) (hm:1≤m) (hn:1≤n) (hs:SM (2 * (m+n+1)+2)):Gv (fun N=>lj N x y) (bj (qv x - qv y)):=by
 have HI:=hs
 simp only [SM] at HI
 refine (nC hy hn (by simp only [SM];omega)).bind ?_
 refine (Dr hx (hy.rb hn).neg.ir hm hn hs).bind ((Gv.pure _).eq ?_)
 rw [iV,Rat.sub_eq_add_neg]
theorem Iv (hx:IR x m) (hy:IR y n) (hm:1≤m) (hn:1≤n) (hs:SM (2 * (m+n)+2)):Gv (fun N=>e8 N x y) (bj (qv x * qv y)):=by
 simp only [SM] at hs
 refine (yO hx.num hy.num (by simp only [SM];omega)).bind ((qh hx (by simp only [SM];omega)).bind ((qh hy (by simp only [SM];omega)).bind ?_))
 refine (yO (hx.Ci hm) (hy.Ci hn) (by simp only [SM];omega)).bind ?_
 have z1:=hx.num.zb.mul hy.num.zb
 have z3:=(hx.Ci hm).zb.mul (hy.Ci hn).zb
 have h0:dv x * dv y≠0:=Int.mul_ne_zero (uE x) (uE y)
 refine (nB (n:=m+n) z1.ib z3.ib (by rw [lu,j8,j8];exact h0) (by simp only [SM];omega)).bind ((Gv.pure _).eq ?_)
 rw [lu,lu,j8,j8]
 unfold qv
 rw [Rat.divInt_mul_divInt]
theorem Vo (hx:IR x m) (hy:IR y n) (hm:1≤m) (hn:1≤n) (h0:qv y≠0) (hs:SM (2 * (m+n)+2)):Gv (fun N=>ri N x y) (bj (qv x / qv y)):=by
 simp only [SM] at hs
 refine (qh hy (by simp only [SM];omega)).bind ((yO hx.num (hy.Ci hn) (by simp only [SM];omega)).bind ((qh hx (by simp only [SM];omega)).bind ((yO (hx.Ci hm) hy.num (by simp only [SM];omega)).bind ?_)))
 have z1:=hx.num.zb.mul (hy.Ci hn).zb
 have z3:=(hx.Ci hm).zb.mul hy.num.zb
 have hyn:zv y.fN≠0:=fun h=>h0 (by unfold qv;rw [h,Rat.zero_divInt])
 have h0:dv x * zv y.fN≠0:=Int.mul_ne_zero (uE x) hyn
 refine (nB (n:=m+n) z1.ib z3.ib (by rw [lu,j8];exact h0) (by simp only [SM];omega)).bind ((Gv.pure _).eq ?_)
 rw [lu,lu,j8,j8]
 unfold qv
 rw [uF (uE x) (uE y)]
def qm (q:Rat):Int:=q.num.sign
theorem Ll {a b:Int} (hb:b≠0):(Rat.divInt a b).num.sign=a.sign * b.sign:=by
 rw [Rat.num_divInt]
 have hg:Int.gcd b a≠0:=fun h=>hb (Int.gcd_eq_zero_iff.1 h).1
 obtain ⟨c,hc⟩:((Int.gcd b a:Nat):Int) ∣ a:=Int.gcd_dvd_right ..
 have e:b.sign * a / ((Int.gcd b a:Nat):Int)=b.sign * c:=by
  have e0:b.sign * a=((Int.gcd b a:Nat):Int) * (b.sign * c):=by rw [Int.mul_left_comm,← hc]
  rw [e0,Int.mul_ediv_cancel_left _ (by omega)]
 rw [e,Int.sign_mul,Int.sign_sign]
 have e2:a.sign=c.sign:=by
  have e0:=congrArg Int.sign hc
  rw [Int.sign_mul,Int.sign_eq_one_of_pos (show 0 < ((Int.gcd b a:Nat):Int) by omega),Int.one_mul] at e0
  exact e0
 rw [e2,gp]
theorem DS (z:Int):z.sign=0∨z.sign=1∨z.sign = -1:=by
 rcases Int.lt_trichotomy z 0 with h | h | h
 ·right;right;exact Int.sign_eq_neg_one_of_neg h
 ·left;rw [h];rfl
 ·right;left;exact Int.sign_eq_one_of_pos h
theorem zN (hx:IR x n) (hn:1≤n) (hs:SM n):Gv (fun N=>jW N x) (qm (qv x)):=by
 refine (EO hx.num hs).bind ((qh hx hs).bind ((EO (hx.Ci hn) hs).bind ((Gv.pure _).eq ?_)))
 rw [j8]
 unfold qm qv
 rw [Ll (uE x)]
 rcases DS (zv x.fN) with h | h | h<;>rcases DS (dv x) with h' | h' | h'<;>rw [h,h']<;>rfl
theorem PN (hx:IR x m) (hy:IR y n) (hm:1≤m) (hn:1≤n) (hs:SM (2 * (m+n+1)+2)):Gv (fun N=>pe N x y) (qm (qv x - qv y)):=by
 have HI:=hs
 simp only [SM] at HI
 refine (zM hx hy hm hn hs).bind ?_
 refine (zN ((hx.rb hm).sub (hy.rb hn)).ir (by omega) (by simp only [SM];omega)).bind ((Gv.pure _).eq ?_)
 rw [iV]
theorem GF (z:Int):Rat.divInt z 1=(z:Rat):=by
 apply Rat.ext
 ·rw [Rat.num_divInt];simp
 ·rw [Rat.den_divInt];simp
theorem Si (ha:IB a n) (hn:1≤n) (hs:SM (2 * n+2)):Gv (fun N=>zB N a) (bj (zv a:Rat)):=by
 refine (nB ha (Sh hn) (by rw [M9];decide) hs).bind ((Gv.pure _).eq ?_)
 rw [M9,GF]
theorem pQ {z:Int} (h1:-9223372036854775808≤z) (h2:z≤9223372036854775807):Gv (fun N=>du N z) (bj (z:Rat)):=by
 refine (Se h1 h2).bind ((Si (n:=4) (ZB.word h1 h2).ib (by decide) (by simp)).bind ((Gv.pure _).eq ?_))
 rw [lu]
theorem Vp {z:Int} (h1:-9223372036854775808≤z) (h2:z≤9223372036854775807):Gv (fun N=>Ir N z) (bj (z:Rat)) :=
 (Lk h1 h2).bind ((Lk (by decide) (by decide)).bind ((Gv.pure _).eq rfl))
theorem Sj {a b:Int} (h1:-9223372036854775808≤a) (h2:a≤9223372036854775807) (h3:-9223372036854775808≤b) (h4:b≤9223372036854775807) (h0:b≠0):Gv (fun N=>zC N a b) (bj (Rat.divInt a b),0):=by
 refine Gv.bg (by simpa using h0) ((Se h1 h2).bind ((Se h3 h4).bind ?_))
 refine (nB (n:=4) (ZB.word h1 h2).ib (ZB.word h3 h4).ib (by rw [lu];exact h0) (by simp)).bind ((Gv.pure _).eq ?_)
 rw [lu,lu]
end
theorem mT {q:Rat}:qm q < 0↔q < 0:=by
 unfold qm;rw [Rat.lt_iff]
 simp
theorem yP {q:Rat}:qm q=0↔q=0:=by
 unfold qm;rw [Int.sign_eq_zero_iff_zero];exact Rat.num_eq_zero
theorem JK {q:Rat}:0 < qm q↔0 < q:=by
 unfold qm;rw [Rat.lt_iff]
 simp
end Go.Den
namespace Go.Den
open Go.Ab
def aK {α:Type} (f:Nat→Nat→Option α) (r:α):Prop:=∃ N0,∀ N fuel,N0≤N→N0≤fuel→f N fuel=some r
theorem aK.diag {α:Type} {f:Nat→Nat→Option α} {r:α} (h:aK f r):Gv (fun N=>f N N) r:=let ⟨N0,h0⟩:=h;⟨N0,fun N hN=>h0 N N hN hN⟩
theorem aK.step {α:Type} {f:Nat→Nat→Option α} {r:α} (N1:Nat) (h:∀ N g,N1≤N→N1≤g→f N (g+1)=some r):aK f r :=
 ⟨N1+1,fun N fuel hN hf=>by obtain ⟨g,rfl⟩:∃ g,fuel=g+1:=⟨fuel - 1,by omega⟩;exact h N g (by omega) (by omega)⟩
def cs (c:fk) (i:Nat):Int:=c.ax.getD i 0
def cq (c:fk) (i:Nat):Rat:=qv (c.ba.getD i aa.d)
structure CB (c:fk) (n:Nat):Prop where
 one:1≤n
 len:c.ax.length≤1000
 XT:c.ba.length≤1000
 ir:∀ i,IR (c.ba.getD i aa.d) n
def jP (c:fk) (i:Nat):Option Int :=
 cond (cond (cond (decide (cs c i < -10000000)) true (decide (cs c i > 10000000))) true (decide (qm (cq c i) < 0))) (some 2) (cond (cond (decide (0 < i)) (decide (cs c i≤cs c (i - 1))) false) (some 10) none)
def th (c:fk):Int :=
 cond (decide (((c.ax.length:Nat):Int) > 40)) 8 (cond (((c.ba.length:Nat):Int) != ((c.ax.length:Nat):Int)) 11 (scan (jP c) 0 c.ax.length 0))
theorem Am {c:fk} {n:Nat} (h:CB c n) (hs:SM n) (hl:c.ba.length=c.ax.length):∀ k i,i+k=c.ax.length→aK (fun N fuel=>fz N c fuel (i:Int)) (scan (jP c) 0 k i)
 | 0,i,hi=>.step 0 fun N g _ _=>by
  have:i=c.ax.length:=by omega
  subst this
  rw [fz,eJ];rfl
 | k+1,i,hi=>by
  have hlen:=h.len
  obtain ⟨N1,h1⟩:=zN (h.ir i) h.one hs
  obtain ⟨N2,h2⟩:=Am h hs hl k (i+1) (by omega)
  dsimp only at h1 h2
  refine .step (N1+N2) fun N g hN hg=>?_
  rw [fz,dec_lt (by omega),cond_true,if_pos (mQ (by omega)),if_pos (fun _=>mQ (by omega)),an,bh (by omega),h2 N g (by omega) (by omega)]
  have Kx:jW N (⟨((c.ba.getD i aa.d).fN),((c.ba.getD i aa.d).fD)⟩:aa)=some (qm (cq c i)):=h1 N (by omega)
  rw [Kx]
  have e0:decide ((i:Int) > 0)=decide (0 < i):=by simp
  rw [e0]
  have e1:decide (0 < i)=true→aq ((i:Int) - 1)=((i - 1:Nat):Int):=fun h=>by have:=oJ h;rw [bE (by omega) (by omega)];omega
  rw [if_pos (fun h=>by rw [e1 h];exact mQ (by omega))]
  rw [scan]
  generalize scan (jP c) 0 k (i+1)=S
  unfold jP
  have e2:cond (decide (0 < i)) (decide (c.ax.getD i 0≤c.ax.getD (aq ((i:Int) - 1)).toNat 0)) false=cond (decide (0 < i)) (decide (cs c i≤cs c (i - 1))) false:=by
   cases h0:decide (0 < i) with
   | false=>rfl
   | true=>rw [e1 h0];rfl
  rw [e2]
  show (cond (!(cond (decide (cs c i < -10000000)) true (decide (cs c i > 10000000)))) (some (qm (cq c i))) (some 0)).bind (fun au=>cond (cond (cond (decide (cs c i < -10000000)) true (decide (cs c i > 10000000))) true (decide (au < 0))) (some 2) (cond (cond (decide (0 < i)) (decide (cs c i≤cs c (i - 1))) false) (some 10) (some S)))=_
  cases cond (decide (cs c i < -10000000)) true (decide (cs c i > 10000000)) with
  | true=>rfl
  | false =>
   rw [Bool.not_false,cond_true,bV]
   cases decide (qm (cq c i) < 0)<;>cases cond (decide (0 < i)) (decide (cs c i≤cs c (i - 1))) false<;>rfl
theorem HK {c:fk} {n:Nat} (h:CB c n) (hs:SM n):Gv (fun N=>nj N c) (th c):=by
 unfold nj th
 cases h1:decide (((c.ax.length:Nat):Int) > 40) with
 | true=>exact Gv.aG rfl (Gv.pure _)
 | false =>
  refine Gv.bg rfl ?_
  cases h2:(((c.ba.length:Nat):Int) != ((c.ax.length:Nat):Int)) with
  | true=>exact Gv.aG rfl (Gv.pure _)
  | false =>
   have:c.ba.length=c.ax.length:=by simp at h2;omega
   exact Gv.bg rfl (Am h hs this c.ax.length 0 (by omega)).diag
structure uG (c:fk):Prop where
 len:c.ax.length≤40
 XT:c.ba.length=c.ax.length
 lo:∀ i,i < c.ax.length→-10000000≤cs c i
 hi:∀ i,i < c.ax.length→cs c i≤10000000
 nn:∀ i,i < c.ax.length→0≤cq c i
 lt:∀ i,i+1 < c.ax.length→cs c i < cs c (i+1)
theorem PO {f:Nat→Option Int} (hf:∀ i,f i≠some 0):∀ (k m:Nat),scan f 0 k m=0→∀ i,m≤i→i < m+k→f i=none:=by
 intro k m h
 rcases K0 (f:=f) (z:=0) k m with ⟨i,r,_,_,h3,_,h5⟩ | ⟨h1,_⟩
 ·rw [h5] at h;subst h;exact absurd h3 (hf i)
 ·exact h1
theorem Sk {c:fk} (h:th c=0):uG c:=by
 unfold th at h
 cases h1:decide (((c.ax.length:Nat):Int) > 40) with
 | true=>rw [h1] at h;cases h
 | false =>
  rw [h1,cond_false] at h
  cases h2:(((c.ba.length:Nat):Int) != ((c.ax.length:Nat):Int)) with
  | true=>rw [h2] at h;cases h
  | false =>
   rw [h2,cond_false] at h
   have qz:=PO (f:=jP c) (fun i hi=>by
    unfold jP at hi
    revert hi
    cases cond (cond (decide (cs c i < -10000000)) true (decide (cs c i > 10000000))) true (decide (qm (cq c i) < 0))<;>cases cond (decide (0 < i)) (decide (cs c i≤cs c (i - 1))) false<;>decide) _ _ h
   have one:∀ i,i < c.ax.length→(-10000000≤cs c i∧cs c i≤10000000∧0≤cq c i)∧(0 < i→cs c (i - 1) < cs c i):=by
    intro i hi
    have:=qz i (Nat.zero_le _) (by omega)
    unfold jP at this
    cases ha:cond (cond (decide (cs c i < -10000000)) true (decide (cs c i > 10000000))) true (decide (qm (cq c i) < 0)) with
    | true=>rw [ha] at this;cases this
    | false =>
     rw [ha,cond_false] at this
     cases hb:cond (decide (0 < i)) (decide (cs c i≤cs c (i - 1))) false with
     | true=>rw [hb] at this;cases this
     | false =>
      cases h3:decide (cs c i < -10000000) with
      | true=>rw [h3] at ha;cases ha
      | false =>
       rw [h3,cond_false] at ha
       cases h4:decide (cs c i > 10000000) with
       | true=>rw [h4] at ha;cases ha
       | false =>
        rw [h4,cond_false] at ha
        have h3:=lz h3
        have h4:=lz h4
        have ha:=lz ha
        refine ⟨⟨by omega,by omega,?_⟩,fun h0=>?_⟩
        ·rw [mT] at ha;exact Rat.not_lt.1 ha
        ·rw [decide_eq_true h0,cond_true] at hb
         have:=lz hb
         omega
   have h1:=lz h1
   refine ⟨by omega,by simp at h2;omega,fun i hi=>(one i hi).1.1,fun i hi=>(one i hi).1.2.1,fun i hi=>(one i hi).1.2.2,fun i hi=>?_⟩
   have:=(one (i+1) hi).2 (by omega)
   rwa [Nat.add_sub_cancel] at this
def DT (R:Rat→Rat→Rat→Rat) (c:fk) (y:Rat):Nat→Nat→Rat→Rat→Rat
 | 0,_,_,acc=>acc
 | k+1,i,before,acc=>if y - (cs c i:Rat) < 0 then acc else DT R c y k (i+1) (cq c i) (R (cq c i - before) (y - (cs c i:Rat)) acc)
structure XU (RD:Nat→aa→aa→aa→Option aa) (R:Rat→Rat→Rat→Rat) (A B C:Nat):Prop where
 run:∀ (ch fr acc:Rat) (m:Nat),RB ch A→RB fr B→RB acc m→1≤m→m≤100000000→Gv (fun N=>RD N (bj ch) (bj fr) (bj acc)) (bj (R ch fr acc))
 XV:∀ (ch fr acc:Rat) (m:Nat),RB ch A→RB fr B→RB acc m→RB (R ch fr acc) (m+C)
theorem Sl {c:fk} (hr:uG c) {i:Nat} (hi:i < c.ax.length):RB (cs c i:Rat) 4:=by
 have:=hr.lo i hi;have:=hr.hi i hi
 exact RB.int (ZB.word (by omega) (by omega)) (by decide)
theorem Lm {RD:Nat→aa→aa→aa→Option aa} {R:Rat→Rat→Rat→Rat} {c:fk} {y:aa} {n p C:Nat} (hR:XU RD R (2 * n+1) (p+5) C) (h:CB c n) (hr:uG c) (hy:IR y p) (hp:1≤p) (G6:n≤1000000) (tX:p≤1000000) (hC:C≤1000000) :
  ∀ (k i m:Nat) (before acc:Rat) (b:aa),i+k=c.ax.length→RB acc m→1≤m→m+k * C≤100000000→IR b n→qv b=before→aK (fun N fuel=>gL N (RD N) c y fuel (bj acc) b (i:Int)) (bj (DT R c (qv y) k i before acc))
 | 0,i,m,before,acc,b,hi,_,_,_,_,_=>.step 0 fun N g _ _=>by
  have:i=c.ax.length:=by omega
  subst this
  rw [gL,eJ];rfl
 | k+1,i,m,before,acc,b,hi,hm,J5,hmC,hb,Yn=>by
  have hlen:=h.len
  have ze:i < c.ax.length:=by omega
  have VW:=hr.lo i ze
  have NA:=hr.hi i ze
  have hsn:=Sl hr ze
  have qJ:(k+1) * C=k * C+C:=Nat.succ_mul _ _
  obtain ⟨N1,h1⟩:=pQ (z:=cs c i) (by omega) (by omega)
  obtain ⟨N2,h2⟩:=zM (x:=y) (y:=bj (cs c i:Rat)) hy hsn.ir hp (by decide) (by simp only [SM];omega)
  rw [iV] at h2
  have LV:RB (qv y - (cs c i:Rat)) (p+5):=(hy.rb hp).sub hsn
  obtain ⟨N3,h3⟩:=zN LV.ir (by omega) (by simp only [SM];omega)
  rw [iV] at h3
  obtain ⟨N4,h4⟩:=zM (x:=c.ba.getD i aa.d) (y:=b) (h.ir i) hb h.one h.one (by simp only [SM];omega)
  rw [Yn] at h4
  have hch:RB (cq c i - before) (2 * n+1):=by
   have:=((h.ir i).rb h.one).sub (hb.rb h.one)
   rw [Yn] at this
   exact this.le (by omega)
  obtain ⟨N5,h5⟩:=hR.run (cq c i - before) (qv y - (cs c i:Rat)) acc m hch LV hm J5 (by omega)
  have adv:=hR.XV (cq c i - before) (qv y - (cs c i:Rat)) acc m hch LV hm
  obtain ⟨N6,h6⟩:=Lm hR h hr hy hp G6 tX hC k (i+1) (m+C) (cq c i) (R (cq c i - before) (qv y - (cs c i:Rat)) acc) (c.ba.getD i aa.d) (by omega) adv (by omega) (by omega) (h.ir i) rfl
  dsimp only at h1 h2 h3 h4 h5 h6
  refine .step (N1+N2+N3+N4+N5+N6) fun N g hN hg=>?_
  have Y2:=hr.XT
  rw [gL,dec_lt ze,cond_true,if_pos (mQ ze),an]
  have Kx:du N (c.ax.getD i 0)=some (bj (cs c i:Rat)):=h1 N (by omega)
  rw [Kx,bV,h2 N (by omega),bV,h3 N (by omega),bV,if_pos (fun _=>mQ (by omega)),bh (by omega)]
  have h4':lj N (⟨((c.ba.getD i aa.d).fN),((c.ba.getD i aa.d).fD)⟩:aa) b=some (bj (cq c i - before)):=h4 N (by omega)
  unfold DT
  by_cases rL:qv y - (cs c i:Rat) < 0
  ·have hd:decide (qm (qv y - (cs c i:Rat)) < 0)=true:=decide_eq_true (mT.2 rL)
   rw [hd,if_pos rL];rfl
  ·have hd:decide (qm (qv y - (cs c i:Rat)) < 0)=false:=decide_eq_false fun h=>rL (mT.1 h)
   rw [hd,if_neg rL,Bool.not_false,cond_true,h4',bV,cond_true,h5 N (by omega),bV,cond_false,Bool.not_true,cond_false,if_pos (mQ (by omega))]
   exact h6 N g (by omega) (by omega)
theorem Sm {RD:Nat→aa→aa→aa→Option aa} {R:Rat→Rat→Rat→Rat} {c:fk} {y:aa} {n p C:Nat} (hR:XU RD R (2 * n+1) (p+5) C) (h:CB c n) (hr:uG c) (hy:IR y p) (hp:1≤p) (G6:n≤1000000) (tX:p≤1000000) (hC:C≤1000000) :
  Gv (fun N=>uw N (RD N) (bj 0) c y) (bj (DT R c (qv y) c.ax.length 0 0 0)):=by
 have h0:RB 0 1:=RB.int (z:=0) (ZB.small (by decide)) (by decide)
 have hl:=hr.len
 have hlC:c.ax.length * C≤40 * 1000000:=Nat.mul_le_mul hl hC
 refine (pQ (z:=0) (by decide) (by decide)).bind ?_
 exact (Lm hR h hr hy hp G6 tX hC c.ax.length 0 1 0 0 (bj 0) (by omega) h0 (by decide) (by omega) (h0.ir.le h.one) (iV 0)).diag
def Vq (ch fr acc:Rat):Rat:=acc+ch * fr
theorem Z1 {A B:Nat} (hA:1≤A) (hB:1≤B) (h1:A≤10000000) (h2:B≤10000000):XU rj Vq A B (A+B+1) where
 run:=fun ch fr acc m hc hf ha hm As=>by
  refine (Iv hc.ir hf.ir hA hB (by simp only [SM];omega)).bind ?_
  rw [iV,iV]
  refine (Dr ha.ir (hc.mul hf).ir hm (by omega) (by simp only [SM];omega)).bind ((Gv.pure _).eq ?_)
  rw [iV,iV];rfl
 XV:=fun ch fr acc m hc hf ha=>(ha.add (hc.mul hf)).le (by omega)
section
variable {c:fk} {y:aa} {n p:Nat}
def Wk (R:Rat→Rat→Rat→Rat) (c:fk) (y:Rat):Rat:=DT R c y c.ax.length 0 0 0
theorem Sn (h:CB c n) (h0:th c=0) (hy:IR y p) (hp:1≤p) (G6:n≤100000) (tX:p≤100000):Gv (fun N=>zD N c y) (bj (Wk Vq c (qv y)),0):=by
 refine (HK h (by simp only [SM];omega)).bind (Gv.bg (by rw [h0];rfl) ?_)
 refine (pQ (z:=0) (by decide) (by decide)).bind (Gv.bind (Gv.pure (c,y)) ?_)
 exact (Sm (Z1 (A:=2 * n+1) (B:=p+5) (by omega) (by omega) (by omega) (by omega)) h (Sk h0) hy hp (by omega) (by omega) (by omega)).bind (Gv.pure _)
end
end Go.Den
namespace Go.Den
open Go.Ab
theorem GG {a:bM} (hl:SM a.fL.length):∀ k i,i+k=a.fL.length→aK (fun N fuel=>iK N a a fuel (i:Int)) true
 | 0,i,hi=>.step 0 fun N g _ _=>by
  have:i=a.fL.length:=by omega
  subst this
  rw [iK,eJ];rfl
 | k+1,i,hi=>by
  simp only [SM] at hl
  obtain ⟨N1,h1⟩:=GG (a:=a) hl k (i+1) (by omega)
  dsimp only at h1
  refine .step N1 fun N g hN hg=>?_
  rw [iK,dec_lt (by omega),cond_true,if_pos (mQ (by omega)),if_pos (mQ (by omega)),bh (by omega)]
  have e:(a.fL.getD ((i:Int)).toNat 0 != a.fL.getD ((i:Int)).toNat 0)=false:=by simp
  rw [e,cond_false]
  exact h1 N g hN hg
theorem A3 (a:bM) (hl:SM a.fL.length):Gv (fun N=>kX N a a) true:=by
 unfold kX
 refine Gv.bg ?_ (GG hl a.fL.length 0 (by omega)).diag
 cases a.fG<;>simp
theorem Ln {z:Int} {n:Nat} (h:ZB z n) (hn:SM n):Gv (fun N=>kX N (tS z) (tS z)) true :=
 A3 _ (by unfold ZB at h;simp only [SM,tS] at *;omega)
theorem GH (x:aa) (h1:SM x.fN.fL.length) (h2:SM x.fD.fL.length):Gv (fun N=>iL N x x) true :=
 (A3 _ h1).bind (Gv.bind (Gv.aG rfl (A3 _ h2)) (Gv.pure _))
theorem GI {q:Rat} {n:Nat} (h:RB q n) (hn:SM n):Gv (fun N=>iL N (bj q) (bj q)) true:=by
 have h1:=h.num
 have h2:=h.den
 unfold ZB at h1 h2
 exact GH _ (by simp only [SM,bj,tS] at *;omega) (by simp only [SM,bj,tS] at *;omega)
theorem Z2:Gv (fun N=>FR N [2,0]) [bj 2,bj 0]:=by
 obtain ⟨N1,h1⟩:=Vp (z:=2) (by decide) (by decide)
 obtain ⟨N2,h2⟩:=Vp (z:=0) (by decide) (by decide)
 dsimp only at h1 h2
 refine .of (N1+N2+5) fun N hN=>?_
 unfold FR
 obtain ⟨g,rfl⟩:∃ g,N=g+3:=⟨N - 3,by omega⟩
 rw [pG,decide_eq_true (by decide),cond_true,if_pos (by decide)]
 rw [show ([2,0]:List Int).getD ((0:Int)).toNat 0=2 from rfl,h1 _ (by omega),bV,if_pos (by decide),bE (by decide) (by decide)]
 rw [pG,decide_eq_true (by decide),cond_true,if_pos (by decide)]
 rw [show ([2,0]:List Int).getD ((0:Int)+1).toNat 0=0 from rfl,h2 _ (by omega),bV,if_pos (by decide),bE (by decide) (by decide)]
 rw [pG,decide_eq_false (by decide),cond_false]
 rfl
theorem adw:Gv (fun N=>KW N (-3) 2) (bj (Rat.divInt (-3) 2)):=by
 obtain ⟨N1,h1⟩:=Lk (z:=-3) (by decide) (by decide)
 obtain ⟨N2,h2⟩:=Lk (z:=2) (by decide) (by decide)
 dsimp only at h1 h2
 refine .of (N1+N2+8) fun N hN=>?_
 unfold KW
 rw [decide_eq_false (by decide),cond_false]
 unfold yk
 rw [decide_eq_true (by decide),cond_true,show aq (0 - (-3))=3 from by decide]
 obtain ⟨g,rfl⟩:∃ g,N=g+4:=⟨N - 4,by omega⟩
 rw [p8,decide_eq_true (by decide),cond_true,if_pos (by decide),show (3:Int).tmod 2=1 from by decide]
 rw [p8,decide_eq_true (by decide),cond_true,if_pos (by decide),show (2:Int).tmod 1=0 from by decide]
 rw [p8,decide_eq_false (by decide),cond_false,if_pos (by decide),show aq ((-3:Int).tdiv 1) = -3 from by decide,show aq ((2:Int).tdiv 1)=2 from by decide,h1 _ (by omega),bV,h2 _ (by omega),bV]
 rfl
def qi:fk:=⟨[0,10],[bj 2,bj 0]⟩
theorem JL {k:Nat} (h:k < 65536):RB (((k:Int):Rat)) 1:=RB.int (ZB.small (by omega)) (by decide)
theorem PQ:CB qi 1 where
 one:=by decide
 len:=by decide
 XT:=by decide
 ir:=fun i=>by
  match i with
  | 0=>exact (JL (k:=2) (by decide)).ir
  | 1=>exact (JL (k:=0) (by decide)).ir
  | i+2=>exact ⟨⟨U.nil,by show (0:Nat)≤1;decide⟩,⟨U.nil,by show (0:Nat)≤1;decide⟩⟩
theorem Na:th qi=0:=by
 have e0:cq qi 0=2:=iV 2
 have e1:cq qi 1=0:=iV 0
 have s0:jP qi 0=none:=by unfold jP;rw [e0];rfl
 have s1:jP qi 1=none:=by unfold jP;rw [e1];rfl
 show scan (jP qi) 0 2 0=0
 rw [scan,s0]
 show scan (jP qi) 0 1 1=0
 rw [scan,s1];rfl
theorem PR:Wk Vq qi 5=10:=by
 have e0:cq qi 0=2:=iV 2
 show DT Vq qi 5 2 0 0 0=10
 unfold DT
 rw [show cs qi 0=0 from rfl,if_neg (by decide +kernel),e0]
 unfold DT
 rw [show cs qi (0+1)=10 from rfl,if_pos (by decide +kernel)]
 decide +kernel
theorem yQ:Gv (fun N=>kY N) true:=by
 refine (Lk (z:=-7) (by decide) (by decide)).bind ((Lk (z:=2) (by decide) (by decide)).bind ?_)
 refine Gv.bind (r:=(tS (-4),tS 1,0)) ?_ ?_
 ·have:=PJ (a:=tS (-7)) (b:=tS 2) (m:=1) (n:=1) (ZB.small (by decide)).ib (ZB.small (by decide)).ib (by decide) (by rw [lu];decide)
  rw [lu,lu] at this;exact this
 refine (Sj (a:=6) (b:=-4) (by decide) (by decide) (by decide) (by decide) (by decide)).bind (Z2.bind ((Vp (z:=5) (by decide) (by decide)).bind ?_))
 refine Gv.bind (r:=(bj 10,0)) ?_ ?_
 ·have:=Sn (c:=qi) (y:=bj 5) (n:=1) (p:=1) PQ Na (JL (k:=5) (by decide)).ir (by decide) (by decide) (by decide)
  rw [iV,PR] at this;exact this
 refine Gv.bind (Gv.aG rfl (Lk (z:=-4) (by decide) (by decide))) ?_
 refine Gv.bind (Gv.aG rfl (Ln (n:=1) (ZB.small (by decide)) (by decide))) ?_
 refine Gv.bind (Gv.aG rfl (Lk (z:=1) (by decide) (by decide))) ?_
 refine Gv.bind (Gv.aG rfl (Ln (n:=1) (ZB.small (by decide)) (by decide))) ?_
 refine Gv.bind (Gv.aG rfl adw) ?_
 have e:Rat.divInt 6 (-4)=Rat.divInt (-3) 2:=by decide +kernel
 rw [e]
 refine Gv.bind (Gv.aG rfl (GI (n:=1) (wm (ZB.small (by decide)) (ZB.small (by decide)) (by decide)) (by decide))) ?_
 refine Gv.bind (Gv.aG rfl (Vp (z:=10) (by decide) (by decide))) ?_
 refine Gv.bind (Gv.aG rfl (GI (n:=1) (JL (k:=10) (by decide)) (by decide))) (Gv.pure _)
end Go.Den
namespace Go.Den
open Go.Ab
structure RQ (x:aa) (p:Rat) (n:Nat):Prop where
 ir:IR x n
 v:qv x=p
 pos:1≤n
structure ZI (a:bM) (z:Int) (n:Nat):Prop where
 ib:IB a n
 v:zv a=z
theorem RQ.rb {x:aa} {p:Rat} {n:Nat} (h:RQ x p n):RB p n:=h.v ▸ h.ir.rb h.pos
theorem RB.rq {p:Rat} {n:Nat} (h:RB p n) (hn:1≤n):RQ (bj p) p n:=⟨h.ir,iV p,hn⟩
theorem RQ.le {x:aa} {p:Rat} {m n:Nat} (h:RQ x p m) (Oz:m≤n):RQ x p n:=⟨h.ir.le Oz,h.v,dj h.pos Oz⟩
theorem ZI.zb {a:bM} {z:Int} {n:Nat} (h:ZI a z n):ZB z n:=h.v ▸ h.ib.zb
theorem ZB.zi {z:Int} {n:Nat} (h:ZB z n):ZI (tS z) z n:=⟨h.ib,lu z⟩
theorem ZI.le {a:bM} {z:Int} {m n:Nat} (h:ZI a z m) (Oz:m≤n):ZI a z n:=⟨h.ib.le Oz,h.v⟩
theorem IB.OA {a:bM} (h:bM.wf a) {n:Nat} (hn:a.fL.length≤n):IB a n :=
 ⟨fun x hx=>by
  have:=h.2.2 x hx
  unfold wK at this
  have e1:IntKind.u16.min=0:=by decide
  have e2:IntKind.u16.max=65535:=by decide
  omega,hn⟩
section
variable {a b:bM} {x y:aa} {m n:Nat} {p q:Rat} {z w:Int}
theorem RQ.add (hx:RQ x p m) (hy:RQ y q n) (hs:SM (2 * (m+n+1)+2)):Gv (fun N=>er N x y) (bj (p+q)):=by
 have:=Dr hx.ir hy.ir hx.pos hy.pos hs;rwa [hx.v,hy.v] at this
theorem RQ.sub (hx:RQ x p m) (hy:RQ y q n) (hs:SM (2 * (m+n+1)+2)):Gv (fun N=>lj N x y) (bj (p - q)):=by
 have:=zM hx.ir hy.ir hx.pos hy.pos hs;rwa [hx.v,hy.v] at this
theorem RQ.mul (hx:RQ x p m) (hy:RQ y q n) (hs:SM (2 * (m+n)+2)):Gv (fun N=>e8 N x y) (bj (p * q)):=by
 have:=Iv hx.ir hy.ir hx.pos hy.pos hs;rwa [hx.v,hy.v] at this
theorem RQ.Jl (hx:RQ x p m) (hy:RQ y q n) (h0:q≠0) (hs:SM (2 * (m+n)+2)):Gv (fun N=>ri N x y) (bj (p / q)):=by
 have:=Vo hx.ir hy.ir hx.pos hy.pos (by rw [hy.v];exact h0) hs;rwa [hx.v,hy.v] at this
theorem RQ.cmp (hx:RQ x p m) (hy:RQ y q n) (hs:SM (2 * (m+n+1)+2)):Gv (fun N=>pe N x y) (qm (p - q)):=by
 have:=PN hx.ir hy.ir hx.pos hy.pos hs;rwa [hx.v,hy.v] at this
theorem RQ.qm (hx:RQ x p m) (hs:SM m):Gv (fun N=>jW N x) (qm p):=by
 have:=zN hx.ir hx.pos hs;rwa [hx.v] at this
theorem RQ.low (hx:RQ x p m) (hs:SM (2 * m+2)):Gv (fun N=>jg N x) (bj p):=by
 have:=Dp hx.ir hx.pos hs;rwa [hx.v] at this
theorem RQ.zero (hx:RQ x p m) (hs:SM m):Gv (fun N=>gI N x) (decide (p=0)):=by
 have:=Dq hx.ir hs;rwa [hx.v] at this
theorem ZI.add (ha:ZI a z n) (hb:ZI b w n) (hs:SM (n+1)):Gv (fun N=>BD N a b) (tS (z+w)):=by
 have:=Sc ha.ib hb.ib hs;rwa [ha.v,hb.v] at this
theorem ZI.mul (ha:ZI a z m) (hb:ZI b w n) (hs:SM (m+n)):Gv (fun N=>pY N a b) (tS (z * w)):=by
 have:=yO ha.ib hb.ib hs;rwa [ha.v,hb.v] at this
end
end Go.Den
namespace Go.Den
open Go.Ab
theorem Lo {N:Nat} {a:List Int} (ha:U a) (hs:SM a.length):∀ (n fuel:Nat),n≤a.length→n < fuel→bL (a.take n)=bL a→jH N a fuel (n:Int)=some (lm (bL a).toNat)
 | 0,fuel,_,hf,hv=>by
  obtain ⟨g,rfl⟩:∃ g,fuel=g+1:=⟨fuel - 1,by omega⟩
  rw [jH,if_pos (fun h=>by cases h)]
  have e:bL a=0:=by rw [← hv];simp [bL]
  rw [e]
  have e1:cond (decide (((0:Nat):Int) > 0)) (a.getD (aq (((0:Nat):Int) - 1)).toNat 0 == 0) false=false:=rfl
  rw [e1,cond_false,if_pos ⟨by simp,by simp⟩,if_pos (by simp),if_pos (by simp)]
  simp [fV]
 | n+1,fuel,hn,hf,hv=>by
  obtain ⟨g,rfl⟩:∃ g,fuel=g+1:=⟨fuel - 1,by omega⟩
  simp only [SM] at hs
  have e1:aq (((n+1:Nat):Int) - 1)=(n:Int):=by rw [bE (by omega) (by omega)];omega
  have h1:=cZ a n (by omega)
  rw [jH,e1,if_pos (fun _=>mQ (by omega)),decide_eq_true (by omega),cond_true,an]
  cases hx:(a.getD n 0 == 0) with
  | true =>
   have Rf:a.getD n 0=0:=eq_of_beq hx
   rw [cond_true]
   exact Lo ha hs n g (by omega) (by omega) (by rw [h1,Rf] at hv;omega)
  | false =>
   have Rf:a.getD n 0≠0:=fun h=>by rw [h] at hx;cases hx
   rw [cond_false,an,if_pos ⟨Nat.zero_le _,hn⟩,if_pos (by omega),if_pos (by omega),List.nil_append,List.drop_zero,← hv]
   congr 1
   refine (On (ha.take _) fun m x he=>?_).symm
   have hl:m.length=n:=by have:=congrArg List.length he;rw [oK] at this;simp at this;omega
   have:(a.take (n+1)).getD n 0=x:=by rw [he,← hl];simp [List.getD]
   rw [eh,List.getElem?_take_of_lt (by omega),← eh] at this
   rw [← this];exact Rf
theorem tT {N:Nat} {a:List Int} (ha:U a) (hs:SM a.length) (hN:a.length < N):l6 N a=some (lm (bL a).toNat) :=
 Lo ha hs a.length N (aR _) hN (by rw [List.take_length])
theorem OB {N:Nat} {a:List Int} (ha:U a) (hs:SM a.length) (hN:a.length < N):∀ (k i fuel:Nat),i+k=a.length→k < fuel→jI N a fuel (a.take i) (i:Int)=some (lm (bL a).toNat)
 | 0,i,fuel,hi,hf=>by
  obtain ⟨g,rfl⟩:∃ g,fuel=g+1:=⟨fuel - 1,by omega⟩
  have:i=a.length:=by omega
  subst this
  rw [jI,eJ,cond_false,List.take_length,tT ha hs hN,bV]
 | k+1,i,fuel,hi,hf=>by
  obtain ⟨g,rfl⟩:∃ g,fuel=g+1:=⟨fuel - 1,by omega⟩
  simp only [SM] at hs
  have h1:=ha.getD i
  rw [jI,dec_lt (by omega),cond_true,if_pos (mQ (by omega)),if_pos (by rw [oK];omega),an,bE (by omega) (by omega),bh (by omega)]
  have e:a.take i ++ [a.getD i 0]=a.take (i+1):=by rw [List.take_add_one];simp [List.getD,show i < a.length by omega]
  rw [e]
  exact OB ha (by simp only [SM];omega) hN k (i+1) g (by omega) (by omega)
theorem XW {N:Nat} {a:List Int} (ha:U a) (hs:SM a.length) (hN:a.length < N):ic N a=some (lm (bL a).toNat):=by
 have:=OB ha hs hN a.length 0 N (by omega) hN
 unfold ic
 simpa using this
theorem OC {N:Nat} {neg:Bool} {a:List Int} (ha:U a) (hs:SM a.length):∀ (k i fuel:Nat),i+k=a.length→k < fuel→jG N neg a fuel (a.take i) (i:Int)=some ⟨cond neg (decide (((a.length:Nat):Int) > 0)) false,a⟩
 | 0,i,fuel,hi,hf=>by
  obtain ⟨g,rfl⟩:∃ g,fuel=g+1:=⟨fuel - 1,by omega⟩
  have:i=a.length:=by omega
  subst this
  rw [jG,eJ,cond_false,List.take_length]
 | k+1,i,fuel,hi,hf=>by
  obtain ⟨g,rfl⟩:∃ g,fuel=g+1:=⟨fuel - 1,by omega⟩
  simp only [SM] at hs
  have h1:=ha.getD i
  rw [jG,dec_lt (by omega),cond_true,if_pos (mQ (by omega)),if_pos (by rw [oK];omega),an,n4 (by omega) (by omega),bh (by omega)]
  have e:a.take i ++ [a.getD i 0]=a.take (i+1):=by rw [List.take_add_one];simp [List.getD,show i < a.length by omega]
  rw [e]
  exact OC ha (by simp only [SM];omega) k (i+1) g (by omega) (by omega)
theorem Vr (neg:Bool) {k:Nat} (hk:SM (lm k).length):Gv (fun N=>fy N neg (lm k)) (tS (sg neg k)) :=
 .of ((lm k).length+1) fun N hN=>by
  have:=OC (N:=N) (neg:=neg) (rK k) hk (lm k).length 0 N (by omega) (by omega)
  rw [List.take_zero] at this
  unfold fy
  rw [show ((0:Nat):Int)=0 from rfl] at this
  rw [this]
  by_cases h:k=0
  ·subst h;rw [fV,Oy];cases neg<;>rfl
  ·rw [R9 _ _ h]
   have:=j7.2 h
   rw [decide_eq_true (by omega)];cases neg<;>rfl
theorem zO (N:Nat) (a:List Int) (i:Nat):lR N a (i:Int)=some (a.getD i 0):=by
 unfold lR
 by_cases h:i < a.length
 ·rw [dec_lt h,cond_true,if_pos (mQ h),an]
 ·rw [decide_eq_false (by omega),cond_false,uD (by omega)]
theorem oE (a:List Int) (i:Nat):bL (a.take (i+1))=bL (a.take i)+a.getD i 0 * pw i:=by
 by_cases h:i < a.length
 ·exact cZ a i h
 ·rw [iY (by omega),iY (by omega),uD (by omega)];simp
theorem So {N:Nat} {a b:List Int} (ha:U a) (hb:U b) (hs:SM (a.length+b.length+2)) (hN:a.length+b.length+2 < N):∀ (k i fuel:Nat) (out:List Int) (c:Int),a.length+b.length+1≤i+k→k < fuel→out.length=i→i≤a.length+b.length+1→U out→0≤c→c≤1 →
  (a.length < i∧b.length < i→c=0)→bL out+pw i * c=bL (a.take i)+bL (b.take i)→jJ N a b fuel out c (i:Int)=some (lm (bL a+bL b).toNat):=by
 intro k
 simp only [SM] at hs
 induction k with
 | zero =>
  intro i fuel out c hi hf ho Tt hU tW s5 EX hinv
  obtain ⟨g,rfl⟩:∃ g,fuel=g+1:=⟨fuel - 1,by omega⟩
  have hc:=EX ⟨by omega,by omega⟩
  subst hc
  rw [jJ,decide_eq_false (by omega),decide_eq_false (by omega),decide_eq_false (by decide)]
  simp only [cond_false]
  rw [tT hU (by simp only [SM];omega) (by omega),bV]
  rw [iY (by omega),iY (by omega)] at hinv
  rw [show bL out=bL a+bL b by omega]
 | succ k ih =>
  intro i fuel out c hi hf ho Tt hU tW s5 EX hinv
  obtain ⟨g,rfl⟩:∃ g,fuel=g+1:=⟨fuel - 1,by omega⟩
  rw [jJ]
  by_cases Yv:i < a.length∨i < b.length∨0 < c
  ·have e:cond (cond (decide ((i:Int) < ((a.length:Nat):Int))) true (decide ((i:Int) < ((b.length:Nat):Int)))) true (decide (c > 0))=true:=by
    rcases Yv with h | h | h
    ·rw [dec_lt h];rfl
    ·rw [dec_lt h];cases decide ((i:Int) < ((a.length:Nat):Int))<;>rfl
    ·rw [decide_eq_true (show c > 0 by omega)];cases cond (decide ((i:Int) < ((a.length:Nat):Int))) true (decide ((i:Int) < ((b.length:Nat):Int)))<;>rfl
   have h1:=ha.getD i
   have h2:=hb.getD i
   have agJ:i≤a.length+b.length:=by
    rcases Yv with h | h | h
    ·omega
    ·omega
    ·have:¬ (a.length < i∧b.length < i):=fun h'=>by have:=EX h';omega
     omega
   rw [e,cond_true,zO,bV,zO,bV,if_pos (by omega),bE (n:=a.getD i 0+b.getD i 0) (by omega) (by omega),bE (n:=a.getD i 0+b.getD i 0+c) (by omega) (by omega),bh (by omega)]
   generalize hsm:a.getD i 0+b.getD i 0+c=s
   have LZ:0≤s:=by omega
   rw [Int.tmod_eq_emod_of_nonneg LZ,Int.tdiv_eq_ediv_of_nonneg LZ,bE (n:=s / 65536) (by omega) (by omega)]
   refine ih (i+1) g _ _ (by omega) (by omega) (by simp [ho]) (by omega) (hU.append (U.one (by omega) (by omega))) (by omega) (by omega) (fun h=>?_) ?_
   ·have e1:=uD (show a.length≤i by omega)
    have e2:=uD (show b.length≤i by omega)
    omega
   ·rw [lr,qO,ho,oE a,oE b,fU]
    have h5:s=s % 65536+65536 * (s / 65536):=by omega
    have h6:pw i * s=pw i * (s % 65536)+pw i * (65536 * (s / 65536)):=by rw [← gX,← h5]
    have h7:pw i * s=a.getD i 0 * pw i+b.getD i 0 * pw i+pw i * c:=by rw [← hsm,gX,gX,gp (pw i) (a.getD i 0),gp (pw i) (b.getD i 0)]
    have h8:65536 * pw i * (s / 65536)=pw i * (65536 * (s / 65536)):=by rw [gp 65536,kF]
    omega
  ·have e:cond (cond (decide ((i:Int) < ((a.length:Nat):Int))) true (decide ((i:Int) < ((b.length:Nat):Int)))) true (decide (c > 0))=false:=by
    rw [decide_eq_false (by omega),decide_eq_false (by omega),decide_eq_false (by omega)];rfl
   have hc:c=0:=by omega
   subst hc
   rw [e,cond_false,tT hU (by simp only [SM];omega) (by omega),bV]
   rw [iY (by omega),iY (by omega)] at hinv
   rw [show bL out=bL a+bL b by omega]
theorem Sp {N a b:Nat} (hs:SM ((lm a).length+(lm b).length+2)) (hN:(lm a).length+(lm b).length+3 < N):wU N (lm a) (lm b)=some (lm (a+b)):=by
 have:=So (N:=N) (rK a) (rK b) hs (by omega) ((lm a).length+(lm b).length+1) 0 N [] 0 (by omega) (by omega) rfl (by omega) U.nil (by omega) (by omega) (fun _=>rfl) (by simp [bL])
 rw [gV,gV] at this
 exact this
theorem DU {N:Nat} {a b:List Int} (ha:U a) (hb:U b) (hl:a.length=b.length) (hs:SM a.length):∀ (k fuel:Nat),k≤a.length→k < fuel→gk N a b fuel ((k:Int) - 1)=some (M8 a b k)
 | 0,fuel,_,hf=>by
  obtain ⟨g,rfl⟩:∃ g,fuel=g+1:=⟨fuel - 1,by omega⟩
  rw [gk];rfl
 | k+1,fuel,hk,hf=>by
  obtain ⟨g,rfl⟩:∃ g,fuel=g+1:=⟨fuel - 1,by omega⟩
  simp only [SM] at hs
  have e:(((k+1:Nat):Int) - 1)=(k:Int):=by omega
  have h1:=ha.getD k
  have h2:=hb.getD k
  rw [e,gk,decide_eq_true (by omega),cond_true,if_pos (mQ (by omega)),if_pos (mQ (by omega)),an,bE (n:=a.getD k 0 - b.getD k 0) (by omega) (by omega),bE (n:=(k:Int) - 1) (by omega) (by omega),DU ha hb hl (by simp only [SM];omega) k g (by omega) (by omega)]
  rw [M8]
  cases (a.getD k 0 != b.getD k 0)<;>rfl
theorem B0 {N a b:Nat} (hN:(lm a).length < N) (ha:SM (lm a).length) (hb:SM (lm b).length):mo N (lm a) (lm b)=some (HH a b):=by
 unfold mo HH
 simp only [SM] at ha hb
 cases hl:((((lm a).length:Nat):Int) != (((lm b).length:Nat):Int)) with
 | true=>rw [cond_true,cond_true,bE (by omega) (by omega)]
 | false =>
  have heq:(lm a).length=(lm b).length:=by simp at hl;omega
  rw [cond_false,cond_false,bE (by omega) (by omega)]
  exact DU (rK a) (rK b) heq ha _ N (aR _) hN
theorem Iw {N:Nat} {a b:List Int} (ha:U a) (hb:U b) (hl:b.length≤a.length) (hle:bL b≤bL a) (hs:SM a.length) (hN:a.length+1 < N):∀ (k x fuel:Nat) (out:List Int) (c:Int),x+k=a.length→k < fuel→out.length=x→U out→0≤c→c≤1 →
  bL out - pw x * c=bL (a.take x) - bL (b.take x)→fK N a b fuel out c (x:Int)=some (lm (bL a - bL b).toNat)
 | 0,x,fuel,out,c,hx,hf,ho,hU,tW,s5,hinv=>by
  obtain ⟨g,rfl⟩:∃ g,fuel=g+1:=⟨fuel - 1,by omega⟩
  have FI:x=a.length:=by omega
  subst FI
  rw [fK,eJ,cond_false,tT hU (by simp only [SM] at *;omega) (by omega),bV]
  rw [List.take_length,iY hl] at hinv
  have h1:=hU.lt
  rw [ho] at h1
  have hc:c=0:=by
   rcases Int.lt_or_le 0 c with h | h
   ·have:c=1:=by omega
    subst this;omega
   ·omega
  subst hc
  rw [show bL out=bL a - bL b by omega]
 | k+1,x,fuel,out,c,hx,hf,ho,hU,tW,s5,hinv=>by
  obtain ⟨g,rfl⟩:∃ g,fuel=g+1:=⟨fuel - 1,by omega⟩
  simp only [SM] at hs
  have wj:x < a.length:=by omega
  have h1:=ha.getD x
  have h2:=hb.getD x
  rw [fK,dec_lt wj,cond_true,if_pos (mQ wj),zO,bV,an,bE (n:=a.getD x 0 - b.getD x 0) (by omega) (by omega),bE (n:=a.getD x 0 - b.getD x 0 - c) (by omega) (by omega)]
  have fin:∀ q s:Int,0≤q→q≤1→s=a.getD x 0 - b.getD x 0 - c+q * 65536→0≤s→s < 65536→lH N a b out (x:Int) (fK N a b g) q s=some (lm (bL a - bL b).toNat):=by
   intro q s EE Fo hse LZ Hi
   unfold lH
   rw [if_pos (by omega),bh (by omega)]
   refine Iw ha hb hl hle (by simp only [SM];omega) hN k (x+1) g _ _ (by omega) (by omega) (by simp [ho]) (hU.append (U.one LZ Hi)) EE Fo ?_
   rw [lr,qO,ho,oE a,oE b,fU]
   have h3:pw x * s=a.getD x 0 * pw x - b.getD x 0 * pw x - pw x * c+65536 * pw x * q:=by rw [hse];grind
   omega
  cases fo:decide (a.getD x 0 - b.getD x 0 - c < 0) with
  | true =>
   have fo:=oJ fo
   rw [cond_true,bE (by omega) (by omega)]
   exact fin 1 _ (by omega) (by omega) (by omega) (by omega) (by omega)
  | false =>
   have fo:=lz fo
   rw [cond_false]
   exact fin 0 _ (by omega) (by omega) (by omega) (by omega) (by omega)
theorem Ds {N a b:Nat} (TC:b≤a) (hs:SM (lm a).length) (hN:(lm a).length+1 < N):pH N (lm a) (lm b)=some (lm (a - b)):=by
 have:=Iw (N:=N) (rK a) (rK b) (fe TC) (by rw [gV,gV];omega) hs hN (lm a).length 0 N [] 0 (by omega) (by omega) rfl U.nil (by omega) (by omega) (by simp [bL])
 rw [gV,gV] at this
 rw [show (lm (a - b))=lm ((a:Int) - (b:Int)).toNat by congr 1;omega]
 exact this
theorem PS {N:Nat} {a b:List Int} {i:Nat} (ha:U a) (hb:U b) (hi:i < a.length) (hs:SM (a.length+b.length+1)) (K:List Int→Int→Option (List Int)) (R:Option (List Int))
  (hK:∀ out,out.length=a.length+b.length+1→U out→(∀ j,i+1+b.length≤j→out.getD j 0=0)→bL out=bL (a.take (i+1)) * bL b→K out ((i+1:Nat):Int)=R) :
  ∀ (k x fuel:Nat) (out:List Int) (c:Int),x+k=b.length+1→k < fuel→out.length=a.length+b.length+1→U out→0≤c→c < 65536→(x=b.length+1→c=0)→(∀ j,i+b.length≤j→x≤b.length→out.getD j 0=0)→(∀ j,i+1+b.length≤j→out.getD j 0=0) →
   bL out+pw (i+x) * c=bL (a.take i) * bL b+a.getD i 0 * pw i * bL (b.take x)→iR N a b (i:Int) K fuel out c (x:Int)=R:=by
 intro k
 simp only [SM] at hs
 induction k with
 | zero =>
  intro x fuel out c hx hf ho hU tW s5 EX hz hz2 hinv
  obtain ⟨g,rfl⟩:∃ g,fuel=g+1:=⟨fuel - 1,by omega⟩
  have FI:x=b.length+1:=by omega
  subst FI
  have hc:=EX rfl
  subst hc
  rw [iR,decide_eq_false (by omega),decide_eq_false (by decide)]
  simp only [cond_false]
  rw [bh (by omega)]
  refine hK out ho hU hz2 ?_
  rw [show b.take (b.length+1)=b from iY (by omega)] at hinv
  rw [cZ a i hi,eI];omega
 | succ k ih =>
  intro x fuel out c hx hf ho hU tW s5 EX hz hz2 hinv
  obtain ⟨g,rfl⟩:∃ g,fuel=g+1:=⟨fuel - 1,by omega⟩
  rw [iR]
  have h1:=ha.getD i
  have h2:=hb.getD x
  have h3:=hU.getD (i+x)
  by_cases Yv:x < b.length∨0 < c
  ·have e:cond (decide ((x:Int) < ((b.length:Nat):Int))) true (decide (c > 0))=true:=by
    rcases Yv with h | h
    ·rw [dec_lt h];rfl
    ·rw [decide_eq_true (show c > 0 by omega)];cases decide ((x:Int) < ((b.length:Nat):Int))<;>rfl
   have ei:aq ((i:Int)+(x:Int))=((i+x:Nat):Int):=by rw [bE (by omega) (by omega)];omega
   have h4:=Gx h1.1 h1.2 h2.1 h2.2
   rw [e,cond_true,ei,if_pos (mQ (by omega)),if_pos (mQ hi),zO,bV]
   simp only [an]
   rw [bE (n:=a.getD i 0 * b.getD x 0) (by omega) (by omega),bE (n:=out.getD (i+x) 0+a.getD i 0 * b.getD x 0) (by omega) (by omega),bE (n:=out.getD (i+x) 0+a.getD i 0 * b.getD x 0+c) (by omega) (by omega),bh (by omega)]
   generalize LY:out.getD (i+x) 0+a.getD i 0 * b.getD x 0+c=s
   have LZ:0≤s:=by omega
   rw [Int.tmod_eq_emod_of_nonneg LZ,Int.tdiv_eq_ediv_of_nonneg LZ,bE (n:=s / 65536) (by omega) (by omega)]
   refine ih (x+1) g _ _ (by omega) (by omega) (by simp [ho]) (hU.set _ (by omega) (by omega)) (by omega) (by omega) (fun h=>?_) (fun j hj Qa=>?_) (fun j hj=>?_) ?_
   ·have e1:=uD (show b.length≤x by omega)
    have e2:=hz (i+x) (by omega) (by omega)
    rw [e1,e2] at LY;simp at LY;omega
   ·rw [getD_set_ne _ _ (by omega)];exact hz j hj (by omega)
   ·rw [getD_set_ne _ _ (by omega)];exact hz2 j hj
   ·rw [mS _ _ _ (by omega),oE b,show i+(x+1)=(i+x)+1 by omega,fU]
    have h5:s=s % 65536+65536 * (s / 65536):=by omega
    have h6:pw (i+x) * s=pw (i+x) * (s % 65536)+pw (i+x) * (65536 * (s / 65536)):=by rw [← gX,← h5]
    have h7:pw (i+x) * s=pw (i+x) * c+pw (i+x) * (a.getD i 0 * b.getD x 0)+pw (i+x) * out.getD (i+x) 0:=by rw [← LY,gX,gX];omega
    have h8:65536 * pw (i+x) * (s / 65536)=pw (i+x) * (65536 * (s / 65536)):=by rw [gp 65536,kF]
    have h9:(s % 65536 - out.getD (i+x) 0) * pw (i+x)=pw (i+x) * (s % 65536) - pw (i+x) * out.getD (i+x) 0:=by rw [Int.sub_mul,gp,gp (out.getD (i+x) 0)]
    have h10:a.getD i 0 * pw i * (bL (b.take x)+b.getD x 0 * pw x)=a.getD i 0 * pw i * bL (b.take x)+pw (i+x) * (a.getD i 0 * b.getD x 0):=by
     rw [Gs];grind
    omega
  ·have e:cond (decide ((x:Int) < ((b.length:Nat):Int))) true (decide (c > 0))=false:=by
    rw [decide_eq_false (by omega),decide_eq_false (by omega)];rfl
   have hc:c=0:=by omega
   subst hc
   rw [e,cond_false,bh (by omega)]
   refine hK out ho hU hz2 ?_
   rw [show b.take x=b from iY (by omega)] at hinv
   rw [cZ a i hi,eI];omega
theorem Ix {N:Nat} {a b:List Int} (ha:U a) (hb:U b) (hs:SM (a.length+b.length+1)) (hN:a.length+b.length+2 < N):∀ (k x fuel:Nat) (out:List Int),x+k=a.length→k < fuel→out.length=a.length+b.length+1→U out →
  (∀ j,x+b.length≤j→out.getD j 0=0)→bL out=bL (a.take x) * bL b→iS N a b fuel out (x:Int)=some (lm (bL a * bL b).toNat)
 | 0,x,fuel,out,hx,hf,ho,hU,hz,hinv=>by
  obtain ⟨g,rfl⟩:∃ g,fuel=g+1:=⟨fuel - 1,by omega⟩
  have FI:x=a.length:=by omega
  subst FI
  rw [iS,eJ,cond_false,tT hU (by simp only [SM] at *;omega) (by omega),bV,hinv,List.take_length]
 | k+1,x,fuel,out,hx,hf,ho,hU,hz,hinv=>by
  obtain ⟨g,rfl⟩:∃ g,fuel=g+1:=⟨fuel - 1,by omega⟩
  have wj:x < a.length:=by omega
  rw [iS,dec_lt wj,cond_true]
  refine PS ha hb wj hs _ _ (fun fX h1 h2 h3 h4=>?_) (b.length+1) 0 N out 0 (by omega) (by omega) ho hU (by omega) (by omega) (fun h=>by omega) (fun j hj _=>hz j hj) (fun j hj=>hz j (by omega)) (by rw [hinv];simp [bL])
  exact Ix ha hb hs hN k (x+1) g fX (by omega) (by omega) h1 h2 h3 h4
theorem Lp {N:Nat} {a b:List Int} (ha:U a) (hb:U b) (hs:SM (a.length+b.length+1)) (hN:a.length+b.length+2 < N):k6 N a b=some (lm (bL a * bL b).toNat):=by
 unfold k6
 have HI:=hs
 simp only [SM] at HI
 have e:aq (aq (((a.length:Nat):Int)+((b.length:Nat):Int))+1)=((a.length+b.length+1:Nat):Int):=by rw [bE (n:=((a.length:Nat):Int)+((b.length:Nat):Int)) (by omega) (by omega),bE (by omega) (by omega)];omega
 rw [e,if_pos (by omega)]
 exact Ix ha hb hs hN a.length 0 N _ (by omega) (by omega) (by simp;omega) (U.replicate _) (fun j _=>gM _ j) (by rw [jL];simp [bL])
theorem PT {N a b:Nat} (hs:SM ((lm a).length+(lm b).length+1)) (hN:(lm a).length+(lm b).length+2 < N):k6 N (lm a) (lm b)=some (lm (a * b)):=by
 rw [Lp (rK a) (rK b) hs hN,gV,gV,u9]
theorem Vs {N:Nat} {a q:List Int} {b i X:Nat} (hb:0 < b) (hX:X < 65536 * b) (hq:i < q.length) (hs:SM ((lm b).length+(lm X).length+3)) (hi:SM i) (hN:(lm b).length+(lm X).length+65546 < N) (K:List Int→List Int→Int→Option (List Int×List Int)) :
  ∀ (d lo hi fuel:Nat),hi - lo≤d→lo≤hi→hi < 65536→d < fuel→lo * b≤X→X < (hi+1) * b→iv N a (lm b) q (i:Int) (lm X) K fuel (lo:Int) (hi:Int)=K (lm (X % b)) (q.set i ((X / b:Nat):Int)) ((i:Int) - 1):=by
 intro d
 simp only [SM] at hs hi
 have one:∀ m:Nat,m < 65536→k6 N (lm b) [(m:Int)]=some (lm (b * m)):=fun m hm=>by
  rw [Lp (rK b) (U.one (by omega) (by omega)) (by simp only [SM,List.length_singleton];omega) (by simp only [List.length_singleton];omega),gV,qO,u9]
 have adx:∀ m:Nat,m < 65536→(lm (b * m)).length≤(lm b).length+1:=fun m hm=>by
  rw [ij,fU]
  have:=(ij (n:=b) (k:=(lm b).length)).1 (aR _)
  have h2:=Nat.mul_le_mul_left b (show m≤65535 by omega)
  have:=kz (lm b).length
  omega
 induction d with
 | zero =>
  intro lo o8 fuel hd hle NA hf h1 h2
  obtain ⟨g,rfl⟩:∃ g,fuel=g+1:=⟨fuel - 1,by omega⟩
  have hlh:o8=lo:=by omega
  subst hlh
  have hdiv:X / b=o8:=by
   have h3:X=o8 * b+(X - o8 * b):=by omega
   have h4:X - o8 * b < b:=by rw [cb,Nat.one_mul] at h2;omega
   exact (DR h3 h4).1
  have Sf:X % b=X - b * o8:=by
   have:=Nat.div_add_mod X b
   rw [hdiv] at this;omega
  rw [iv,decide_eq_false (by omega),cond_false,if_pos (mQ hq)]
  have h5:b * o8≤X:=by rw [oL];exact h1
  by_cases h0:0 < o8
  ·rw [decide_eq_true (by omega),cond_true,one o8 NA,bV,Ds h5 (by simp only [SM];omega) (by omega),bV]
   unfold mq
   rw [an,bE (by omega) (by omega),hdiv,Sf]
  ·have:o8=0:=by omega
   subst this
   rw [decide_eq_false (by decide),cond_false]
   unfold mq
   rw [an,bE (by omega) (by omega),hdiv,Sf];simp
 | succ d ih =>
  intro lo o8 fuel hd hle NA hf h1 h2
  obtain ⟨g,rfl⟩:∃ g,fuel=g+1:=⟨fuel - 1,by omega⟩
  by_cases fo:lo < o8
  ·rw [iv,decide_eq_true (by omega),cond_true,bE (n:=(lo:Int)+(o8:Int)) (by omega) (by omega),bE (n:=(lo:Int)+(o8:Int)+1) (by omega) (by omega)]
   have em:((lo:Int)+(o8:Int)+1).tdiv 2=(((lo+o8+1) / 2:Nat):Int):=by rw [Int.tdiv_eq_ediv_of_nonneg (by omega)];omega
   rw [em,bE (n:=(((lo+o8+1) / 2:Nat):Int)) (by omega) (by omega)]
   generalize hm:(lo+o8+1) / 2=m
   have hml:=adx m (by omega)
   rw [one m (by omega),bV,B0 (by omega) (by simp only [SM];omega) (by simp only [SM];omega),bV]
   have hc:HH (b * m) X≤0↔b * m≤X:=by
    obtain ⟨c,_,h3,h4,h5⟩:=xe (N:=(lm (b * m)).length+1) (a:=b * m) (b:=X) (by omega) (by simp only [SM];omega) (by simp only [SM];omega)
    rw [← h5];omega
   by_cases L4:b * m≤X
   ·rw [decide_eq_true (hc.2 L4),cond_true]
    exact ih m o8 g (by omega) (by omega) NA (by omega) (by rw [oL];exact L4) h2
   ·rw [decide_eq_false (fun h=>L4 (hc.1 h)),cond_false,bE (by omega) (by omega)]
    have e1:((m:Int) - 1)=((m - 1:Nat):Int):=by omega
    rw [e1]
    refine ih lo (m - 1) g (by omega) (by omega) (by omega) (by omega) h1 ?_
    rw [show m - 1+1=m by omega,oL];omega
  ·have:=ih lo o8 (g+1) (by omega) hle NA (by omega) h1 h2
   exact this
theorem OD {N:Nat} {A b:Nat} (hb:0 < b) (hs:SM (2 * (lm A).length+2 * (lm b).length+10)) (hN:(lm A).length+2 * (lm b).length+65560 < N):∀ (k fuel:Nat) (q:List Int) (r:Nat),k≤(lm A).length→k < fuel→q.length=(lm A).length→U q→r < b →
  (∀ j,j < k→q.getD j 0=0)→pw k * bL ((lm A).drop k)=bL q * b+r * pw k→iw N (lm A) (lm b) fuel (lm r) q ((k:Int) - 1)=some (lm (A / b),lm (A % b))
 | 0,fuel,q,r,hk,hf,hq,hU,hr,hz,hinv=>by
  obtain ⟨g,rfl⟩:∃ g,fuel=g+1:=⟨fuel - 1,by omega⟩
  have e:decide ((((0:Nat):Int) - 1)≥0)=false:=rfl
  rw [iw,e,cond_false,tT hU (by simp only [SM] at *;omega) (by omega),bV]
  rw [zJ,List.drop_zero,gV] at hinv
  have EE:=hU.ph
  obtain ⟨Q,hQ⟩:=Int.eq_ofNat_of_zero_le EE
  rw [hQ] at hinv ⊢
  have h6:A=Q * b+r:=by
   have h9:(A:Int)=Q * b+r:=by omega
   exact_mod_cast h9
  obtain ⟨h7,h8⟩:=DR h6 hr
  rw [h7,h8];rfl
 | k+1,fuel,q,r,hk,hf,hq,hU,hr,hz,hinv=>by
  obtain ⟨g,rfl⟩:∃ g,fuel=g+1:=⟨fuel - 1,by omega⟩
  have HI:=hs
  simp only [SM] at HI
  have e:(((k+1:Nat):Int) - 1)=(k:Int):=by omega
  have h1:=(rK A).getD k
  have Pc:(lm r).length≤(lm b).length:=fe (by omega)
  rw [e,iw,decide_eq_true (by omega),cond_true,if_pos (mQ (by omega)),if_pos (by omega),an]
  obtain ⟨D,hD⟩:=Int.eq_ofNat_of_zero_le h1.1
  have hX:lm (bL ([(lm A).getD k 0] ++ lm r)).toNat=lm (D+65536 * r):=by
   have e9:bL ([(lm A).getD k 0] ++ lm r)=((D+65536 * r:Nat):Int):=by rw [lr,qO,gV,hD];simp [pw]
   rw [e9,Int.toNat_natCast]
  have hD2:D < 65536:=by omega
  rw [tT ((U.one h1.1 h1.2).append (rK r)) (by simp only [SM,mK,List.length_singleton];omega) (by simp only [mK,List.length_singleton];omega),bV,hX]
  have hXb:D+65536 * r < 65536 * b:=by omega
  have hXl:(lm (D+65536 * r)).length≤(lm b).length+1:=by
   rw [ij,fU]
   have:=(ij (n:=b) (k:=(lm b).length)).1 (aR _)
   omega
  have:=Vs (N:=N) (a:=lm A) (q:=q) (b:=b) (i:=k) (X:=D+65536 * r) hb hXb (by omega) (by simp only [SM];omega) (by simp only [SM];omega) (by omega) (iw N (lm A) (lm b) g) 65535 0 65535 N (by omega) (by omega) (by omega) (by omega) (by omega) (by omega)
  rw [show ((0:Nat):Int)=0 from rfl,show ((65535:Nat):Int)=65535 from rfl] at this
  rw [this]
  have hdv:(D+65536 * r) / b < 65536:=Nat.div_lt_of_lt_mul (by omega)
  have hml:=Nat.mod_lt (D+65536 * r) hb
  have hdm:=Nat.div_add_mod (D+65536 * r) b
  generalize (D+65536 * r) / b=u at *
  generalize (D+65536 * r) % b=v at *
  refine OD hb hs hN k g _ _ (by omega) (by omega) (by simp [hq]) (hU.set _ (by omega) (by omega)) hml (fun j hj=>by rw [getD_set_ne _ _ (by omega)];exact hz j (by omega)) ?_
  rw [mS _ _ _ (by omega),hz k (by omega),Int.sub_zero,nA _ k (by omega),hD]
  rw [fU] at hinv
  have h2:(D:Int)+65536 * r=b * u+v:=by
   have:=congrArg (fun x:Nat=>(x:Int)) hdm
   simp only [Int.natCast_add,Int.natCast_mul] at this
   omega
  have h3:pw k * ((D:Int)+65536 * r)=pw k * (b * u+v):=by rw [h2]
  grind
theorem OE {N A b:Nat} (hb:b≠0) (hs:SM (2 * (lm A).length+2 * (lm b).length+10)) (hN:(lm A).length+2 * (lm b).length+65560 < N):nm N (lm A) (lm b)=some (lm (A / b),lm (A % b)):=by
 have HI:=hs
 simp only [SM] at HI
 unfold nm
 rw [if_pos (by omega),bE (by omega) (by omega)]
 have:=OD (N:=N) (A:=A) (b:=b) (by omega) hs hN (lm A).length N (List.replicate (lm A).length 0) 0 (aR _) (by omega) (by simp) (U.replicate _) (by omega) (fun j _=>gM _ j) (by rw [List.drop_length,jL];simp [bL])
 rw [fV] at this
 exact this
end Go.Den
namespace Go.Den
open Go.Ab
abbrev LM (n:Nat):Prop:=n < 1000000000
section
variable {a b:bM} {x y:aa} {m n:Nat} {p q:Rat} {z w:Int}
theorem ZI.read (ha:ZI a z n) (hs:LM n):Gv (fun N=>ic N a.fL) (lm z.natAbs) :=
 .of (n+1) fun N hN=>by
  have:=XW (N:=N) ha.ib.U (by have:=ha.ib.len;simp only [SM,LM] at *;omega) (by have:=ha.ib.len;omega)
  rwa [← jO,ha.v] at this
theorem ZI.JM (ha:ZI a z n):z=sg a.fG z.natAbs:=by
 have h1:=jO a
 have:zv a=sg a.fG (zv a).natAbs:=by rw [h1];rfl
 rwa [ha.v] at this
theorem oG {neg:Bool} {k:Nat} (hz:ZB (sg neg k) n) (hs:LM n):Gv (fun N=>fy N neg (lm k)) (tS (sg neg k)):=by
 unfold ZB at hz
 rw [pP] at hz
 exact Vr neg (by simp only [SM,LM] at *;omega)
theorem Sq {N:Nat} {z:Int}:∀ (fuel n:Nat) (out:List Int) (r:Option bM),(lm n).length < fuel→out.length+(lm n).length < 1000→n < 18446744073709551616→((fy N (decide (z < 0)) (out ++ lm n)).bind fun r=>some r)=r→k5 N z fuel out (n:Int)=r
 | 0,n,out,r,h,_,_,_=>by omega
 | fuel+1,n,out,r,h,h2,h3,hr=>by
  rw [k5]
  by_cases hn:n=0
  ·subst hn
   rw [fV,List.append_nil] at hr
   exact hr
  ·have e:decide ((n:Int) > 0)=true:=by simp;omega
   rw [pj hn] at h h2
   simp only [qI] at h h2
   have e1:((n:Int) / 65536)=((n / 65536:Nat):Int):=by omega
   have e2:((n:Int) % 65536)=((n % 65536:Nat):Int):=by omega
   rw [e,cond_true,if_pos (by omega),Int.tmod_eq_emod_of_nonneg (by omega),Int.tdiv_eq_ediv_of_nonneg (by omega),e1,e2,gQ (by omega) (by omega),bE (by omega) (by omega)]
   refine Sq fuel (n / 65536) _ r (by omega) (by simp;omega) (by omega) ?_
   rw [← hr,pj hn,y7];rfl
theorem J9 (h1:-9223372036854775808≤z) (h2:z≤9223372036854775807):Gv (fun N=>rk N z) (tS z):=by
 have hl:ZB z 4:=ZB.word h1 h2
 have key:Gv (fun N=>k5 N z N [] ((z.natAbs:Nat):Int)) (tS z):=by
  have hm:Gv (fun N=>(fy N (decide (z < 0)) (lm z.natAbs)).bind fun r=>some r) (tS z):=by
   by_cases h:z < 0
   ·have e:sg true z.natAbs=z:=by simp [sg];omega
    have:=oG (neg:=true) (k:=z.natAbs) (n:=4) (by rw [e];exact hl) (by decide)
    rw [e] at this
    rw [decide_eq_true h]
    exact this.bind (Gv.pure _)
   ·have e:sg false z.natAbs=z:=by simp [sg];omega
    have:=oG (neg:=false) (k:=z.natAbs) (n:=4) (by rw [e];exact hl) (by decide)
    rw [e] at this
    rw [decide_eq_false h]
    exact this.bind (Gv.pure _)
  obtain ⟨N0,hm⟩:=hm
  refine .of (N0+5) fun N hN=>?_
  unfold ZB at hl
  exact Sq N z.natAbs [] _ (by omega) (by simp;omega) (by omega) (by have:=hm N (by omega);simpa using this)
 unfold rk
 by_cases h:z < 0
 ·have e:IntKind.u64.wrap (0 - IntKind.u64.wrap z)=((z.natAbs:Nat):Int):=by rw [wrap64,wrap64];omega
  refine Gv.aG (decide_eq_true h) ?_
  rw [e];exact key
 ·have e:IntKind.u64.wrap z=((z.natAbs:Nat):Int):=by rw [wrap64];omega
  refine Gv.bg (decide_eq_false h) ?_
  rw [e];exact key
theorem ZI.XX (ha:ZI a z n) (hs:LM n):Gv (fun N=>zG N a) (tS (-z)):=by
 refine (ha.read hs).bind ?_
 have e:sg (!a.fG) z.natAbs = -z:=by
  have:=ha.JM
  generalize z.natAbs=k at *
  subst this
  cases a.fG<;>simp [sg]
 refine Gv.bind (r:=tS (-z)) ?_ (Gv.pure _)
 rw [← e]
 exact oG (n:=n) (by rw [e];exact ha.zb.neg) hs
theorem ZI.PU (ha:ZI a z n) (hb:ZI b w n) (hs:LM (n+1)):Gv (fun N=>zF N a b) (tS (z+w)):=by
 simp only [LM] at hs
 have hz:=ha.zb.add hb.zb
 have DJ:=ha.zb
 have qT:=hb.zb
 unfold ZB at DJ qT
 refine (ha.read (by simp only [LM];omega)).bind ((hb.read (by simp only [LM];omega)).bind ?_)
 have hX:=ha.JM
 have hY:=hb.JM
 clear ha hb
 generalize z.natAbs=x at *
 generalize w.natAbs=y at *
 rw [hX,hY] at hz ⊢
 generalize a.fG=p at *
 generalize b.fG=q at *
 cases J3:(p == q) with
 | true =>
  have J3:p=q:=by simpa using J3
  subst J3
  have e:sg p x+sg p y=sg p (x+y):=by cases p<;>simp [sg]<;>omega
  rw [e] at hz ⊢
  refine Gv.aG rfl (Gv.bind (r:=lm (x+y)) (.of (2 * n+4) fun N hN=>Sp (by simp only [SM];omega) (by omega)) ?_)
  exact (oG hz (by simp only [LM];omega)).bind (Gv.pure _)
 | false =>
  have J3:q=!p:=by cases p<;>cases q<;>simp_all
  subst J3
  refine Gv.bg rfl ?_
  refine Gv.bind (r:=HH x y) (.of (n+2) fun N hN=>B0 (by omega) (by simp only [SM];omega) (by simp only [SM];omega)) ?_
  have fo:=Oq (a:=x) (b:=y) (by simp only [SM];omega) (by simp only [SM];omega)
  by_cases Pr:x < y
  ·refine Gv.bg (decide_eq_false (by have:=fo.2 Pr;omega)) (Gv.bind (r:=lm (y - x)) (.of (n+2) fun N hN=>Ds (by omega) (by simp only [SM];omega) (by omega)) ?_)
   have e:sg p x+sg (!p) y=sg (!p) (y - x):=by cases p<;>simp [sg]<;>omega
   rw [e] at hz ⊢
   exact (oG hz (by simp only [LM];omega)).bind (Gv.pure _)
  ·refine Gv.aG (decide_eq_true (by have:=fun h=>Pr (fo.1 h);omega)) (Gv.bind (r:=lm (x - y)) (.of (n+2) fun N hN=>Ds (by omega) (by simp only [SM];omega) (by omega)) ?_)
   have e:sg p x+sg (!p) y=sg p (x - y):=by cases p<;>simp [sg]<;>omega
   rw [e] at hz ⊢
   exact (oG hz (by simp only [LM];omega)).bind (Gv.pure _)
theorem ZI.vF (ha:ZI a z n) (hs:LM n):Gv (fun N=>wV N a) z.sign:=by
 refine (ha.read hs).bind ?_
 have hX:=ha.JM
 clear ha
 generalize z.natAbs=x at *
 rw [hX]
 generalize a.fG=p
 by_cases h:x=0
 ·subst h
  refine Gv.aG (by rw [fV];rfl) ((Gv.pure _).eq ?_)
  cases p<;>rfl
 ·refine Gv.bg ?_ ?_
  ·have:=j7.2 h
   simp;exact fun h'=>by rw [h'] at this;simp at this
  ·cases p with
   | true=>exact Gv.aG rfl ((Gv.pure _).eq (by simp only [sg,cond_true];rw [Int.sign_eq_neg_one_of_neg];omega))
   | false=>exact Gv.bg rfl ((Gv.pure _).eq (by simp only [sg,cond_false];rw [Int.sign_eq_one_of_pos];omega))
theorem ZI.JN (ha:ZI a z m) (hb:ZI b w n) (hs:LM (m+n)):Gv (fun N=>pJ N a b) (tS (z * w)):=by
 simp only [LM] at hs
 have hz:=ha.zb.mul hb.zb
 have DJ:=ha.zb
 have qT:=hb.zb
 unfold ZB at DJ qT
 refine (ha.read (by simp only [LM];omega)).bind ((hb.read (by simp only [LM];omega)).bind ?_)
 refine Gv.bind (r:=lm (z.natAbs * w.natAbs)) (.of (m+n+3) fun N hN=>PT (by simp only [SM];omega) (by omega)) ?_
 have e:sg (!(a.fG == b.fG)) (z.natAbs * w.natAbs)=z * w:=by rw [sign_eq,← ha.JM,← hb.JM]
 have:=oG (neg:=!(a.fG == b.fG)) (k:=z.natAbs * w.natAbs) (n:=m+n) (by rw [e];exact hz) hs
 rw [e] at this
 exact this.bind (Gv.pure _)
theorem Lq {A B:Nat} (ha:(lm A).length≤m) (hb:(lm B).length≤n) (h0:B≠0) (hs:LM (m+n+10)):Gv (fun N=>nm N (lm A) (lm B)) (lm (A / B),lm (A % B)) :=
 .of (m+2 * n+65561) fun N hN=>OE h0 (by simp only [SM,LM] at *;omega) (by omega)
end
end Go.Den
namespace Go.Den
open Go.Ab
section
variable {a b:bM} {x y:aa} {m n:Nat} {p q:Rat} {z w:Int}
theorem Vt {N k:Nat} (hk:LM (4 * k+30)) (hN:3 * k+65570 < N):∀ (y x fuel:Nat),y < fuel→(lm x).length≤k→(lm y).length≤k→l7 N fuel (lm x) (lm y)=some (lm (Nat.gcd x y)):=by
 intro y
 simp only [LM] at hk
 induction y using Nat.strongRecOn with
 | _ y ih =>
  intro x fuel hf hx hy
  obtain ⟨g,rfl⟩:∃ g,fuel=g+1:=⟨fuel - 1,by omega⟩
  rw [l7]
  by_cases h:y=0
  ·subst h
   rw [fV,Nat.gcd_zero_right];rfl
  ·have hl:=j7.2 h
   rw [decide_eq_true (by omega),cond_true,OE h (by simp only [SM];omega) (by omega),bV]
   have fo:=Nat.mod_lt x (Nat.pos_of_ne_zero h)
   rw [ih (x % y) fo y g (by omega) hy (dj (fe (by omega)) hy),Nat.gcd_comm x y,Nat.gcd_rec y x,Nat.gcd_comm]
theorem Vu {x y k:Nat} (hx:(lm x).length≤k) (hy:(lm y).length≤k) (hk:LM (4 * k+30)):Gv (fun N=>zE N (lm x) (lm y)) (lm (Nat.gcd x y)) :=
 .of (3 * k+65571+y) fun N hN=>Vt hk (by omega) y x N (by omega) hx hy
theorem ZI.kn (ha:ZI a z n) (hb:ZI b w n) (h0:w≠0) (hs:LM (4 * n+30)):Gv (fun N=>pf N a b) (bj (Rat.divInt z w)):=by
 simp only [LM] at hs
 have DJ:=ha.zb
 have qT:=hb.zb
 unfold ZB at DJ qT
 refine (ha.read (by simp only [LM];omega)).bind ((hb.read (by simp only [LM];omega)).bind ?_)
 have hX:=ha.JM
 have hY:=hb.JM
 clear ha hb
 generalize hxx:z.natAbs=x at *
 generalize Z0:w.natAbs=y at *
 have Nw:y≠0:=by omega
 have hg0:0 < Nat.gcd x y:=Nat.gcd_pos_of_pos_right _ (by omega)
 refine Gv.bg (by have:=j7.2 Nw;simp;exact fun h'=>by rw [h'] at this;simp at this) ?_
 refine (Vu DJ qT (by simp only [LM];omega)).bind ?_
 have hgn:(lm (Nat.gcd x y)).length≤n:=dj (fe (Nat.gcd_le_right _ (by omega))) qT
 refine (Lq DJ hgn (by omega) (by simp only [LM];omega)).bind ((Lq qT hgn (by omega) (by simp only [LM];omega)).bind ?_)
 generalize hu:x / Nat.gcd x y=u
 generalize hv:y / Nat.gcd x y=v
 have ZY:(lm u).length≤n:=dj (fe (by rw [← hu];exact Nat.div_le_self _ _)) DJ
 have Nz:(lm v).length≤n:=dj (fe (by rw [← hv];exact Nat.div_le_self _ _)) qT
 refine (oG (neg:=!(a.fG == b.fG)) (k:=u) (n:=n) (by unfold ZB;rw [pP];exact ZY) (by simp only [LM];omega)).bind ((oG (neg:=false) (k:=v) (n:=n) (by unfold ZB;rw [pP];exact Nz) (by simp only [LM];omega)).bind ((Gv.pure _).eq ?_))
 have XS:Int.gcd w z=Nat.gcd x y:=by unfold Int.gcd;rw [hxx,Z0,Nat.gcd_comm]
 unfold bj
 rw [Rat.num_divInt,Rat.den_divInt,if_neg h0,XS,Z0,hv]
 have hd:(Nat.gcd x y) ∣ x:=Nat.gcd_dvd_left _ _
 have e1:w.sign * z / ((Nat.gcd x y:Nat):Int)=sg (!(a.fG == b.fG)) u:=by
  have Vn:(x:Int)=(Nat.gcd x y:Nat) * (u:Int):=by
   have:x=Nat.gcd x y * u:=by rw [← hu,Nat.mul_div_cancel' hd]
   exact_mod_cast this
  have e2:w.sign * z=(Nat.gcd x y:Nat) * sg (!(a.fG == b.fG)) u:=by
   rw [hX,hY]
   cases a.fG<;>cases b.fG<;>simp only [sg,cond_true,cond_false,Bool.not_true,Bool.not_false,BEq.rfl,show (true == false)=false from rfl,show (false == true)=false from rfl]
   ·rw [Int.sign_eq_one_of_pos (by omega),Int.one_mul,← Vn]
   ·rw [Int.sign_eq_neg_one_of_neg (by omega),Int.mul_neg,← Vn];omega
   ·rw [Int.sign_eq_one_of_pos (by omega),Int.one_mul,Int.mul_neg,← Vn]
   ·rw [Int.sign_eq_neg_one_of_neg (by omega),← Vn];omega
  rw [e2,Int.mul_ediv_cancel_left _ (by omega)]
 rw [e1];rfl
theorem Z3:Gv (fun N=>rk N 1) (tS 1):=J9 (by decide) (by decide)
theorem ZI.XY (ha:ZI a z n) (hb:ZI b w n) (h0:w=0) (hs:LM (4 * n+30)):Gv (fun N=>pf N a b) (bj (z:Rat)):=by
 simp only [LM] at hs
 refine (ha.read (by simp only [LM];omega)).bind ((hb.read (by simp only [LM];omega)).bind ?_)
 refine Gv.aG (by rw [h0];show (((lm 0).length:Nat):Int) == 0;rw [fV];rfl) ?_
 have e:=ha.JM
 have:=oG (neg:=a.fG) (k:=z.natAbs) (n:=n) (by rw [← e];exact ha.zb) (by simp only [LM];omega)
 rw [← e] at this
 exact this.bind (Z3.bind (Gv.pure _))
theorem RQ.parts (h:RQ x p n):∃ z w,ZI x.fN z n∧ZI x.fD w n∧p=Rat.divInt z (if w=0 then 1 else w) :=
 ⟨zv x.fN,zv x.fD,⟨h.ir.num,rfl⟩,⟨h.ir.den,rfl⟩,h.v.symm⟩
theorem RQ.GJ (h:RQ x p n) (hs:LM (4 * n+30)):Gv (fun N=>fM N x) (bj p):=by
 obtain ⟨z,w,hz,hw,e⟩:=h.parts
 by_cases h0:w=0
 ·rw [if_pos h0] at e
  refine (hz.XY hw h0 hs).bind ((Gv.pure _).eq ?_)
  rw [e,GF]
 ·rw [if_neg h0] at e
  refine (hz.kn hw h0 hs).bind ((Gv.pure _).eq ?_)
  rw [e]
theorem RQ.PV (h:RQ x p n) (hs:LM (4 * n+30)):Gv (fun N=>gy N x) (Go.Den.qm p) :=
 (h.GJ hs).bind ((h.rb.num.zi.vF (by simp only [LM] at *;omega)).bind (Gv.pure _))
theorem PW (p q:Rat):Rat.divInt (p.num * q.den+q.num * p.den) (p.den * q.den)=p+q:=by
 conv=>rhs;rw [mB p,mB q]
 rw [Rat.divInt_add_divInt _ _ (pk p) (pk q)]
theorem RQ.PU (hx:RQ x p m) (hy:RQ y q n) (hs:LM (4 * (m+n+1)+30)):Gv (fun N=>ma N x y) (bj (p+q)):=by
 simp only [LM] at hs
 have bx:=hx.rb
 have Sr:=hy.rb
 refine (hx.GJ (by simp only [LM];omega)).bind ((hy.GJ (by simp only [LM];omega)).bind ?_)
 refine (bx.num.zi.JN Sr.den.zi (by simp only [LM];omega)).bind ((Sr.num.zi.JN bx.den.zi (by simp only [LM];omega)).bind ?_)
 have e1:=(bx.num.mul Sr.den).le (show m+n≤m+n by omega)
 have e2:=(Sr.num.mul bx.den).le (show n+m≤m+n by omega)
 refine (e1.zi.PU e2.zi (by simp only [LM];omega)).bind ((bx.den.zi.JN Sr.den.zi (by simp only [LM];omega)).bind ?_)
 refine ((e1.add e2).zi.kn ((bx.den.mul Sr.den).le (show m+n≤m+n+1 by omega)).zi (Int.mul_ne_zero (pk p) (pk q)) (by simp only [LM];omega)).bind ((Gv.pure _).eq ?_)
 rw [PW]
theorem RQ.XX (hx:RQ x p n) (hs:LM (4 * n+30)):Gv (fun N=>sL N x) (bj (-p)):=by
 refine (hx.GJ hs).bind ((hx.rb.num.zi.XX (by simp only [LM] at *;omega)).bind ((Gv.pure _).eq ?_))
 unfold bj;rw [Rat.neg_num,Rat.neg_den]
theorem RQ.ady (hx:RQ x p m) (hy:RQ y q n) (hs:LM (4 * (m+n+1)+30)):Gv (fun N=>sM N x y) (bj (p - q)):=by
 refine (hy.XX (by simp only [LM] at *;omega)).bind ((hx.PU (hy.rb.neg.rq hy.pos) hs).bind ((Gv.pure _).eq ?_))
 rw [Rat.sub_eq_add_neg]
theorem RQ.JN (hx:RQ x p m) (hy:RQ y q n) (hs:LM (4 * (m+n+1)+30)):Gv (fun N=>l8 N x y) (bj (p * q)):=by
 simp only [LM] at hs
 have bx:=hx.rb
 have Sr:=hy.rb
 refine (hx.GJ (by simp only [LM];omega)).bind ((hy.GJ (by simp only [LM];omega)).bind ?_)
 refine (bx.num.zi.JN Sr.num.zi (by simp only [LM];omega)).bind ((bx.den.zi.JN Sr.den.zi (by simp only [LM];omega)).bind ?_)
 refine ((bx.num.mul Sr.num).zi.kn (bx.den.mul Sr.den).zi (Int.mul_ne_zero (pk p) (pk q)) (by simp only [LM];omega)).bind ((Gv.pure _).eq ?_)
 conv=>rhs;rw [mB p,mB q]
 rw [Rat.divInt_mul_divInt]
theorem RQ.Vv (hx:RQ x p m) (hy:RQ y q n) (hs:LM (4 * (m+n+1)+30)):Gv (fun N=>k8 N x y) (Go.Den.qm (p - q)) :=
 (hx.ady hy hs).bind ((((hx.rb.sub hy.rb).rq (by omega)).PV hs).bind (Gv.pure _))
end
end Go.Den
namespace Go.Den
open Go.Ab
section
variable (t s:Nat→Rat) (n:Nat)
def Z4 (i:Nat) (y:Rat):Rat:=if i+1 < n∧t (i+1) < y then t (i+1) else y
def pc (i:Nat) (y:Rat):Rat:=if Z4 t n i y≤t i then 0 else Z4 t n i y - t i
def vs:Nat→Nat→Rat→Rat
 | 0,_,_=>0
 | k+1,i,y=>s i * pc t n i y+vs k (i+1) y
def fs:Nat→Rat
 | 0=>0
 | i+1=>fs i+s i * (t (i+1) - t i)
def ps (x:Rat):Rat:=if x < 0 then 0 else x
def Up:Prop:=∀ i,i+1 < n→t i < t (i+1)
end
section
variable {t s:Nat→Rat} {n:Nat} (up:Up t n)
include up
end
end Go.Den
namespace Go.Den
open Go.Ab
theorem aK.succ {α:Type} {f f':Nat→Nat→Option α} {r:α} (e:∀ N g,f N (g+1)=f' N g) (h:aK f' r):aK f r :=
 let ⟨N0,h0⟩:=h;.step N0 fun N g hN hg=>(e N g).trans (h0 N g hN hg)
theorem aK.bind {α β:Type} {f:Nat→Option α} {k:Nat→Nat→α→Option β} {r:α} {s:β} (h:Gv f r) (h2:aK (fun N g=>k N g r) s):aK (fun N g=>(f N).bind (k N g)) s:=by
 obtain ⟨N0,h⟩:=h
 obtain ⟨N1,h2⟩:=h2
 exact ⟨N0+N1,fun N g hN hg=>by dsimp only;rw [h N (by omega)];exact h2 N g (by omega) (by omega)⟩
theorem aK.aG {α:Type} {f g:Nat→Nat→Option α} {r:α} {q:Bool} (hq:q=true) (h:aK f r):aK (fun N n=>cond q (f N n) (g N n)) r:=by subst hq;exact h
theorem aK.bg {α:Type} {f g:Nat→Nat→Option α} {r:α} {q:Bool} (hq:q=false) (h:aK g r):aK (fun N n=>cond q (f N n) (g N n)) r:=by subst hq;exact h
theorem aK.if {α:Type} {f:Nat→Nat→Option α} {r:α} {p:Prop} [Decidable p] (hp:p) (h:aK f r):aK (fun N n=>if p then f N n else none) r:=by
 obtain ⟨N0,h⟩:=h
 exact ⟨N0,fun N g hN hg=>by dsimp only;rw [if_pos hp];exact h N g hN hg⟩
theorem aK.one {α:Type} {f:Nat→Option α} {r:α} (h:Gv f r):aK (fun N _=>f N) r:=let ⟨N0,h⟩:=h;⟨N0,fun N _ hN _=>h N hN⟩
theorem aK.eq {α:Type} {f:Nat→Nat→Option α} {r s:α} (h:aK f r) (e:r=s):aK f s:=e ▸ h
def ct (c:fk) (i:Nat):Rat:=(cs c i:Rat)
abbrev cn (c:fk):Nat:=c.ax.length
theorem uG.up {c:fk} (h:uG c):Up (ct c) (cn c):=fun i hi=>by
 have:=h.lt i hi
 unfold ct
 exact Rat.intCast_lt_intCast.2 this
def rr (t s:Nat→Rat) (n:Nat) (v:Rat):Nat→Nat→Option Rat
 | 0,_=>none
 | k+1,i=>if s i=0 then rr t s n v k (i+1) else if i+1=n∨(v - fs t s i) / s i≤t (i+1) - t i then some (t i+(v - fs t s i) / s i) else rr t s n v k (i+1)
end Go.Den
namespace Go.Den
open Go.Ab
theorem Wl {z:Int} (h1:-9223372036854775808≤z) (h2:z≤9223372036854775807):Gv (fun N=>ux N z) (bj (z:Rat)) :=
 (J9 h1 h2).bind (Z3.bind ((Gv.pure _).eq rfl))
theorem rQ0:Gv (fun N=>ux N 0) (bj 0):=Wl (z:=0) (by decide) (by decide)
theorem RB.zero:RB 0 1:=RB.int (z:=0) (ZB.small (by decide)) (by decide)
section
variable {c:fk} {y:aa} {p:Rat} {n m:Nat}
theorem CB.rq (h:CB c n) (i:Nat):RQ (c.ba.getD i aa.d) (cq c i) n:=⟨h.ir i,rfl,h.one⟩
theorem uG.XV (hr:uG c) {i:Nat} (hi:i < cn c):-10000000≤cs c i∧cs c i≤10000000:=⟨hr.lo i hi,hr.hi i hi⟩
theorem uG.rq (hr:uG c) {i:Nat} (hi:i < cn c):RQ (bj (ct c i)) (ct c i) 4:=(Sl hr hi).rq (by decide)
theorem uG.Q (hr:uG c) {i:Nat} (hi:i < cn c):Gv (fun N=>ux N (c.ax.getD i 0)) (bj (ct c i)):=by
 have:=hr.XV hi
 exact Wl (z:=cs c i) (by omega) (by omega)
theorem uG.num (hr:uG c) {i:Nat} (hi:i < cn c):Gv (fun N=>du N (c.ax.getD i 0)) (bj (ct c i)):=by
 have:=hr.XV hi
 exact pQ (z:=cs c i) (by omega) (by omega)
theorem DV {q:Rat}:decide (qm q < 0)=decide (q < 0):=decide_eq_decide.2 mT
theorem yR {q:Rat}:decide (qm q > 0)=decide (0 < q):=decide_eq_decide.2 JK
end
end Go.Den
namespace Go.Den
open Go.Ab
theorem Vw (x:aa):Gv (fun N=>qE N x) (cond (decide (((x.fN.fL.length:Nat):Int) > 12)) true (decide (((x.fD.fL.length:Nat):Int) > 12))):=Gv.pure _
theorem Nb {x:aa} (h:aa.wf x):Gv (fun N=>qE N x) true∨(Gv (fun N=>qE N x) false∧RQ x (qv x) 12):=by
 have:=Vw x
 by_cases h1:x.fN.fL.length≤12
 ·by_cases h2:x.fD.fL.length≤12
  ·rw [decide_eq_false (by omega),decide_eq_false (by omega)] at this
   exact .inr ⟨this,⟨IB.OA h.1 h1,IB.OA h.2 h2⟩,rfl,by decide⟩
  ·rw [decide_eq_true (p:=((x.fD.fL.length:Nat):Int) > 12) (by omega)] at this
   left;revert this;cases decide (((x.fN.fL.length:Nat):Int) > 12)<;>exact id
 ·rw [decide_eq_true (by omega)] at this
  exact .inl this
theorem adA {n:Nat}:IR aa.d n:=⟨⟨U.nil,Nat.zero_le _⟩,⟨U.nil,Nat.zero_le _⟩⟩
theorem yS {l:List aa} {i:Nat} (h:l.length≤i):l.getD i aa.d=aa.d:=by
 simp [List.getD,List.getElem?_eq_none_iff.2 h]
theorem OF {l:List aa} (h:∀ x∈l,aa.wf x) {i:Nat} (hi:i < l.length):aa.wf (l.getD i aa.d):=by
 have e:l.getD i aa.d=l[i]:=by simp [List.getD,hi]
 rw [e];exact h _ (List.getElem_mem hi)
theorem GK {l:List aa} (h:∀ x∈l,aa.wf x) (hl:l.length≤1000):∀ (k i:Nat),i+k=l.length→aK (fun N fuel=>dA N l fuel (i:Int)) true∨(aK (fun N fuel=>dA N l fuel (i:Int)) false∧∀ j,i≤j→IR (l.getD j aa.d) 12)
 | 0,i,hi=>.inr ⟨.step 0 fun N g _ _=>by
  have:i=l.length:=by omega
  subst this
  rw [dA,eJ];rfl,fun j hj=>by rw [yS (by omega)];exact adA⟩
 | k+1,i,hi=>by
  have nH:i < l.length:=by omega
  rcases Nb (OF h nH) with w | ⟨w,r⟩
  ·refine .inl (aK.succ (fun N g=>dA.eq_2 ..) (aK.aG (dec_lt nH) (aK.if (mQ nH) ?_)))
   rw [an]
   exact aK.bind w (aK.aG rfl (aK.one (Gv.pure _)))
  ·have key:∀ b,aK (fun N fuel=>dA N l fuel ((i+1:Nat):Int)) b→aK (fun N fuel=>dA N l fuel (i:Int)) b:=fun b hb=>by
    refine aK.succ (fun N g=>dA.eq_2 ..) (aK.aG (dec_lt nH) (aK.if (mQ nH) ?_))
    rw [an,bh (by omega)]
    exact aK.bind w (aK.bg rfl hb)
   rcases GK h hl k (i+1) (by omega) with g | ⟨g,r2⟩
   ·exact .inl (key _ g)
   ·refine .inr ⟨key _ g,fun j hj=>?_⟩
    by_cases Ha:j=i
    ·rw [Ha];exact r.ir
    ·exact r2 j (by omega)
theorem HL {l:List aa} (h:∀ x∈l,aa.wf x) {most:Nat} (hm:most≤1000):Gv (fun N=>oy N l most) true∨(Gv (fun N=>oy N l most) false∧l.length≤most∧∀ j,IR (l.getD j aa.d) 12):=by
 by_cases h1:l.length≤most
 ·rcases GK h (by omega) l.length 0 (by omega) with g | ⟨g,r⟩
  ·exact .inl (Gv.bg (decide_eq_false (by omega)) g.diag)
  ·exact .inr ⟨Gv.bg (decide_eq_false (by omega)) g.diag,h1,fun j=>r j (Nat.zero_le _)⟩
 ·exact .inl (Gv.aG (decide_eq_true (by omega)) (Gv.pure _))
end Go.Den
namespace Go.Den
open Go.Ab
abbrev MS:Nat:=100000000
def Ev (p:Nat→Nat→Prop):Prop:=∃ N0,∀ N g,N0≤N→N0≤g→p N g
theorem Ev.of {p:Nat→Nat→Prop} (N0:Nat) (h:∀ N g,N0≤N→N0≤g→p N g):Ev p:=⟨N0,h⟩
theorem Gv.ev {α:Type} {f:Nat→Option α} {r:α} (h:Gv f r):Ev fun N _=>f N=some r:=let ⟨N0,h0⟩:=h;⟨N0,fun N _ hN _=>h0 N hN⟩
theorem Ev.and {p q:Nat→Nat→Prop} (h:Ev p) (k:Ev q):Ev fun N g=>p N g∧q N g:=by
 obtain ⟨a,ha⟩:=h;obtain ⟨b,hb⟩:=k
 exact ⟨a+b,fun N g h1 h2=>⟨ha N g (by omega) (by omega),hb N g (by omega) (by omega)⟩⟩
theorem Ev.mono {p q:Nat→Nat→Prop} (h:Ev p) (k:∀ N g,p N g→q N g):Ev q:=let ⟨a,ha⟩:=h;⟨a,fun N g h1 h2=>k N g (ha N g h1 h2)⟩
theorem Ev.succ {p:Nat→Nat→Prop} (h:Ev fun N g=>p N (g+1)):Ev p:=by
 obtain ⟨a,ha⟩:=h
 refine ⟨a+1,fun N g h1 h2=>?_⟩
 obtain ⟨g,rfl⟩:∃ g',g=g'+1:=⟨g - 1,by omega⟩
 exact ha N g (by omega) (by omega)
theorem Ev.diag {p:Nat→Nat→Prop} (h:Ev p):Ev fun N _=>p N N:=let ⟨a,ha⟩:=h;⟨a,fun N _ h1 _=>ha N N h1 h1⟩
theorem Ev.true {p:Nat→Nat→Prop} (h:∀ N g,p N g):Ev p:=⟨0,fun N g _ _=>h N g⟩
def Ch (A:List (List aa)) (i j:Nat):aa:=(A.getD i []).getD j aa.d
structure Lr (A:List (List aa)) (n w:Nat) (M:Nat→Nat→Rat):Prop where
 len:A.length=n
 row:∀ i,i < n→(A.getD i []).length=w
 Ch:∀ i j,i < n→j < w→RQ (Ch A i j) (M i j) MS
def upd (M:Nat→Nat→Rat) (i j:Nat) (v:Rat):Nat→Nat→Rat:=fun a b=>if a=i∧b=j then v else M a b
theorem lL {α:Type} (l:List α) (i:Nat) (x d:α) (h:i < l.length):(l.set i x).getD i d=x:=by
 simp [eh,List.getElem?_set_self h]
theorem je {α:Type} (l:List α) {i j:Nat} (x d:α) (h:i≠j):(l.set i x).getD j d=l.getD j d:=by
 simp [eh,List.getElem?_set_ne h]
theorem Lr.set {A:List (List aa)} {n w:Nat} {M:Nat→Nat→Rat} (h:Lr A n w M) {i j:Nat} (hi:i < n) (hj:j < w) {x:aa} {v:Rat} (hx:RQ x v MS) :
  Lr (A.set i ((A.getD i []).set j x)) n w (upd M i j v):=by
 refine ⟨by rw [List.length_set];exact h.len,fun a ha=>?_,fun a b ha hb=>?_⟩
 ·by_cases e:i=a
  ·subst e;rw [lL _ _ _ _ (by rw [h.len];exact hi),List.length_set];exact h.row i hi
  ·rw [je _ _ _ e];exact h.row a ha
 ·unfold Go.Den.Ch upd
  by_cases e:i=a
  ·subst e
   rw [lL _ _ _ _ (by rw [h.len];exact hi)]
   by_cases e2:j=b
   ·subst e2
    rw [lL _ _ _ _ (by rw [h.row i hi];exact hj),if_pos ⟨rfl,rfl⟩];exact hx
   ·rw [je _ _ _ e2,if_neg (fun q=>e2 q.2.symm)];exact h.Ch i b ha hb
  ·rw [je _ _ _ e,if_neg (fun q=>e q.1.symm)];exact h.Ch a b ha hb
theorem Lr.congr {A:List (List aa)} {n w:Nat} {M M':Nat→Nat→Rat} (h:Lr A n w M) (e:∀ i j,i < n→j < w→M i j=M' i j):Lr A n w M' :=
 ⟨h.len,h.row,fun i j hi hj=>e i j hi hj ▸ h.Ch i j hi hj⟩
def VB (M:Nat→Nat→Rat) (n w s:Nat):Prop:=∀ i j,i < n→j < w→RB (M i j) s
end Go.Den
namespace Go.Den
open Go.Ab
def TD (M:Nat→Nat→Rat) (c d:Nat):Nat→Nat→Rat:=fun i j=>if i=c then M d j else if i=d then M c j else M i j
def TE (M:Nat→Nat→Rat) (c t:Nat):Nat→Nat→Rat:=fun i j=>if i=c∧j < t then M c j / M c c else M i j
def Nc (M:Nat→Nat→Rat) (g:Nat→Rat) (c t:Nat):Nat→Nat→Rat:=fun i j=>if i < t∧i≠c then M i j - g i * M c j else M i j
def stE (M:Nat→Nat→Rat) (n w c d:Nat):Nat→Nat→Rat:=Nc (TE (TD M c d) c w) (fun i=>TD M c d i c) c n
def stR (M:Nat→Nat→Rat) (n c d:Nat):Nat→Nat→Rat:=Nc (TD M c d) (fun i=>TD M c d i c / TD M c d c c) c n
structure Prl (M R:Nat→Nat→Rat) (n w c:Nat) (l:Nat→Rat):Prop where
 ne:∀ i,i < n→l i≠0
 eq:∀ i j,i < n→j < w→R i j=l i * M i j
 one:∀ i j,i < n→j < c→M i j=if i=j then 1 else 0
theorem Prl.step {M R:Nat→Nat→Rat} {n w c:Nat} {l:Nat→Rat} (h:Prl M R n w c l) (hc:c < n) (hw:n≤w) {d:Nat} (YB:c≤d) (Vm:d < n) (h0:M d c≠0) :
  ∃ l',Prl (stE M n w c d) (stR R n c d) n w (c+1) l':=by
 let s:Nat→Nat:=fun i=>if i=c then d else if i=d then c else i
 have hs:∀ i,i < n→s i < n:=fun i hi=>by
  show (if i=c then d else if i=d then c else i) < n
  split
  ·exact Vm
  ·split<;>omega
 have hM:∀ i j,TD M c d i j=M (s i) j:=fun i j=>by
  show (if i=c then M d j else if i=d then M c j else M i j)=M (if i=c then d else if i=d then c else i) j
  split
  ·rfl
  ·split<;>rfl
 have hR:∀ i j,TD R c d i j=R (s i) j:=fun i j=>by
  show (if i=c then R d j else if i=d then R c j else R i j)=R (if i=c then d else if i=d then c else i) j
  split
  ·rfl
  ·split<;>rfl
 have TA:s c=d:=if_pos rfl
 have YE:c < w:=by omega
 refine ⟨fun i=>if i=c then l d * M d c else l (s i),fun i hi=>?_,fun i j hi hj=>?_,fun i j hi hj=>?_⟩
 ·split
  ·intro e
   rcases Rat.mul_eq_zero.1 e with e | e
   ·exact h.ne d Vm e
   ·exact h0 e
  ·exact h.ne _ (hs i hi)
 ·simp only [stE,stR,Nc]
  have e1:=h.eq (s i) j (hs i hi) hj
  have e2:=h.eq d j Vm hj
  have e3:=h.eq (s i) c (hs i hi) YE
  have e4:=h.eq d c Vm YE
  have hl:=h.ne d Vm
  by_cases OG:i=c
  ·have hn:¬ (i < n∧i≠c):=fun q=>q.2 OG
   simp only [hn,if_false,OG,if_true,hR,TA,e2,TE,hM,hj,and_self]
   grind
  ·have hn:i < n∧i≠c:=⟨hi,OG⟩
   simp only [hn,OG,if_true,if_false,not_false_eq_true,and_self,ne_eq,hR,TA,e1,e2,e3,e4,TE,hM,false_and,hj]
   have:l d * M d c≠0:=fun e=>by
    rcases Rat.mul_eq_zero.1 e with e | e
    ·exact hl e
    ·exact h0 e
   grind
 ·have hz:∀ i,i < n→j < c→M i j=if i=j then 1 else 0:=fun i hi h1=>h.one i j hi h1
  simp only [stE,Nc]
  by_cases hjc:j=c
  ·by_cases OG:i=c
   ·have hn:¬ (i < n∧i≠c):=fun q=>q.2 OG
    simp only [hn,if_false,OG,hjc,if_true,TE,hM,TA,YE,and_self]
    grind
   ·have hn:i < n∧i≠c:=⟨hi,OG⟩
    simp only [hn,OG,hjc,if_true,if_false,not_false_eq_true,and_self,ne_eq,TE,hM,TA,false_and,YE]
    grind
  ·have Z5:j < c:=by omega
   have hjw:j < w:=by omega
   have Qg:M d j=0:=by rw [hz d Vm Z5,if_neg (by omega)]
   have adE:M (s i) j=if i=j then 1 else 0:=by
    rw [hz (s i) (hs i hi) Z5]
    have:(s i=j)↔(i=j):=by
     show ((if i=c then d else if i=d then c else i)=j)↔i=j
     split
     ·omega
     ·split<;>omega
    simp only [this]
   by_cases OG:i=c
   ·have hn:¬ (i < n∧i≠c):=fun q=>q.2 OG
    have Ue:¬ c=j:=fun q=>hjc q.symm
    simp only [hn,if_false,OG,if_true,TE,hM,TA,hjw,and_self,Qg,Ue]
    grind
   ·have hn:i < n∧i≠c:=⟨hi,OG⟩
    simp only [hn,OG,if_true,if_false,not_false_eq_true,and_self,ne_eq,TE,hM,TA,false_and,hjw,adE,Qg]
    grind
theorem VB.TD {M:Nat→Nat→Rat} {n w s c d:Nat} (h:VB M n w s) (hc:c < n) (hd:d < n):VB (TD M c d) n w s:=fun i j hi hj=>by
 unfold Go.Den.TD
 split
 ·exact h d j hd hj
 ·split
  ·exact h c j hc hj
  ·exact h i j hi hj
theorem VB.TE {M:Nat→Nat→Rat} {n w s c t:Nat} (h:VB M n w s) (hc:c < n) (YE:c < w) (h0:M c c≠0):VB (TE M c t) n w (s+s):=fun i j hi hj=>by
 unfold Go.Den.TE
 split
 ·exact (h c j hc hj).div (h c c hc YE) h0
 ·exact (h i j hi hj).le (by omega)
theorem VB.Nc {M:Nat→Nat→Rat} {n w s c t:Nat} {g:Nat→Rat} (h:VB M n w s) (hg:∀ i,i < n→RB (g i) s) (hc:c < n):VB (Nc M g c t) n w (s+(s+s)+1):=fun a j ha hj=>by
 unfold Go.Den.Nc
 split
 ·exact (h a j ha hj).sub ((hg a ha).mul (h c j hc hj))
 ·exact (h a j ha hj).le (by omega)
end Go.Den
namespace Go.Den
open Go.Ab
theorem EF {a:Nat} (h:a≤MS+MS+1):SM (2 * a+2):=by simp only [SM,MS] at *;omega
theorem Lr.at {A:List (List aa)} {n w:Nat} {M:Nat→Nat→Rat} (h:Lr A n w M) {i j:Nat} (hi:i < n) (hj:j < w):RQ ((A.getD i []).getD j aa.d) (M i j) MS:=h.Ch i j hi hj
theorem inl {m n k:Nat} (h:m < n) (e:k=n):0≤(m:Int)∧(m:Int) < ((k:Nat):Int):=⟨by omega,by omega⟩
theorem Ka {m n k:Nat} (h:m < n) (e:k=n):decide ((m:Int) < ((k:Nat):Int))=true:=by simp;omega
theorem Ls {m n k:Nat} (h:n≤m) (e:k=n):decide ((m:Int) < ((k:Nat):Int))=false:=by simp;omega
section
variable {A:List (List aa)} {n w c:Nat} {M:Nat→Nat→Rat}
end
end Go.Den
