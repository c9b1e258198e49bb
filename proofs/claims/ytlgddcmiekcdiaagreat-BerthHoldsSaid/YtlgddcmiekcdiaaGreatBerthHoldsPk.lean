/- The plain law: the Lean function of the law returns true for every input, and what it needs. No conditions. -/
import Derived.Test.YtlgddcmiekcdiaaGreatBerthHoldsDen
set_option linter.unusedVariables false
set_option linter.unusedSimpArgs false
namespace Go.Den
open Go.Ab
theorem Nz (n:Int):ah n=if n % 18446744073709551616≥9223372036854775808 then n % 18446744073709551616 - 18446744073709551616 else n % 18446744073709551616:=by
 have e:ah n=(if (true && decide (n % 18446744073709551616≥9223372036854775808))=true then n % 18446744073709551616 - 18446744073709551616 else n % 18446744073709551616):=rfl
 rw [e];simp
theorem bw {n:Int} (h1:-9223372036854775808≤n) (h2:n≤9223372036854775807):ah n=n:=by
 rw [Nz];split<;>omega
theorem gn {m:Nat} (h:m < 9223372036854775807):ah ((m:Int)+1)=((m+1:Nat):Int):=by rw [bw (by omega) (by omega)];simp
theorem LA {α:Type} (l:List α) (m:Nat) (d:α) (h:m < l.length):l.getD m d∈l:=by
 simp [List.getD,h]
theorem bF (m:Nat):((m:Int)).toNat=m:=rfl
theorem xa {m n:Nat} (h:m < n):0≤(m:Int)∧(m:Int) < ((n:Nat):Int):=⟨by omega,by omega⟩
theorem dec_lt {m n:Nat} (h:m < n):decide ((m:Int) < ((n:Nat):Int))=true:=by simp;omega
theorem mD {n:Nat}:decide ((n:Int) < ((n:Nat):Int))=false:=by simp
end Go.Den
namespace Go.Den
open Go.Ab
theorem qG (n:Int):IntKind.u16.wrap n=n % 65536:=by
 have e:IntKind.u16.wrap n=(if (false && decide (n % 65536≥32768))=true then n % 65536 - 65536 else n % 65536):=rfl
 rw [e];simp
theorem wrap32 (n:Int):IntKind.u32.wrap n=n % 4294967296:=by
 have e:IntKind.u32.wrap n=(if (false && decide (n % 4294967296≥2147483648))=true then n % 4294967296 - 4294967296 else n % 4294967296):=rfl
 rw [e];simp
theorem wrap64 (n:Int):IntKind.u64.wrap n=n % 18446744073709551616:=by
 have e:IntKind.u64.wrap n=(if (false && decide (n % 18446744073709551616≥9223372036854775808))=true then n % 18446744073709551616 - 18446744073709551616 else n % 18446744073709551616):=rfl
 rw [e];simp
theorem lV {n:Int} (h:0≤n) (h2:n < 65536):IntKind.u16.wrap n=n:=by rw [qG];omega
theorem bN {n:Int} (h:0≤n) (h2:n < 4294967296):IntKind.u32.wrap n=n:=by rw [wrap32];omega
theorem eZ {n:Int} (h:0≤n) (h2:n < 18446744073709551616):IntKind.u64.wrap n=n:=by rw [wrap64];omega
theorem y6 (n:Int):mH .u32 n 16=n / 65536:=by
 unfold mH
 have:(2:Int) ^ (min (16:Int).toNat IntKind.u32.bits)=65536:=by decide
 rw [this,Int.fdiv_eq_ediv_of_nonneg _ (by decide)]
theorem GK (n:Int):mH .u64 n 16=n / 65536:=by
 unfold mH
 have:(2:Int) ^ (min (16:Int).toNat IntKind.u64.bits)=65536:=by decide
 rw [this,Int.fdiv_eq_ediv_of_nonneg _ (by decide)]
theorem JM (n:Int):mH .i64 n 16=n / 65536:=by
 unfold mH
 have:(2:Int) ^ (min (16:Int).toNat IntKind.i64.bits)=65536:=by decide
 rw [this,Int.fdiv_eq_ediv_of_nonneg _ (by decide)]
theorem C8 {n:Int} (h:0≤n) (h2:n < 65536):fh .u32 n 16=n * 65536:=by
 unfold fh
 have:(2:Int) ^ (min (16:Int).toNat IntKind.u32.bits)=65536:=by decide
 rw [this,wrap32];omega
theorem C9 {n:Int} (h:0≤n) (h2:n < 281474976710656):fh .u64 n 16=n * 65536:=by
 unfold fh
 have:(2:Int) ^ (min (16:Int).toNat IntKind.u64.bits)=65536:=by decide
 rw [this,wrap64];omega
theorem LC {n:Nat} (a b:Nat) (ha:a < 2 ^ n) (hb:b < 2 ^ n):(BitVec.ofInt n (a:Int) ||| BitVec.ofInt n (b:Int)).toNat=a ||| b:=by
 rw [BitVec.ofInt_natCast,BitVec.ofInt_natCast,BitVec.toNat_or,BitVec.toNat_ofNat,BitVec.toNat_ofNat,Nat.mod_eq_of_lt ha,Nat.mod_eq_of_lt hb]
theorem bv_and {n:Nat} (a b:Nat) (ha:a < 2 ^ n) (hb:b < 2 ^ n):(BitVec.ofInt n (a:Int) &&& BitVec.ofInt n (b:Int)).toNat=a &&& b:=by
 rw [BitVec.ofInt_natCast,BitVec.ofInt_natCast,BitVec.toNat_and,BitVec.toNat_ofNat,BitVec.toNat_ofNat,Nat.mod_eq_of_lt ha,Nat.mod_eq_of_lt hb]
theorem xW (a b k:Nat) (hb:b < 2 ^ k):(a * 2 ^ k) ||| b=a * 2 ^ k+b:=by
 have:=Nat.shiftLeft_add_eq_or_of_lt hb a
 rw [Nat.shiftLeft_eq] at this
 exact this.symm
theorem IZ {a b:Int} (ha:0≤a) (Mb:a < 65536) (hb:0≤b) (nh:b < 65536):q0 .u32 (a * 65536) b=a * 65536+b:=by
 obtain ⟨a,rfl⟩:=Int.eq_ofNat_of_zero_le ha
 obtain ⟨b,rfl⟩:=Int.eq_ofNat_of_zero_le hb
 unfold q0
 have e:((a:Int) * 65536)=((a * 2 ^ 16:Nat):Int):=by simp
 rw [e,show IntKind.u32.bits=32 from rfl,LC _ _ (by omega) (by omega),xW _ _ 16 (by omega),wrap32]
 omega
theorem Fx {a b:Int} (ha:0≤a) (Mb:a < 281474976710656) (hb:0≤b) (nh:b < 65536):q0 .u64 (a * 65536) b=a * 65536+b:=by
 obtain ⟨a,rfl⟩:=Int.eq_ofNat_of_zero_le ha
 obtain ⟨b,rfl⟩:=Int.eq_ofNat_of_zero_le hb
 unfold q0
 have e:((a:Int) * 65536)=((a * 2 ^ 16:Nat):Int):=by simp
 rw [e,show IntKind.u64.bits=64 from rfl,LC _ _ (by omega) (by omega),xW _ _ 16 (by omega),wrap64]
 omega
theorem LD {a:Int} (ha:0≤a) (Mb:a < 18446744073709551616):Gz .u64 a 65535=a % 65536:=by
 obtain ⟨a,rfl⟩:=Int.eq_ofNat_of_zero_le ha
 unfold Gz
 have e:(65535:Int)=((65535:Nat):Int):=rfl
 rw [e,show IntKind.u64.bits=64 from rfl,bv_and _ _ (by omega) (by omega),show (65535:Nat)=2 ^ 16 - 1 from rfl,Nat.and_two_pow_sub_one_eq_mod,wrap64]
 omega
def ba:List Int→Int
 | []=>0
 | x :: l=>x+65536 * ba l
def U (l:List Int):Prop:=∀ x,x∈l→0≤x∧x < 65536
def lm (n:Nat):List Int:=if h:n=0 then [] else ((n % 65536:Nat):Int) :: lm (n / 65536)
termination_by n
decreasing_by omega
def pw (k:Nat):Int:=65536 ^ k
theorem wx:pw 0=1:=rfl
theorem eX (k:Nat):pw (k+1)=65536 * pw k:=by unfold pw;rw [Int.pow_succ];omega
theorem jv (k:Nat):0 < pw k:=by
 induction k with
 | zero=>decide
 | succ k ih=>rw [eX];omega
theorem Da (j k:Nat):pw (j+k)=pw j * pw k:=Int.pow_add _ _ _
theorem U.nil:U []:=fun x h=>by simp at h
theorem U.cons {x:Int} {l:List Int} (h1:0≤x) (h2:x < 65536) (h:U l):U (x :: l):=fun y hy=>by
 rcases jW.1 hy with rfl | hy
 ·exact ⟨h1,h2⟩
 ·exact h y hy
theorem U.tail {x:Int} {l:List Int} (h:U (x :: l)):U l:=fun y hy=>h y (List.mem_cons_of_mem _ hy)
theorem U.head {x:Int} {l:List Int} (h:U (x :: l)):0≤x∧x < 65536:=h x (by simp)
theorem U.append {l m:List Int} (h1:U l) (h2:U m):U (l ++ m):=fun y hy=>by
 rcases List.mem_append.1 hy with hy | hy
 ·exact h1 y hy
 ·exact h2 y hy
theorem U.left {l m:List Int} (h:U (l ++ m)):U l:=fun y hy=>h y (List.mem_append_left _ hy)
theorem U.right {l m:List Int} (h:U (l ++ m)):U m:=fun y hy=>h y (List.mem_append_right _ hy)
theorem U.one {x:Int} (h1:0≤x) (h2:x < 65536):U [x]:=U.cons h1 h2 U.nil
theorem U.take {l:List Int} (h:U l) (k:Nat):U (l.take k):=fun y hy=>h y (List.mem_of_mem_take hy)
theorem U.drop {l:List Int} (h:U l) (k:Nat):U (l.drop k):=fun y hy=>h y (List.mem_of_mem_drop hy)
theorem U.getD {l:List Int} (h:U l) (i:Nat):0≤l.getD i 0∧l.getD i 0 < 65536:=by
 by_cases hi:i < l.length
 ·exact h _ (LA l i 0 hi)
 ·rw [ft,n8 (by omega)];decide
theorem U.set {l:List Int} (h:U l) (i:Nat) {x:Int} (h1:0≤x) (h2:x < 65536):U (l.set i x):=fun y hy=>by
 rcases List.mem_or_eq_of_mem_set hy with hy | rfl
 ·exact h y hy
 ·exact ⟨h1,h2⟩
theorem U.replicate (n:Nat):U (List.replicate n 0):=fun y hy=>by
 rw [(List.mem_replicate.1 hy).2];decide
theorem kg (l m:List Int):ba (l ++ m)=ba l+pw l.length * ba m:=by
 induction l with
 | nil=>simp [ba,wx]
 | cons x l ih =>
  simp only [List.cons_append,ba,ih,vY,eX]
  rw [gI,← jz];omega
theorem pJ (x:Int):ba [x]=x:=by simp [ba]
theorem hC (n:Nat):ba (List.replicate n 0)=0:=by
 induction n with
 | zero=>rfl
 | succ n ih=>simp [List.replicate_succ,ba,ih]
theorem U.mP:∀ {l:List Int},U l→0≤ba l
 | [],_=>by simp [ba]
 | x :: l,h=>by have:=U.mP h.tail;have:=h.head;simp only [ba];omega
theorem U.lt:∀ {l:List Int},U l→ba l < pw l.length
 | [],_=>by simp [ba,wx]
 | x :: l,h=>by have:=U.lt h.tail;have:=h.head;simp only [ba,vY,eX];omega
theorem k5:∀ (l:List Int) (i:Nat) (x:Int),i < l.length→ba (l.set i x)=ba l+(x - l.getD i 0) * pw i
 | [],i,x,h=>by simp at h
 | y :: l,0,x,h=>by simp [ba,wx];omega
 | y :: l,i+1,x,h=>by
  simp only [List.set_cons_succ,ba,k5 l i x (by simpa using h),eX]
  rw [show (y :: l).getD (i+1) 0=l.getD i 0 from rfl,gI,show (x - l.getD i 0) * (65536 * pw i)=65536 * ((x - l.getD i 0) * pw i) by rw [Int.mul_left_comm]]
  omega
theorem bO (l:List Int) (i:Nat) (h:i < l.length):ba (l.take (i+1))=ba (l.take i)+l.getD i 0 * pw i:=by
 have e:l.take (i+1)=l.take i ++ [l.getD i 0]:=by
  rw [List.take_add_one];simp [List.getD,h]
 rw [e,kg,pJ,nc,Nat.min_eq_left (by omega),fI]
theorem lD (l:List Int) (i:Nat) (h:i < l.length):ba (l.drop i)=l.getD i 0+65536 * ba (l.drop (i+1)):=by
 rw [List.drop_eq_getElem_cons h];simp [ba,List.getD,h]
theorem oi (l:List Int) (i:Nat) (h:i≤l.length):ba l=ba (l.take i)+pw i * ba (l.drop i):=by
 have:=kg (l.take i) (l.drop i)
 rwa [List.take_append_drop,nc,Nat.min_eq_left h] at this
theorem fX:lm 0=[]:=by rw [lm];rfl
theorem oU {n:Nat} (h:n≠0):lm n=((n % 65536:Nat):Int) :: lm (n / 65536):=by rw [lm,dif_neg h]
theorem qU (n:Nat):U (lm n):=by
 induction n using Nat.strongRecOn with
 | _ n ih =>
  by_cases h:n=0
  ·subst h;rw [fX];exact U.nil
  ·rw [oU h];exact U.cons (by omega) (by omega) (ih _ (by omega))
theorem gU (n:Nat):ba (lm n)=n:=by
 induction n using Nat.strongRecOn with
 | _ n ih =>
  by_cases h:n=0
  ·subst h;rw [fX];rfl
  ·rw [oU h,ba,ih _ (by omega)];omega
theorem H2 {n:Nat}:lm n=[]↔n=0:=by
 constructor
 ·intro h
  have:=gU n
  rw [h] at this;simp [ba] at this;omega
 ·rintro rfl;exact fX
theorem ki {n:Nat}:0 < (lm n).length↔n≠0:=by
 rw [List.length_pos_iff,ne_eq,H2]
theorem gy {n k:Nat}:(lm n).length≤k↔(n:Int) < pw k:=by
 induction k generalizing n with
 | zero =>
  rw [wx]
  constructor
  ·intro h;have:lm n=[]:=List.length_eq_zero_iff.1 (by omega);rw [H2] at this;omega
  ·intro h;have:n=0:=by omega
   rw [H2.2 this];simp
 | succ k ih =>
  by_cases h:n=0
  ·subst h;rw [fX];have:=jv (k+1);simp;omega
  ·rw [oU h,vY,eX]
   have:=ih (n:=n / 65536)
   constructor
   ·intro h;have:=this.1 (by omega);omega
   ·intro h;have:=this.2 (by omega);omega
theorem NA {n:Nat} (h:n≠0):∃ l x,lm n=l ++ [x]∧x≠0∧U l∧0≤x∧x < 65536:=by
 induction n using Nat.strongRecOn with
 | _ n ih =>
  rw [oU h]
  by_cases h2:n / 65536=0
  ·rw [h2,fX];exact ⟨[],_,rfl,by omega,U.nil,by omega,by omega⟩
  ·obtain ⟨l,x,e,hx,hl,h3,h4⟩:=ih _ (by omega) h2
   rw [e];exact ⟨_ :: l,x,rfl,hx,U.cons (by omega) (by omega) hl,h3,h4⟩
theorem I0:∀ {l:List Int},U l→(∀ m x,l=m ++ [x]→x≠0)→lm (ba l).toNat=l
 | [],_,_=>by simp [ba,fX]
 | x :: l,h,hn=>by
  have h1:=h.head
  have h2:=h.tail.mP
  have e:ba (x :: l)=x+65536 * ba l:=rfl
  have iI:(ba (x :: l)).toNat≠0:=by
   rw [e]
   cases l with
   | nil=>have:=hn [] x rfl;simp [ba];omega
   | cons y l =>
    have hl:=I0 (l:=y :: l) h.tail fun m z hz=>hn (x :: m) z (by rw [hz];rfl)
    have:ba (y :: l)≠0:=fun h0=>by rw [h0] at hl;simp [fX] at hl
    omega
  rw [oU iI]
  have hl:=I0 (l:=l) h.tail fun m z hz=>hn (x :: m) z (by rw [hz];rfl)
  have e1:(((ba (x :: l)).toNat % 65536:Nat):Int)=x:=by rw [e];omega
  have e2:(ba (x :: l)).toNat / 65536=(ba l).toNat:=by rw [e];omega
  rw [e1,e2,hl]
theorem I1 {N:Nat}:∀ (fuel:Nat) (l:List Int),U l→l.length < fuel→l.length < 9223372036854775807→lh N fuel l=some (lm (ba l).toNat)
 | 0,l,_,h,_=>by omega
 | fuel+1,l,hU,h,hs=>by
  rw [lh]
  rcases List.eq_nil_or_concat l with rfl | ⟨m,x,NX⟩
  ·simp [ba,fX]
  ·rw [List.concat_eq_append] at NX
   subst NX
   have hlen:(m ++ [x]).length=m.length+1:=by simp
   have e1:ah ((((m ++ [x]).length:Nat):Int) - 1)=(m.length:Int):=by rw [hlen,bw (by omega) (by rw [hlen] at hs;omega)];omega
   have e2:(m ++ [x]).getD m.length 0=x:=by simp [List.getD]
   have e3:decide ((((m ++ [x]).length:Nat):Int) > 0)=true:=by simp
   rw [e1,e3]
   rw [if_pos (fun _=>⟨by omega,by rw [hlen];omega⟩),cond_true]
   simp only [bF,e2]
   cases hx:(x == 0) with
   | true =>
    have Ok:x=0:=by simpa using hx
    subst Ok
    rw [cond_true,if_pos ⟨Nat.zero_le _,by rw [hlen];omega⟩,if_pos (by omega)]
    have e4:((m ++ [(0:Int)]).take m.length).drop 0=m:=by simp
    rw [e4,I1 fuel m hU.left (by rw [hlen] at h;omega) (by rw [hlen] at hs;omega),kg,pJ];simp
   | false =>
    rw [cond_false,I0 hU]
    intro m' x' he
    have:=(List.append_inj' he rfl).2
    simp at this hx
    omega
theorem kj {N:Nat} {l:List Int} (hU:U l) (hN:l.length < N) (hs:l.length < 9223372036854775807):eR N l=some (lm (ba l).toNat):=I1 N l hU hN hs
end Go.Den
namespace Go.Den
open Go.Ab
abbrev SM (n:Nat):Prop:=n < 10000000000000
def H3 (a b:List Int):Nat→Int
 | 0=>0
 | k+1=>cond (a.getD k 0 != b.getD k 0) (a.getD k 0 - b.getD k 0) (H3 a b k)
def Fy (a b:Nat):Int:=cond ((((lm a).length:Nat):Int) != (((lm b).length:Nat):Int)) ((((lm a).length:Nat):Int) - (((lm b).length:Nat):Int)) (H3 (lm a) (lm b) (lm a).length)
theorem Db {N:Nat} {a b:List Int} (ha:U a) (hb:U b) (hl:a.length=b.length) (hs:SM a.length):∀ (k fuel:Nat),k≤a.length→k < fuel →
  ∃ c,fZ N a b fuel ((k:Int) - 1)=some c∧(c < 0↔ba (a.take k) < ba (b.take k))∧(c=0↔ba (a.take k)=ba (b.take k))∧c=H3 a b k
 | 0,fuel,_,hf=>by
  obtain ⟨g,rfl⟩:∃ g,fuel=g+1:=⟨fuel - 1,by omega⟩
  exact ⟨0,by rw [fZ];rfl,by simp,by simp,rfl⟩
 | k+1,fuel,hk,hf=>by
  obtain ⟨g,rfl⟩:∃ g,fuel=g+1:=⟨fuel - 1,by omega⟩
  have e:(((k+1:Nat):Int) - 1)=(k:Int):=by omega
  rw [e,fZ]
  have hA:=bO a k (by omega)
  have hB:=bO b k (by omega)
  have h1:=ha.getD k
  have h2:=hb.getD k
  have Wx:=(ha.take k).lt
  have Rn:=(hb.take k).lt
  have Xl:=(ha.take k).mP
  have Ua:=(hb.take k).mP
  rw [nc,Nat.min_eq_left (by omega)] at Wx Rn
  have e0:decide ((k:Int)≥0)=true:=by simp
  rw [e0,cond_true,if_pos ⟨by omega,by omega⟩,if_pos ⟨by omega,by omega⟩]
  simp only [bF]
  cases hd:(a.getD k 0 != b.getD k 0) with
  | true =>
   have iI:a.getD k 0≠b.getD k 0:=by simpa using hd
   refine ⟨a.getD k 0 - b.getD k 0,?_,?_,?_,by rw [H3,hd];rfl⟩
   ·rw [cond_true]
    congr 1
    rw [bw (by rw [bw (by omega) (by omega),bw (by omega) (by omega)];omega) (by rw [bw (by omega) (by omega),bw (by omega) (by omega)];omega),bw (by omega) (by omega),bw (by omega) (by omega)]
   ·rw [hA,hB]
    generalize a.getD k 0=x at *
    generalize b.getD k 0=y at *
    rcases Int.lt_or_lt_of_ne iI with h | h
    ·have:=iv (show x+1≤y by omega) (Int.le_of_lt (jv k))
     rw [db] at this
     constructor<;>intro<;>omega
    ·have:=iv (show y+1≤x by omega) (Int.le_of_lt (jv k))
     rw [db] at this
     constructor<;>intro<;>omega
   ·rw [hA,hB]
    generalize a.getD k 0=x at *
    generalize b.getD k 0=y at *
    rcases Int.lt_or_lt_of_ne iI with h | h
    ·have:=iv (show x+1≤y by omega) (Int.le_of_lt (jv k))
     rw [db] at this
     constructor<;>intro<;>omega
    ·have:=iv (show y+1≤x by omega) (Int.le_of_lt (jv k))
     rw [db] at this
     constructor<;>intro<;>omega
  | false =>
   have heq:a.getD k 0=b.getD k 0:=by simpa using hd
   obtain ⟨c,h3,h4,h5,h6⟩:=Db ha hb hl hs k g (by omega) (by omega)
   refine ⟨c,?_,?_,?_,by rw [H3,hd];exact h6⟩
   ·rw [cond_false,bw (by omega) (by simp only [SM] at hs;omega)];exact h3
   ·rw [hA,hB,heq,h4];omega
   ·rw [hA,hB,heq,h5];omega
theorem wy {a b:Nat} (h:(lm a).length < (lm b).length):a < b:=by
 have h1:=gy (n:=a) (k:=(lm a).length)
 have h2:=gy (n:=b) (k:=(lm a).length)
 have:=h1.1 (a7 _)
 have:¬ (b:Int) < pw (lm a).length:=fun h'=>by have:=h2.2 h';omega
 omega
theorem tW {N:Nat} {a b:Nat} (hN:(lm a).length < N) (ha:SM (lm a).length) (hb:SM (lm b).length):∃ c,lj N (lm a) (lm b)=some c∧(c < 0↔a < b)∧(c=0↔a=b)∧c=Fy a b:=by
 unfold lj
 simp only [SM] at ha hb
 cases hl:((((lm a).length:Nat):Int) != (((lm b).length:Nat):Int)) with
 | true =>
  have iI:(lm a).length≠(lm b).length:=by intro h;rw [h] at hl;simp at hl
  refine ⟨_,cond_true _ _,?_,?_,by unfold Fy;rw [hl,cond_true,bw (by omega) (by omega)]⟩
  ·rw [bw (by omega) (by omega)]
   rcases Nat.lt_or_gt_of_ne iI with h | h
   ·have:=wy h;omega
   ·have:=wy h;omega
  ·rw [bw (by omega) (by omega)]
   rcases Nat.lt_or_gt_of_ne iI with h | h
   ·have:=wy h;omega
   ·have:=wy h;omega
 | false =>
  have heq:(lm a).length=(lm b).length:=by simp at hl;omega
  rw [cond_false,bw (by omega) (by omega)]
  obtain ⟨c,h1,h2,h3,h4⟩:=Db (N:=N) (qU a) (qU b) heq ha (lm a).length N (a7 _) hN
  rw [List.take_length,heq,List.take_length,gU,gU] at h2 h3
  exact ⟨c,h1,by omega,by omega,by unfold Fy;rw [hl];exact h4⟩
theorem GL {N a b:Nat} (hN:(lm a).length < N) (ha:SM (lm a).length) (hb:SM (lm b).length):lj N (lm a) (lm b)=some (Fy a b):=by
 obtain ⟨c,h1,_,_,rfl⟩:=tW hN ha hb
 exact h1
theorem NB {a b:Nat} (ha:SM (lm a).length) (hb:SM (lm b).length):Fy a b < 0↔a < b:=by
 obtain ⟨c,_,h,_,rfl⟩:=tW (N:=(lm a).length+1) (by omega) ha hb
 exact h
theorem I2 {N:Nat} {a b:List Int} (ha:U a) (hb:U b) (hl:b.length≤a.length) (hs:SM a.length) (hN:a.length+1 < N):∀ (k x fuel:Nat) (out:List Int) (c:Int),x+k=a.length→k < fuel→out.length=x→U out→0≤c→c≤1 →
  ba out+pw x * c=ba (a.take x)+ba (b.take x)→gZ N a b fuel out c (x:Int)=some (lm (ba a+ba b).toNat)
 | 0,x,fuel,out,c,hx,hf,ho,hU,xZ,qV,hinv=>by
  obtain ⟨g,rfl⟩:∃ g,fuel=g+1:=⟨fuel - 1,by omega⟩
  have DP:x=a.length:=by omega
  subst DP
  rw [gZ]
  simp only [SM] at hs
  rw [mD,cond_false,if_pos (by omega),lV xZ (by omega)]
  have R7:U (out ++ [c]):=hU.append (U.one xZ (by omega))
  have hlen:(out ++ [c]).length=a.length+1:=by simp [ho]
  rw [kj R7 (by rw [hlen];omega) (by rw [hlen];omega),dG,kg,pJ,ho,hinv,List.take_length,jy hl]
 | k+1,x,fuel,out,c,hx,hf,ho,hU,xZ,qV,hinv=>by
  obtain ⟨g,rfl⟩:∃ g,fuel=g+1:=⟨fuel - 1,by omega⟩
  simp only [SM] at hs
  have wz:x < a.length:=by omega
  have h1:=ha.getD x
  have h2:=hb.getD x
  rw [gZ,dec_lt wz,cond_true,if_pos (xa wz)]
  simp only [bF]
  have hA:=bO a x wz
  have hB:ba (b.take (x+1))=ba (b.take x)+b.getD x 0 * pw x:=by
   by_cases h:x < b.length
   ·exact bO b x h
   ·rw [jy (by omega),jy (by omega),ft,n8 (by omega)];simp
  have step:∀ s:Int,s=c+a.getD x 0+b.getD x 0→(mW N a b out (x:Int) (gZ N a b g) s)=some (lm (ba a+ba b).toNat):=by
   intro s Ub
   unfold mW
   rw [if_pos (by omega),qG,y6,gn (by omega)]
   refine I2 ha hb hl hs hN k (x+1) g _ _ (by omega) (by omega) (by simp [ho]) (hU.append (U.one (by omega) (by omega))) (by omega) (by omega) ?_
   rw [kg,pJ,ho,hA,hB,eX]
   have h5:s=s % 65536+65536 * (s / 65536):=by omega
   have h6:pw x * s=pw x * (s % 65536)+pw x * (65536 * (s / 65536)):=by rw [← gI,← h5]
   have h7:pw x * s=pw x * c+a.getD x 0 * pw x+b.getD x 0 * pw x:=by rw [Ub,gI,gI,fI (pw x) (a.getD x 0),fI (pw x) (b.getD x 0)]
   have h8:65536 * pw x * (s / 65536)=pw x * (65536 * (s / 65536)):=by rw [fI 65536,jz]
   omega
  by_cases nh:x < b.length
  ·rw [dec_lt nh,cond_true,if_pos (xa nh)]
   refine step _ ?_
   rw [bN (n:=a.getD x 0) (by omega) (by omega),bN (n:=b.getD x 0) (by omega) (by omega),bN (n:=c+a.getD x 0) (by omega) (by omega),bN (by omega) (by omega)]
  ·have e:decide ((x:Int) < ((b.length:Nat):Int))=false:=by simp;omega
   rw [e,cond_false]
   refine step _ ?_
   have h0:b.getD x 0=0:=by rw [ft,n8 (by omega)];rfl
   rw [bN (n:=a.getD x 0) (by omega) (by omega),bN (n:=c+a.getD x 0) (by omega) (by omega),h0];omega
theorem I3 {N:Nat} {a b:List Int} (ha:U a) (hb:U b) (hl:b.length≤a.length) (hs:SM a.length) (hN:a.length+1 < N):mX N a b=some (lm (ba a+ba b).toNat):=by
 unfold mX
 simp only [SM] at hs
 rw [if_pos (by rw [bw (by omega) (by omega)];omega)]
 exact I2 ha hb hl hs hN a.length 0 N _ 0 (by omega) (by omega) rfl (U.replicate 0) (by omega) (by omega) (by simp [ba])
theorem PH {N:Nat} {a b:List Int} (ha:U a) (hb:U b) (hs:SM a.length) (NC:SM b.length) (hN:a.length+1 < N) (Uc:b.length+1 < N):su N a b=some (lm (ba a+ba b).toNat):=by
 unfold su
 cases h:decide (((a.length:Nat):Int) < ((b.length:Nat):Int)) with
 | true =>
  simp at h
  rw [cond_true,I3 hb ha (by omega) NC Uc,Int.add_comm]
 | false =>
  simp at h
  rw [cond_false,I3 ha hb (by omega) hs hN]
theorem ND {N a b:Nat} (hs:SM (lm a).length) (NC:SM (lm b).length) (hN:(lm a).length+1 < N) (Uc:(lm b).length+1 < N):su N (lm a) (lm b)=some (lm (a+b)):=by
 rw [PH (qU a) (qU b) hs NC hN Uc,gU,gU];congr 1
theorem GM {N:Nat} {a b:List Int} (ha:U a) (hb:U b) (hl:b.length≤a.length) (hle:ba b≤ba a) (hs:SM a.length) (hN:a.length+1 < N):∀ (k x fuel:Nat) (out:List Int) (c:Int),x+k=a.length→k < fuel→out.length=a.length→U out→0≤c→c≤1 →
  (∀ j,x≤j→out.getD j 0=0)→ba out - pw x * c=ba (a.take x) - ba (b.take x)→eS N a b fuel out c (x:Int)=some (lm (ba a - ba b).toNat)
 | 0,x,fuel,out,c,hx,hf,ho,hU,xZ,qV,hz,hinv=>by
  obtain ⟨g,rfl⟩:∃ g,fuel=g+1:=⟨fuel - 1,by omega⟩
  have DP:x=a.length:=by omega
  subst DP
  simp only [SM] at hs
  rw [eS,mD,cond_false,kj hU (by omega) (by omega),dG]
  rw [List.take_length,jy hl] at hinv
  have h1:=hU.lt
  rw [ho] at h1
  have hc:c=0:=by
   rcases Int.lt_or_le 0 c with h | h
   ·have:c=1:=by omega
    subst this;omega
   ·omega
  subst hc
  have:ba out=ba a - ba b:=by omega
  rw [this]
 | k+1,x,fuel,out,c,hx,hf,ho,hU,xZ,qV,hz,hinv=>by
  obtain ⟨g,rfl⟩:∃ g,fuel=g+1:=⟨fuel - 1,by omega⟩
  simp only [SM] at hs
  have wz:x < a.length:=by omega
  have h1:=ha.getD x
  have h2:=hb.getD x
  rw [eS,dec_lt wz,cond_true,if_pos (xa wz)]
  simp only [bF]
  have hA:=bO a x wz
  have hB:ba (b.take (x+1))=ba (b.take x)+b.getD x 0 * pw x:=by
   by_cases h:x < b.length
   ·exact bO b x h
   ·rw [jy (by omega),jy (by omega),ft,n8 (by omega)];simp
  have step:∀ y:Int,y=c+b.getD x 0→(lJ N a b out (x:Int) (eS N a b g) y)=some (lm (ba a - ba b).toNat):=by
   intro y hy
   unfold lJ
   have fin:∀ q:Int,0≤q→q≤1→0≤a.getD x 0+q * 65536 - y→a.getD x 0+q * 65536 - y < 65536→lI N a b out (x:Int) y (eS N a b g) q=some (lm (ba a - ba b).toNat):=by
    intro q Bt Du J3 Qg
    unfold lI
    rw [if_pos ⟨by omega,by omega⟩,C8 (by omega) (by omega),bF,bN (n:=a.getD x 0) (by omega) (by omega),bN (n:=a.getD x 0+q * 65536) (by omega) (by omega),bN (by omega) (by omega),lV (by omega) (by omega),gn (by omega)]
    refine GM ha hb hl hle hs hN k (x+1) g _ _ (by omega) (by omega) (by simp [ho]) (hU.set x (by omega) (by omega)) Bt Du ?_ ?_
    ·intro j hj
     have:=hz j (by omega)
     rw [ft] at this ⊢
     rw [List.getElem?_set_ne (by omega)];exact this
    ·rw [k5 _ _ _ (by omega),hz x (a7 _),hA,hB,eX]
     have h3:(a.getD x 0+q * 65536 - y - 0) * pw x=a.getD x 0 * pw x+q * 65536 * pw x - y * pw x:=by rw [Int.sub_zero,Int.sub_mul,db]
     have h4:y * pw x=c * pw x+b.getD x 0 * pw x:=by rw [hy,db]
     have h5:q * 65536 * pw x=65536 * pw x * q:=by rw [fI q 65536,jz,jz,fI q]
     have h6:c * pw x=pw x * c:=fI _ _
     omega
   rw [bF,bN (n:=a.getD x 0) (by omega) (by omega)]
   cases fY:decide (a.getD x 0 < y) with
   | true=>have fY:=pe fY;rw [cond_true];exact fin 1 (by omega) (by omega) (by omega) (by omega)
   | false=>have fY:=pf fY;rw [cond_false];exact fin 0 (by omega) (by omega) (by omega) (by omega)
  by_cases nh:x < b.length
  ·rw [dec_lt nh,cond_true,if_pos (xa nh)]
   refine step _ ?_
   rw [bN (n:=b.getD x 0) (by omega) (by omega),bN (by omega) (by omega)]
  ·have e:decide ((x:Int) < ((b.length:Nat):Int))=false:=by simp;omega
   rw [e,cond_false]
   refine step _ ?_
   have h0:b.getD x 0=0:=by rw [ft,n8 (by omega)];rfl
   omega
theorem eY (n j:Nat):(List.replicate n (0:Int)).getD j 0=0:=by
 rw [ft,List.getElem?_replicate];split<;>rfl
theorem NF {N:Nat} {a b:List Int} (ha:U a) (hb:U b) (hl:b.length≤a.length) (hle:ba b≤ba a) (hs:SM a.length) (hN:a.length+1 < N):nZ N a b=some (lm (ba a - ba b).toNat):=by
 unfold nZ
 simp only [SM] at hs
 rw [if_pos (by omega)]
 exact GM ha hb hl hle hs hN a.length 0 N _ 0 (by omega) (by omega) (by simp) (U.replicate _) (by omega) (by omega) (fun j _=>eY _ j) (by rw [hC];simp [ba])
theorem fa {a b:Nat} (h:a≤b):(lm a).length≤(lm b).length:=gy.2 (by have:=(gy (n:=b) (k:=(lm b).length)).1 (a7 _);omega)
theorem GN {N a b:Nat} (Oz:b≤a) (hs:SM (lm a).length) (hN:(lm a).length+1 < N):nZ N (lm a) (lm b)=some (lm (a - b)):=by
 rw [NF (qU a) (qU b) (fa Oz) (by rw [gU,gU];omega) hs hN,gU,gU]
 congr 2;omega
end Go.Den
namespace Go.Den
open Go.Ab
theorem getD_set_ne (l:List Int) {i j:Nat} (x:Int) (h:i≠j):(l.set i x).getD j 0=l.getD j 0:=by
 rw [ft,List.getElem?_set_ne h,← ft]
theorem GO (l:List Int) {i:Nat} (x:Int) (h:i < l.length):(l.set i x).getD i 0=x:=by
 rw [ft,List.getElem?_set_self h];rfl
theorem wA {l:List Int} {i:Nat} (h:l.length≤i):l.getD i 0=0:=by
 rw [ft,n8 h];rfl
theorem Dc {x y:Int} (h1:0≤x) (h2:x < 65536) (h3:0≤y) (h4:y < 65536):0≤x * y∧x * y≤4294836225:=by
 refine ⟨Int.mul_nonneg h1 h3,?_⟩
 have:=Int.mul_le_mul (show x≤65535 by omega) (show y≤65535 by omega) h3 (by omega)
 omega
theorem GP {N:Nat} {a b:List Int} {i:Nat} (ha:U a) (hb:U b) (hi:i < a.length) (hs:SM (a.length+b.length)) (K:List Int→Int→Option (List Int)) (R:Option (List Int))
  (hK:∀ out,out.length=a.length+b.length→U out→(∀ j,i+b.length < j→out.getD j 0=0)→ba out=ba (a.take (i+1)) * ba b→K out ((i+1:Nat):Int)=R) :
  ∀ (k x fuel:Nat) (out:List Int) (c:Int),x+k=b.length→k < fuel→out.length=a.length+b.length→U out→0≤c→c < 65536→(∀ j,i+b.length≤j→out.getD j 0=0) →
   ba out+pw (i+x) * c=ba (a.take i) * ba b+a.getD i 0 * pw i * ba (b.take x)→jf N a b (i:Int) K fuel out c (x:Int)=R
 | 0,x,fuel,out,c,hx,hf,ho,hU,xZ,qV,hz,hinv=>by
  obtain ⟨g,rfl⟩:∃ g,fuel=g+1:=⟨fuel - 1,by omega⟩
  have DP:x=b.length:=by omega
  subst DP
  simp only [SM] at hs
  have e:ah ((i:Int)+((b.length:Nat):Int))=((i+b.length:Nat):Int):=by rw [bw (by omega) (by omega)];omega
  rw [jf,mD,cond_false,e,if_pos (xa (by omega)),bF,lV xZ qV,gn (by omega)]
  refine hK _ (by simp [ho]) (hU.set _ xZ qV) (fun j hj=>?_) ?_
  ·rw [getD_set_ne _ _ (by omega)];exact hz j (by omega)
  ·rw [k5 _ _ _ (by omega),hz _ (a7 _),Int.sub_zero,bO a i hi,db,fI c]
   rw [List.take_length] at hinv
   exact hinv
 | k+1,x,fuel,out,c,hx,hf,ho,hU,xZ,qV,hz,hinv=>by
  obtain ⟨g,rfl⟩:∃ g,fuel=g+1:=⟨fuel - 1,by omega⟩
  simp only [SM] at hs
  have wz:x < b.length:=by omega
  have h1:=ha.getD i
  have h2:=hb.getD x
  have h3:=hU.getD (i+x)
  have e:ah ((i:Int)+(x:Int))=((i+x:Nat):Int):=by rw [bw (by omega) (by omega)];omega
  have h4:=Dc h1.1 h1.2 h2.1 h2.2
  rw [jf,dec_lt wz,cond_true,if_pos (xa wz),e,if_pos (xa (by omega))]
  simp only [bF]
  rw [bN (n:=a.getD i 0) (by omega) (by omega),bN (n:=b.getD x 0) (by omega) (by omega),bN (n:=out.getD (i+x) 0) (by omega) (by omega),bN (n:=a.getD i 0 * b.getD x 0) (by omega) (by omega),
   bN (n:=a.getD i 0 * b.getD x 0+out.getD (i+x) 0) (by omega) (by omega),bN (n:=c+(a.getD i 0 * b.getD x 0+out.getD (i+x) 0)) (by omega) (by omega),qG,y6,gn (by omega)]
  generalize NC:c+(a.getD i 0 * b.getD x 0+out.getD (i+x) 0)=s
  refine GP ha hb hi hs K R hK k (x+1) g _ _ (by omega) (by omega) (by simp [ho]) (hU.set _ (by omega) (by omega)) (by omega) (by omega) (fun j hj=>?_) ?_
  ·rw [getD_set_ne _ _ (by omega)];exact hz j hj
  ·rw [k5 _ _ _ (by omega),bO b x wz,show i+(x+1)=(i+x)+1 by omega,eX]
   have h5:s=s % 65536+65536 * (s / 65536):=by omega
   have h6:pw (i+x) * s=pw (i+x) * (s % 65536)+pw (i+x) * (65536 * (s / 65536)):=by rw [← gI,← h5]
   have h7:pw (i+x) * s=pw (i+x) * c+pw (i+x) * (a.getD i 0 * b.getD x 0)+pw (i+x) * out.getD (i+x) 0:=by rw [← NC,gI,gI];omega
   have h8:65536 * pw (i+x) * (s / 65536)=pw (i+x) * (65536 * (s / 65536)):=by rw [fI 65536,jz]
   have h9:(s % 65536 - out.getD (i+x) 0) * pw (i+x)=pw (i+x) * (s % 65536) - pw (i+x) * out.getD (i+x) 0:=by rw [Int.sub_mul,fI,fI (out.getD (i+x) 0)]
   have R8:a.getD i 0 * pw i * (ba (b.take x)+b.getD x 0 * pw x)=a.getD i 0 * pw i * ba (b.take x)+pw (i+x) * (a.getD i 0 * b.getD x 0):=by
    rw [Da];grind
   omega
theorem GQ {N:Nat} {a b:List Int} (ha:U a) (hb:U b) (hs:SM (a.length+b.length)) (hN:a.length+b.length < N):∀ (k x fuel:Nat) (out:List Int),x+k=a.length→k < fuel→out.length=a.length+b.length→U out →
  (∀ j,x+b.length≤j→out.getD j 0=0)→ba out=ba (a.take x) * ba b→jg N a b fuel out (x:Int)=some (lm (ba a * ba b).toNat)
 | 0,x,fuel,out,hx,hf,ho,hU,hz,hinv=>by
  obtain ⟨g,rfl⟩:∃ g,fuel=g+1:=⟨fuel - 1,by omega⟩
  have DP:x=a.length:=by omega
  subst DP
  simp only [SM] at hs
  rw [jg,mD,cond_false,kj hU (by omega) (by omega),dG,hinv,List.take_length]
 | k+1,x,fuel,out,hx,hf,ho,hU,hz,hinv=>by
  obtain ⟨g,rfl⟩:∃ g,fuel=g+1:=⟨fuel - 1,by omega⟩
  have wz:x < a.length:=by omega
  rw [jg,dec_lt wz,cond_true,if_pos (xa wz)]
  refine GP ha hb wz hs _ _ (fun ew h1 h2 h3 h4=>?_) b.length 0 N out 0 (by omega) (by omega) ho hU (by omega) (by omega) hz (by rw [hinv];simp [ba])
  exact GQ ha hb hs hN k (x+1) g ew (by omega) (by omega) h1 h2 (fun j hj=>h3 j (by omega)) h4
theorem NG {N:Nat} {a b:List Int} (ha:U a) (hb:U b) (hs:SM (a.length+b.length)) (hN:a.length+b.length < N):pR N a b=some (lm (ba a * ba b).toNat):=by
 unfold pR
 have Fz:=hs
 simp only [SM] at Fz
 have e:ah (((a.length:Nat):Int)+((b.length:Nat):Int))=((a.length+b.length:Nat):Int):=by rw [bw (by omega) (by omega)];omega
 rw [e,if_pos (by omega)]
 exact GQ ha hb hs hN a.length 0 N _ (by omega) (by omega) (by simp;omega) (U.replicate _) (fun j _=>eY _ j) (by rw [hC];simp [ba])
theorem xc (a b:Nat):((a:Int) * (b:Int)).toNat=a * b:=by rw [← Int.natCast_mul];rfl
theorem LF {N a b:Nat} (hs:SM ((lm a).length+(lm b).length)) (hN:(lm a).length+(lm b).length < N):pR N (lm a) (lm b)=some (lm (a * b)):=by
 rw [NG (qU a) (qU b) hs hN,gU,gU,xc]
theorem GR {N:Nat} {a:List Int} {d:Int} (ha:U a) (J3:0 < d) (Qg:d < 65536) (hs:SM a.length) (hN:a.length < N):∀ (k fuel:Nat) (q:List Int) (r:Int),k≤a.length→k < fuel→q.length=a.length→U q→0≤r→r < d →
  (∀ j,j < k→q.getD j 0=0)→pw k * ba (a.drop k)=ba q * d+r * pw k→∃ Q R:Int,0≤Q∧0≤R∧R < d∧ba a=Q * d+R∧jb N a d fuel q r ((k:Int) - 1)=some (lm Q.toNat,R)
 | 0,fuel,q,r,hk,hf,ho,hU,H4,Qh,hz,hinv=>by
  obtain ⟨g,rfl⟩:∃ g,fuel=g+1:=⟨fuel - 1,by omega⟩
  simp only [SM] at hs
  refine ⟨ba q,r,hU.mP,H4,Qh,by rw [wx] at hinv;simpa using hinv,?_⟩
  rw [jb]
  have e:decide ((((0:Nat):Int) - 1)≥0)=false:=rfl
  rw [e,cond_false,kj hU (by omega) (by omega),dG,lV H4 (by omega)]
 | k+1,fuel,q,r,hk,hf,ho,hU,H4,Qh,hz,hinv=>by
  obtain ⟨g,rfl⟩:∃ g,fuel=g+1:=⟨fuel - 1,by omega⟩
  simp only [SM] at hs
  have e:(((k+1:Nat):Int) - 1)=(k:Int):=by omega
  have h1:=ha.getD k
  have e0:decide ((k:Int)≥0)=true:=by simp
  rw [e,jb,e0,cond_true,if_pos (xa (by omega)),bN (n:=d) (by omega) (by omega),if_pos (by omega),if_pos (xa (by omega))]
  simp only [bF]
  rw [bN (n:=a.getD k 0) (by omega) (by omega),C8 H4 (by omega),IZ H4 (by omega) h1.1 h1.2,bw (by omega) (by omega)]
  have Mn:0≤r * 65536+a.getD k 0:=by omega
  have Kh:r * 65536+a.getD k 0 < d * 65536:=by omega
  generalize hn:r * 65536+a.getD k 0=n at Mn Kh ⊢
  rw [Int.tdiv_eq_ediv_of_nonneg Mn,Int.tmod_eq_emod_of_nonneg Mn]
  have Du:n / d < 65536:=Int.ediv_lt_of_lt_mul J3 (by rw [fI];exact Kh)
  have Bt:0≤n / d:=Int.ediv_nonneg Mn (by omega)
  rw [bN Bt (by omega),lV Bt Du]
  refine GR ha J3 Qg hs hN k g _ _ (by omega) (by omega) (by simp [ho]) (hU.set _ Bt Du) (Int.emod_nonneg _ (by omega)) (Int.emod_lt_of_pos _ J3) (fun j hj=>?_) ?_
  ·rw [getD_set_ne _ _ (by omega)];exact hz j (by omega)
  ·rw [k5 _ _ _ (by omega),hz k (by omega),Int.sub_zero,lD a k (by omega)]
   have h2:=Int.mul_ediv_add_emod n d
   rw [eX] at hinv
   have h3:pw k * n=pw k * (d * (n / d))+pw k * (n % d):=by rw [← gI,h2]
   have h4:pw k * n=pw k * (r * 65536)+pw k * a.getD k 0:=by rw [← hn,gI]
   grind
theorem LG {N a d:Nat} (J3:0 < d) (Qg:d < 65536) (hs:SM (lm a).length) (hN:(lm a).length < N):sq N (lm a) (d:Int)=some (lm (a / d),((a % d:Nat):Int)):=by
 unfold sq
 have Fz:=hs
 simp only [SM] at Fz
 rw [if_pos (by omega),bw (by omega) (by omega)]
 obtain ⟨Q,R,h1,h2,h3,h4,h5⟩:=GR (N:=N) (d:=(d:Int)) (qU a) (by omega) (by omega) hs hN (lm a).length N (List.replicate (lm a).length 0) 0 (a7 _) hN (by simp) (U.replicate _) (by omega) (by omega) (fun j _=>eY _ j)
  (by rw [List.drop_length,hC];simp [ba])
 rw [h5]
 rw [gU] at h4
 obtain ⟨Q,rfl⟩:=Int.eq_ofNat_of_zero_le h1
 obtain ⟨R,rfl⟩:=Int.eq_ofNat_of_zero_le h2
 have h6:a=Q * d+R:=by exact_mod_cast h4
 have h7:R < d:=by omega
 have h8:a / d=Q:=by rw [h6,ng,Nat.mul_add_div J3,Nat.div_eq_of_lt h7];rfl
 have h9:a % d=R:=by rw [h6,ng,Nat.mul_add_mod,Nat.mod_eq_of_lt h7]
 rw [h8,h9];rfl
theorem Dd {N:Nat}:∀ (fuel n:Nat) (out:List Int),(lm n).length < fuel→out.length+(lm n).length < 1000→n < 18446744073709551616→ic N fuel (n:Int) out=some (out ++ lm n)
 | 0,n,out,h,_,_=>by omega
 | fuel+1,n,out,h,h2,h3=>by
  rw [ic]
  by_cases hn:n=0
  ·subst hn;rw [fX];simp
  ·have e:decide ((n:Int) > 0)=true:=by simp;omega
   rw [oU hn] at h h2
   simp only [vY] at h h2
   rw [e,cond_true,if_pos (by omega),GK,qG]
   have e1:((n:Int) / 65536)=((n / 65536:Nat):Int):=by omega
   have e2:((n:Int) % 65536)=((n % 65536:Nat):Int):=by omega
   rw [e1,e2,Dd fuel (n / 65536) _ (by omega) (by simp;omega) (by omega),oU hn,List.append_assoc];rfl
theorem LH {n:Nat} (h:n < 18446744073709551616):(lm n).length≤4:=gy.2 (by show (n:Int) < 65536 ^ 4;omega)
theorem H5 {N n:Nat} (hN:4 < N) (h:n < 18446744073709551616):lg N (n:Int)=some (lm n):=by
 unfold lg
 have:=LH h
 rw [Dd N n [] (by omega) (by simp;omega) h];rfl
theorem I4 {N:Nat} {a:List Int} (ha:U a) (hs:a.length≤4):∀ (k fuel:Nat) (r:Int),k≤a.length→k < fuel→0≤r→r < pw (4 - k)→ba (a.drop k)=r→jS N a fuel r ((k:Int) - 1)=some (ba a,true)
 | 0,fuel,r,hk,hf,H4,Qh,hinv=>by
  obtain ⟨g,rfl⟩:∃ g,fuel=g+1:=⟨fuel - 1,by omega⟩
  rw [jS]
  have e:decide ((((0:Nat):Int) - 1)≥0)=false:=rfl
  rw [e,cond_false,← hinv,List.drop_zero]
 | k+1,fuel,r,hk,hf,H4,Qh,hinv=>by
  obtain ⟨g,rfl⟩:∃ g,fuel=g+1:=⟨fuel - 1,by omega⟩
  have e:(((k+1:Nat):Int) - 1)=(k:Int):=by omega
  have h1:=ha.getD k
  have e0:decide ((k:Int)≥0)=true:=by simp
  have hp:pw (4 - k)=65536 * pw (4 - (k+1)):=by rw [← eX];congr 1;omega
  have hle:pw (4 - (k+1))≤281474976710656:=by
   have:k=0∨k=1∨k=2∨k=3:=by omega
   rcases this with rfl | rfl | rfl | rfl<;>decide
  rw [e,jS,e0,cond_true,if_pos (xa (by omega)),bF,eZ (n:=a.getD k 0) (by omega) (by omega),C9 H4 (by omega),Fx H4 (by omega) h1.1 h1.2,bw (by omega) (by omega)]
  refine I4 ha hs k g _ (by omega) (by omega) (by omega) (by omega) ?_
  rw [lD a k (by omega),hinv];omega
theorem I5 {N a:Nat} (hN:5 < N) (hs:SM (lm a).length):sn N (lm a)=some (if (lm a).length≤4 then ((a:Int),true) else (0,false)):=by
 unfold sn
 by_cases h:(lm a).length≤4
 ·rw [if_pos h]
  have e:decide ((((lm a).length:Nat):Int) > 4)=false:=by simp;omega
  rw [e,cond_false,bw (by omega) (by omega),I4 (qU a) h (lm a).length N 0 (a7 _) (by omega) (by omega) (jv _) (by rw [List.drop_length];rfl),gU]
 ·rw [if_neg h]
  have e:decide ((((lm a).length:Nat):Int) > 4)=true:=by simp;omega
  rw [e];rfl
end Go.Den
namespace Go.Den
open Go.Ab
theorem LI:∀ x:Fin 256,(match bM 0 ((x.val:Nat):Int) 0 with | some L=>decide (0≤L∧L≤8∧(x.val≠0→1≤L∧2 ^ (L.toNat - 1)≤x.val∧x.val < 2 ^ L.toNat)) | none=>false)=true:=by decide +kernel
theorem LJ:∀ x:Fin 256,(match bM 0 ((x.val:Nat):Int) 8 with | some L=>decide (8≤L∧L≤16∧(x.val≠0→9≤L∧2 ^ (L.toNat - 1 - 8)≤x.val∧x.val < 2 ^ (L.toNat - 8))) | none=>false)=true:=by decide +kernel
theorem LK {N x:Nat} (h0:0 < x) (h1:x < 65536):∃ L:Nat,1≤L∧L≤16∧jc N (x:Int)=some (L:Int)∧2 ^ (L - 1)≤x∧x < 2 ^ L:=by
 unfold jc
 by_cases h:x < 256
 ·have e:decide ((x:Int)≥256)=false:=by simp;omega
  rw [e,cond_false]
  have:=LI ⟨x,h⟩
  simp only at this
  show ∃ L:Nat,1≤L∧L≤16∧bM 0 (x:Int) 0=some (L:Int)∧2 ^ (L - 1)≤x∧x < 2 ^ L
  cases hr:bM 0 (x:Int) 0 with
  | none=>rw [hr] at this;cases this
  | some L =>
   rw [hr] at this
   obtain ⟨q1,q2,q3⟩:=pe this
   obtain ⟨q4,q5,q6⟩:=q3 (by omega)
   obtain ⟨L,rfl⟩:=Int.eq_ofNat_of_zero_le q1
   exact ⟨L,by omega,by omega,rfl,q5,q6⟩
 ·have e:decide ((x:Int)≥256)=true:=by simp;omega
  rw [e,cond_true]
  have e2:mH .u16 (x:Int) 8=((x / 256:Nat):Int):=by
   unfold mH
   have:(2:Int) ^ (min (8:Int).toNat IntKind.u16.bits)=256:=by decide
   rw [this,Int.fdiv_eq_ediv_of_nonneg _ (by decide)];omega
  rw [e2]
  have:=LJ ⟨x / 256,by omega⟩
  simp only at this
  have hJ:bM N ((x / 256:Nat):Int) 8=bM 0 ((x / 256:Nat):Int) 8:=rfl
  rw [hJ]
  cases hr:bM 0 ((x / 256:Nat):Int) 8 with
  | none=>rw [hr] at this;cases this
  | some L =>
   rw [hr] at this
   obtain ⟨q1,q2,q3⟩:=pe this
   obtain ⟨q4,q5,q6⟩:=q3 (by omega)
   obtain ⟨L,rfl⟩:=Int.eq_ofNat_of_zero_le (show 0≤L by omega)
   simp only [Int.toNat_natCast] at q5 q6
   refine ⟨L,by omega,by omega,rfl,?_,?_⟩
   ·have:2 ^ (L - 1 - 8+8)=2 ^ (L - 1 - 8) * 2 ^ 8:=Nat.pow_add _ _ _
    have h8:(2:Nat) ^ 8=256:=by decide
    have h9:L - 1 - 8+8=L - 1:=by omega
    rw [h8,h9] at this
    omega
   ·have:2 ^ (L - 8+8)=2 ^ (L - 8) * 2 ^ 8:=Nat.pow_add _ _ _
    have h8:(2:Nat) ^ 8=256:=by decide
    have h9:L - 8+8=L:=by omega
    rw [h8,h9] at this
    omega
theorem Ro {N x:Nat} (h0:0 < x) (h1:x < 65536):∃ s:Nat,s≤15∧du N (x:Int)=some (s:Int)∧32768≤x * 2 ^ s∧x * 2 ^ s < 65536:=by
 obtain ⟨L,h2,h3,h4,h5,h6⟩:=LK (N:=N) h0 h1
 refine ⟨16 - L,by omega,?_,?_,?_⟩
 ·unfold du
  rw [h4,dG,bw (by omega) (by omega)];congr 1;omega
 ·have e:2 ^ (L - 1) * 2 ^ (16 - L)=32768:=by rw [← Nat.pow_add,show L - 1+(16 - L)=15 by omega]
  have:=cG (2 ^ (16 - L)) h5
  omega
 ·have e:2 ^ L * 2 ^ (16 - L)=65536:=by rw [← Nat.pow_add,show L+(16 - L)=16 by omega]
  have:=Nat.mul_lt_mul_of_pos_right h6 (Nat.two_pow_pos (16 - L))
  omega
theorem PJ {n:Int} {s:Nat} (h:0≤n) (h2:n < 65536) (hs:s≤15):fh .u32 n (s:Int)=n * 2 ^ s∧0≤n * 2 ^ s∧n * 2 ^ s < 65536 * 2 ^ s∧n * 2 ^ s < 2147483648:=by
 have hp:(0:Int) < 2 ^ s:=Int.pow_pos (by decide)
 have wE:(2:Int) ^ s≤32768:=by
  have:=Nat.pow_le_pow_right (n:=2) (by decide) hs
  have e:((2 ^ s:Nat):Int)=(2:Int) ^ s:=by simp
  omega
 have h3:0≤n * 2 ^ s:=Int.mul_nonneg h (by omega)
 have h4:n * 2 ^ s < 65536 * 2 ^ s:=Int.mul_lt_mul_of_pos_right h2 hp
 refine ⟨?_,h3,h4,by omega⟩
 unfold fh
 have:min ((s:Nat):Int).toNat IntKind.u32.bits=s:=by show min s 32=s;omega
 rw [this,bN h3 (by omega)]
theorem PK {c a:Int} {s:Nat} (hs:s≤15) (xZ:0≤c) (qV:c < 2 ^ s) (Wy:0≤a):q0 .u16 c (a * 2 ^ s % 65536)=c+a * 2 ^ s % 65536∧c+a * 2 ^ s % 65536 < 65536:=by
 obtain ⟨c,rfl⟩:=Int.eq_ofNat_of_zero_le xZ
 obtain ⟨a,rfl⟩:=Int.eq_ofNat_of_zero_le Wy
 have hc:c < 2 ^ s:=by
  have e:((2 ^ s:Nat):Int)=(2:Int) ^ s:=by simp
  omega
 have hp:2 ^ s≤32768:=Nat.pow_le_pow_right (n:=2) (by decide) hs
 have e1:(a:Int) * 2 ^ s % 65536=((a * 2 ^ s % 65536:Nat):Int):=by simp
 have e2:a * 2 ^ s % 65536=a % 2 ^ (16 - s) * 2 ^ s:=by
  have:65536=2 ^ (16 - s) * 2 ^ s:=by rw [← Nat.pow_add,show 16 - s+s=16 by omega]
  rw [this,Nat.mul_mod_mul_right]
 have e3:a % 2 ^ (16 - s) * 2 ^ s+2 ^ s≤65536:=by
  have h1:a % 2 ^ (16 - s)+1≤2 ^ (16 - s):=Nat.mod_lt _ (Nat.two_pow_pos _)
  have h2:=cG (2 ^ s) h1
  rw [← Nat.pow_add,show 16 - s+s=16 by omega,bL] at h2
  omega
 rw [e1,e2]
 generalize a % 2 ^ (16 - s)=m at *
 constructor
 ·unfold q0
  rw [show IntKind.u16.bits=16 from rfl,LC _ _ (by omega) (by omega),Nat.or_comm,xW _ _ s hc,qG]
  omega
 ·omega
theorem De {N:Nat} {a:List Int} {s:Nat} (ha:U a) (hs:s≤15) (hS:SM a.length):∀ (k x fuel:Nat) (out:List Int),x+k=a.length→k < fuel→out.length=a.length+1→U out→out.getD x 0 < 2 ^ s→(∀ j,x < j→out.getD j 0=0) →
  ba out=ba (a.take x) * 2 ^ s→∃ o,gf N a (s:Int) fuel out (x:Int)=some o∧o.length=a.length+1∧U o∧ba o=ba a * 2 ^ s∧o.getD a.length 0 < 2 ^ s
 | 0,x,fuel,out,hx,hf,ho,hU,hc,hz,hinv=>by
  obtain ⟨g,rfl⟩:∃ g,fuel=g+1:=⟨fuel - 1,by omega⟩
  have DP:x=a.length:=by omega
  subst DP
  exact ⟨out,by rw [gf,mD,cond_false],ho,hU,by rw [hinv,List.take_length],hc⟩
 | k+1,x,fuel,out,hx,hf,ho,hU,hc,hz,hinv=>by
  obtain ⟨g,rfl⟩:∃ g,fuel=g+1:=⟨fuel - 1,by omega⟩
  simp only [SM] at hS
  have wz:x < a.length:=by omega
  have h1:=ha.getD x
  have h2:=hU.getD x
  obtain ⟨w1,w2,w3,w4⟩:=PJ h1.1 h1.2 hs
  obtain ⟨o1,o2⟩:=PK hs h2.1 hc h1.1
  rw [gf,dec_lt wz,cond_true,if_pos (xa wz),if_pos (by omega),if_pos (xa (by omega)),gn (by omega)]
  simp only [bF]
  rw [bN (n:=a.getD x 0) (by omega) (by omega),w1,qG,y6,qG,o1]
  rw [if_pos ⟨by omega,by simp;omega⟩]
  generalize hw:a.getD x 0 * 2 ^ s=w at *
  have Wz:w / 65536 < 2 ^ s:=by omega
  have WA:w / 65536 % 65536=w / 65536:=by omega
  rw [WA]
  have Ud:U (out.set x (out.getD x 0+w % 65536)):=hU.set x (by omega) o2
  refine De ha hs hS k (x+1) g _ (by omega) (by omega) (by simp [ho]) (Ud.set (x+1) (by omega) (by omega)) ?_ (fun j hj=>?_) ?_
  ·rw [GO _ _ (by simp;omega)];exact Wz
  ·rw [getD_set_ne _ _ (by omega),getD_set_ne _ _ (by omega)];exact hz j (by omega)
  ·rw [k5 _ _ _ (by simp;omega),getD_set_ne _ _ (by omega),hz (x+1) (by omega),k5 _ _ _ (by omega),bO a x wz,hinv,eX,db]
   have h3:w=w % 65536+65536 * (w / 65536):=by omega
   have h4:w * pw x=(w % 65536+65536 * (w / 65536)) * pw x:=by rw [← h3]
   have h5:a.getD x 0 * pw x * 2 ^ s=w * pw x:=by rw [← hw];grind
   grind
theorem Df {N:Nat} {a:List Int} {s:Nat} (ha:U a) (hs:s≤15) (hS:SM a.length) (hN:a.length < N):∃ o,mV N a (s:Int)=some o∧o.length=a.length+1∧U o∧ba o=ba a * 2 ^ s∧o.getD a.length 0 < 2 ^ s:=by
 unfold mV
 have Qp:=hS
 simp only [SM] at Qp
 have e:ah (((a.length:Nat):Int)+1)=((a.length+1:Nat):Int):=gn (by omega)
 rw [e,if_pos (by omega)]
 exact De ha hs hS a.length 0 N _ (by omega) hN (by simp) (U.replicate _) (by rw [eY];exact Int.pow_pos (by decide)) (fun j _=>eY _ j) (by rw [hC];simp [ba])
theorem ox (p w:List Int) (i:Nat):(p ++ w).getD (a8 p.length i) 0=w.getD i 0:=by
 rw [cl,ft,iW (by omega),ft];congr 2;omega
theorem FA (p w:List Int) (i:Nat) (x:Int):(p ++ w).set (a8 p.length i) x=p ++ w.set i x:=by
 rw [cl,List.set_append_right _ _ (by omega)];congr 2;omega
theorem pT:∀ {l:List Int} (m:Nat),(∀ j,m≤j→l.getD j 0=0)→ba l=ba (l.take m)
 | [],m,_=>by simp
 | x :: l,0,h=>by
  have h0:x=0:=h 0 (a7 _)
  have:=pT (l:=l) 0 fun j _=>h (j+1) (by omega)
  simp [ba] at this;simp [ba,h0,this]
 | x :: l,m+1,h=>by
  have:=pT (l:=l) m fun j hj=>h (j+1) (by omega)
  simp only [List.take_succ_cons,ba,this]
theorem GS {l:List Int} (hU:U l) (m:Nat) (h:∀ j,m≤j→l.getD j 0=0):ba l < pw m:=by
 rw [pT m h]
 have h1:=(hU.take m).lt
 rw [nc] at h1
 by_cases hm:m≤l.length
 ·rwa [Nat.min_eq_left hm] at h1
 ·rw [Nat.min_eq_right (by omega)] at h1
  have:pw m=pw l.length * pw (m - l.length):=by rw [← Da];congr 1;omega
  have h2:=jv (m - l.length)
  have h3:=pg (show 1≤pw (m - l.length) by omega) (Int.le_of_lt (jv l.length))
  omega
theorem Dg {l:List Int} (hU:U l) (m:Nat) (h:ba l < pw m):∀ j,m≤j→l.getD j 0=0:=by
 intro j hj
 by_cases hl:j < l.length
 ·have h1:=oi l j (by omega)
  have h2:=lD l j hl
  have h3:=(hU.take j).mP
  have h4:=(hU.drop (j+1)).mP
  have h5:=hU.getD j
  have h6:pw m≤pw j:=by
   have:pw j=pw m * pw (j - m):=by rw [← Da];congr 1;omega
   have h2:=jv (j - m)
   have h3:=pg (show 1≤pw (j - m) by omega) (Int.le_of_lt (jv m))
   omega
  have h7:¬ 0 < ba (l.drop j):=fun h0=>by
   have:=pg (show 1≤ba (l.drop j) by omega) (Int.le_of_lt (jv j))
   omega
  omega
 ·exact wA (by omega)
theorem GU {N:Nat} {p v:List Int} {q:Int} (hv:U v) (Bt:0≤q) (Du:q < 65536) (hS:SM v.length) (W:Int) :
  ∀ (k x fuel:Nat) (w:List Int) (c br:Int),x+k=v.length+1→k < fuel→v.length+1≤w.length→U w→0≤c→c < 65536→(x=v.length+1→c=0)→(br=0∨br = -1)→(∀ j,v.length+1≤j→w.getD j 0=0) →
   ba w=W - q * ba (v.take x)+pw x * (c - br)→∃ (w':List Int) (NH:Int),w'.length=w.length∧U w'∧(NH=0∨NH = -1)∧(∀ j,v.length+1≤j→w'.getD j 0=0)∧ba w'=W - q * ba v - pw (v.length+1) * NH ∧
    ek N p.length (v.length+1) v q fuel (p ++ w) c br (x:Int)=cond (decide (NH < 0)) (fK N p.length (v.length+1) v q N (p ++ w') 0 0) (jd N (p ++ w') q)
 | 0,x,fuel,w,c,br,hx,hf,hw,hU,xZ,qV,Ie,Va,hz,hinv=>by
  obtain ⟨g,rfl⟩:∃ g,fuel=g+1:=⟨fuel - 1,by omega⟩
  have DP:x=v.length+1:=by omega
  subst DP
  simp only [SM] at hS
  rw [Ie rfl] at hinv
  refine ⟨w,br,rfl,hU,Va,hz,?_,by rw [ek,gn (by omega),mD,cond_false]⟩
  rw [hinv,jy (by omega),Int.zero_sub,Int.mul_neg];omega
 | k+1,x,fuel,w,c,br,hx,hf,hw,hU,xZ,qV,Ie,Va,hz,hinv=>by
  obtain ⟨g,rfl⟩:∃ g,fuel=g+1:=⟨fuel - 1,by omega⟩
  simp only [SM] at hS
  have wz:x < v.length+1:=by omega
  have h1:=hU.getD x
  have hlen:(p ++ w).length=p.length+w.length:=kU
  have step:∀ y:Int,0≤y→y < 4294967296→(x=v.length→y < 65536)→y=q * v.getD x 0+c →
    ∃ (w':List Int) (NH:Int),w'.length=w.length∧U w'∧(NH=0∨NH = -1)∧(∀ j,v.length+1≤j→w'.getD j 0=0)∧ba w'=W - q * ba v - pw (v.length+1) * NH ∧
    lG N p.length (v.length+1) v q (p ++ w) br (x:Int) (ek N p.length (v.length+1) v q g) y=cond (decide (NH < 0)) (fK N p.length (v.length+1) v q N (p ++ w') 0 0) (jd N (p ++ w') q):=by
   intro y L8 Xm D1 hy
   unfold lG
   rw [if_pos (xa wz),if_pos (by omega)]
   simp only [bF]
   rw [ox,LD L8 (by omega),bw (n:=w.getD x 0) (by omega) (by omega),bw (n:=y % 65536) (by omega) (by omega),bw (n:=w.getD x 0 - y % 65536) (by omega) (by omega),
    bw (n:=w.getD x 0 - y % 65536+br) (by omega) (by omega),qG,GK,JM,gn (by omega),FA]
   generalize hd:w.getD x 0 - y % 65536+br=d
   have Qg:-65536≤d∧d < 65536:=by omega
   have:=GU (N:=N) (p:=p) hv Bt Du hS W k (x+1) g (w.set x (d % 65536)) (y / 65536) (d / 65536) (by omega) (by omega) (by simp;omega) (hU.set _ (by omega) (by omega)) (by omega) (by omega) (fun h=>by have:=D1 (by omega);omega) (by omega) (fun j hj=>?_) ?_
   ·rwa [List.length_set] at this
   ·rw [getD_set_ne _ _ (by omega)];exact hz j hj
   ·rw [k5 _ _ _ (by omega),hinv,eX]
    have hV:ba (v.take (x+1))=ba (v.take x)+v.getD x 0 * pw x:=by
     by_cases h:x < v.length
     ·exact bO v x h
     ·rw [jy (by omega),jy (by omega),wA (by omega)];simp
    rw [hV]
    have h5:d=d % 65536+65536 * (d / 65536):=by omega
    have h6:y=y % 65536+65536 * (y / 65536):=by omega
    have h7:d * pw x=(d % 65536) * pw x+65536 * (d / 65536) * pw x:=by rw [← db,← h5]
    have h8:y * pw x=(y % 65536) * pw x+65536 * (y / 65536) * pw x:=by rw [← db,← h6]
    have h9:d * pw x=w.getD x 0 * pw x - (y % 65536) * pw x+br * pw x:=by rw [← hd,db,Int.sub_mul]
    have R8:y * pw x=q * (v.getD x 0 * pw x)+c * pw x:=by rw [hy,db,jz]
    grind
  rw [ek,gn (by omega),dec_lt wz,cond_true]
  by_cases Vb:x < v.length
  ·have h2:=hv.getD x
   have h3:0≤q * v.getD x 0∧q * v.getD x 0≤4294836225:=Dc Bt Du h2.1 h2.2
   rw [dec_lt Vb,cond_true,if_pos (xa Vb),bF]
   refine step _ ?_ ?_ (fun h=>by omega) ?_<;>rw [eZ (n:=v.getD x 0) (by omega) (by omega),eZ (n:=q * v.getD x 0) (by omega) (by omega),eZ (by omega) (by omega)]<;>omega
  ·have e:decide ((x:Int) < ((v.length:Nat):Int))=false:=by simp;omega
   rw [e,cond_false]
   refine step c xZ (by omega) (fun _=>qV) ?_
   rw [wA (show v.length≤x by omega)];simp
theorem GV {N:Nat} {p v:List Int} {q:Int} (hv:U v) (Bt:0 < q) (Du:q < 65536) (hS:SM v.length) (W:Int) (WB:0≤W - (q - 1) * ba v) (Ue:W - (q - 1) * ba v < pw v.length) :
  ∀ (k x fuel:Nat) (w:List Int) (c:Int),x+k=v.length→k < fuel→v.length+1≤w.length→U w→0≤c→c≤1→(∀ j,v.length+1≤j→w.getD j 0=0) →
   ba w=W - q * ba v+pw (v.length+1)+ba (v.take x) - pw x * c→∃ w',fK N p.length (v.length+1) v q fuel (p ++ w) c (x:Int)=some (q - 1,p ++ w')∧w'.length=w.length∧U w'∧ba w'=W - (q - 1) * ba v
 | 0,x,fuel,w,c,hx,hf,hw,hU,xZ,qV,hz,hinv=>by
  obtain ⟨g,rfl⟩:∃ g,fuel=g+1:=⟨fuel - 1,by omega⟩
  have DP:x=v.length:=by omega
  subst DP
  simp only [SM] at hS
  have h1:=hU.getD v.length
  have hlen:(p ++ w).length=p.length+w.length:=kU
  rw [List.take_length] at hinv
  rw [fK,mD,cond_false,if_pos (by omega),if_pos (by omega),ox,FA,lV xZ (by omega),qG]
  unfold jd
  rw [eZ (by omega) (by omega),lV (by omega) (by omega)]
  generalize hd:w.getD v.length 0+c=d
  have R7:U (w.set v.length (d % 65536)):=hU.set _ (by omega) (by omega)
  refine ⟨_,rfl,by simp,R7,?_⟩
  have h2:=k5 w v.length (d % 65536) (by omega)
  have h3:d % 65536=d - 65536 * (d / 65536):=by omega
  have h4:ba (w.set v.length (d % 65536))=W - (q - 1) * ba v+(1 - d / 65536) * pw (v.length+1):=by
   rw [h2,hinv,eX,h3,← hd];grind
  have h5:d / 65536=0∨d / 65536=1:=by omega
  rcases h5 with h5 | h5
  ·have h6:=GS R7 (v.length+1) (fun j hj=>by rw [getD_set_ne _ _ (by omega)];exact hz j hj)
   rw [h4,h5] at h6;omega
  ·rw [h4,h5];simp
 | k+1,x,fuel,w,c,hx,hf,hw,hU,xZ,qV,hz,hinv=>by
  obtain ⟨g,rfl⟩:∃ g,fuel=g+1:=⟨fuel - 1,by omega⟩
  simp only [SM] at hS
  have wz:x < v.length:=by omega
  have h1:=hU.getD x
  have h2:=hv.getD x
  have hlen:(p ++ w).length=p.length+w.length:=kU
  rw [fK,dec_lt wz,cond_true,if_pos (xa (by omega)),if_pos (by omega),if_pos (xa wz)]
  simp only [bF]
  rw [ox,bN (n:=w.getD x 0) (by omega) (by omega),bN (n:=v.getD x 0) (by omega) (by omega),bN (n:=w.getD x 0+v.getD x 0) (by omega) (by omega),bN (n:=c+(w.getD x 0+v.getD x 0)) (by omega) (by omega),
   qG,y6,gn (by omega),FA]
  generalize hd:c+(w.getD x 0+v.getD x 0)=d
  obtain ⟨w',q1,q2,q3,q4⟩:=GV (N:=N) (p:=p) hv Bt Du hS W WB Ue k (x+1) g (w.set x (d % 65536)) (d / 65536) (by omega) (by omega) (by simp;omega) (hU.set _ (by omega) (by omega)) (by omega) (by omega)
   (fun j hj=>by rw [getD_set_ne _ _ (by omega)];exact hz j hj) (by
    rw [k5 _ _ _ (by omega),hinv,bO v x wz,eX x]
    have h5:d=d % 65536+65536 * (d / 65536):=by omega
    have h7:d * pw x=(d % 65536) * pw x+65536 * (d / 65536) * pw x:=by rw [← db,← h5]
    have h9:d * pw x=c * pw x+(w.getD x 0 * pw x+v.getD x 0 * pw x):=by rw [← hd,db,db]
    grind)
  exact ⟨w',q1,by simpa using q2,q3,q4⟩
end Go.Den
namespace Go.Den
open Go.Ab
structure J4 (v1 v2 w0 w1 w2 A V W:Int):Prop where
 A0:0 < A
 R9:32768≤v1
 Xn:v1 < 65536
 Uf:0≤v2
 Vc:v2 < 65536
 Xo:0≤w0
 Xp:w0 < 65536
 WC:0≤w1
 WD:w1 < 65536
 Vd:0≤w2
 WE:w2 < 65536
 V0:(v1 * 65536+v2) * A≤V
 V1:V < (v1 * 65536+v2+1) * A
 W0:((w0 * 65536+w1) * 65536+w2) * A≤W
 W1:W < ((w0 * 65536+w1) * 65536+w2+1) * A
 WV:W < 65536 * V
section
variable {v1 v2 w0 w1 w2 A V W:Int}
theorem J4.LL (t:J4 v1 v2 w0 w1 w2 A V W):65536 * A≤V:=by
 have:=t.V0;have:=t.A0;have:=t.R9;have:=t.Uf
 have h:=iv (show (65536:Int)≤v1 * 65536+v2 by omega) (Int.le_of_lt t.A0)
 omega
theorem tX {x y A:Int} (hA:0 < A) (h:x * A < y * A):x < y:=Int.lt_of_mul_lt_mul_right h (Int.le_of_lt hA)
theorem J4.Ug (t:J4 v1 v2 w0 w1 w2 A V W):w0≤v1:=by
 have h1:((w0 * 65536+w1) * 65536+w2) * A < (65536 * (v1 * 65536+v2+1)) * A:=by
  rw [jz 65536]
  have:=t.W0;have:=t.WV;have:=t.V1
  omega
 have h2:=tX t.A0 h1
 have:=t.WC;have:=t.Vd;have:=t.Vc
 omega
theorem J4.Rp (t:J4 v1 v2 w0 w1 w2 A V W) {q r Q:Int} (hq:q * v1+r=w0 * 65536+w1) (h:q * v2 > r * 65536+w2) (Bt:0≤q) (hQ:Q * V≤W):Q < q:=by
 rcases Int.lt_or_le Q q with h' | h'
 ·exact h'
 ·exfalso
  have hV:=t.LL
  have hA:=t.A0
  have h1:q * V≤W:=Int.le_trans (iv h' (by omega)) hQ
  have h2:q * ((v1 * 65536+v2) * A)≤q * V:=pg t.V0 Bt
  have h3:(q * (v1 * 65536+v2)) * A < ((w0 * 65536+w1) * 65536+w2+1) * A:=by
   rw [jz];have:=t.W1;omega
  have h4:=tX hA h3
  rw [← hq] at h4
  have h5:q * (v1 * 65536+v2)=q * v1 * 65536+q * v2:=by rw [gI,← jz]
  rw [h5] at h4
  have h6:(q * v1+r) * 65536=q * v1 * 65536+r * 65536:=db _ _ _
  omega
theorem J4.Rq (t:J4 v1 v2 w0 w1 w2 A V W) {q r:Int} (hq:q * v1+r=w0 * 65536+w1) (Bt:0≤q) (hr:0≤r) (h:65536≤r∨(q≤65535∧q * v2≤r * 65536+w2)):q≤65535∧q * V < W+V:=by
 have hA:=t.A0
 have Du:q≤65535:=by
  rcases h with h | h
  ·rcases Int.lt_or_le 65535 q with h' | h'
   ·exfalso
    have h1:=iv (show 65536≤q by omega) (show 0≤v1 by have:=t.R9;omega)
    have:=t.Ug;have:=t.WD
    omega
   ·exact h'
  ·exact h.1
 refine ⟨Du,?_⟩
 have h2:q * v2≤r * 65536+w2:=by
  rcases h with h | h
  ·have h1:q * v2≤65535 * 65535:=Int.mul_le_mul Du (by have:=t.Vc;omega) t.Uf (by omega)
   have:=t.Vd
   omega
  ·exact h.2
 -- q V < (q (v1 B + v2) + q) A
 have h3:q * V≤q * ((v1 * 65536+v2+1) * A):=pg (Int.le_of_lt t.V1) Bt
 have h4:q * ((v1 * 65536+v2+1) * A)=(q * v1 * 65536+q * v2+q) * A:=by
  rw [← jz];congr 1
  rw [gI,gI,Int.mul_one,← jz]
 have h5:(q * v1 * 65536+q * v2+q) * A≤(((w0 * 65536+w1) * 65536+w2)+65535) * A:=by
  refine iv ?_ (Int.le_of_lt hA)
  rw [← hq]
  have:(q * v1+r) * 65536=q * v1 * 65536+r * 65536:=db _ _ _
  omega
 have h6:(((w0 * 65536+w1) * 65536+w2)+65535) * A=((w0 * 65536+w1) * 65536+w2) * A+65535 * A:=db _ _ _
 have:=t.W0
 have:=t.LL
 omega
theorem J4.first (t:J4 v1 v2 w0 w1 w2 A V W) {Q:Int} (OA:0≤Q) (hQ:Q * V≤W):Q≤(w0 * 65536+w1) / v1:=by
 rw [Int.le_ediv_iff_mul_le (by have:=t.R9;omega)]
 have h1:Q * ((v1 * 65536+v2) * A)≤Q * V:=pg t.V0 OA
 have h2:(Q * (v1 * 65536+v2)) * A < ((w0 * 65536+w1) * 65536+w2+1) * A:=by rw [jz];have:=t.W1;omega
 have h3:=tX t.A0 h2
 have h4:Q * (v1 * 65536+v2)=Q * v1 * 65536+Q * v2:=by rw [gI,← jz]
 have h5:0≤Q * v2:=Int.mul_nonneg OA t.Uf
 have:=t.WE
 omega
end
theorem LN {N:Nat} {p v w:List Int} (hv:U v) (hw:U w) (hn:2≤v.length) (Rr:v.length+1≤w.length) (hS:SM (p.length+w.length)) {A V W:Int}
  (t:J4 (v.getD (v.length - 1) 0) (v.getD (v.length - 2) 0) (w.getD v.length 0) (w.getD (v.length - 1) 0) (w.getD (v.length - 2) 0) A V W) {Q:Int} (OA:0≤Q) (Sa:Q * V≤W) (Ve:W < Q * V+V) :
  ∀ (k fuel:Nat) (q r:Int),k < fuel→65536≤r+32768 * (k:Int)→0≤r→r < 131072→0≤q→q < 4294967296→Q≤q→q * v.getD (v.length - 1) 0+r=w.getD v.length 0 * 65536+w.getD (v.length - 1) 0 →
   ∃ q',Q≤q'∧q'≤Q+1∧q'≤65535∧je N p.length (v.length+1) v (p ++ w) fuel q r=ek N p.length (v.length+1) v q' N (p ++ w) 0 0 0:=by
 intro k
 simp only [SM] at hS
 have hlen:(p ++ w).length=p.length+w.length:=kU
 have e2:ah (((v.length:Nat):Int) - 2)=((v.length - 2:Nat):Int):=by rw [bw (by omega) (by omega)];omega
 have e1:ah (((v.length:Nat):Int) - 1)=((v.length - 1:Nat):Int):=by rw [bw (by omega) (by omega)];omega
 have Qg:=hv.getD (v.length - 1)
 have NI:=hv.getD (v.length - 2)
 have FY:=hw.getD (v.length - 2)
 induction k with
 | zero =>
  intro fuel q r hf hk H4 Qh Bt Du Uh hinv
  obtain ⟨g,rfl⟩:∃ g,fuel=g+1:=⟨fuel - 1,by omega⟩
  have hr:65536≤r:=by simpa using hk
  obtain ⟨n1,n2⟩:=t.Rq hinv Bt H4 (.inl hr)
  have cR:q≤Q+1:=by
   rcases Int.lt_or_le (Q+1) q with h | h
   ·exfalso
    have:=iv (show Q+2≤q by omega) (show 0≤V by have:=t.LL;have:=t.A0;omega)
    rw [db] at this;omega
   ·exact h
  have ed:decide (r < 65536)=false:=by simp;omega
  refine ⟨q,Uh,cR,n1,?_⟩
  rw [je]
  simp only [ed,Bool.false_and,cond_false]
  rw [if_pos (fun h=>by cases h),if_pos (fun h=>by cases h),if_pos (fun h=>by cases h)]
 | succ k ih =>
  intro fuel q r hf hk H4 Qh Bt Du Uh hinv
  obtain ⟨g,rfl⟩:∃ g,fuel=g+1:=⟨fuel - 1,by omega⟩
  rw [je,e1,e2,if_pos (fun _=>⟨by omega,by omega⟩),if_pos (fun _=>⟨by omega,by omega⟩),if_pos (fun _=>by omega)]
  rw [bF,bF,ox,if_pos ⟨by omega,by omega⟩,eZ (n:=v.getD (v.length - 2) 0) (by omega) (by omega),eZ (n:=w.getD (v.length - 2) 0) (by omega) (by omega),eZ (n:=v.getD (v.length - 1) 0) (by omega) (by omega)]
  have xk:0≤q * v.getD (v.length - 2) 0:=Int.mul_nonneg Bt NI.1
  have wE:q * v.getD (v.length - 2) 0≤4294967295 * 65535:=Int.mul_le_mul (by omega) (by omega) NI.1 (by omega)
  rw [eZ xk (by omega),C9 H4 (by omega),Fx H4 (by omega) FY.1 FY.2]
  have hV:=t.LL
  have hA:=t.A0
  by_cases hex:65536≤r∨(q≤65535∧q * v.getD (v.length - 2) 0≤r * 65536+w.getD (v.length - 2) 0)
  ·obtain ⟨n1,n2⟩:=t.Rq hinv Bt H4 hex
   have cR:q≤Q+1:=by
    rcases Int.lt_or_le (Q+1) q with h | h
    ·exfalso
     have:=iv (show Q+2≤q by omega) (show 0≤V by omega)
     rw [db] at this;omega
    ·exact h
   have hc:cond (decide (r < 65536)) (cond (decide (q > 65535)) true (decide (q * v.getD (v.length - 2) 0 > r * 65536+w.getD (v.length - 2) 0))) false=false:=by
    rcases hex with h | ⟨h1,h2⟩
    ·rw [decide_eq_false (show ¬ r < 65536 by omega)];rfl
    ·rw [decide_eq_false (show ¬ q > 65535 by omega),cond_false,decide_eq_false (show ¬ q * v.getD (v.length - 2) 0 > r * 65536+w.getD (v.length - 2) 0 by omega)]
     cases decide (r < 65536)<;>rfl
   exact ⟨q,Uh,cR,n1,by rw [hc,cond_false]⟩
  ·have dg:r < 65536:=by omega
   have Sb:Q < q:=by
    by_cases WG:65535 < q
    ·rcases Int.lt_or_le Q q with h | h
     ·exact h
     ·exfalso
      have:=iv (show 65536≤Q by omega) (show 0≤V by omega)
      have:=t.WV
      omega
    ·exact t.Rp hinv (by omega) Bt Sa
   have hc:cond (decide (r < 65536)) (cond (decide (q > 65535)) true (decide (q * v.getD (v.length - 2) 0 > r * 65536+w.getD (v.length - 2) 0))) false=true:=by
    rw [decide_eq_true dg,cond_true]
    by_cases WG:65535 < q
    ·rw [decide_eq_true (show q > 65535 by omega)];rfl
    ·rw [decide_eq_false (show ¬ q > 65535 by omega),cond_false,decide_eq_true];omega
   have Dr:=t.R9
   rw [hc,cond_true,eZ (n:=q - 1) (by omega) (by omega),eZ (by omega) (by omega)]
   refine ih g _ _ (by omega) (by omega) (by omega) (by omega) (by omega) (by omega) (by omega) ?_
   rw [Int.sub_mul];omega
theorem LO {N:Nat} {p v w:List Int} (hv:U v) (hw:U w) (hn:2≤v.length) (Rr:v.length+1≤w.length) (hS:SM (p.length+w.length)) (hN:v.length+3 < N) (hb:32768≤v.getD (v.length - 1) 0) (hz:∀ j,v.length+1≤j→w.getD j 0=0)
  (fY:ba w < 65536 * ba v):∃ Q w',ss N p.length (v.length+1) v (p ++ w)=some (Q,p ++ w')∧w'.length=w.length∧U w'∧0≤Q∧Q < 65536∧ba w'=ba w - Q * ba v∧ba w' < ba v:=by
 have Qp:=hS
 simp only [SM] at Qp
 have hlen:(p ++ w).length=p.length+w.length:=kU
 have e1:ah (((v.length:Nat):Int) - 1)=((v.length - 1:Nat):Int):=by rw [bw (by omega) (by omega)];omega
 obtain ⟨n,P6⟩:∃ n,v.length=n+2:=⟨v.length - 2,by omega⟩
 have hA:=jv n
 -- the top digits
 have AN:ba v=ba (v.take n)+pw n * (v.getD n 0+65536 * v.getD (n+1) 0):=by
  rw [oi v n (by omega),lD v n (by omega),lD v (n+1) (by omega),List.drop_eq_nil_of_le (by omega)];simp [ba]
 have Sc:ba w=ba (w.take n)+pw n * (w.getD n 0+65536 * (w.getD (n+1) 0+65536 * w.getD (n+2) 0)):=by
  have h3:ba (w.drop (n+3))=0:=by
   have:=pT (l:=w.drop (n+3)) 0 fun j _=>by
    have:=hz (n+3+j) (by omega)
    rw [ft] at this ⊢
    rw [nf];exact this
   simpa [ba] using this
  rw [oi w n (by omega),lD w n (by omega),lD w (n+1) (by omega),lD w (n+2) (by omega),h3];simp
 have Q1:=(hv.take n).lt
 have WH:=(hv.take n).mP
 have WJ:=(hw.take n).lt
 have WK:=(hw.take n).mP
 rw [nc,Nat.min_eq_left (by omega)] at Q1 WJ
 have d1:=hv.getD (n+1)
 have d2:=hv.getD n
 have u0:=hw.getD (n+2)
 have u1:=hw.getD (n+1)
 have u2:=hw.getD n
 have wD:32768≤v.getD (n+1) 0:=by rw [P6] at hb;exact hb
 have t:J4 (v.getD (v.length - 1) 0) (v.getD (v.length - 2) 0) (w.getD v.length 0) (w.getD (v.length - 1) 0) (w.getD (v.length - 2) 0) (pw n) (ba v) (ba w):=by
  have x1:v.length - 1=n+1:=by omega
  have x2:v.length - 2=n:=by omega
  rw [x1,x2,P6]
  refine ⟨hA,wD,d1.2,d2.1,d2.2,u0.1,u0.2,u1.1,u1.2,u2.1,u2.2,?_,?_,?_,?_,fY⟩
  ·rw [AN];grind
  ·rw [AN];grind
  ·rw [Sc];grind
  ·rw [Sc];grind
 have Ui:0 < ba v:=by have:=t.LL;omega
 obtain ⟨Q,LP⟩:∃ Q,Q=ba w / ba v:=⟨_,rfl⟩
 have OA:0≤Q:=by rw [LP];exact Int.ediv_nonneg hw.mP (by omega)
 have Sa:Q * ba v≤ba w:=by rw [LP];exact Int.ediv_mul_le _ (by omega)
 have Ve:ba w < Q * ba v+ba v:=by
  have:=Int.lt_ediv_add_one_mul_self (ba w) Ui
  rw [LP];rw [db] at this;omega
 have WL:Q < 65536:=by
  rcases Int.lt_or_le Q 65536 with h | h
  ·exact h
  ·exfalso;have:=iv h (Int.le_of_lt Ui);omega
 have WM:ba v < pw v.length:=hv.lt
 have hK:∀ q,Q≤q→q≤Q+1→q≤65535→∃ w',ek N p.length (v.length+1) v q N (p ++ w) 0 0 0=some (Q,p ++ w')∧w'.length=w.length∧U w'∧ba w'=ba w - Q * ba v:=by
  intro q Bt Du cR
  obtain ⟨w',br,q1,q2,q3,q4,q5,q6⟩:=GU (N:=N) (p:=p) hv (show 0≤q by omega) (show q < 65536 by omega) (by simp only [SM];omega) (ba w) (v.length+1) 0 N w 0 0 (by omega) (by omega) Rr hw (by omega) (by omega) (fun h=>rfl) (.inl rfl) hz
   (by rw [List.take_zero];simp [ba])
  have h1:=q2.mP
  have h2:=GS q2 _ q4
  have Xq:pw (v.length+1)=65536 * pw v.length:=eX _
  rw [show ((0:Nat):Int)=0 from rfl] at q6
  rw [q6]
  rcases q3 with rfl | rfl
  ·have Sb:q=Q:=by
    rcases Int.lt_or_le Q q with h | h
    ·exfalso
     have:=iv (show Q+1≤q by omega) (Int.le_of_lt Ui)
     rw [db] at this
     simp at q5
     omega
    ·omega
   subst Sb
   refine ⟨w',?_,q1,q2,by simpa using q5⟩
   rw [decide_eq_false (by decide),cond_false]
   unfold jd
   rw [lV OA (by omega)]
  ·have Sb:q=Q+1:=by
    rcases Int.lt_or_le Q q with h | h
    ·omega
    ·exfalso
     have:q=Q:=by omega
     subst this
     rw [Int.mul_neg,Int.mul_one] at q5
     omega
   subst Sb
   rw [decide_eq_true (by decide),cond_true]
   have Uj:(Q+1 - 1) * ba v=Q * ba v:=by rw [Int.add_sub_cancel]
   obtain ⟨w2,r1,r2,r3,r4⟩:=GV (N:=N) (p:=p) hv (show 0 < Q+1 by omega) (show Q+1 < 65536 by omega) (by simp only [SM];omega) (ba w) (by rw [Uj];omega) (by rw [Uj];omega) v.length 0 N w' 0 (by omega) (by omega) (by omega) q2 (by omega) (by omega) q4
    (by rw [q5,List.take_zero];simp [ba])
   rw [Uj] at r4
   refine ⟨w2,?_,by omega,r3,r4⟩
   rw [show ((0:Nat):Int)=0 from rfl] at r1
   rw [r1,Int.add_sub_cancel]
 unfold ss
 rw [e1,if_pos ⟨by omega,by omega⟩,if_pos (by omega),if_pos ⟨by omega,by omega⟩,if_pos ⟨by omega,by omega⟩,bF]
 have b1:32768≤v.getD (v.length - 1) 0:=hb
 have b2:=hv.getD (v.length - 1)
 have c1:=hw.getD v.length
 have c2:=hw.getD (v.length - 1)
 rw [eZ (n:=v.getD (v.length - 1) 0) (by omega) (by omega),if_pos (by omega),ox,ox,eZ (n:=w.getD v.length 0) (by omega) (by omega),eZ (n:=w.getD (v.length - 1) 0) (by omega) (by omega),C9 (by omega) (by omega),Fx (by omega) (by omega) (by omega) (by omega)]
 have Se:0≤w.getD v.length 0 * 65536+w.getD (v.length - 1) 0:=by omega
 have Xr:w.getD v.length 0 * 65536+w.getD (v.length - 1) 0 < 4294967296:=by omega
 rw [Int.tdiv_eq_ediv_of_nonneg Se,Int.tmod_eq_emod_of_nonneg Se]
 have qW:=Int.emod_nonneg (w.getD v.length 0 * 65536+w.getD (v.length - 1) 0) (show v.getD (v.length - 1) 0≠0 by omega)
 have Hf:=Int.emod_lt_of_pos (w.getD v.length 0 * 65536+w.getD (v.length - 1) 0) (show 0 < v.getD (v.length - 1) 0 by omega)
 have J3:=Int.ediv_nonneg Se (show 0≤v.getD (v.length - 1) 0 by omega)
 have WN:=Int.mul_ediv_add_emod (w.getD v.length 0 * 65536+w.getD (v.length - 1) 0) (v.getD (v.length - 1) 0)
 have Xs:(w.getD v.length 0 * 65536+w.getD (v.length - 1) 0) / v.getD (v.length - 1) 0≤w.getD v.length 0 * 65536+w.getD (v.length - 1) 0:=Int.ediv_le_self _ Se
 rw [eZ J3 (by omega)]
 obtain ⟨q,h1,h2,h3,h4⟩:=LN (N:=N) (p:=p) hv hw hn Rr hS t OA Sa Ve 2 N ((w.getD v.length 0 * 65536+w.getD (v.length - 1) 0) / v.getD (v.length - 1) 0) ((w.getD v.length 0 * 65536+w.getD (v.length - 1) 0) % v.getD (v.length - 1) 0)
  (by omega) (by omega) qW (by omega) J3 (by omega) (t.first OA Sa) (by rw [fI];exact WN)
 rw [h4]
 obtain ⟨w',k1,k2,k3,k4⟩:=hK q h1 h2 h3
 exact ⟨Q,w',k1,k2,k3,OA,WL,k4,by omega⟩
end Go.Den
namespace Go.Den
open Go.Ab
theorem LR {a b:Int} (ha:0≤a) (Mb:a < 65536) (hb:0≤b) (nh:b < 65536):q0 .u32 b (a * 65536)=a * 65536+b:=by
 have h:=IZ ha Mb hb nh
 unfold q0 at h ⊢
 rw [BitVec.or_comm];exact h
theorem PL {n:Int} {s:Nat} (hs:s≤15):mH .u32 n (s:Int)=n / 2 ^ s:=by
 unfold mH
 have:min ((s:Nat):Int).toNat IntKind.u32.bits=s:=by show min s 32=s;omega
 rw [this,Int.fdiv_eq_ediv_of_nonneg _ (Int.le_of_lt (Int.pow_pos (by decide)))]
theorem Ey {N:Nat} {b q u:List Int} {s:Nat} (hs:s≤15) (hU:U u) (hb:b.length+1≤u.length) (hS:SM u.length) (hz:u.getD b.length 0=0) (h0:u.getD 0 0 % 2 ^ s=0) (hq:U q) (Vf:q.length < N) (Vg:SM q.length) (hN:b.length < N) :
  ∀ (k x fuel:Nat) (r:List Int),x+k=b.length→k < fuel→r.length=b.length→U r→(∀ j,x≤j→r.getD j 0=0)→2 ^ s * ba r=ba (u.take x)+u.getD x 0 % 2 ^ s * pw x →
   ∃ R:List Int,gW N b (s:Int) q u fuel r (x:Int)=some (lm (ba q).toNat,lm (ba R).toNat)∧U R∧2 ^ s * ba R=ba (u.take b.length)
 | 0,x,fuel,r,hx,hf,hr,Sf,Uk,hinv=>by
  obtain ⟨g,rfl⟩:∃ g,fuel=g+1:=⟨fuel - 1,by omega⟩
  have DP:x=b.length:=by omega
  subst DP
  simp only [SM] at hS Vg
  have hp:(2:Int) ^ s≠0:=Int.ne_of_gt (Int.pow_pos (by decide))
  refine ⟨r,?_,Sf,?_⟩
  ·rw [gW,Nat.sub_zero,mD,cond_false,kj hq Vf (by omega),dG,kj Sf (by omega) (by omega),dG]
  ·rw [hinv,hz];simp
 | k+1,x,fuel,r,hx,hf,hr,Sf,Uk,hinv=>by
  obtain ⟨g,rfl⟩:∃ g,fuel=g+1:=⟨fuel - 1,by omega⟩
  simp only [SM] at hS
  have wz:x < b.length:=by omega
  have h1:=hU.getD x
  have h2:=hU.getD (x+1)
  rw [gW,Nat.sub_zero,dec_lt wz,cond_true,if_pos (xa (by omega)),gn (by omega),if_pos (xa (by omega)),if_pos (by omega),if_pos (xa (by omega))]
  simp only [bF]
  rw [bN (n:=u.getD x 0) (by omega) (by omega),bN (n:=u.getD (x+1) 0) (by omega) (by omega),C8 h2.1 h2.2,LR h2.1 h2.2 h1.1 h1.2,PL hs,qG]
  generalize WO:u.getD x 0=a at *
  generalize Hg:u.getD (x+1) 0=a' at *
  -- 65536 = P c
  obtain ⟨P,hP⟩:∃ P:Int,P=2 ^ s:=⟨_,rfl⟩
  obtain ⟨c,hc⟩:∃ c:Int,c=2 ^ (16 - s):=⟨_,rfl⟩
  have OB:(65536:Int)=P * c:=by rw [hP,hc,← Int.pow_add,show s+(16 - s)=16 by omega];decide
  have Vh:0 < P:=by rw [hP];exact Int.pow_pos (by decide)
  have xZ:0 < c:=by rw [hc];exact Int.pow_pos (by decide)
  rw [← hP] at hinv ⊢
  have e1:(a' * 65536+a) / P=a' * c+a / P:=by
   rw [OB,show a' * (P * c)+a=a+(a' * c) * P by rw [fI P c,← jz];omega,Int.add_mul_ediv_right _ _ (by omega)];omega
  have e2:a'=P * (a' / P)+a' % P:=(Int.mul_ediv_add_emod a' P).symm
  have l0:=Int.emod_nonneg a' (show P≠0 by omega)
  have l1:=Int.emod_lt_of_pos a' Vh
  have m0:0≤a / P:=Int.ediv_nonneg h1.1 (by omega)
  have m1:a / P < c:=Int.ediv_lt_of_lt_mul Vh (by rw [fI,← OB];exact h1.2)
  have e3:(a' * 65536+a) / P % 65536=a' % P * c+a / P:=by
   rw [e1]
   have h3:a' * c=(a' / P) * 65536+a' % P * c:=by
    have:a' * c=(P * (a' / P)+a' % P) * c:=by rw [← e2]
    rw [this,db,OB];grind
   have h4:a' % P * c+a / P < 65536:=by
    have:=iv (show a' % P+1≤P by omega) (Int.le_of_lt xZ)
    rw [db,← OB] at this;omega
   have h5:0≤a' % P * c:=Int.mul_nonneg l0 (Int.le_of_lt xZ)
   rw [h3];omega
  rw [e3]
  have h4:a' % P * c+a / P < 65536:=by
   have:=iv (show a' % P+1≤P by omega) (Int.le_of_lt xZ)
   rw [db,← OB] at this;omega
  have h5:0≤a' % P * c:=Int.mul_nonneg l0 (Int.le_of_lt xZ)
  have:=Ey (N:=N) (s:=s) hs hU hb (by simp only [SM];omega) hz h0 hq Vf Vg hN k (x+1) g (r.set x (a' % P * c+a / P)) (by omega) (by omega) (by simp [hr]) (Sf.set _ (by omega) h4) (fun j hj=>by rw [getD_set_ne _ _ (by omega)];exact Uk j (by omega))
   (by
    rw [← hP,k5 _ _ _ (by omega),Uk x (a7 _),bO u x (by omega),Int.sub_zero,Hg,eX,gI,hinv]
    have e4:a=P * (a / P)+a % P:=(Int.mul_ediv_add_emod a P).symm
    rw [WO]
    have e6:P * ((a' % P * c+a / P) * pw x)=a' % P * (P * c) * pw x+P * (a / P) * pw x:=by grind
    rw [e6,← OB]
    grind)
  rw [← hP] at this
  exact this
theorem Dh {l:List Int} (hU:U l) (n:Nat) (h:ba l < pw n):ba (l.take n)=ba l:=(pT n (Dg hU n h)).symm
theorem Ez {N:Nat} {b o2:List Int} {s:Nat} (hs:s≤15) {v:List Int} (hv:v=(o2.take b.length).drop 0) (PM:U v) (Ik:v.length=b.length) (hn:2≤b.length) (hb:32768≤v.getD (b.length - 1) 0) (b9:b.length≤o2.length)
  {Lu:Nat} (WQ:b.length+1≤Lu) (hS:SM Lu) (hN:Lu+3 < N) {A B:Int} (hA:0≤A) (hB:0 < B) (hV:ba v=B * 2 ^ s) :
  ∀ (k fuel:Nat) (q u:List Int),k≤Lu - b.length→k < fuel→u.length=Lu→U u→q.length=Lu - b.length→U q→(∀ j,j < k→q.getD j 0=0)→ba (u.drop k) < ba v→A * 2 ^ s=ba q * ba v+ba u →
   gX N b (s:Int) o2 fuel q u ((k:Int) - 1)=some (lm (A / B).toNat,lm (A % B).toNat)
 | 0,fuel,q,u,hk,hf,hu,hU,hq,Ul,Um,fY,hinv=>by
  obtain ⟨g,rfl⟩:∃ g,fuel=g+1:=⟨fuel - 1,by omega⟩
  simp only [SM] at hS
  have e:decide ((((0:Nat):Int) - 1)≥0)=false:=rfl
  rw [gX,e,cond_false,Nat.sub_zero,if_pos (by omega)]
  rw [List.drop_zero] at fY
  have hp:(0:Int) < 2 ^ s:=Int.pow_pos (by decide)
  have WR:ba v < pw b.length:=by rw [← Ik];exact PM.lt
  have hz:=Dg hU b.length (by omega)
  -- nvl u is a multiple of 2^s
  have hR:ba u=(A - ba q * B) * 2 ^ s:=by rw [Int.sub_mul,hinv,hV];grind
  have h0:u.getD 0 0 % 2 ^ s=0:=by
   have h1:=lD u 0 (by omega)
   rw [List.drop_zero] at h1
   obtain ⟨c,hc⟩:∃ c:Int,c=2 ^ (16 - s):=⟨_,rfl⟩
   have OB:(65536:Int)=2 ^ s * c:=by rw [hc,← Int.pow_add,show s+(16 - s)=16 by omega];decide
   have h2:u.getD 0 0=(A - ba q * B - c * ba (u.drop (0+1))) * 2 ^ s:=by
    have:u.getD 0 0=ba u - 65536 * ba (u.drop (0+1)):=by omega
    rw [this,hR,OB];grind
   rw [h2];exact Int.mul_emod_left _ _
  obtain ⟨R,r1,r2,r3⟩:=Ey (N:=N) (b:=b) (q:=q) hs hU (by omega) (by simp only [SM];omega) (hz _ (a7 _)) h0 Ul (by omega) (by simp only [SM];omega) (by omega) b.length 0 N (List.replicate b.length 0) (by omega) (by omega) (by simp) (U.replicate _) (fun j _=>eY _ j)
   (by rw [hC,h0];simp [ba])
  rw [show ((0:Nat):Int)=0 from rfl] at r1
  rw [r1]
  rw [← pT b.length hz,hR,fI] at r3
  have r4:ba R=A - ba q * B:=Int.eq_of_mul_eq_mul_right (Int.ne_of_gt hp) r3
  have r5:=r2.mP
  have r6:ba R < B:=by
   refine tX hp ?_
   rw [r4,← hR,← hV];exact fY
  have Du:A / B=ba q:=by
   rw [show A=ba R+ba q * B by omega,Int.add_mul_ediv_right _ _ (by omega),Int.ediv_eq_zero_of_lt r5 r6];omega
  have cR:A % B=ba R:=by
   rw [show A=ba R+ba q * B by omega,Int.add_mul_emod_self_right,Int.emod_eq_of_lt r5 r6]
  rw [Du,cR]
 | k+1,fuel,q,u,hk,hf,hu,hU,hq,Ul,Um,fY,hinv=>by
  obtain ⟨g,rfl⟩:∃ g,fuel=g+1:=⟨fuel - 1,by omega⟩
  simp only [SM] at hS
  have e:(((k+1:Nat):Int) - 1)=(k:Int):=by omega
  have e0:decide ((k:Int)≥0)=true:=by simp
  have e1:ah ((ah ((k:Int)+((b.length:Nat):Int)))+1)=((k+b.length+1:Nat):Int):=by rw [bw (n:=(k:Int)+((b.length:Nat):Int)) (by omega) (by omega),bw (by omega) (by omega)];omega
  rw [e,gX,e0,cond_true,Nat.sub_zero,e1]
  simp only [bF]
  rw [if_pos ⟨by omega,by omega⟩,if_pos (by omega),if_pos (by omega),if_pos ⟨Nat.zero_le _,b9⟩,← hv]
  have hp:u.take k ++ u.drop k=u:=List.take_append_drop _ _
  have AM:(u.take k).length=k:=by rw [nc];omega
  have Rr:(u.drop k).length=Lu - k:=by rw [List.length_drop,hu]
  have hd:=lD u k (by omega)
  have Jl:=hU.getD k
  have WR:ba v < pw b.length:=by rw [← Ik];exact PM.lt
  have WS:ba (u.drop k) < 65536 * ba v:=by omega
  have Sc:ba (u.drop k) < pw (v.length+1):=by rw [eX,Ik];omega
  obtain ⟨Q,w',d1,d2,d3,d4,d5,d6,d7⟩:=LO (N:=N) (p:=u.take k) (v:=v) (w:=u.drop k) PM (hU.drop k) (by omega) (by omega) (by simp only [SM];omega) (by omega) (by rw [Ik];exact hb) (Dg (hU.drop k) _ Sc) WS
  rw [AM,hp,Ik] at d1
  rw [show k+b.length+1 - k=b.length+1 by omega,d1,dG]
  have Rs:(u.take k ++ w').length=u.length:=by rw [kU,AM,d2,Rr,hu];omega
  simp only [Rs]
  rw [if_pos trivial,if_pos (xa (by omega)),bw (by omega) (by omega)]
  have iI:∀ j,j < k→(q.set k Q).getD j 0=0:=fun j hj=>by rw [getD_set_ne _ _ (by omega)];exact Um j (by omega)
  refine Ez (A:=A) hs hv PM Ik hn hb b9 WQ (by simp only [SM];omega) hN hA hB hV k g _ _ (by omega) (by omega) (by rw [Rs,hu]) ((hU.take k).append d3) (by simp [hq]) (Ul.set _ d4 d5) iI ?_ ?_
  ·have:(u.take k ++ w').drop k=w':=by rw [List.drop_append_of_le_length (by omega),List.drop_of_length_le (by omega)];rfl
   rw [this];exact d7
  ·have h1:=kg (u.take k) w'
   have h2:=oi u k (by omega)
   rw [AM] at h1
   rw [h1,k5 _ _ _ (by omega),Um k (by omega),d6,hinv,h2];grind
theorem AJ {A B q r:Nat} (h:A=q * B+r) (hr:r < B):A / B=q∧A % B=r:=by
 subst h
 have hB:0 < B:=by omega
 exact ⟨by rw [ng,Nat.mul_add_div hB,Nat.div_eq_of_lt hr];rfl,by rw [ng,Nat.mul_add_mod,Nat.mod_eq_of_lt hr]⟩
theorem Ao {N a b:Nat} (hb:b≠0) (hs:SM ((lm a).length+(lm b).length+2)) (hN:(lm a).length+(lm b).length+10 < N):mJ N (lm a) (lm b)=some (lm (a / b),lm (a % b)):=by
 have Fz:=hs
 simp only [SM] at Fz
 unfold mJ
 obtain ⟨c,hc,qV,Ie,-⟩:=tW (N:=N) (a:=a) (b:=b) (by omega) (by simp only [SM];omega) (by simp only [SM];omega)
 rw [hc,dG]
 by_cases Oz:a < b
 ·rw [decide_eq_true (qV.2 Oz),cond_true]
  unfold cx
  rw [if_pos (by omega),dG,Nat.div_eq_of_lt Oz,Nat.mod_eq_of_lt Oz,fX];rfl
 ·rw [decide_eq_false (fun h=>Oz (qV.1 h)),cond_false]
  have Xt:=ki.2 hb
  cases h1:(((lm b).length:Nat):Int) == 1 with
  | true =>
   have h1:(lm b).length=1:=by have h1:=eq_of_beq h1;omega
   have oW:b < 65536:=by have:=(gy (n:=b) (k:=1)).1 (by omega);simp [pw] at this;omega
   have e:(lm b).getD 0 0=(b:Int):=by
    rw [oU hb];show ((b % 65536:Nat):Int)=b;omega
   rw [cond_true,if_pos (by omega),e,LG (by omega) oW (by simp only [SM];omega) (by omega),dG]
   have hm:a % b < 65536:=nb (Nat.mod_lt _ (by omega)) (by omega)
   rw [kj (U.one (by omega) (by omega)) (by simp;omega) (by simp),dG,pJ,Int.toNat_natCast]
  | false =>
   have h2:2≤(lm b).length:=by simp at h1;omega
   rw [cond_false]
   obtain ⟨lb,x,Rn,Ok,Vi,WT,Su⟩:=NA hb
   have WU:(lm b).length=lb.length+1:=by rw [Rn];simp
   have e1:ah ((((lm b).length:Nat):Int) - 1)=((lb.length:Nat):Int):=by rw [bw (by omega) (by omega)];omega
   rw [e1,if_pos (by omega),bF]
   have ex:(lm b).getD lb.length 0=x:=by rw [Rn];simp [List.getD]
   rw [ex]
   obtain ⟨X,rfl⟩:=Int.eq_ofNat_of_zero_le WT
   obtain ⟨s,s1,s2,s3,s4⟩:=Ro (N:=N) (x:=X) (by omega) (by omega)
   rw [s2,dG]
   obtain ⟨o1,p1,p2,p3,p4,p5⟩:=Df (N:=N) (a:=lm a) (qU a) s1 (by simp only [SM];omega) (by omega)
   obtain ⟨o2,q1,q2,q3,q4,q5⟩:=Df (N:=N) (a:=lm b) (qU b) s1 (by simp only [SM];omega) (by omega)
   rw [p1,dG,q1,dG,if_pos ⟨Nat.zero_le _,by omega⟩,Nat.sub_zero]
   rw [gU] at p4 q4
   have QP:(lm b).length≤(lm a).length:=fa (by omega)
   have e2:ah (((o1.length:Nat):Int) - (((lm b).length:Nat):Int))=((o1.length - (lm b).length:Nat):Int):=by rw [bw (by omega) (by omega)];omega
   rw [e2,if_pos (by omega)]
   -- the divisor, shifted
   have wE:(0:Int) < 2 ^ s:=Int.pow_pos (by decide)
   have WW:(b:Int)=ba lb+pw lb.length * X:=by
    have:=gU b
    rw [Rn,kg,pJ] at this;omega
   have WX:(32768:Int)≤X * 2 ^ s:=by
    have e:((X * 2 ^ s:Nat):Int)=(X:Int) * 2 ^ s:=by simp
    omega
   have WY:(X:Int) * 2 ^ s+2 ^ s≤65536:=by
    have e:((X * 2 ^ s:Nat):Int)=(X:Int) * 2 ^ s:=by simp
    have Un:(65536:Nat)=2 ^ (16 - s) * 2 ^ s:=by rw [← Nat.pow_add,show 16 - s+s=16 by omega]
    have h9:X < 2 ^ (16 - s):=by
     rw [Un] at s4;exact Nat.lt_of_mul_lt_mul_right s4
    have R8:=cG (2 ^ s) (show X+1≤2 ^ (16 - s) by omega)
    rw [← Un,bL] at R8
    have e3:((2 ^ s:Nat):Int)=(2:Int) ^ s:=by simp
    omega
   have WZ:=Vi.lt
   have Uo:=Vi.mP
   have hV:(b:Int) * 2 ^ s=ba lb * 2 ^ s+pw lb.length * (X * 2 ^ s):=by rw [WW,db,jz]
   have Ue:(b:Int) * 2 ^ s < pw (lm b).length:=by
    rw [WU,eX,hV]
    have h5:=iv (show ba lb+1≤pw lb.length by omega) (Int.le_of_lt wE)
    have h6:=pg WY (Int.le_of_lt (jv lb.length))
    rw [gI] at h6
    rw [db] at h5
    have:=jv lb.length
    omega
   have Xu:32768 * pw lb.length≤(b:Int) * 2 ^ s:=by
    rw [hV]
    have h6:=pg WX (Int.le_of_lt (jv lb.length))
    have h7:0≤ba lb * 2 ^ s:=Int.mul_nonneg Uo (Int.le_of_lt wE)
    rw [fI 32768];omega
   have PM:U ((o2.take (lm b).length).drop 0):=by rw [List.drop_zero];exact q3.take _
   have Ik:((o2.take (lm b).length).drop 0).length=(lm b).length:=by simp;omega
   have Uq:ba ((o2.take (lm b).length).drop 0)=(b:Int) * 2 ^ s:=by rw [List.drop_zero,Dh q3 _ (by rw [q4];exact Ue),q4]
   have Ur:32768≤((o2.take (lm b).length).drop 0).getD ((lm b).length - 1) 0:=by
    have h5:=bO ((o2.take (lm b).length).drop 0) lb.length (by omega)
    have h6:=(PM.take lb.length).lt
    rw [jy (by omega),Uq] at h5
    rw [nc,Nat.min_eq_left (by omega)] at h6
    rw [show (lm b).length - 1=lb.length by omega]
    rcases Int.lt_or_le (((o2.take (lm b).length).drop 0).getD lb.length 0) 32768 with h | h
    ·exfalso
     have:=iv (show ((o2.take (lm b).length).drop 0).getD lb.length 0≤32767 by omega) (Int.le_of_lt (jv lb.length))
     have:=jv lb.length
     omega
    ·exact h
   have e3:ah (((o1.length - (lm b).length:Nat):Int) - 1)=((o1.length - (lm b).length:Nat):Int) - 1:=bw (by omega) (by omega)
   rw [e3,bF]
   have Rt:ba (o1.drop (o1.length - (lm b).length)) < ba ((o2.take (lm b).length).drop 0):=by
    -- the top n digits: the last one is below 2 ^ s
    have hl:(o1.drop (o1.length - (lm b).length)).length=(lm b).length:=by rw [List.length_drop];omega
    have Xv:=q3
    have Ud:=p3.drop (o1.length - (lm b).length)
    have h5:=bO (o1.drop (o1.length - (lm b).length)) lb.length (by omega)
    rw [jy (by omega)] at h5
    have h6:=(Ud.take lb.length).lt
    rw [nc,Nat.min_eq_left (by omega)] at h6
    have h7:(o1.drop (o1.length - (lm b).length)).getD lb.length 0=o1.getD (lm a).length 0:=by
     rw [ft,nf,ft];congr 2;omega
    rw [h7] at h5
    rw [Uq]
    have h8:o1.getD (lm a).length 0+1≤32768:=by
     have:(2:Int) ^ s≤32768:=by
      have h:=Nat.pow_le_pow_right (n:=2) (by decide) s1
      have e:((2 ^ s:Nat):Int)=(2:Int) ^ s:=by simp
      omega
     omega
    have h9:=iv h8 (Int.le_of_lt (jv lb.length))
    rw [db] at h9
    omega
   rw [Ez (N:=N) (A:=(a:Int)) (B:=(b:Int)) s1 rfl PM Ik h2 Ur (by omega) (Lu:=o1.length) (by omega) (by simp only [SM];omega) (by omega) (by omega) (by omega) Uq (o1.length - (lm b).length) N _ o1 (a7 _) (by omega) rfl p3 (by simp) (U.replicate _)
    (fun j _=>eY _ j) Rt (by rw [hC,p4];simp)]
   rfl
end Go.Den
namespace Go.Den
open Go.Ab
def Gv {α:Type} (f:Nat→Option α) (r:α):Prop:=∃ N0,∀ N,N0≤N→f N=some r
theorem Gv.pure {α:Type} (r:α):Gv (fun _=>some r) r:=⟨0,fun _ _=>rfl⟩
theorem Gv.bind {α β:Type} {f:Nat→Option α} {k:Nat→α→Option β} {r:α} {s:β} (h:Gv f r) (h2:Gv (fun N=>k N r) s):Gv (fun N=>(f N).bind (k N)) s:=by
 obtain ⟨N1,h1⟩:=h
 obtain ⟨N2,h2⟩:=h2
 exact ⟨N1+N2,fun N hN=>by show (f N).bind (k N)=some s;rw [h1 N (by omega)];exact h2 N (by omega)⟩
theorem Gv.congr {α:Type} {f g:Nat→Option α} {r:α} (h:Gv f r) (e:∀ N,g N=f N):Gv g r:=let ⟨N0,h0⟩:=h;⟨N0,fun N hN=>(e N).trans (h0 N hN)⟩
theorem Gv.of {α:Type} {f:Nat→Option α} {r:α} (N0:Nat) (h:∀ N,N0≤N→f N=some r):Gv f r:=⟨N0,h⟩
theorem Gv.er {α:Type} {f g:Nat→Option α} {r:α} {q:Bool} (hq:q=true) (h:Gv f r):Gv (fun N=>cond q (f N) (g N)) r:=by subst hq;exact h
theorem Gv.ux {α:Type} {f g:Nat→Option α} {r:α} {q:Bool} (hq:q=false) (h:Gv g r):Gv (fun N=>cond q (f N) (g N)) r:=by subst hq;exact h
theorem Gv.if {α:Type} {f:Nat→Option α} {r:α} {p:Prop} [Decidable p] (hp:p) (h:Gv f r):Gv (fun N=>if p then f N else none) r:=h.congr fun _=>if_pos hp
theorem Gv.eq {α:Type} {f:Nat→Option α} {r s:α} (h:Gv f r) (e:r=s):Gv f s:=e ▸ h
theorem Gv.ex {α:Type} {f:Nat→Option α} {r:α} (h:Gv f r):∃ N,f N=some r:=let ⟨N,h⟩:=h;⟨N,h N (a7 _)⟩
def sg (neg:Bool) (n:Nat):Int:=cond neg (-(n:Int)) (n:Int)
def Bu (z:Int):bd:=⟨decide (z < 0),lm z.natAbs⟩
def zv (a:bd):Int:=sg a.fG (ba a.fL).toNat
def ZB (z:Int) (n:Nat):Prop:=(lm z.natAbs).length≤n
structure IB (a:bd) (n:Nat):Prop where
 U:U a.fL
 len:a.fL.length≤n
theorem na (neg:Bool) (n:Nat):(sg neg n).natAbs=n:=by cases neg<;>simp [sg]
theorem jN (a:bd):(zv a).natAbs=(ba a.fL).toNat:=na _ _
theorem LS (neg:Bool) (n:Nat) (h:n≠0):Bu (sg neg n)=⟨neg,lm n⟩:=by
 unfold Bu
 rw [na]
 cases neg
 ·rw [decide_eq_false (show ¬ sg false n < 0 by simp [sg])]
 ·rw [decide_eq_true (show sg true n < 0 by simp [sg];omega)]
theorem LU:Bu 0=⟨false,[]⟩:=by unfold Bu;rw [show (0:Int).natAbs=0 from rfl,fX];rfl
theorem I6 (neg:Bool):Bu (sg neg 0)=⟨false,[]⟩:=by cases neg<;>exact LU
theorem qH (z:Int):zv (Bu z)=z:=by
 unfold zv Bu
 simp only [gU,Int.toNat_natCast]
 unfold sg
 by_cases h:z < 0
 ·rw [decide_eq_true h];simp only [cond_true];omega
 ·rw [decide_eq_false h];simp only [cond_false];omega
theorem ZB.le {z:Int} {m n:Nat} (h:ZB z m) (I7:m≤n):ZB z n:=gp h I7
theorem LV {z:Int} {n:Nat}:ZB z n↔(z.natAbs:Int) < pw n:=gy
theorem GW {z:Int} {n:Nat}:ZB z n↔z.natAbs < 65536 ^ n:=by
 rw [LV];unfold pw
 have:((65536 ^ n:Nat):Int)=65536 ^ n:=by simp
 omega
theorem ZB.neg {z:Int} {n:Nat} (h:ZB z n):ZB (-z) n:=by unfold ZB at *;rwa [Int.natAbs_neg]
theorem ZB.mul {x y:Int} {m n:Nat} (h1:ZB x m) (h2:ZB y n):ZB (x * y) (m+n):=by
 rw [GW] at *
 rw [Int.natAbs_mul,Nat.pow_add]
 exact Nat.mul_lt_mul'' h1 h2
theorem ZB.add {x y:Int} {n:Nat} (h1:ZB x n) (h2:ZB y n):ZB (x+y) (n+1):=by
 rw [GW] at *
 have:=Int.natAbs_add_le x y
 have h3:65536 ^ (n+1)=65536 * 65536 ^ n:=by rw [Nat.pow_succ];omega
 have:=Nat.pow_pos (n:=n) (show 0 < 65536 by decide)
 omega
theorem ZB.sub {x y:Int} {n:Nat} (h1:ZB x n) (h2:ZB y n):ZB (x - y) (n+1):=by rw [Int.sub_eq_add_neg];exact h1.add h2.neg
theorem ZB.of_le {x y:Int} {n:Nat} (h:ZB y n) (QX:x.natAbs≤y.natAbs):ZB x n:=by rw [GW] at *;omega
theorem ZB.small {x:Int} (h:x.natAbs < 65536):ZB x 1:=by rw [GW];simpa using h
theorem ZB.word {x:Int} (h:-9223372036854775808≤x) (h2:x≤9223372036854775807):ZB x 4:=by rw [GW];omega
theorem IB.zb {a:bd} {n:Nat} (h:IB a n):ZB (zv a) n:=by
 rw [LV,jN]
 have h1:=h.U.lt
 have h2:=h.U.mP
 have h3:pw a.fL.length≤pw n:=by
  have e:pw n=pw a.fL.length * pw (n - a.fL.length):=by rw [← Da];congr 1;have:=h.len;omega
  have:=jv (n - a.fL.length)
  have:=pg (show 1≤pw (n - a.fL.length) by omega) (Int.le_of_lt (jv a.fL.length))
  omega
 omega
theorem ZB.ib {z:Int} {n:Nat} (h:ZB z n):IB (Bu z) n:=⟨qU _,h⟩
theorem IB.le {a:bd} {m n:Nat} (h:IB a m) (I7:m≤n):IB a n:=⟨h.U,gp h.len I7⟩
section
variable {a b:bd} {m n:Nat}
theorem tY (ha:IB a n) (hn:SM n):Gv (fun N=>eR N a.fL) (lm (zv a).natAbs) :=
 .of (n+1) fun N hN=>by
  simp only [SM] at hn
  have:=ha.len
  rw [kj ha.U (by omega) (by omega),jN]
theorem pU (neg:Bool) {k:Nat} (hk:SM (lm k).length):Gv (fun N=>gz N neg (lm k)) (Bu (sg neg k)) :=
 .of ((lm k).length+1) fun N hN=>by
  simp only [SM] at hk
  unfold gz
  rw [kj (qU k) (by omega) (by omega),gU,Int.toNat_natCast,dG]
  by_cases h:k=0
  ·subst h
   rw [fX,I6];rfl
  ·have e:((((lm k).length:Nat):Int) == 0)=false:=by
    have:=ki.2 h
    simp;exact fun h'=>by rw [h'] at this;simp at this
   rw [e,cond_false]
   unfold cx
   rw [if_pos (by omega),dG,LS _ _ h];rfl
theorem GX (a:bd):Gv (fun N=>pB N a) ⟨!a.fG,a.fL⟩:=.pure _
theorem GY (a:bd):zv ⟨!a.fG,a.fL⟩ = -zv a:=by unfold zv sg;cases a.fG<;>simp
theorem sign_eq (a b:Bool) (x y:Nat):sg (!(a == b)) (x * y)=sg a x * sg b y:=by
 cases a<;>cases b<;>simp [sg,Int.neg_mul,Int.mul_neg]
theorem Ap (ha:IB a m) (hb:IB b n) (hs:SM (m+n)):Gv (fun N=>nx N a b) (Bu (zv a * zv b)):=by
 simp only [SM] at hs
 have Hg:=ha.zb
 have wD:=hb.zb
 unfold ZB at Hg wD
 refine (tY ha (by simp only [SM];omega)).bind ((tY hb (by simp only [SM];omega)).bind ?_)
 refine Gv.bind (r:=lm ((zv a).natAbs * (zv b).natAbs)) (.of (m+n+1) fun N hN=>LF (by simp only [SM];omega) (by omega)) ?_
 have hz:=ha.zb.mul hb.zb
 unfold ZB at hz
 rw [Int.natAbs_mul] at hz
 refine (pU _ (by simp only [SM];omega)).bind ((Gv.pure _).eq ?_)
 rw [jN,jN,sign_eq];rfl
theorem LW (ha:IB a n) (hb:IB b n) (hs:SM (n+1)):Gv (fun N=>yw N a b) (Bu (zv a+zv b)):=by
 simp only [SM] at hs
 have Hg:=ha.zb
 have wD:=hb.zb
 have hz:=Hg.add wD
 unfold ZB at Hg wD
 refine (tY ha (by simp only [SM];omega)).bind ((tY hb (by simp only [SM];omega)).bind ?_)
 have hX:zv a=sg a.fG (zv a).natAbs:=by rw [jN];rfl
 have hY:zv b=sg b.fG (zv b).natAbs:=by rw [jN];rfl
 generalize (zv a).natAbs=x at *
 generalize (zv b).natAbs=y at *
 rw [hX,hY] at hz ⊢
 generalize a.fG=p at *
 generalize b.fG=q at *
 cases P3:(p == q) with
 | true =>
  have P3:p=q:=by simpa using P3
  subst P3
  have e:sg p x+sg p y=sg p (x+y):=by cases p<;>simp [sg]<;>omega
  rw [e] at hz ⊢
  unfold ZB at hz
  rw [na] at hz
  refine Gv.er rfl (Gv.bind (r:=lm (x+y)) (.of (n+2) fun N hN=>ND (by simp only [SM];omega) (by simp only [SM];omega) (by omega) (by omega)) ?_)
  exact (pU _ (by simp only [SM];omega)).bind (Gv.pure _)
 | false =>
  have P3:q=!p:=by cases p<;>cases q<;>simp_all
  subst P3
  refine Gv.ux rfl ?_
  refine Gv.bind (r:=Fy x y) (.of (n+2) fun N hN=>GL (by omega) (by simp only [SM];omega) (by simp only [SM];omega)) ?_
  have fY:=NB (a:=x) (b:=y) (by simp only [SM];omega) (by simp only [SM];omega)
  by_cases QX:x < y
  ·refine Gv.ux (decide_eq_false (by have:=fY.2 QX;omega)) (Gv.bind (r:=lm (y - x)) (.of (n+2) fun N hN=>GN (by omega) (by simp only [SM];omega) (by omega)) ?_)
   have e:sg p x+sg (!p) y=sg (!p) (y - x):=by cases p<;>simp [sg]<;>omega
   rw [e] at hz ⊢
   unfold ZB at hz
   rw [na] at hz
   exact (pU _ (by simp only [SM];omega)).bind (Gv.pure _)
  ·refine Gv.er (decide_eq_true (by have:=fun h=>QX (fY.1 h);omega)) (Gv.bind (r:=lm (x - y)) (.of (n+2) fun N hN=>GN (by omega) (by simp only [SM];omega) (by omega)) ?_)
   have e:sg p x+sg (!p) y=sg p (x - y):=by cases p<;>simp [sg]<;>omega
   rw [e] at hz ⊢
   unfold ZB at hz
   rw [na] at hz
   exact (pU _ (by simp only [SM];omega)).bind (Gv.pure _)
theorem IB.W2 (ha:IB a n):IB ⟨!a.fG,a.fL⟩ n:=⟨ha.U,ha.len⟩
theorem BH (ha:IB a n) (hn:SM n):Gv (fun N=>qc N a) (zv a).sign:=by
 refine (tY ha hn).bind ?_
 have hX:zv a=sg a.fG (zv a).natAbs:=by rw [jN];rfl
 generalize (zv a).natAbs=x at *
 rw [hX]
 generalize a.fG=p
 by_cases h:x=0
 ·subst h
  refine Gv.er (by rw [fX];rfl) ((Gv.pure _).eq ?_)
  cases p<;>rfl
 ·refine Gv.ux ?_ ?_
  ·have:=ki.2 h
   simp;exact fun h'=>by rw [h'] at this;simp at this
  ·cases p with
   | true=>exact Gv.er rfl ((Gv.pure _).eq (by simp only [sg,cond_true];rw [Int.sign_eq_neg_one_of_neg];omega))
   | false=>exact Gv.ux rfl ((Gv.pure _).eq (by simp only [sg,cond_false];rw [Int.sign_eq_one_of_pos];omega))
end
end Go.Den
namespace Go.Den
open Go.Ab
theorem JN {N:Nat} (K:List Int→List Int→Option (List Int)) (hN:4 < N):∀ (y x fuel:Nat),y < fuel→x < 18446744073709551616→y < 18446744073709551616→js N K fuel (x:Int) (y:Int)=some (lm (Nat.gcd x y)):=by
 intro y
 induction y using Nat.strongRecOn with
 | _ y ih =>
  intro x fuel hf hx hy
  obtain ⟨g,rfl⟩:∃ g,fuel=g+1:=⟨fuel - 1,by omega⟩
  rw [js]
  by_cases h:y=0
  ·subst h
   rw [decide_eq_false (by decide),cond_false,H5 hN hx,dG,Nat.gcd_zero_right]
  ·rw [decide_eq_true (by omega),cond_true,if_pos (by omega),Int.tmod_eq_emod_of_nonneg (by omega)]
   have e:((x:Int) % (y:Int))=((x % y:Nat):Int):=by simp
   have fY:=Nat.mod_lt x (Nat.pos_of_ne_zero h)
   rw [e,ih (x % y) fY y g (by omega) hy (by omega),Nat.gcd_comm x y,Nat.gcd_rec y x,Nat.gcd_comm]
theorem JO {N:Nat} {k:Nat} (hk:SM (2 * k+2)) (hN:2 * k+20 < N):∀ (y x fuel:Nat),y < fuel→y < N→(lm x).length≤k→(lm y).length≤k→gY N fuel (lm x) (lm y)=some (lm (Nat.gcd x y)):=by
 intro y
 simp only [SM] at hk
 induction y using Nat.strongRecOn with
 | _ y ih =>
  intro x fuel hf W3 hx hy
  obtain ⟨g,rfl⟩:∃ g,fuel=g+1:=⟨fuel - 1,by omega⟩
  rw [gY]
  by_cases h:y=0
  ·subst h
   rw [fX,Nat.gcd_zero_right];rfl
  ·have hl:=ki.2 h
   rw [decide_eq_true (by omega),cond_true,I5 (by omega) (by simp only [SM];omega),dG,I5 (by omega) (by simp only [SM];omega),dG]
   by_cases h4:(lm x).length≤4∧(lm y).length≤4
   ·rw [if_pos h4.1,if_pos h4.2]
    have b1:=gy.1 h4.1
    have b2:=gy.1 h4.2
    have e4:pw 4=18446744073709551616:=by decide
    exact JN _ (by omega) y x N W3 (by omega) (by omega)
   ·have e:cond (if (lm x).length≤4 then ((x:Int),true) else (0,false)).2 (if (lm y).length≤4 then ((y:Int),true) else (0,false)).2 false=false:=by
     by_cases h1:(lm x).length≤4
     ·have h2:¬ (lm y).length≤4:=fun h2=>h4 ⟨h1,h2⟩
      rw [if_pos h1,if_neg h2];rfl
     ·rw [if_neg h1];rfl
    rw [e,cond_false,Ao h (by simp only [SM];omega) (by omega),dG]
    have fY:=Nat.mod_lt x (Nat.pos_of_ne_zero h)
    rw [ih (x % y) fY y g (by omega) (by omega) hy (gp (fa (by omega)) hy),Nat.gcd_comm x y,Nat.gcd_rec y x,Nat.gcd_comm]
theorem JP {x y k:Nat} (hx:(lm x).length≤k) (hy:(lm y).length≤k) (hk:SM (2 * k+2)):Gv (fun N=>tw N (lm x) (lm y)) (lm (Nat.gcd x y)) :=
 .of (2 * k+21+y) fun N hN=>JO hk (by omega) y x N (by omega) (by omega) hx hy
def dv (x:aa):Int:=if zv x.fD=0 then 1 else zv x.fD
def qv (x:aa):Rat:=Rat.divInt (zv x.fN) (dv x)
def x5 (q:Rat):aa:=⟨Bu q.num,Bu (q.den:Int)⟩
structure RB (q:Rat) (n:Nat):Prop where
 num:ZB q.num n
 den:ZB (q.den:Int) n
structure IR (x:aa) (n:Nat):Prop where
 num:IB x.fN n
 den:IB x.fD n
theorem vW (x:aa):dv x≠0:=by unfold dv;split<;>omega
theorem RB.le {q:Rat} {m n:Nat} (h:RB q m) (I7:m≤n):RB q n:=⟨h.num.le I7,h.den.le I7⟩
theorem IR.le {x:aa} {m n:Nat} (h:IR x m) (I7:m≤n):IR x n:=⟨h.num.le I7,h.den.le I7⟩
theorem RB.ir {q:Rat} {n:Nat} (h:RB q n):IR (x5 q) n:=⟨h.num.ib,h.den.ib⟩
theorem PN (q:Rat):dv (x5 q)=q.den:=by
 unfold dv x5;simp only [qH];rw [if_neg];have:=q.den_nz;omega
theorem H6 (q:Rat):qv (x5 q)=q:=by
 unfold qv;rw [PN];simp only [x5,qH];exact Rat.num_divInt_den q
theorem Di (a:Int) (b:Nat) (hb:b≠0):(a / (b:Int)).natAbs≤a.natAbs:=Int.natAbs_ediv_le_natAbs a b
theorem wC {a b:Int} {n:Nat} (ha:ZB a n) (hb:ZB b n) (h0:b≠0):RB (Rat.divInt a b) n:=by
 have hg:Int.gcd b a≠0:=fun h=>h0 (Int.gcd_eq_zero_iff.1 h).1
 constructor
 ·rw [Rat.num_divInt]
  refine ha.of_le (gp (Di _ _ hg) ?_)
  rw [Int.natAbs_mul,Int.natAbs_sign_of_ne_zero h0];omega
 ·rw [Rat.den_divInt,if_neg h0]
  refine hb.of_le ?_
  rw [Int.natAbs_natCast]
  exact Nat.div_le_self _ _
theorem IR.rb {x:aa} {n:Nat} (h:IR x n) (hn:1≤n):RB (qv x) n:=by
 refine wC h.num.zb ?_ (vW x)
 unfold dv
 split
 ·exact (ZB.small (by decide)).le hn
 ·exact h.den.zb
theorem RB.int {z:Int} {n:Nat} (h:ZB z n) (hn:1≤n):RB (z:Rat) n:=⟨h,(ZB.small (x:=1) (by decide)).le hn⟩
theorem RB.neg {q:Rat} {n:Nat} (h:RB q n):RB (-q) n:=⟨by rw [Rat.neg_num];exact h.num.neg,by rw [Rat.neg_den];exact h.den⟩
theorem pV (q:Rat):q=Rat.divInt q.num q.den:=(Rat.num_divInt_den q).symm
theorem tZ (q:Rat):(q.den:Int)≠0:=by have:=q.den_nz;omega
theorem RB.add {p q:Rat} {m n:Nat} (h1:RB p m) (h2:RB q n):RB (p+q) (m+n+1):=by
 rw [pV p,pV q,Rat.divInt_add_divInt _ _ (tZ p) (tZ q)]
 refine wC ((h1.num.mul h2.den).add ((h2.num.mul h1.den).le (by omega))) ((h1.den.mul h2.den).le (by omega)) ?_
 exact Int.mul_ne_zero (tZ p) (tZ q)
theorem RB.sub {p q:Rat} {m n:Nat} (h1:RB p m) (h2:RB q n):RB (p - q) (m+n+1):=by rw [Rat.sub_eq_add_neg];exact h1.add h2.neg
theorem RB.mul {p q:Rat} {m n:Nat} (h1:RB p m) (h2:RB q n):RB (p * q) (m+n):=by
 rw [pV p,pV q,Rat.divInt_mul_divInt]
 exact wC (h1.num.mul h2.num) (h1.den.mul h2.den) (Int.mul_ne_zero (tZ p) (tZ q))
theorem y7 {a b c d:Int} (hb:b≠0) (hd:d≠0):Rat.divInt a b / Rat.divInt c d=Rat.divInt (a * d) (b * c):=by
 rw [Rat.div_def,Rat.inv_divInt,Rat.divInt_mul_divInt]
theorem PO {q:Rat} (h:q≠0):q.num≠0:=fun h'=>h (Rat.num_eq_zero.1 h')
theorem RB.div {p q:Rat} {m n:Nat} (h1:RB p m) (h2:RB q n) (h0:q≠0):RB (p / q) (m+n):=by
 rw [pV p,pV q,y7 (tZ p) (tZ q)]
 exact wC (h1.num.mul h2.den) (h1.den.mul h2.num) (Int.mul_ne_zero (tZ p) (PO h0))
section
variable {a b:bd} {x y:aa} {m n:Nat}
theorem rj (ha:IB a n) (hb:IB b n) (h0:zv b≠0) (hs:SM (2 * n+2)):Gv (fun N=>fM N a b) (x5 (Rat.divInt (zv a) (zv b))):=by
 simp only [SM] at hs
 have Hg:=ha.zb
 have wD:=hb.zb
 unfold ZB at Hg wD
 refine (tY ha (by simp only [SM];omega)).bind ((tY hb (by simp only [SM];omega)).bind ?_)
 have hX:zv a=sg a.fG (zv a).natAbs:=by rw [jN];rfl
 have hY:zv b=sg b.fG (zv b).natAbs:=by rw [jN];rfl
 generalize Us:(zv a).natAbs=x at *
 generalize Ru:(zv b).natAbs=y at *
 have L8:y≠0:=by omega
 have W4:0 < Nat.gcd x y:=Nat.gcd_pos_of_pos_right _ (by omega)
 refine (JP Hg wD (by simp only [SM];omega)).bind ?_
 have N7:=ki.2 (show Nat.gcd x y≠0 by omega)
 have Ut:(lm (Nat.gcd x y)).length≤n:=gp (fa (Nat.gcd_le_right _ (by omega))) wD
 have fin:∀ u v:Nat,u=x / Nat.gcd x y→v=y / Nat.gcd x y→Gv (fun N=>ky N a b (lm u) (lm v)) (x5 (Rat.divInt (zv a) (zv b))):=by
  intro u v hu hv
  have Rs:(lm u).length≤n:=gp (fa (by rw [hu];exact Nat.div_le_self _ _)) Hg
  have Ik:(lm v).length≤n:=gp (fa (by rw [hv];exact Nat.div_le_self _ _)) wD
  refine (pU _ (by simp only [SM];omega)).bind ((pU false (by simp only [SM];omega)).bind ((Gv.pure _).eq ?_))
  have PQ:Int.gcd (zv b) (zv a)=Nat.gcd x y:=by unfold Int.gcd;rw [Us,Ru,Nat.gcd_comm]
  unfold x5
  rw [Rat.num_divInt,Rat.den_divInt,if_neg h0,PQ,Ru]
  have hd:(Nat.gcd x y) ∣ x:=Nat.gcd_dvd_left _ _
  have e1:(zv b).sign * zv a / ((Nat.gcd x y:Nat):Int)=sg (!(a.fG == b.fG)) u:=by
   have NJ:(x:Int)=(Nat.gcd x y:Nat) * (u:Int):=by
    have:x=Nat.gcd x y * u:=by rw [hu,Nat.mul_div_cancel' hd]
    exact_mod_cast this
   have e2:(zv b).sign * zv a=(Nat.gcd x y:Nat) * sg (!(a.fG == b.fG)) u:=by
    rw [hX,hY]
    cases a.fG<;>cases b.fG<;>simp only [sg,cond_true,cond_false,Bool.not_true,Bool.not_false,BEq.rfl,show (true == false)=false from rfl,show (false == true)=false from rfl]
    ·rw [Int.sign_eq_one_of_pos (by omega),Int.one_mul,← NJ]
    ·rw [Int.sign_eq_neg_one_of_neg (by omega),Int.mul_neg,← NJ];omega
    ·rw [Int.sign_eq_one_of_pos (by omega),Int.one_mul,Int.mul_neg,← NJ]
    ·rw [Int.sign_eq_neg_one_of_neg (by omega),← NJ];omega
   rw [e2,Int.mul_ediv_cancel_left _ (by omega)]
  rw [e1,← hv];rfl
 have e0:(lm (Nat.gcd x y)).getD 0 0=((Nat.gcd x y % 65536:Nat):Int):=by rw [oU (by omega)];rfl
 refine Gv.if (fun _=>⟨by omega,by omega⟩) ?_
 rw [e0]
 by_cases h1:Nat.gcd x y=1
 ·refine Gv.ux ?_ (fin x y (by rw [h1,Nat.div_one]) (by rw [h1,Nat.div_one]))
  rw [h1,oU (by decide)];simp [fX]
 ·refine Gv.er ?_ ?_
  ·by_cases h2:(lm (Nat.gcd x y)).length=1
   ·have:=gy.1 (show (lm (Nat.gcd x y)).length≤1 by omega)
    have e1:pw 1=65536:=by decide
    rw [h2]
    have h3:(((Nat.gcd x y % 65536:Nat):Int) != 1)=true:=by simp;omega
    rw [h3];rfl
   ·have h3:((((lm (Nat.gcd x y)).length:Nat):Int) != 1)=true:=by simp;omega
    rw [h3];rfl
  ·refine Gv.bind (r:=(lm (x / Nat.gcd x y),lm (x % Nat.gcd x y))) (.of (2 * n+20) fun N hN=>Ao (by omega) (by simp only [SM];omega) (by omega)) ?_
   refine Gv.bind (r:=(lm (y / Nat.gcd x y),lm (y % Nat.gcd x y))) (.of (2 * n+20) fun N hN=>Ao (by omega) (by simp only [SM];omega) (by omega)) ?_
   exact fin _ _ rfl rfl
def BI (x:aa):bd:=if zv x.fD=0 then ⟨false,[1]⟩ else x.fD
theorem PR:zv ⟨false,[1]⟩=1:=by decide
theorem jO (x:aa):zv (BI x)=dv x:=by unfold BI dv;split<;>simp [PR]
theorem PS {n:Nat} (hn:1≤n):IB ⟨false,[1]⟩ n:=⟨U.one (by decide) (by decide),hn⟩
theorem IR.BI (h:IR x n) (hn:1≤n):IB (BI x) n:=by
 unfold Go.Den.BI;split
 ·exact PS hn
 ·exact h.den
theorem qI (hx:IR x n) (hs:SM n):Gv (fun N=>iT N x) (BI x):=by
 refine (BH hx.den hs).bind ?_
 unfold BI
 by_cases h:zv x.fD=0
 ·rw [if_pos h];exact Gv.er (by rw [h];rfl) (Gv.pure _)
 ·rw [if_neg h]
  exact Gv.ux (by simp;exact h) (Gv.pure _)
theorem Aq (hx:IR x n) (hn:1≤n) (hs:SM (2 * n+2)):Gv (fun N=>lk N x) (x5 (qv x)):=by
 have Fz:=hs
 simp only [SM] at Fz
 refine (qI hx (by simp only [SM];omega)).bind ?_
 refine (rj hx.num (hx.BI hn) (by rw [jO];exact vW x) hs).bind ((Gv.pure _).eq ?_)
 rw [jO];rfl
theorem Ar (hx:IR x n) (hs:SM n):Gv (fun N=>fz N x) (decide (qv x=0)):=by
 refine (BH hx.num hs).bind ((Gv.pure _).eq ?_)
 unfold qv
 by_cases h:zv x.fN=0
 ·rw [h,Rat.zero_divInt];rfl
 ·have:Rat.divInt (zv x.fN) (dv x)≠0:=by
   rw [← Rat.zero_divInt 1,ne_eq,Rat.divInt_eq_divInt_iff (vW x) (by decide)];simpa using h
  rw [decide_eq_false this]
  simp;exact h
theorem EA (hx:IR x m) (hy:IR y n) (hm:1≤m) (hn:1≤n) (hs:SM (2 * (m+n+1)+2)):Gv (fun N=>dw N x y) (x5 (qv x+qv y)):=by
 simp only [SM] at hs
 refine (Ar hx (by simp only [SM];omega)).bind ?_
 by_cases h1:qv x=0
 ·refine Gv.er (decide_eq_true h1) ((Aq hy hn (by simp only [SM];omega)).bind ((Gv.pure _).eq ?_))
  rw [h1,Rat.zero_add]
 ·refine Gv.ux (decide_eq_false h1) ((Ar hy (by simp only [SM];omega)).bind ?_)
  by_cases h2:qv y=0
  ·refine Gv.er (decide_eq_true h2) ((Aq hx hm (by simp only [SM];omega)).bind ((Gv.pure _).eq ?_))
   rw [h2,Rat.add_zero]
  ·refine Gv.ux (decide_eq_false h2) ((qI hx (by simp only [SM];omega)).bind ((qI hy (by simp only [SM];omega)).bind ?_))
   refine (Ap hx.num (hy.BI hn) (by simp only [SM];omega)).bind ((Ap hy.num (hx.BI hm) (by simp only [SM];omega)).bind ?_)
   have z1:=hx.num.zb.mul (hy.BI hn).zb
   have z2:=hy.num.zb.mul (hx.BI hm).zb
   have z3:=(hx.BI hm).zb.mul (hy.BI hn).zb
   rw [jO] at z1 z2
   rw [jO,jO] at z3
   refine Gv.bind (r:=Bu (zv x.fN * dv y+zv y.fN * dv x)) ?_ ?_
   ·have:=LW (n:=m+n) (a:=Bu (zv x.fN * zv (BI y))) (b:=Bu (zv y.fN * zv (BI x))) (by rw [jO];exact z1.ib) (by rw [jO];exact (z2.le (by omega)).ib) (by simp only [SM];omega)
    rw [qH,qH,jO,jO] at this
    rw [jO,jO];exact this
   ·refine Gv.bind (r:=Bu (dv x * dv y)) ?_ ?_
    ·have:=Ap (hx.BI hm) (hy.BI hn) (by simp only [SM];omega)
     rwa [jO,jO] at this
    ·have h0:dv x * dv y≠0:=Int.mul_ne_zero (vW x) (vW y)
     refine (rj (n:=m+n+1) (z1.add (z2.le (by omega))).ib (z3.le (by omega)).ib (by rw [qH];exact h0) (by simp only [SM];omega)).bind ((Gv.pure _).eq ?_)
     rw [qH,qH]
     unfold qv
     rw [Rat.divInt_add_divInt _ _ (vW x) (vW y)]
theorem GZ (hx:IR x n) (hn:1≤n) (hs:SM (2 * n+2)):Gv (fun N=>gM N x) (x5 (-qv x)):=by
 have Fz:=hs
 simp only [SM] at Fz
 refine (GX x.fN).bind ((qI hx (by simp only [SM];omega)).bind ?_)
 refine (rj hx.num.W2 (hx.BI hn) (by rw [jO];exact vW x) hs).bind ((Gv.pure _).eq ?_)
 rw [GY,jO];unfold qv;rw [Rat.neg_divInt]
theorem JQ (hx:IR x m) (hy:IR y n) (hm:1≤m) (hn:1≤n) (hs:SM (2 * (m+n+1)+2)):Gv (fun N=>dU N x y) (x5 (qv x - qv y)):=by
 have Fz:=hs
 simp only [SM] at Fz
 refine (GZ hy hn (by simp only [SM];omega)).bind ?_
 refine (EA hx (hy.rb hn).neg.ir hm hn hs).bind ((Gv.pure _).eq ?_)
 rw [H6,Rat.sub_eq_add_neg]
theorem JR (hx:IR x m) (hy:IR y n) (hm:1≤m) (hn:1≤n) (hs:SM (2 * (m+n)+2)):Gv (fun N=>cF N x y) (x5 (qv x * qv y)):=by
 simp only [SM] at hs
 refine (Ap hx.num hy.num (by simp only [SM];omega)).bind ((qI hx (by simp only [SM];omega)).bind ((qI hy (by simp only [SM];omega)).bind ?_))
 refine (Ap (hx.BI hm) (hy.BI hn) (by simp only [SM];omega)).bind ?_
 have z1:=hx.num.zb.mul hy.num.zb
 have z3:=(hx.BI hm).zb.mul (hy.BI hn).zb
 have h0:dv x * dv y≠0:=Int.mul_ne_zero (vW x) (vW y)
 refine (rj (n:=m+n) z1.ib z3.ib (by rw [qH,jO,jO];exact h0) (by simp only [SM];omega)).bind ((Gv.pure _).eq ?_)
 rw [qH,qH,jO,jO]
 unfold qv
 rw [Rat.divInt_mul_divInt]
def LX (q:Rat):Int:=q.num.sign
theorem G0 {a b:Int} (hb:b≠0):(Rat.divInt a b).num.sign=a.sign * b.sign:=by
 rw [Rat.num_divInt]
 have hg:Int.gcd b a≠0:=fun h=>hb (Int.gcd_eq_zero_iff.1 h).1
 obtain ⟨c,hc⟩:((Int.gcd b a:Nat):Int) ∣ a:=Int.gcd_dvd_right ..
 have e:b.sign * a / ((Int.gcd b a:Nat):Int)=b.sign * c:=by
  have e0:b.sign * a=((Int.gcd b a:Nat):Int) * (b.sign * c):=by rw [Int.mul_left_comm,← hc]
  rw [e0,Int.mul_ediv_cancel_left _ (by omega)]
 rw [e,Int.sign_mul,Int.sign_sign]
 have e2:a.sign=c.sign:=by
  have e0:=congrArg Int.sign hc
  rw [Int.sign_mul,Int.sign_eq_one_of_pos (show 0 < ((Int.gcd b a:Nat):Int) by omega),Int.one_mul] at e0
  exact e0
 rw [e2,fI]
theorem AK (z:Int):z.sign=0∨z.sign=1∨z.sign = -1:=by
 rcases Int.lt_trichotomy z 0 with h | h | h
 ·right;right;exact Int.sign_eq_neg_one_of_neg h
 ·left;rw [h];rfl
 ·right;left;exact Int.sign_eq_one_of_pos h
theorem JS (hx:IR x n) (hn:1≤n) (hs:SM n):Gv (fun N=>ll N x) (LX (qv x)):=by
 refine (BH hx.num hs).bind ((qI hx hs).bind ((BH (hx.BI hn) hs).bind ((Gv.pure _).eq ?_)))
 rw [jO]
 unfold LX qv
 rw [G0 (vW x)]
 rcases AK (zv x.fN) with h | h | h<;>rcases AK (dv x) with h' | h' | h'<;>rw [h,h']<;>rfl
end
end Go.Den
namespace Go.Den
open Go.Ab
def FB {α:Type} (f:Nat→Nat→Option α) (r:α):Prop:=∃ N0,∀ N fuel,N0≤N→N0≤fuel→f N fuel=some r
theorem FB.step {α:Type} {f:Nat→Nat→Option α} {r:α} (N1:Nat) (h:∀ N g,N1≤N→N1≤g→f N (g+1)=some r):FB f r :=
 ⟨N1+1,fun N fuel hN hf=>by obtain ⟨g,rfl⟩:∃ g,fuel=g+1:=⟨fuel - 1,by omega⟩;exact h N g (by omega) (by omega)⟩
structure W5 (RD:Nat→aa→aa→aa→Option aa) (R:Rat→Rat→Rat→Rat) (A B C:Nat):Prop where
 run:∀ (ch fr acc:Rat) (m:Nat),RB ch A→RB fr B→RB acc m→1≤m→m≤100000000→Gv (fun N=>RD N (x5 ch) (x5 fr) (x5 acc)) (x5 (R ch fr acc))
 Xw:∀ (ch fr acc:Rat) (m:Nat),RB ch A→RB fr B→RB acc m→RB (R ch fr acc) (m+C)
section
end
end Go.Den
namespace Go.Den
open Go.Ab
end Go.Den
namespace Go.Den
open Go.Ab
structure RQ (x:aa) (p:Rat) (n:Nat):Prop where
 ir:IR x n
 v:qv x=p
 pos:1≤n
structure ZI (a:bd) (z:Int) (n:Nat):Prop where
 ib:IB a n
 v:zv a=z
theorem RQ.rb {x:aa} {p:Rat} {n:Nat} (h:RQ x p n):RB p n:=h.v ▸ h.ir.rb h.pos
theorem RB.rq {p:Rat} {n:Nat} (h:RB p n) (hn:1≤n):RQ (x5 p) p n:=⟨h.ir,H6 p,hn⟩
theorem RQ.le {x:aa} {p:Rat} {m n:Nat} (h:RQ x p m) (I7:m≤n):RQ x p n:=⟨h.ir.le I7,h.v,gp h.pos I7⟩
theorem ZI.zb {a:bd} {z:Int} {n:Nat} (h:ZI a z n):ZB z n:=h.v ▸ h.ib.zb
theorem ZB.zi {z:Int} {n:Nat} (h:ZB z n):ZI (Bu z) z n:=⟨h.ib,qH z⟩
theorem ZI.le {a:bd} {z:Int} {m n:Nat} (h:ZI a z m) (I7:m≤n):ZI a z n:=⟨h.ib.le I7,h.v⟩
section
variable {a b:bd} {x y:aa} {m n:Nat} {p q:Rat} {z w:Int}
theorem RQ.add (hx:RQ x p m) (hy:RQ y q n) (hs:SM (2 * (m+n+1)+2)):Gv (fun N=>dw N x y) (x5 (p+q)):=by
 have:=EA hx.ir hy.ir hx.pos hy.pos hs;rwa [hx.v,hy.v] at this
theorem RQ.sub (hx:RQ x p m) (hy:RQ y q n) (hs:SM (2 * (m+n+1)+2)):Gv (fun N=>dU N x y) (x5 (p - q)):=by
 have:=JQ hx.ir hy.ir hx.pos hy.pos hs;rwa [hx.v,hy.v] at this
theorem RQ.mul (hx:RQ x p m) (hy:RQ y q n) (hs:SM (2 * (m+n)+2)):Gv (fun N=>cF N x y) (x5 (p * q)):=by
 have:=JR hx.ir hy.ir hx.pos hy.pos hs;rwa [hx.v,hy.v] at this
theorem RQ.LX (hx:RQ x p m) (hs:SM m):Gv (fun N=>ll N x) (LX p):=by
 have:=JS hx.ir hx.pos hs;rwa [hx.v] at this
theorem RQ.low (hx:RQ x p m) (hs:SM (2 * m+2)):Gv (fun N=>lk N x) (x5 p):=by
 have:=Aq hx.ir hx.pos hs;rwa [hx.v] at this
theorem RQ.zero (hx:RQ x p m) (hs:SM m):Gv (fun N=>fz N x) (decide (p=0)):=by
 have:=Ar hx.ir hs;rwa [hx.v] at this
theorem ZI.add (ha:ZI a z n) (hb:ZI b w n) (hs:SM (n+1)):Gv (fun N=>yw N a b) (Bu (z+w)):=by
 have:=LW ha.ib hb.ib hs;rwa [ha.v,hb.v] at this
theorem ZI.mul (ha:ZI a z m) (hb:ZI b w n) (hs:SM (m+n)):Gv (fun N=>nx N a b) (Bu (z * w)):=by
 have:=Ap ha.ib hb.ib hs;rwa [ha.v,hb.v] at this
end
end Go.Den
namespace Go.Den
open Go.Ab
theorem G1 {N:Nat} {a:List Int} (ha:U a) (hs:SM a.length):∀ (n fuel:Nat),n≤a.length→n < fuel→ba (a.take n)=ba a→g6 N a fuel (n:Int)=some (lm (ba a).toNat)
 | 0,fuel,_,hf,hv=>by
  obtain ⟨g,rfl⟩:∃ g,fuel=g+1:=⟨fuel - 1,by omega⟩
  rw [g6,if_pos (fun h=>by cases h)]
  have e:ba a=0:=by rw [← hv];simp [ba]
  rw [e]
  have e1:cond (decide (((0:Nat):Int) > 0)) (a.getD (ah (((0:Nat):Int) - 1)).toNat 0 == 0) false=false:=rfl
  rw [e1,cond_false,if_pos ⟨by simp,by simp⟩,if_pos (by simp),if_pos (by simp)]
  simp [fX]
 | n+1,fuel,hn,hf,hv=>by
  obtain ⟨g,rfl⟩:∃ g,fuel=g+1:=⟨fuel - 1,by omega⟩
  simp only [SM] at hs
  have e1:ah (((n+1:Nat):Int) - 1)=(n:Int):=by rw [bw (by omega) (by omega)];omega
  have h1:=bO a n (by omega)
  rw [g6,e1,if_pos (fun _=>xa (by omega)),decide_eq_true (by omega),cond_true,bF]
  cases hx:(a.getD n 0 == 0) with
  | true =>
   have Ok:a.getD n 0=0:=eq_of_beq hx
   rw [cond_true]
   exact G1 ha hs n g (by omega) (by omega) (by rw [h1,Ok] at hv;omega)
  | false =>
   have Ok:a.getD n 0≠0:=fun h=>by rw [h] at hx;cases hx
   rw [cond_false,bF,if_pos ⟨Nat.zero_le _,hn⟩,if_pos (by omega),if_pos (by omega),List.nil_append,List.drop_zero,← hv]
   congr 1
   refine (I0 (ha.take _) fun m x he=>?_).symm
   have hl:m.length=n:=by have:=congrArg List.length he;rw [nc] at this;simp at this;omega
   have:(a.take (n+1)).getD n 0=x:=by rw [he,← hl];simp [List.getD]
   rw [ft,List.getElem?_take_of_lt (by omega),← ft] at this
   rw [← this];exact Ok
theorem vX {N:Nat} {a:List Int} (ha:U a) (hs:SM a.length) (hN:a.length < N):j6 N a=some (lm (ba a).toNat) :=
 G1 ha hs a.length N (a7 _) hN (by rw [List.take_length])
theorem I8 {N:Nat} {a:List Int} (ha:U a) (hs:SM a.length) (hN:a.length < N):∀ (k i fuel:Nat),i+k=a.length→k < fuel→g7 N a fuel (a.take i) (i:Int)=some (lm (ba a).toNat)
 | 0,i,fuel,hi,hf=>by
  obtain ⟨g,rfl⟩:∃ g,fuel=g+1:=⟨fuel - 1,by omega⟩
  have:i=a.length:=by omega
  subst this
  rw [g7,mD,cond_false,List.take_length,vX ha hs hN,dG]
 | k+1,i,fuel,hi,hf=>by
  obtain ⟨g,rfl⟩:∃ g,fuel=g+1:=⟨fuel - 1,by omega⟩
  simp only [SM] at hs
  have h1:=ha.getD i
  rw [g7,dec_lt (by omega),cond_true,if_pos (xa (by omega)),if_pos (by rw [nc];omega),bF,bw (by omega) (by omega),gn (by omega)]
  have e:a.take i ++ [a.getD i 0]=a.take (i+1):=by rw [List.take_add_one];simp [List.getD,show i < a.length by omega]
  rw [e]
  exact I8 ha (by simp only [SM];omega) hN k (i+1) g (by omega) (by omega)
theorem PT {N:Nat} {a:List Int} (ha:U a) (hs:SM a.length) (hN:a.length < N):fB N a=some (lm (ba a).toNat):=by
 have:=I8 ha hs hN a.length 0 N (by omega) hN
 unfold fB
 simpa using this
theorem I9 {N:Nat} {neg:Bool} {a:List Int} (ha:U a) (hs:SM a.length):∀ (k i fuel:Nat),i+k=a.length→k < fuel→g5 N neg a fuel (a.take i) (i:Int)=some ⟨cond neg (decide (((a.length:Nat):Int) > 0)) false,a⟩
 | 0,i,fuel,hi,hf=>by
  obtain ⟨g,rfl⟩:∃ g,fuel=g+1:=⟨fuel - 1,by omega⟩
  have:i=a.length:=by omega
  subst this
  rw [g5,mD,cond_false,List.take_length]
 | k+1,i,fuel,hi,hf=>by
  obtain ⟨g,rfl⟩:∃ g,fuel=g+1:=⟨fuel - 1,by omega⟩
  simp only [SM] at hs
  have h1:=ha.getD i
  rw [g5,dec_lt (by omega),cond_true,if_pos (xa (by omega)),if_pos (by rw [nc];omega),bF,lV (by omega) (by omega),gn (by omega)]
  have e:a.take i ++ [a.getD i 0]=a.take (i+1):=by rw [List.take_add_one];simp [List.getD,show i < a.length by omega]
  rw [e]
  exact I9 ha (by simp only [SM];omega) k (i+1) g (by omega) (by omega)
theorem NK (neg:Bool) {k:Nat} (hk:SM (lm k).length):Gv (fun N=>dX N neg (lm k)) (Bu (sg neg k)) :=
 .of ((lm k).length+1) fun N hN=>by
  have:=I9 (N:=N) (neg:=neg) (qU k) hk (lm k).length 0 N (by omega) (by omega)
  rw [List.take_zero] at this
  unfold dX
  rw [show ((0:Nat):Int)=0 from rfl] at this
  rw [this]
  by_cases h:k=0
  ·subst h;rw [fX,I6];cases neg<;>rfl
  ·rw [LS _ _ h]
   have:=ki.2 h
   rw [decide_eq_true (by omega)];cases neg<;>rfl
theorem EB (N:Nat) (a:List Int) (i:Nat):jT N a (i:Int)=some (a.getD i 0):=by
 unfold jT
 by_cases h:i < a.length
 ·rw [dec_lt h,cond_true,if_pos (xa h),bF]
 ·rw [decide_eq_false (by omega),cond_false,wA (by omega)]
theorem rZ (a:List Int) (i:Nat):ba (a.take (i+1))=ba (a.take i)+a.getD i 0 * pw i:=by
 by_cases h:i < a.length
 ·exact bO a i h
 ·rw [jy (by omega),jy (by omega),wA (by omega)];simp
theorem AL {N:Nat} {a b:List Int} (ha:U a) (hb:U b) (hl:a.length=b.length) (hs:SM a.length):∀ (k fuel:Nat),k≤a.length→k < fuel→eF N a b fuel ((k:Int) - 1)=some (H3 a b k)
 | 0,fuel,_,hf=>by
  obtain ⟨g,rfl⟩:∃ g,fuel=g+1:=⟨fuel - 1,by omega⟩
  rw [eF];rfl
 | k+1,fuel,hk,hf=>by
  obtain ⟨g,rfl⟩:∃ g,fuel=g+1:=⟨fuel - 1,by omega⟩
  simp only [SM] at hs
  have e:(((k+1:Nat):Int) - 1)=(k:Int):=by omega
  have h1:=ha.getD k
  have h2:=hb.getD k
  rw [e,eF,decide_eq_true (by omega),cond_true,if_pos (xa (by omega)),if_pos (xa (by omega)),bF,bw (n:=a.getD k 0 - b.getD k 0) (by omega) (by omega),bw (n:=(k:Int) - 1) (by omega) (by omega),AL ha hb hl (by simp only [SM];omega) k g (by omega) (by omega)]
  rw [H3]
  cases (a.getD k 0 != b.getD k 0)<;>rfl
theorem FC {N a b:Nat} (hN:(lm a).length < N) (ha:SM (lm a).length) (hb:SM (lm b).length):kL N (lm a) (lm b)=some (Fy a b):=by
 unfold kL Fy
 simp only [SM] at ha hb
 cases hl:((((lm a).length:Nat):Int) != (((lm b).length:Nat):Int)) with
 | true=>rw [cond_true,cond_true,bw (by omega) (by omega)]
 | false =>
  have heq:(lm a).length=(lm b).length:=by simp at hl;omega
  rw [cond_false,cond_false,bw (by omega) (by omega)]
  exact AL (qU a) (qU b) heq ha _ N (a7 _) hN
theorem EC {N:Nat} {a b:List Int} (ha:U a) (hb:U b) (hl:b.length≤a.length) (hle:ba b≤ba a) (hs:SM a.length) (hN:a.length+1 < N):∀ (k x fuel:Nat) (out:List Int) (c:Int),x+k=a.length→k < fuel→out.length=x→U out→0≤c→c≤1 →
  ba out - pw x * c=ba (a.take x) - ba (b.take x)→ej N a b fuel out c (x:Int)=some (lm (ba a - ba b).toNat)
 | 0,x,fuel,out,c,hx,hf,ho,hU,xZ,qV,hinv=>by
  obtain ⟨g,rfl⟩:∃ g,fuel=g+1:=⟨fuel - 1,by omega⟩
  have DP:x=a.length:=by omega
  subst DP
  rw [ej,mD,cond_false,vX hU (by simp only [SM] at *;omega) (by omega),dG]
  rw [List.take_length,jy hl] at hinv
  have h1:=hU.lt
  rw [ho] at h1
  have hc:c=0:=by
   rcases Int.lt_or_le 0 c with h | h
   ·have:c=1:=by omega
    subst this;omega
   ·omega
  subst hc
  rw [show ba out=ba a - ba b by omega]
 | k+1,x,fuel,out,c,hx,hf,ho,hU,xZ,qV,hinv=>by
  obtain ⟨g,rfl⟩:∃ g,fuel=g+1:=⟨fuel - 1,by omega⟩
  simp only [SM] at hs
  have wz:x < a.length:=by omega
  have h1:=ha.getD x
  have h2:=hb.getD x
  rw [ej,dec_lt wz,cond_true,if_pos (xa wz),EB,dG,bF,bw (n:=a.getD x 0 - b.getD x 0) (by omega) (by omega),bw (n:=a.getD x 0 - b.getD x 0 - c) (by omega) (by omega)]
  have fin:∀ q s:Int,0≤q→q≤1→s=a.getD x 0 - b.getD x 0 - c+q * 65536→0≤s→s < 65536→jK N a b out (x:Int) (ej N a b g) q s=some (lm (ba a - ba b).toNat):=by
   intro q s Bt Du Ub Sg Ms
   unfold jK
   rw [if_pos (by omega),gn (by omega)]
   refine EC ha hb hl hle (by simp only [SM];omega) hN k (x+1) g _ _ (by omega) (by omega) (by simp [ho]) (hU.append (U.one Sg Ms)) Bt Du ?_
   rw [kg,pJ,ho,rZ a,rZ b,eX]
   have h3:pw x * s=a.getD x 0 * pw x - b.getD x 0 * pw x - pw x * c+65536 * pw x * q:=by rw [Ub];grind
   omega
  cases fY:decide (a.getD x 0 - b.getD x 0 - c < 0) with
  | true =>
   have fY:=pe fY
   rw [cond_true,bw (by omega) (by omega)]
   exact fin 1 _ (by omega) (by omega) (by omega) (by omega) (by omega)
  | false =>
   have fY:=pf fY
   rw [cond_false]
   exact fin 0 _ (by omega) (by omega) (by omega) (by omega) (by omega)
theorem JT {N a b:Nat} (Oz:b≤a) (hs:SM (lm a).length) (hN:(lm a).length+1 < N):mY N (lm a) (lm b)=some (lm (a - b)):=by
 have:=EC (N:=N) (qU a) (qU b) (fa Oz) (by rw [gU,gU];omega) hs hN (lm a).length 0 N [] 0 (by omega) (by omega) rfl U.nil (by omega) (by omega) (by simp [ba])
 rw [gU,gU] at this
 rw [show (lm (a - b))=lm ((a:Int) - (b:Int)).toNat by congr 1;omega]
 exact this
theorem JU {N:Nat} {a b:List Int} {i:Nat} (ha:U a) (hb:U b) (hi:i < a.length) (hs:SM (a.length+b.length+1)) (K:List Int→Int→Option (List Int)) (R:Option (List Int))
  (hK:∀ out,out.length=a.length+b.length+1→U out→(∀ j,i+1+b.length≤j→out.getD j 0=0)→ba out=ba (a.take (i+1)) * ba b→K out ((i+1:Nat):Int)=R) :
  ∀ (k x fuel:Nat) (out:List Int) (c:Int),x+k=b.length+1→k < fuel→out.length=a.length+b.length+1→U out→0≤c→c < 65536→(x=b.length+1→c=0)→(∀ j,i+b.length≤j→x≤b.length→out.getD j 0=0)→(∀ j,i+1+b.length≤j→out.getD j 0=0) →
   ba out+pw (i+x) * c=ba (a.take i) * ba b+a.getD i 0 * pw i * ba (b.take x)→gk N a b (i:Int) K fuel out c (x:Int)=R:=by
 intro k
 simp only [SM] at hs
 induction k with
 | zero =>
  intro x fuel out c hx hf ho hU xZ qV Ie hz Sh hinv
  obtain ⟨g,rfl⟩:∃ g,fuel=g+1:=⟨fuel - 1,by omega⟩
  have DP:x=b.length+1:=by omega
  subst DP
  have hc:=Ie rfl
  subst hc
  rw [gk,decide_eq_false (by omega),decide_eq_false (by decide)]
  simp only [cond_false]
  rw [gn (by omega)]
  refine hK out ho hU Sh ?_
  rw [show b.take (b.length+1)=b from jy (by omega)] at hinv
  rw [bO a i hi,db];omega
 | succ k ih =>
  intro x fuel out c hx hf ho hU xZ qV Ie hz Sh hinv
  obtain ⟨g,rfl⟩:∃ g,fuel=g+1:=⟨fuel - 1,by omega⟩
  rw [gk]
  have h1:=ha.getD i
  have h2:=hb.getD x
  have h3:=hU.getD (i+x)
  by_cases W6:x < b.length∨0 < c
  ·have e:cond (decide ((x:Int) < ((b.length:Nat):Int))) true (decide (c > 0))=true:=by
    rcases W6 with h | h
    ·rw [dec_lt h];rfl
    ·rw [decide_eq_true (show c > 0 by omega)];cases decide ((x:Int) < ((b.length:Nat):Int))<;>rfl
   have ei:ah ((i:Int)+(x:Int))=((i+x:Nat):Int):=by rw [bw (by omega) (by omega)];omega
   have h4:=Dc h1.1 h1.2 h2.1 h2.2
   rw [e,cond_true,ei,if_pos (xa (by omega)),if_pos (xa hi),EB,dG]
   simp only [bF]
   rw [bw (n:=a.getD i 0 * b.getD x 0) (by omega) (by omega),bw (n:=out.getD (i+x) 0+a.getD i 0 * b.getD x 0) (by omega) (by omega),bw (n:=out.getD (i+x) 0+a.getD i 0 * b.getD x 0+c) (by omega) (by omega),gn (by omega)]
   generalize NC:out.getD (i+x) 0+a.getD i 0 * b.getD x 0+c=s
   have Sg:0≤s:=by omega
   rw [Int.tmod_eq_emod_of_nonneg Sg,Int.tdiv_eq_ediv_of_nonneg Sg,bw (n:=s / 65536) (by omega) (by omega)]
   refine ih (x+1) g _ _ (by omega) (by omega) (by simp [ho]) (hU.set _ (by omega) (by omega)) (by omega) (by omega) (fun h=>?_) (fun j hj Qa=>?_) (fun j hj=>?_) ?_
   ·have e1:=wA (show b.length≤x by omega)
    have e2:=hz (i+x) (by omega) (by omega)
    rw [e1,e2] at NC;simp at NC;omega
   ·rw [getD_set_ne _ _ (by omega)];exact hz j hj (by omega)
   ·rw [getD_set_ne _ _ (by omega)];exact Sh j hj
   ·rw [k5 _ _ _ (by omega),rZ b,show i+(x+1)=(i+x)+1 by omega,eX]
    have h5:s=s % 65536+65536 * (s / 65536):=by omega
    have h6:pw (i+x) * s=pw (i+x) * (s % 65536)+pw (i+x) * (65536 * (s / 65536)):=by rw [← gI,← h5]
    have h7:pw (i+x) * s=pw (i+x) * c+pw (i+x) * (a.getD i 0 * b.getD x 0)+pw (i+x) * out.getD (i+x) 0:=by rw [← NC,gI,gI];omega
    have h8:65536 * pw (i+x) * (s / 65536)=pw (i+x) * (65536 * (s / 65536)):=by rw [fI 65536,jz]
    have h9:(s % 65536 - out.getD (i+x) 0) * pw (i+x)=pw (i+x) * (s % 65536) - pw (i+x) * out.getD (i+x) 0:=by rw [Int.sub_mul,fI,fI (out.getD (i+x) 0)]
    have R8:a.getD i 0 * pw i * (ba (b.take x)+b.getD x 0 * pw x)=a.getD i 0 * pw i * ba (b.take x)+pw (i+x) * (a.getD i 0 * b.getD x 0):=by
     rw [Da];grind
    omega
  ·have e:cond (decide ((x:Int) < ((b.length:Nat):Int))) true (decide (c > 0))=false:=by
    rw [decide_eq_false (by omega),decide_eq_false (by omega)];rfl
   have hc:c=0:=by omega
   subst hc
   rw [e,cond_false,gn (by omega)]
   refine hK out ho hU Sh ?_
   rw [show b.take x=b from jy (by omega)] at hinv
   rw [bO a i hi,db];omega
theorem ED {N:Nat} {a b:List Int} (ha:U a) (hb:U b) (hs:SM (a.length+b.length+1)) (hN:a.length+b.length+2 < N):∀ (k x fuel:Nat) (out:List Int),x+k=a.length→k < fuel→out.length=a.length+b.length+1→U out →
  (∀ j,x+b.length≤j→out.getD j 0=0)→ba out=ba (a.take x) * ba b→gl N a b fuel out (x:Int)=some (lm (ba a * ba b).toNat)
 | 0,x,fuel,out,hx,hf,ho,hU,hz,hinv=>by
  obtain ⟨g,rfl⟩:∃ g,fuel=g+1:=⟨fuel - 1,by omega⟩
  have DP:x=a.length:=by omega
  subst DP
  rw [gl,mD,cond_false,vX hU (by simp only [SM] at *;omega) (by omega),dG,hinv,List.take_length]
 | k+1,x,fuel,out,hx,hf,ho,hU,hz,hinv=>by
  obtain ⟨g,rfl⟩:∃ g,fuel=g+1:=⟨fuel - 1,by omega⟩
  have wz:x < a.length:=by omega
  rw [gl,dec_lt wz,cond_true]
  refine JU ha hb wz hs _ _ (fun ew h1 h2 h3 h4=>?_) (b.length+1) 0 N out 0 (by omega) (by omega) ho hU (by omega) (by omega) (fun h=>by omega) (fun j hj _=>hz j hj) (fun j hj=>hz j (by omega)) (by rw [hinv];simp [ba])
  exact ED ha hb hs hN k (x+1) g ew (by omega) (by omega) h1 h2 h3 h4
theorem LY {N:Nat} {a b:List Int} (ha:U a) (hb:U b) (hs:SM (a.length+b.length+1)) (hN:a.length+b.length+2 < N):jU N a b=some (lm (ba a * ba b).toNat):=by
 unfold jU
 have Fz:=hs
 simp only [SM] at Fz
 have e:ah (ah (((a.length:Nat):Int)+((b.length:Nat):Int))+1)=((a.length+b.length+1:Nat):Int):=by rw [bw (n:=((a.length:Nat):Int)+((b.length:Nat):Int)) (by omega) (by omega),bw (by omega) (by omega)];omega
 rw [e,if_pos (by omega)]
 exact ED ha hb hs hN a.length 0 N _ (by omega) (by omega) (by simp;omega) (U.replicate _) (fun j _=>eY _ j) (by rw [hC];simp [ba])
theorem NL {N:Nat} {a q:List Int} {b i X:Nat} (hb:0 < b) (hX:X < 65536 * b) (hq:i < q.length) (hs:SM ((lm b).length+(lm X).length+3)) (hi:SM i) (hN:(lm b).length+(lm X).length+65546 < N) (K:List Int→List Int→Int→Option (List Int×List Int)) :
  ∀ (d lo hi fuel:Nat),hi - lo≤d→lo≤hi→hi < 65536→d < fuel→lo * b≤X→X < (hi+1) * b→fQ N a (lm b) q (i:Int) (lm X) K fuel (lo:Int) (hi:Int)=K (lm (X % b)) (q.set i ((X / b:Nat):Int)) ((i:Int) - 1):=by
 intro d
 simp only [SM] at hs hi
 have one:∀ m:Nat,m < 65536→jU N (lm b) [(m:Int)]=some (lm (b * m)):=fun m hm=>by
  rw [LY (qU b) (U.one (by omega) (by omega)) (by simp only [SM,List.length_singleton];omega) (by simp only [List.length_singleton];omega),gU,pJ,xc]
 have Uu:∀ m:Nat,m < 65536→(lm (b * m)).length≤(lm b).length+1:=fun m hm=>by
  rw [gy,eX]
  have:=(gy (n:=b) (k:=(lm b).length)).1 (a7 _)
  have h2:=Nat.mul_le_mul_left b (show m≤65535 by omega)
  have:=jv (lm b).length
  omega
 induction d with
 | zero =>
  intro lo pM fuel hd hle Jo hf h1 h2
  obtain ⟨g,rfl⟩:∃ g,fuel=g+1:=⟨fuel - 1,by omega⟩
  have W7:pM=lo:=by omega
  subst W7
  have hdiv:X / b=pM:=by
   have h3:X=pM * b+(X - pM * b):=by omega
   have h4:X - pM * b < b:=by rw [bL,Nat.one_mul] at h2;omega
   exact (AJ h3 h4).1
  have Rv:X % b=X - b * pM:=by
   have:=Nat.div_add_mod X b
   rw [hdiv] at this;omega
  rw [fQ,decide_eq_false (by omega),cond_false,if_pos (xa hq)]
  have h5:b * pM≤X:=by rw [ng];exact h1
  by_cases h0:0 < pM
  ·rw [decide_eq_true (by omega),cond_true,one pM Jo,dG,JT h5 (by simp only [SM];omega) (by omega),dG]
   unfold kM
   rw [bF,bw (by omega) (by omega),hdiv,Rv]
  ·have:pM=0:=by omega
   subst this
   rw [decide_eq_false (by decide),cond_false]
   unfold kM
   rw [bF,bw (by omega) (by omega),hdiv,Rv];simp
 | succ d ih =>
  intro lo pM fuel hd hle Jo hf h1 h2
  obtain ⟨g,rfl⟩:∃ g,fuel=g+1:=⟨fuel - 1,by omega⟩
  by_cases fY:lo < pM
  ·rw [fQ,decide_eq_true (by omega),cond_true,bw (n:=(lo:Int)+(pM:Int)) (by omega) (by omega),bw (n:=(lo:Int)+(pM:Int)+1) (by omega) (by omega)]
   have em:((lo:Int)+(pM:Int)+1).tdiv 2=(((lo+pM+1) / 2:Nat):Int):=by rw [Int.tdiv_eq_ediv_of_nonneg (by omega)];omega
   rw [em,bw (n:=(((lo+pM+1) / 2:Nat):Int)) (by omega) (by omega)]
   generalize hm:(lo+pM+1) / 2=m
   have Vj:=Uu m (by omega)
   rw [one m (by omega),dG,FC (by omega) (by simp only [SM];omega) (by simp only [SM];omega),dG]
   have hc:Fy (b * m) X≤0↔b * m≤X:=by
    obtain ⟨c,_,h3,h4,h5⟩:=tW (N:=(lm (b * m)).length+1) (a:=b * m) (b:=X) (by omega) (by simp only [SM];omega) (by simp only [SM];omega)
    rw [← h5];omega
   by_cases Hj:b * m≤X
   ·rw [decide_eq_true (hc.2 Hj),cond_true]
    exact ih m pM g (by omega) (by omega) Jo (by omega) (by rw [ng];exact Hj) h2
   ·rw [decide_eq_false (fun h=>Hj (hc.1 h)),cond_false,bw (by omega) (by omega)]
    have e1:((m:Int) - 1)=((m - 1:Nat):Int):=by omega
    rw [e1]
    refine ih lo (m - 1) g (by omega) (by omega) (by omega) (by omega) h1 ?_
    rw [show m - 1+1=m by omega,ng];omega
  ·have:=ih lo pM (g+1) (by omega) hle Jo (by omega) h1 h2
   exact this
theorem Ja {N:Nat} {A b:Nat} (hb:0 < b) (hs:SM (2 * (lm A).length+2 * (lm b).length+10)) (hN:(lm A).length+2 * (lm b).length+65560 < N):∀ (k fuel:Nat) (q:List Int) (r:Nat),k≤(lm A).length→k < fuel→q.length=(lm A).length→U q→r < b →
  (∀ j,j < k→q.getD j 0=0)→pw k * ba ((lm A).drop k)=ba q * b+r * pw k→fR N (lm A) (lm b) fuel (lm r) q ((k:Int) - 1)=some (lm (A / b),lm (A % b))
 | 0,fuel,q,r,hk,hf,hq,hU,hr,hz,hinv=>by
  obtain ⟨g,rfl⟩:∃ g,fuel=g+1:=⟨fuel - 1,by omega⟩
  have e:decide ((((0:Nat):Int) - 1)≥0)=false:=rfl
  rw [fR,e,cond_false,vX hU (by simp only [SM] at *;omega) (by omega),dG]
  rw [wx,List.drop_zero,gU] at hinv
  have Bt:=hU.mP
  obtain ⟨Q,hQ⟩:=Int.eq_ofNat_of_zero_le Bt
  rw [hQ] at hinv ⊢
  have h6:A=Q * b+r:=by
   have h9:(A:Int)=Q * b+r:=by omega
   exact_mod_cast h9
  obtain ⟨h7,h8⟩:=AJ h6 hr
  rw [h7,h8];rfl
 | k+1,fuel,q,r,hk,hf,hq,hU,hr,hz,hinv=>by
  obtain ⟨g,rfl⟩:∃ g,fuel=g+1:=⟨fuel - 1,by omega⟩
  have Fz:=hs
  simp only [SM] at Fz
  have e:(((k+1:Nat):Int) - 1)=(k:Int):=by omega
  have h1:=(qU A).getD k
  have RN:(lm r).length≤(lm b).length:=fa (by omega)
  rw [e,fR,decide_eq_true (by omega),cond_true,if_pos (xa (by omega)),if_pos (by omega),bF]
  obtain ⟨D,hD⟩:=Int.eq_ofNat_of_zero_le h1.1
  have hX:lm (ba ([(lm A).getD k 0] ++ lm r)).toNat=lm (D+65536 * r):=by
   have e9:ba ([(lm A).getD k 0] ++ lm r)=((D+65536 * r:Nat):Int):=by rw [kg,pJ,gU,hD];simp [pw]
   rw [e9,Int.toNat_natCast]
  have Xx:D < 65536:=by omega
  rw [vX ((U.one h1.1 h1.2).append (qU r)) (by simp only [SM,kU,List.length_singleton];omega) (by simp only [kU,List.length_singleton];omega),dG,hX]
  have W8:D+65536 * r < 65536 * b:=by omega
  have Xy:(lm (D+65536 * r)).length≤(lm b).length+1:=by
   rw [gy,eX]
   have:=(gy (n:=b) (k:=(lm b).length)).1 (a7 _)
   omega
  have:=NL (N:=N) (a:=lm A) (q:=q) (b:=b) (i:=k) (X:=D+65536 * r) hb W8 (by omega) (by simp only [SM];omega) (by simp only [SM];omega) (by omega) (fR N (lm A) (lm b) g) 65535 0 65535 N (by omega) (by omega) (by omega) (by omega) (by omega) (by omega)
  rw [show ((0:Nat):Int)=0 from rfl,show ((65535:Nat):Int)=65535 from rfl] at this
  rw [this]
  have Un:(D+65536 * r) / b < 65536:=Nat.div_lt_of_lt_mul (by omega)
  have Vj:=Nat.mod_lt (D+65536 * r) hb
  have W9:=Nat.div_add_mod (D+65536 * r) b
  generalize (D+65536 * r) / b=u at *
  generalize (D+65536 * r) % b=v at *
  refine Ja hb hs hN k g _ _ (by omega) (by omega) (by simp [hq]) (hU.set _ (by omega) (by omega)) Vj (fun j hj=>by rw [getD_set_ne _ _ (by omega)];exact hz j (by omega)) ?_
  rw [k5 _ _ _ (by omega),hz k (by omega),Int.sub_zero,lD _ k (by omega),hD]
  rw [eX] at hinv
  have h2:(D:Int)+65536 * r=b * u+v:=by
   have:=congrArg (fun x:Nat=>(x:Int)) W9
   simp only [Int.natCast_add,Int.natCast_mul] at this
   omega
  have h3:pw k * ((D:Int)+65536 * r)=pw k * (b * u+v):=by rw [h2]
  grind
theorem Jb {N A b:Nat} (hb:b≠0) (hs:SM (2 * (lm A).length+2 * (lm b).length+10)) (hN:(lm A).length+2 * (lm b).length+65560 < N):lz N (lm A) (lm b)=some (lm (A / b),lm (A % b)):=by
 have Fz:=hs
 simp only [SM] at Fz
 unfold lz
 rw [if_pos (by omega),bw (by omega) (by omega)]
 have:=Ja (N:=N) (A:=A) (b:=b) (by omega) hs hN (lm A).length N (List.replicate (lm A).length 0) 0 (a7 _) (by omega) (by simp) (U.replicate _) (by omega) (fun j _=>eY _ j) (by rw [List.drop_length,hC];simp [ba])
 rw [fX] at this
 exact this
end Go.Den
namespace Go.Den
open Go.Ab
abbrev LM (n:Nat):Prop:=n < 1000000000000
section
variable {a b:bd} {x y:aa} {m n:Nat} {p q:Rat} {z w:Int}
theorem ZI.read (ha:ZI a z n) (hs:LM n):Gv (fun N=>fB N a.fL) (lm z.natAbs) :=
 .of (n+1) fun N hN=>by
  have:=PT (N:=N) ha.ib.U (by have:=ha.ib.len;simp only [SM,LM] at *;omega) (by have:=ha.ib.len;omega)
  rwa [← jN,ha.v] at this
theorem ZI.PU (ha:ZI a z n):z=sg a.fG z.natAbs:=by
 have h1:=jN a
 have:zv a=sg a.fG (zv a).natAbs:=by rw [h1];rfl
 rwa [ha.v] at this
theorem y8 {neg:Bool} {k:Nat} (hz:ZB (sg neg k) n) (hs:LM n):Gv (fun N=>dX N neg (lm k)) (Bu (sg neg k)):=by
 unfold ZB at hz
 rw [na] at hz
 exact NK neg (by simp only [SM,LM] at *;omega)
theorem LZ {N:Nat} {z:Int}:∀ (fuel n:Nat) (out:List Int) (r:Option bd),(lm n).length < fuel→out.length+(lm n).length < 1000→n < 18446744073709551616→((dX N (decide (z < 0)) (out ++ lm n)).bind fun r=>some r)=r→jn N z fuel out (n:Int)=r
 | 0,n,out,r,h,_,_,_=>by omega
 | fuel+1,n,out,r,h,h2,h3,hr=>by
  rw [jn]
  by_cases hn:n=0
  ·subst hn
   rw [fX,List.append_nil] at hr
   exact hr
  ·have e:decide ((n:Int) > 0)=true:=by simp;omega
   rw [oU hn] at h h2
   simp only [vY] at h h2
   have e1:((n:Int) / 65536)=((n / 65536:Nat):Int):=by omega
   have e2:((n:Int) % 65536)=((n % 65536:Nat):Int):=by omega
   rw [e,cond_true,if_pos (by omega),Int.tmod_eq_emod_of_nonneg (by omega),Int.tdiv_eq_ediv_of_nonneg (by omega),e1,e2,eZ (by omega) (by omega),bw (by omega) (by omega)]
   refine LZ fuel (n / 65536) _ r (by omega) (by simp;omega) (by omega) ?_
   rw [← hr,oU hn,List.append_assoc];rfl
theorem Ew (h1:-9223372036854775808≤z) (h2:z≤9223372036854775807):Gv (fun N=>qj N z) (Bu z):=by
 have hl:ZB z 4:=ZB.word h1 h2
 have key:Gv (fun N=>jn N z N [] ((z.natAbs:Nat):Int)) (Bu z):=by
  have hm:Gv (fun N=>(dX N (decide (z < 0)) (lm z.natAbs)).bind fun r=>some r) (Bu z):=by
   by_cases h:z < 0
   ·have e:sg true z.natAbs=z:=by simp [sg];omega
    have:=y8 (neg:=true) (k:=z.natAbs) (n:=4) (by rw [e];exact hl) (by decide)
    rw [e] at this
    rw [decide_eq_true h]
    exact this.bind (Gv.pure _)
   ·have e:sg false z.natAbs=z:=by simp [sg];omega
    have:=y8 (neg:=false) (k:=z.natAbs) (n:=4) (by rw [e];exact hl) (by decide)
    rw [e] at this
    rw [decide_eq_false h]
    exact this.bind (Gv.pure _)
  obtain ⟨N0,hm⟩:=hm
  refine .of (N0+5) fun N hN=>?_
  unfold ZB at hl
  exact LZ N z.natAbs [] _ (by omega) (by simp;omega) (by omega) (by have:=hm N (by omega);simpa using this)
 unfold qj
 by_cases h:z < 0
 ·have e:IntKind.u64.wrap (0 - IntKind.u64.wrap z)=((z.natAbs:Nat):Int):=by rw [wrap64,wrap64];omega
  refine Gv.er (decide_eq_true h) ?_
  rw [e];exact key
 ·have e:IntKind.u64.wrap z=((z.natAbs:Nat):Int):=by rw [wrap64];omega
  refine Gv.ux (decide_eq_false h) ?_
  rw [e];exact key
theorem ZI.ug (ha:ZI a z n) (hs:LM n):Gv (fun N=>tF N a) z.sign:=by
 refine (ha.read hs).bind ?_
 have hX:=ha.PU
 clear ha
 generalize z.natAbs=x at *
 rw [hX]
 generalize a.fG=p
 by_cases h:x=0
 ·subst h
  refine Gv.er (by rw [fX];rfl) ((Gv.pure _).eq ?_)
  cases p<;>rfl
 ·refine Gv.ux ?_ ?_
  ·have:=ki.2 h
   simp;exact fun h'=>by rw [h'] at this;simp at this
  ·cases p with
   | true=>exact Gv.er rfl ((Gv.pure _).eq (by simp only [sg,cond_true];rw [Int.sign_eq_neg_one_of_neg];omega))
   | false=>exact Gv.ux rfl ((Gv.pure _).eq (by simp only [sg,cond_false];rw [Int.sign_eq_one_of_pos];omega))
theorem G2 {A B:Nat} (ha:(lm A).length≤m) (hb:(lm B).length≤n) (h0:B≠0) (hs:LM (m+n+10)):Gv (fun N=>lz N (lm A) (lm B)) (lm (A / B),lm (A % B)) :=
 .of (m+2 * n+65561) fun N hN=>Jb h0 (by simp only [SM,LM] at *;omega) (by omega)
end
end Go.Den
namespace Go.Den
open Go.Ab
section
variable {a b:bd} {x y:aa} {m n:Nat} {p q:Rat} {z w:Int}
theorem NM {N k:Nat} (hk:LM (4 * k+30)) (hN:3 * k+65570 < N):∀ (y x fuel:Nat),y < fuel→(lm x).length≤k→(lm y).length≤k→j7 N fuel (lm x) (lm y)=some (lm (Nat.gcd x y)):=by
 intro y
 simp only [LM] at hk
 induction y using Nat.strongRecOn with
 | _ y ih =>
  intro x fuel hf hx hy
  obtain ⟨g,rfl⟩:∃ g,fuel=g+1:=⟨fuel - 1,by omega⟩
  rw [j7]
  by_cases h:y=0
  ·subst h
   rw [fX,Nat.gcd_zero_right];rfl
  ·have hl:=ki.2 h
   rw [decide_eq_true (by omega),cond_true,Jb h (by simp only [SM];omega) (by omega),dG]
   have fY:=Nat.mod_lt x (Nat.pos_of_ne_zero h)
   rw [ih (x % y) fY y g (by omega) hy (gp (fa (by omega)) hy),Nat.gcd_comm x y,Nat.gcd_rec y x,Nat.gcd_comm]
theorem NN {x y k:Nat} (hx:(lm x).length≤k) (hy:(lm y).length≤k) (hk:LM (4 * k+30)):Gv (fun N=>wu N (lm x) (lm y)) (lm (Nat.gcd x y)) :=
 .of (3 * k+65571+y) fun N hN=>NM hk (by omega) y x N (by omega) hx hy
theorem ZI.jF (ha:ZI a z n) (hb:ZI b w n) (h0:w≠0) (hs:LM (4 * n+30)):Gv (fun N=>mM N a b) (x5 (Rat.divInt z w)):=by
 simp only [LM] at hs
 have Hg:=ha.zb
 have wD:=hb.zb
 unfold ZB at Hg wD
 refine (ha.read (by simp only [LM];omega)).bind ((hb.read (by simp only [LM];omega)).bind ?_)
 have hX:=ha.PU
 have hY:=hb.PU
 clear ha hb
 generalize Us:z.natAbs=x at *
 generalize Ru:w.natAbs=y at *
 have L8:y≠0:=by omega
 have W4:0 < Nat.gcd x y:=Nat.gcd_pos_of_pos_right _ (by omega)
 refine Gv.ux (by have:=ki.2 L8;simp;exact fun h'=>by rw [h'] at this;simp at this) ?_
 refine (NN Hg wD (by simp only [LM];omega)).bind ?_
 have Ut:(lm (Nat.gcd x y)).length≤n:=gp (fa (Nat.gcd_le_right _ (by omega))) wD
 refine (G2 Hg Ut (by omega) (by simp only [LM];omega)).bind ((G2 wD Ut (by omega) (by simp only [LM];omega)).bind ?_)
 generalize hu:x / Nat.gcd x y=u
 generalize hv:y / Nat.gcd x y=v
 have Rs:(lm u).length≤n:=gp (fa (by rw [← hu];exact Nat.div_le_self _ _)) Hg
 have Ik:(lm v).length≤n:=gp (fa (by rw [← hv];exact Nat.div_le_self _ _)) wD
 refine (y8 (neg:=!(a.fG == b.fG)) (k:=u) (n:=n) (by unfold ZB;rw [na];exact Rs) (by simp only [LM];omega)).bind ((y8 (neg:=false) (k:=v) (n:=n) (by unfold ZB;rw [na];exact Ik) (by simp only [LM];omega)).bind ((Gv.pure _).eq ?_))
 have PQ:Int.gcd w z=Nat.gcd x y:=by unfold Int.gcd;rw [Us,Ru,Nat.gcd_comm]
 unfold x5
 rw [Rat.num_divInt,Rat.den_divInt,if_neg h0,PQ,Ru,hv]
 have hd:(Nat.gcd x y) ∣ x:=Nat.gcd_dvd_left _ _
 have e1:w.sign * z / ((Nat.gcd x y:Nat):Int)=sg (!(a.fG == b.fG)) u:=by
  have NJ:(x:Int)=(Nat.gcd x y:Nat) * (u:Int):=by
   have:x=Nat.gcd x y * u:=by rw [← hu,Nat.mul_div_cancel' hd]
   exact_mod_cast this
  have e2:w.sign * z=(Nat.gcd x y:Nat) * sg (!(a.fG == b.fG)) u:=by
   rw [hX,hY]
   cases a.fG<;>cases b.fG<;>simp only [sg,cond_true,cond_false,Bool.not_true,Bool.not_false,BEq.rfl,show (true == false)=false from rfl,show (false == true)=false from rfl]
   ·rw [Int.sign_eq_one_of_pos (by omega),Int.one_mul,← NJ]
   ·rw [Int.sign_eq_neg_one_of_neg (by omega),Int.mul_neg,← NJ];omega
   ·rw [Int.sign_eq_one_of_pos (by omega),Int.one_mul,Int.mul_neg,← NJ]
   ·rw [Int.sign_eq_neg_one_of_neg (by omega),← NJ];omega
  rw [e2,Int.mul_ediv_cancel_left _ (by omega)]
 rw [e1];rfl
theorem RQ.parts (h:RQ x p n):∃ z w,ZI x.fN z n∧ZI x.fD w n∧p=Rat.divInt z (if w=0 then 1 else w) :=
 ⟨zv x.fN,zv x.fD,⟨h.ir.num,rfl⟩,⟨h.ir.den,rfl⟩,h.v.symm⟩
end
end Go.Den
namespace Go.Den
open Go.Ab
section
variable (t s:Nat→Rat) (n:Nat)
def Rx (i:Nat) (y:Rat):Rat:=if i+1 < n∧t (i+1) < y then t (i+1) else y
def pc (i:Nat) (y:Rat):Rat:=if Rx t n i y≤t i then 0 else Rx t n i y - t i
def vs:Nat→Nat→Rat→Rat
 | 0,_,_=>0
 | k+1,i,y=>s i * pc t n i y+vs k (i+1) y
def fs:Nat→Rat
 | 0=>0
 | i+1=>fs i+s i * (t (i+1) - t i)
def ps (x:Rat):Rat:=if x < 0 then 0 else x
def Up:Prop:=∀ i,i+1 < n→t i < t (i+1)
end
section
variable {t s:Nat→Rat} {n:Nat} (up:Up t n)
include up
end
end Go.Den
namespace Go.Den
open Go.Ab
theorem FB.succ {α:Type} {f f':Nat→Nat→Option α} {r:α} (e:∀ N g,f N (g+1)=f' N g) (h:FB f' r):FB f r :=
 let ⟨N0,h0⟩:=h;.step N0 fun N g hN hg=>(e N g).trans (h0 N g hN hg)
theorem FB.bind {α β:Type} {f:Nat→Option α} {k:Nat→Nat→α→Option β} {r:α} {s:β} (h:Gv f r) (h2:FB (fun N g=>k N g r) s):FB (fun N g=>(f N).bind (k N g)) s:=by
 obtain ⟨N0,h⟩:=h
 obtain ⟨N1,h2⟩:=h2
 exact ⟨N0+N1,fun N g hN hg=>by dsimp only;rw [h N (by omega)];exact h2 N g (by omega) (by omega)⟩
theorem FB.er {α:Type} {f g:Nat→Nat→Option α} {r:α} {q:Bool} (hq:q=true) (h:FB f r):FB (fun N n=>cond q (f N n) (g N n)) r:=by subst hq;exact h
theorem FB.if {α:Type} {f:Nat→Nat→Option α} {r:α} {p:Prop} [Decidable p] (hp:p) (h:FB f r):FB (fun N n=>if p then f N n else none) r:=by
 obtain ⟨N0,h⟩:=h
 exact ⟨N0,fun N g hN hg=>by dsimp only;rw [if_pos hp];exact h N g hN hg⟩
theorem FB.one {α:Type} {f:Nat→Option α} {r:α} (h:Gv f r):FB (fun N _=>f N) r:=let ⟨N0,h⟩:=h;⟨N0,fun N _ hN _=>h N hN⟩
theorem FB.eq {α:Type} {f:Nat→Nat→Option α} {r s:α} (h:FB f r) (e:r=s):FB f s:=e ▸ h
end Go.Den
namespace Go.Den
open Go.Ab
theorem RB.zero:RB 0 1:=RB.int (z:=0) (ZB.small (by decide)) (by decide)
section
end
end Go.Den
namespace Go.Den
open Go.Ab
end Go.Den
namespace Go.Den
open Go.Ab
abbrev MS:Nat:=1000000000000
def Ev (p:Nat→Nat→Prop):Prop:=∃ N0,∀ N g,N0≤N→N0≤g→p N g
theorem Ev.of {p:Nat→Nat→Prop} (N0:Nat) (h:∀ N g,N0≤N→N0≤g→p N g):Ev p:=⟨N0,h⟩
theorem Gv.ev {α:Type} {f:Nat→Option α} {r:α} (h:Gv f r):Ev fun N _=>f N=some r:=let ⟨N0,h0⟩:=h;⟨N0,fun N _ hN _=>h0 N hN⟩
theorem Ev.and {p q:Nat→Nat→Prop} (h:Ev p) (k:Ev q):Ev fun N g=>p N g∧q N g:=by
 obtain ⟨a,ha⟩:=h;obtain ⟨b,hb⟩:=k
 exact ⟨a+b,fun N g h1 h2=>⟨ha N g (by omega) (by omega),hb N g (by omega) (by omega)⟩⟩
theorem Ev.mono {p q:Nat→Nat→Prop} (h:Ev p) (k:∀ N g,p N g→q N g):Ev q:=let ⟨a,ha⟩:=h;⟨a,fun N g h1 h2=>k N g (ha N g h1 h2)⟩
theorem Ev.succ {p:Nat→Nat→Prop} (h:Ev fun N g=>p N (g+1)):Ev p:=by
 obtain ⟨a,ha⟩:=h
 refine ⟨a+1,fun N g h1 h2=>?_⟩
 obtain ⟨g,rfl⟩:∃ g',g=g'+1:=⟨g - 1,by omega⟩
 exact ha N g (by omega) (by omega)
theorem Ev.true {p:Nat→Nat→Prop} (h:∀ N g,p N g):Ev p:=⟨0,fun N g _ _=>h N g⟩
def PV (A:List (List aa)) (i j:Nat):aa:=(A.getD i []).getD j aa.d
structure G3 (A:List (List aa)) (n w:Nat) (M:Nat→Nat→Rat):Prop where
 len:A.length=n
 row:∀ i,i < n→(A.getD i []).length=w
 PV:∀ i j,i < n→j < w→RQ (PV A i j) (M i j) MS
def ko (M:Nat→Nat→Rat) (i j:Nat) (v:Rat):Nat→Nat→Rat:=fun a b=>if a=i∧b=j then v else M a b
theorem As {α:Type} (l:List α) (i:Nat) (x d:α) (h:i < l.length):(l.set i x).getD i d=x:=by
 simp [ft,List.getElem?_set_self h]
theorem Au {α:Type} (l:List α) {i j:Nat} (x d:α) (h:i≠j):(l.set i x).getD j d=l.getD j d:=by
 simp [ft,List.getElem?_set_ne h]
theorem G3.set {A:List (List aa)} {n w:Nat} {M:Nat→Nat→Rat} (h:G3 A n w M) {i j:Nat} (hi:i < n) (hj:j < w) {x:aa} {v:Rat} (hx:RQ x v MS) :
  G3 (A.set i ((A.getD i []).set j x)) n w (ko M i j v):=by
 refine ⟨by rw [List.length_set];exact h.len,fun a ha=>?_,fun a b ha hb=>?_⟩
 ·by_cases e:i=a
  ·subst e;rw [As _ _ _ _ (by rw [h.len];exact hi),List.length_set];exact h.row i hi
  ·rw [Au _ _ _ e];exact h.row a ha
 ·unfold Go.Den.PV ko
  by_cases e:i=a
  ·subst e
   rw [As _ _ _ _ (by rw [h.len];exact hi)]
   by_cases e2:j=b
   ·subst e2
    rw [As _ _ _ _ (by rw [h.row i hi];exact hj),if_pos ⟨rfl,rfl⟩];exact hx
   ·rw [Au _ _ _ e2,if_neg (fun q=>e2 q.2.symm)];exact h.PV i b ha hb
  ·rw [Au _ _ _ e,if_neg (fun q=>e q.1.symm)];exact h.PV a b ha hb
theorem G3.congr {A:List (List aa)} {n w:Nat} {M M':Nat→Nat→Rat} (h:G3 A n w M) (e:∀ i j,i < n→j < w→M i j=M' i j):G3 A n w M' :=
 ⟨h.len,h.row,fun i j hi hj=>e i j hi hj ▸ h.PV i j hi hj⟩
def VB (M:Nat→Nat→Rat) (n w s:Nat):Prop:=∀ i j,i < n→j < w→RB (M i j) s
end Go.Den
namespace Go.Den
open Go.Ab
def Mg (M:Nat→Nat→Rat) (c d:Nat):Nat→Nat→Rat:=fun i j=>if i=c then M d j else if i=d then M c j else M i j
def Mh (M:Nat→Nat→Rat) (c t:Nat):Nat→Nat→Rat:=fun i j=>if i=c∧j < t then M c j / M c c else M i j
def H7 (M:Nat→Nat→Rat) (g:Nat→Rat) (c t:Nat):Nat→Nat→Rat:=fun i j=>if i < t∧i≠c then M i j - g i * M c j else M i j
def Uv (M:Nat→Nat→Rat) (n w c d:Nat):Nat→Nat→Rat:=H7 (Mh (Mg M c d) c w) (fun i=>Mg M c d i c) c n
def Vk (M:Nat→Nat→Rat) (n c d:Nat):Nat→Nat→Rat:=H7 (Mg M c d) (fun i=>Mg M c d i c / Mg M c d c c) c n
structure Uw (M R:Nat→Nat→Rat) (n w c:Nat) (l:Nat→Rat):Prop where
 ne:∀ i,i < n→l i≠0
 eq:∀ i j,i < n→j < w→R i j=l i * M i j
 one:∀ i j,i < n→j < c→M i j=if i=j then 1 else 0
theorem Uw.step {M R:Nat→Nat→Rat} {n w c:Nat} {l:Nat→Rat} (h:Uw M R n w c l) (hc:c < n) (hw:n≤w) {d:Nat} (Qg:c≤d) (NI:d < n) (h0:M d c≠0) :
  ∃ l',Uw (Uv M n w c d) (Vk R n c d) n w (c+1) l':=by
 let s:Nat→Nat:=fun i=>if i=c then d else if i=d then c else i
 have hs:∀ i,i < n→s i < n:=fun i hi=>by
  show (if i=c then d else if i=d then c else i) < n
  split
  ·exact NI
  ·split<;>omega
 have hM:∀ i j,Mg M c d i j=M (s i) j:=fun i j=>by
  show (if i=c then M d j else if i=d then M c j else M i j)=M (if i=c then d else if i=d then c else i) j
  split
  ·rfl
  ·split<;>rfl
 have hR:∀ i j,Mg R c d i j=R (s i) j:=fun i j=>by
  show (if i=c then R d j else if i=d then R c j else R i j)=R (if i=c then d else if i=d then c else i) j
  split
  ·rfl
  ·split<;>rfl
 have Qi:s c=d:=if_pos rfl
 have Qj:c < w:=by omega
 refine ⟨fun i=>if i=c then l d * M d c else l (s i),fun i hi=>?_,fun i j hi hj=>?_,fun i j hi hj=>?_⟩
 ·split
  ·intro e
   rcases Rat.mul_eq_zero.1 e with e | e
   ·exact h.ne d NI e
   ·exact h0 e
  ·exact h.ne _ (hs i hi)
 ·simp only [Uv,Vk,H7]
  have e1:=h.eq (s i) j (hs i hi) hj
  have e2:=h.eq d j NI hj
  have e3:=h.eq (s i) c (hs i hi) Qj
  have e4:=h.eq d c NI Qj
  have hl:=h.ne d NI
  by_cases Jc:i=c
  ·have hn:¬ (i < n∧i≠c):=fun q=>q.2 Jc
   simp only [hn,if_false,Jc,if_true,hR,Qi,e2,Mh,hM,hj,and_self]
   grind
  ·have hn:i < n∧i≠c:=⟨hi,Jc⟩
   simp only [hn,Jc,if_true,if_false,not_false_eq_true,and_self,ne_eq,hR,Qi,e1,e2,e3,e4,Mh,hM,false_and,hj]
   have:l d * M d c≠0:=fun e=>by
    rcases Rat.mul_eq_zero.1 e with e | e
    ·exact hl e
    ·exact h0 e
   grind
 ·have hz:∀ i,i < n→j < c→M i j=if i=j then 1 else 0:=fun i hi h1=>h.one i j hi h1
  simp only [Uv,H7]
  by_cases Ux:j=c
  ·by_cases Jc:i=c
   ·have hn:¬ (i < n∧i≠c):=fun q=>q.2 Jc
    simp only [hn,if_false,Jc,Ux,if_true,Mh,hM,Qi,Qj,and_self]
    grind
   ·have hn:i < n∧i≠c:=⟨hi,Jc⟩
    simp only [hn,Jc,Ux,if_true,if_false,not_false_eq_true,and_self,ne_eq,Mh,hM,Qi,false_and,Qj]
    grind
  ·have Ry:j < c:=by omega
   have Vl:j < w:=by omega
   have J3:M d j=0:=by rw [hz d NI Ry,if_neg (by omega)]
   have Uy:M (s i) j=if i=j then 1 else 0:=by
    rw [hz (s i) (hs i hi) Ry]
    have:(s i=j)↔(i=j):=by
     show ((if i=c then d else if i=d then c else i)=j)↔i=j
     split
     ·omega
     ·split<;>omega
    simp only [this]
   by_cases Jc:i=c
   ·have hn:¬ (i < n∧i≠c):=fun q=>q.2 Jc
    have O3:¬ c=j:=fun q=>Ux q.symm
    simp only [hn,if_false,Jc,if_true,Mh,hM,Qi,Vl,and_self,J3,O3]
    grind
   ·have hn:i < n∧i≠c:=⟨hi,Jc⟩
    simp only [hn,Jc,if_true,if_false,not_false_eq_true,and_self,ne_eq,Mh,hM,Qi,false_and,Vl,Uy,J3]
    grind
theorem VB.Mg {M:Nat→Nat→Rat} {n w s c d:Nat} (h:VB M n w s) (hc:c < n) (hd:d < n):VB (Mg M c d) n w s:=fun i j hi hj=>by
 unfold Go.Den.Mg
 split
 ·exact h d j hd hj
 ·split
  ·exact h c j hc hj
  ·exact h i j hi hj
theorem VB.Mh {M:Nat→Nat→Rat} {n w s c t:Nat} (h:VB M n w s) (hc:c < n) (Qj:c < w) (h0:M c c≠0):VB (Mh M c t) n w (s+s):=fun i j hi hj=>by
 unfold Go.Den.Mh
 split
 ·exact (h c j hc hj).div (h c c hc Qj) h0
 ·exact (h i j hi hj).le (by omega)
theorem VB.H7 {M:Nat→Nat→Rat} {n w s c t:Nat} {g:Nat→Rat} (h:VB M n w s) (hg:∀ i,i < n→RB (g i) s) (hc:c < n):VB (H7 M g c t) n w (s+(s+s)+1):=fun a j ha hj=>by
 unfold Go.Den.H7
 split
 ·exact (h a j ha hj).sub ((hg a ha).mul (h c j hc hj))
 ·exact (h a j ha hj).le (by omega)
end Go.Den
namespace Go.Den
open Go.Ab
theorem G3.at {A:List (List aa)} {n w:Nat} {M:Nat→Nat→Rat} (h:G3 A n w M) {i j:Nat} (hi:i < n) (hj:j < w):RQ ((A.getD i []).getD j aa.d) (M i j) MS:=h.PV i j hi hj
theorem inl {m n k:Nat} (h:m < n) (e:k=n):0≤(m:Int)∧(m:Int) < ((k:Nat):Int):=⟨by omega,by omega⟩
section
variable {A:List (List aa)} {n w c:Nat} {M:Nat→Nat→Rat}
end
end Go.Den
namespace Go.Den
open Go.Ab
def jP:Nat→(Nat→Rat)→Rat
 | 0,_=>0
 | n+1,f=>jP n f+f n
theorem kn {n:Nat} {f g:Nat→Rat} (h:∀ i,i < n→f i=g i):jP n f=jP n g:=by
 induction n with
 | zero=>rfl
 | succ n ih=>rw [jP,jP,ih fun i hi=>h i (by omega),h n (by omega)]
theorem G4 (n:Nat) (f g:Nat→Rat):jP n (fun i=>f i+g i)=jP n f+jP n g:=by
 induction n with
 | zero=>show (0:Rat)=0+0;grind
 | succ n ih=>rw [jP,jP,jP,ih];grind
theorem Dj (n:Nat) (c:Rat) (f:Nat→Rat):jP n (fun i=>c * f i)=c * jP n f:=by
 induction n with
 | zero=>show (0:Rat)=c * 0;grind
 | succ n ih=>rw [jP,jP,ih];grind
theorem Av (n:Nat):jP n (fun _=>0)=0:=by
 induction n with
 | zero=>rfl
 | succ n ih=>rw [jP,ih];grind
theorem Dk {n j:Nat} (hj:j < n) (f:Nat→Rat) (h:∀ i,i < n→i≠j→f i=0):jP n f=f j:=by
 induction n with
 | zero=>omega
 | succ n ih =>
  rw [jP]
  by_cases e:j=n
  ·subst e
   rw [kn (g:=fun _=>0) fun i hi=>h i (by omega) (by omega),Av];grind
  ·rw [ih (by omega) fun i hi iI=>h i (by omega) iI,h n (by omega) (by omega)];grind
theorem qJ {n j:Nat} (hj:j < n) (f:Nat→Rat):jP n f=f j+jP n (fun i=>if i=j then 0 else f i):=by
 have e:jP n f=jP n (fun i=>(if i=j then f j else 0)+(if i=j then 0 else f i)):=kn fun i _=>by
  split
  ·rename_i h;subst h;grind
  ·grind
 rw [e,G4,Dk hj (fun i=>if i=j then f j else 0) fun i _ h=>if_neg h,if_pos rfl]
structure eK where
 r7:Nat→Nat
 fr:Nat→Nat
 a:Nat→Nat→Rat
 b:Nat→Rat
 g:Nat→Rat
 v:Rat
namespace eK
def row (D:eK) (k:Nat) (x:Nat→Rat) (i:Nat):Rat:=D.b i+jP k fun j=>D.a i j * x (D.fr j)
def Mi (D:eK) (m k:Nat) (x:Nat→Rat):Prop:=∀ i,i < m→x (D.r7 i)=D.row k x i
def gv (D:eK) (k:Nat) (x:Nat→Rat):Rat:=D.v+jP k fun j=>D.g j * x (D.fr j)
structure WF (D:eK) (m k:Nat):Prop where
 bi:∀ i i',i < m→i' < m→D.r7 i=D.r7 i'→i=i'
 fi:∀ j j',j < k→j' < k→D.fr j=D.fr j'→j=j'
 bf:∀ i j,i < m→j < k→D.r7 i≠D.fr j
 bl:∀ i,i < m→D.r7 i < m+k
 fl:∀ j,j < k→D.fr j < m+k
 al:∀ u,u < m+k→(∃ i,i < m∧D.r7 i=u)∨∃ j,j < k∧D.fr j=u
def pK (D:eK) (i j k:Nat):Rat:=if k=j then 1 / D.a i j else -(D.a i k / D.a i j)
def pb (D:eK) (i j:Nat):Rat:=-(D.b i / D.a i j)
def nO (D:eK) (i j:Nat):eK where
 r7:=fun r=>if r=i then D.fr j else D.r7 r
 fr:=fun c=>if c=j then D.r7 i else D.fr c
 a:=fun r c=>if r=i then D.pK i j c else if c=j then D.a r j * D.pK i j c else D.a r c+D.a r j * D.pK i j c
 b:=fun r=>if r=i then D.pb i j else D.b r+D.a r j * D.pb i j
 g:=fun c=>if c=j then D.g j * D.pK i j c else D.g c+D.g j * D.pK i j c
 v:=D.v+D.g j * D.pb i j
theorem WF.nO {D:eK} {m k i j:Nat} (h:D.WF m k) (hi:i < m) (hj:j < k):(D.nO i j).WF m k:=by
 refine ⟨fun r r' hr Oq e=>?_,fun c c' hc ml e=>?_,fun r c hr hc e=>?_,fun r hr=>?_,fun c hc=>?_,fun u hu=>?_⟩
 ·simp only [eK.nO] at e
  split at e<;>split at e
  ·omega
  ·exact absurd e.symm (h.bf _ _ Oq hj)
  ·exact absurd e (h.bf _ _ hr hj)
  ·exact h.bi _ _ hr Oq e
 ·simp only [eK.nO] at e
  split at e<;>split at e
  ·omega
  ·exact absurd e (h.bf _ _ hi ml)
  ·exact absurd e.symm (h.bf _ _ hi hc)
  ·exact h.fi _ _ hc ml e
 ·simp only [eK.nO] at e
  split at e<;>split at e
  ·exact h.bf _ _ hi hj e.symm
  ·rename_i h1 h2;exact h2 (h.fi _ _ hc hj e.symm)
  ·rename_i h1 h2;exact h1 (h.bi _ _ hr hi e)
  ·exact h.bf _ _ hr hc e
 ·simp only [eK.nO];split
  ·exact h.fl j hj
  ·exact h.bl r hr
 ·simp only [eK.nO];split
  ·exact h.bl i hi
  ·exact h.fl c hc
 ·rcases h.al u hu with ⟨r,hr,e⟩ | ⟨c,hc,e⟩
  ·by_cases q:r=i
   ·subst q;exact .inr ⟨j,hj,by simp only [eK.nO,if_pos];exact e⟩
   ·exact .inl ⟨r,hr,by simp only [eK.nO,if_neg q];exact e⟩
  ·by_cases q:c=j
   ·subst q;exact .inl ⟨i,hi,by simp only [eK.nO,if_pos];exact e⟩
   ·exact .inr ⟨c,hc,by simp only [eK.nO,if_neg q];exact e⟩
theorem FD {D:eK} {k i j:Nat} (hj:j < k) (h0:D.a i j≠0) {x:Nat→Rat} (hs:x (D.r7 i)=D.row k x i∨x (D.fr j)=(D.nO i j).row k x i) :
  x (D.fr j)=D.pb i j+jP k fun c=>D.pK i j c * x ((D.nO i j).fr c):=by
 rcases hs with hs | hs
 ·rw [qJ hj]
  have e1:(fun c=>if c=j then (0:Rat) else D.pK i j c * x ((D.nO i j).fr c))=fun c=>(-(1 / D.a i j)) * (if c=j then 0 else D.a i c * x (D.fr c)):=by
   funext c
   by_cases q:c=j
   ·simp only [q,if_true];grind
   ·simp only [eK.pK,eK.nO,q,if_false];grind
  rw [e1,Dj]
  unfold eK.row at hs
  rw [qJ hj] at hs
  simp only [eK.pK,eK.nO,if_true,eK.pb]
  rw [hs]
  grind
 ·rw [hs]
  simp only [eK.row,eK.nO,if_true]
theorem G5 {D:eK} {k i j:Nat} (hj:j < k) (f:Nat→Rat) {x:Nat→Rat} {p:Rat} (hx:x (D.fr j)=p+jP k fun c=>D.pK i j c * x ((D.nO i j).fr c)) :
  (f j * p+jP k fun c=>(if c=j then f j * D.pK i j c else f c+f j * D.pK i j c) * x ((D.nO i j).fr c))=jP k fun c=>f c * x (D.fr c):=by
 have e1:jP k (fun c=>(if c=j then f j * D.pK i j c else f c+f j * D.pK i j c) * x ((D.nO i j).fr c))=jP k (fun c=>(if c=j then 0 else f c * x (D.fr c))+f j * (D.pK i j c * x ((D.nO i j).fr c))):=kn fun c _=>by
  by_cases q:c=j
  ·simp only [q,if_true];grind
  ·simp only [q,if_false,eK.nO];grind
 rw [e1,G4,Dj,qJ hj (fun c=>f c * x (D.fr c)),hx]
 grind
theorem Mi.nO {D:eK} {m k i j:Nat} (hi:i < m) (hj:j < k) (h0:D.a i j≠0) {x:Nat→Rat}:(D.nO i j).Mi m k x↔D.Mi m k x:=by
 have key:∀ r,r≠i→x (D.fr j)=D.pb i j+jP k (fun c=>D.pK i j c * x ((D.nO i j).fr c))→(D.nO i j).row k x r=D.row k x r:=fun r hr hx=>by
  have e:=G5 hj (fun c=>D.a r c) hx
  simp only [eK.row]
  rw [← e]
  simp only [eK.nO,hr,if_false]
  grind
 constructor
 ·intro h r hr
  have h1:=h i hi
  have h2:x (D.fr j)=(D.nO i j).row k x i:=by rw [← h1];simp [eK.nO]
  have hx:=FD hj h0 (.inr h2)
  by_cases q:r=i
  ·subst q
   -- solve for the basic variable
   have e:=hx
   rw [qJ hj] at e
   have e1:(fun c=>if c=j then (0:Rat) else D.pK r j c * x ((D.nO r j).fr c))=fun c=>(-(1 / D.a r j)) * (if c=j then 0 else D.a r c * x (D.fr c)):=by
    funext c
    by_cases q:c=j
    ·simp only [q,if_true];grind
    ·simp only [eK.pK,eK.nO,q,if_false];grind
   rw [e1,Dj] at e
   simp only [eK.pK,eK.nO,if_true,eK.pb] at e
   unfold eK.row
   rw [qJ hj]
   grind
  ·have h3:=h r hr
   rw [key r q hx] at h3
   rw [← h3]
   simp [eK.nO,q]
 ·intro h r hr
  have hx:=FD hj h0 (.inl (h i hi))
  by_cases q:r=i
  ·subst q
   simp only [eK.row,eK.nO,if_true]
   exact hx
  ·rw [key r q hx,← h r hr]
   simp [eK.nO,q]
theorem PW {D:eK} {m k i j:Nat} (hi:i < m) (hj:j < k) (h0:D.a i j≠0) {x:Nat→Rat} (hs:D.Mi m k x):(D.nO i j).gv k x=D.gv k x:=by
 have hx:=FD hj h0 (.inl (hs i hi))
 have e:=G5 hj D.g hx
 simp only [eK.gv]
 rw [← e]
 simp only [eK.nO]
 grind
def Qk (D:eK):Nat→Nat→Option Nat
 | 0,_=>none
 | m+1,u=>if D.r7 m=u then some m else Qk D m u
theorem Jd {D:eK}:∀ {m i:Nat},(∀ i i',i < m→i' < m→D.r7 i=D.r7 i'→i=i')→i < m→D.Qk m (D.r7 i)=some i
 | 0,i,_,hi=>by omega
 | m+1,i,h,hi=>by
  rw [Qk]
  by_cases e:D.r7 m=D.r7 i
  ·rw [if_pos e,h m i (by omega) hi e]
  ·rw [if_neg e]
   exact Jd (fun i i' h1 h2=>h i i' (by omega) (by omega)) (Nat.lt_of_le_of_ne (by omega) fun q=>e (by rw [q]))
theorem G6 {D:eK} {u:Nat}:∀ {m:Nat},(∀ i,i < m→D.r7 i≠u)→D.Qk m u=none
 | 0,_=>rfl
 | m+1,h=>by rw [Qk,if_neg (h m (by omega))];exact G6 fun i hi=>h i (by omega)
def ext (D:eK) (m k:Nat) (y:Nat→Rat) (u:Nat):Rat:=match D.Qk m u with
 | some i=>D.row k y i
 | none=>y u
theorem BJ {D:eK} {m k i:Nat} (h:D.WF m k) (hi:i < m) (y:Nat→Rat):D.ext m k y (D.r7 i)=D.row k y i:=by unfold ext;rw [Jd h.bi hi]
theorem Dl {D:eK} {m k j:Nat} (h:D.WF m k) (hj:j < k) (y:Nat→Rat):D.ext m k y (D.fr j)=y (D.fr j):=by
 unfold ext;rw [G6 fun i hi=>h.bf i j hi hj]
theorem FE {D:eK} {m k:Nat} (h:D.WF m k) (y:Nat→Rat):D.Mi m k (D.ext m k y):=fun i hi=>by
 rw [BJ h hi]
 unfold eK.row
 congr 1
 exact kn fun j hj=>by rw [Dl h hj]
theorem PX {D:eK} {m k:Nat} (h:D.WF m k) (y:Nat→Rat):D.gv k (D.ext m k y)=D.gv k y:=by
 unfold eK.gv
 congr 1
 exact kn fun j hj=>by rw [Dl h hj]
def one (u:Nat):Nat→Rat:=fun w=>if w=u then 1 else 0
def L0:Nat→Rat:=fun _=>0
theorem FF (D:eK) (k i:Nat):D.row k L0 i=D.b i:=by
 unfold row L0
 rw [kn (g:=fun _=>0) fun j _=>by grind,Av];grind
theorem row_one {D:eK} {m k j:Nat} (h:D.WF m k) (hj:j < k) (i:Nat):D.row k (one (D.fr j)) i=D.b i+D.a i j:=by
 unfold row one
 rw [Dk hj _ fun c hc iI=>by rw [if_neg fun e=>iI (h.fi _ _ hc hj e)];grind]
 rw [if_pos rfl];grind
theorem L1 (D:eK) (k:Nat):D.gv k L0=D.v:=by
 unfold gv L0
 rw [kn (g:=fun _=>0) fun j _=>by grind,Av];grind
theorem L2 {D:eK} {m k j:Nat} (h:D.WF m k) (hj:j < k):D.gv k (one (D.fr j))=D.v+D.g j:=by
 unfold gv one
 rw [Dk hj _ fun c hc iI=>by rw [if_neg fun e=>iI (h.fi _ _ hc hj e)];grind]
 rw [if_pos rfl];grind
structure EE (m k:Nat) (D D':eK):Prop where
 OC:∀ x,D.Mi m k x↔D'.Mi m k x
 gv:∀ x,D.Mi m k x→D.gv k x=D'.gv k x
theorem EE.refl (m k:Nat) (D:eK):EE m k D D:=⟨fun _=>Iff.rfl,fun _ _=>rfl⟩
theorem EE.symm {m k:Nat} {D D':eK} (h:EE m k D D'):EE m k D' D:=⟨fun x=>(h.OC x).symm,fun x hx=>(h.gv x ((h.OC x).2 hx)).symm⟩
theorem EE.trans {m k:Nat} {D D' Vm:eK} (h:EE m k D D') (h':EE m k D' Vm):EE m k D Vm :=
 ⟨fun x=>(h.OC x).trans (h'.OC x),fun x hx=>(h.gv x hx).trans (h'.gv x ((h.OC x).1 hx))⟩
theorem EE.nO {m k i j:Nat} {D:eK} (hi:i < m) (hj:j < k) (h0:D.a i j≠0):EE m k D (D.nO i j) :=
 ⟨fun _=>(Mi.nO hi hj h0).symm,fun _ hx=>(PW hi hj h0 hx).symm⟩
def Hh (D:eK) (m u:Nat):Prop:=∃ i,i < m∧D.r7 i=u
theorem BK {D:eK} {m k:Nat} (h:D.WF m k) {u:Nat} (hu:u < m+k) (hn:¬ D.Hh m u):∃ j,j < k∧D.fr j=u:=(h.al u hu).resolve_left hn
theorem Dm {D:eK} {m k:Nat} {x y:Nat→Rat} (hx:D.Mi m k x) (hf:∀ j,j < k→x (D.fr j)=y (D.fr j)) {i:Nat} (hi:i < m):x (D.r7 i)=D.row k y i:=by
 rw [hx i hi];unfold row;congr 1
 exact kn fun j hj=>by rw [hf j hj]
theorem uniq {D D':eK} {m k:Nat} (h:D.WF m k) (h':D'.WF m k) (e:EE m k D D') (hb:∀ u,D.Hh m u→D'.Hh m u) :
  (∀ i i',i < m→i' < m→D.r7 i=D'.r7 i'→D.b i=D'.b i')∧(∀ i j i' j',i < m→i' < m→j < k→j' < k→D.r7 i=D'.r7 i'→D.fr j=D'.fr j'→D.a i j=D'.a i' j') ∧
   (∀ j j',j < k→j' < k→D.fr j=D'.fr j'→D.g j=D'.g j')∧D.v=D'.v:=by
 have hf:∀ j',j' < k→∃ j,j < k∧D.fr j=D'.fr j':=fun j' wF=>BK h (h'.fl j' wF) fun q=>by
  obtain ⟨i,hi,e⟩:=hb _ q
  exact h'.bf i j' hi wF e
 have key:∀ y,(∀ i i',i < m→i' < m→D.r7 i=D'.r7 i'→D.row k y i=D'.row k y i')∧D.gv k y=D'.gv k y:=fun y=>by
  have hs:=FE h y
  have Fz:=(e.OC _).1 hs
  have MH:∀ j',j' < k→D.ext m k y (D'.fr j')=y (D'.fr j'):=fun j' wF=>by
   obtain ⟨j,hj,q⟩:=hf j' wF
   rw [← q,Dl h hj]
  refine ⟨fun i i' hi pM q=>?_,?_⟩
  ·rw [← BJ h hi y,q]
   exact Dm Fz MH pM
  ·rw [← PX h y,e.gv _ hs]
   unfold gv;congr 1
   exact kn fun j hj=>by rw [MH j hj]
 have Vn:∀ i i',i < m→i' < m→D.r7 i=D'.r7 i'→D.b i=D'.b i':=fun i i' hi pM q=>by
  have:=(key L0).1 i i' hi pM q
  rwa [FF,FF] at this
 have hv:D.v=D'.v:=by have:=(key L0).2;rwa [L1,L1] at this
 refine ⟨Vn,fun i j i' j' hi pM hj wF q1 q2=>?_,fun j j' hj wF q=>?_,hv⟩
 ·have:=(key (one (D.fr j))).1 i i' hi pM q1
  rw [row_one h hj,q2,row_one h' wF,Vn i i' hi pM q1] at this
  grind
 ·have:=(key (one (D.fr j))).2
  rw [L2 h hj,q,L2 h' wF,hv] at this
  grind
end eK
end Go.Den
namespace Go.Den
open Go.Ab
namespace eK
structure NO (D:eK) (k j:Nat):Prop where
 lt:j < k
 pos:0 < D.g j
 min:∀ j',j' < k→0 < D.g j'→D.fr j≤D.fr j'
def ratio (D:eK) (j i:Nat):Rat:=D.b i / -(D.a i j)
structure BL (D:eK) (m j i:Nat):Prop where
 lt:i < m
 neg:D.a i j < 0
 min:∀ i',i' < m→D.a i' j < 0→D.ratio j i < D.ratio j i'∨D.ratio j i=D.ratio j i'∧D.r7 i≤D.r7 i'
def Ql (D:eK) (m:Nat):Prop:=∀ i,i < m→0≤D.b i
def Step (m k:Nat) (D D':eK):Prop:=∃ j i,D.NO k j∧D.BL m j i∧D'=D.nO i j
theorem H8 {x y a:Rat} (ha:0 < a) (h:x≤y / a):x * a≤y:=by
 have e:y / a * a=y:=by grind
 have:=Rat.mul_le_mul_of_nonneg_right h (Rat.le_of_lt ha)
 rwa [e] at this
theorem H9 {x a:Rat} (ha:0 < a) (h:0≤x):0≤x / a:=by
 rw [Rat.div_def]
 exact Rat.mul_nonneg h (Rat.le_of_lt (Rat.inv_pos.2 ha))
theorem L3 (D:eK) (i j:Nat):D.pb i j=D.ratio j i:=by
 unfold pb ratio
 by_cases h:D.a i j=0
 ·rw [h];simp [Rat.div_def]
 ·have:-(D.a i j)≠0:=by grind
  grind
theorem Ql.ratio {D:eK} {m i j:Nat} (h:D.Ql m) (hi:i < m) (hn:D.a i j < 0):0≤D.ratio j i:=H9 (by grind) (h i hi)
theorem BL.le {D:eK} {m j i r:Nat} (h:D.BL m j i) (hr:r < m) (hn:D.a r j < 0):D.ratio j i≤D.ratio j r:=by
 rcases h.min r hr hn with h1 | ⟨h1,_⟩
 ·exact Rat.le_of_lt h1
 ·rw [h1];exact Rat.le_refl
theorem Ql.nO {D:eK} {m i j:Nat} (h:D.Ql m) (hl:D.BL m j i):(D.nO i j).Ql m:=fun r hr=>by
 have h0:=h.ratio hl.lt hl.neg
 simp only [eK.nO,L3]
 split
 ·exact h0
 ·by_cases hn:D.a r j < 0
  ·have h1:=H8 (a:=-(D.a r j)) (by grind) (hl.le hr hn)
   have:=h r hr
   grind
  ·have h1:=Rat.mul_nonneg (Rat.not_lt.1 hn) h0
   have:=h r hr
   grind
theorem Je {D:eK} {m k i j u:Nat} (h:D.WF m k) (hi:i < m):(D.nO i j).Hh m u↔(D.Hh m u∧u≠D.r7 i)∨u=D.fr j:=by
 constructor
 ·rintro ⟨r,hr,e⟩
  simp only [eK.nO] at e
  split at e
  ·exact .inr e.symm
  ·rename_i hn
   exact .inl ⟨⟨r,hr,e⟩,fun q=>hn (h.bi _ _ hr hi (e.trans q))⟩
 ·rintro (⟨⟨r,hr,e⟩,hn⟩ | e)
  ·exact ⟨r,hr,by simp only [eK.nO];rw [if_neg fun q=>hn (by rw [← e,q])];exact e⟩
  ·exact ⟨i,hi,by simp only [eK.nO,if_pos];exact e.symm⟩
open Classical in
noncomputable def enc (p:Nat→Prop):Nat→Nat
 | 0=>0
 | n+1=>2 * enc p n+if p n then 1 else 0
end eK
end Go.Den
