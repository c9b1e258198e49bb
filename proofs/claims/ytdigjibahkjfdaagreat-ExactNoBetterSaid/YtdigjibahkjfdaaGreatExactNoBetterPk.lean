/- The plain law: the Lean function of the law returns true for every input, and what it needs. No conditions. -/
import Derived.Test.YtdigjibahkjfdaaGreatExactNoBetterDen
set_option linter.unusedVariables false
set_option linter.unusedSimpArgs false
namespace Go.Den
open Go.Ab
theorem VE (n:Int):ao n=if n % 18446744073709551616≥9223372036854775808 then n % 18446744073709551616 - 18446744073709551616 else n % 18446744073709551616:=by
 have e:ao n=(if (true && decide (n % 18446744073709551616≥9223372036854775808))=true then n % 18446744073709551616 - 18446744073709551616 else n % 18446744073709551616):=rfl
 rw [e];simp
theorem bC {n:Int} (h1:-9223372036854775808≤n) (h2:n≤9223372036854775807):ao n=n:=by
 rw [VE];split<;>omega
theorem bh {m:Nat} (h:m < 9223372036854775807):ao ((m:Int)+1)=((m+1:Nat):Int):=by rw [bC (by omega) (by omega)];simp
def scan {R:Type} (f:Nat→Option R) (z:R):Nat→Nat→R
 | 0,_=>z
 | k+1,m=>match f m with
  | some r=>r
  | none=>scan f z k (m+1)
theorem Lp {R:Type} {f:Nat→Option R} {z:R}:∀ (k m:Nat),(∃ i r,m≤i∧i < m+k∧f i=some r∧(∀ j,m≤j→j < i→f j=none)∧scan f z k m=r)∨((∀ i,m≤i→i < m+k→f i=none)∧scan f z k m=z)
 | 0,m=>.inr ⟨fun i h1 h2=>by omega,rfl⟩
 | k+1,m=>by
  cases hm:f m with
  | some r=>exact .inl ⟨m,r,aP _,by omega,hm,fun j h1 h2=>by omega,by unfold scan;rw [hm]⟩
  | none =>
   have e:scan f z (k+1) m=scan f z k (m+1):=by rw [scan,hm]
   rcases Lp (f:=f) (z:=z) k (m+1) with ⟨i,r,h1,h2,h3,h4,h5⟩ | ⟨h1,h2⟩
   ·refine .inl ⟨i,r,by omega,by omega,h3,fun j hj1 Qv=>?_,e.trans h5⟩
    by_cases hj:j=m
    ·subst hj;exact hm
    ·exact h4 j (by omega) Qv
   ·refine .inr ⟨fun i hi1 TS=>?_,e.trans h2⟩
    by_cases hj:i=m
    ·subst hj;exact hm
    ·exact h1 i (by omega) (by omega)
theorem Si {α:Type} (l:List α) (m:Nat) (d:α) (h:m < l.length):l.getD m d∈l:=by
 simp [List.getD,h]
theorem aj (m:Nat):((m:Int)).toNat=m:=rfl
theorem lQ {m n:Nat} (h:m < n):0≤(m:Int)∧(m:Int) < ((n:Nat):Int):=⟨by omega,by omega⟩
theorem dec_lt {m n:Nat} (h:m < n):decide ((m:Int) < ((n:Nat):Int))=true:=by simp;omega
theorem fa {n:Nat}:decide ((n:Int) < ((n:Nat):Int))=false:=by simp
end Go.Den
namespace Go.Den
open Go.Ab
theorem sD (n:Int):IntKind.u16.wrap n=n % 65536:=by
 have e:IntKind.u16.wrap n=(if (false && decide (n % 65536≥32768))=true then n % 65536 - 65536 else n % 65536):=rfl
 rw [e];simp
theorem wrap32 (n:Int):IntKind.u32.wrap n=n % 4294967296:=by
 have e:IntKind.u32.wrap n=(if (false && decide (n % 4294967296≥2147483648))=true then n % 4294967296 - 4294967296 else n % 4294967296):=rfl
 rw [e];simp
theorem wrap64 (n:Int):IntKind.u64.wrap n=n % 18446744073709551616:=by
 have e:IntKind.u64.wrap n=(if (false && decide (n % 18446744073709551616≥9223372036854775808))=true then n % 18446744073709551616 - 18446744073709551616 else n % 18446744073709551616):=rfl
 rw [e];simp
theorem n5 {n:Int} (h:0≤n) (h2:n < 65536):IntKind.u16.wrap n=n:=by rw [sD];omega
theorem cT {n:Int} (h:0≤n) (h2:n < 4294967296):IntKind.u32.wrap n=n:=by rw [wrap32];omega
theorem gP {n:Int} (h:0≤n) (h2:n < 18446744073709551616):IntKind.u64.wrap n=n:=by rw [wrap64];omega
theorem Cj (n:Int):ot .u32 n 16=n / 65536:=by
 unfold ot
 have:(2:Int) ^ (min (16:Int).toNat IntKind.u32.bits)=65536:=by decide
 rw [this,Int.fdiv_eq_ediv_of_nonneg _ (by decide)]
theorem GP (n:Int):ot .u64 n 16=n / 65536:=by
 unfold ot
 have:(2:Int) ^ (min (16:Int).toNat IntKind.u64.bits)=65536:=by decide
 rw [this,Int.fdiv_eq_ediv_of_nonneg _ (by decide)]
theorem P1 (n:Int):ot .i64 n 16=n / 65536:=by
 unfold ot
 have:(2:Int) ^ (min (16:Int).toNat IntKind.i64.bits)=65536:=by decide
 rw [this,Int.fdiv_eq_ediv_of_nonneg _ (by decide)]
theorem GQ {n:Int} (h:0≤n) (h2:n < 65536):iK .u32 n 16=n * 65536:=by
 unfold iK
 have:(2:Int) ^ (min (16:Int).toNat IntKind.u32.bits)=65536:=by decide
 rw [this,wrap32];omega
theorem GR {n:Int} (h:0≤n) (h2:n < 281474976710656):iK .u64 n 16=n * 65536:=by
 unfold iK
 have:(2:Int) ^ (min (16:Int).toNat IntKind.u64.bits)=65536:=by decide
 rw [this,wrap64];omega
theorem Sj {n:Nat} (a b:Nat) (ha:a < 2 ^ n) (hb:b < 2 ^ n):(BitVec.ofInt n (a:Int) ||| BitVec.ofInt n (b:Int)).toNat=a ||| b:=by
 rw [BitVec.ofInt_natCast,BitVec.ofInt_natCast,BitVec.toNat_or,BitVec.toNat_ofNat,BitVec.toNat_ofNat,Nat.mod_eq_of_lt ha,Nat.mod_eq_of_lt hb]
theorem bv_and {n:Nat} (a b:Nat) (ha:a < 2 ^ n) (hb:b < 2 ^ n):(BitVec.ofInt n (a:Int) &&& BitVec.ofInt n (b:Int)).toNat=a &&& b:=by
 rw [BitVec.ofInt_natCast,BitVec.ofInt_natCast,BitVec.toNat_and,BitVec.toNat_ofNat,BitVec.toNat_ofNat,Nat.mod_eq_of_lt ha,Nat.mod_eq_of_lt hb]
theorem Bg (a b k:Nat) (hb:b < 2 ^ k):(a * 2 ^ k) ||| b=a * 2 ^ k+b:=by
 have:=Nat.shiftLeft_add_eq_or_of_lt hb a
 rw [Nat.shiftLeft_eq] at this
 exact this.symm
theorem OI {a b:Int} (ha:0≤a) (TU:a < 65536) (hb:0≤b) (lP:b < 65536):vM .u32 (a * 65536) b=a * 65536+b:=by
 obtain ⟨a,rfl⟩:=Int.eq_ofNat_of_zero_le ha
 obtain ⟨b,rfl⟩:=Int.eq_ofNat_of_zero_le hb
 unfold vM
 have e:((a:Int) * 65536)=((a * 2 ^ 16:Nat):Int):=by simp
 rw [e,show IntKind.u32.bits=32 from rfl,Sj _ _ (by omega) (by omega),Bg _ _ 16 (by omega),wrap32]
 omega
theorem J3 {a b:Int} (ha:0≤a) (TU:a < 281474976710656) (hb:0≤b) (lP:b < 65536):vM .u64 (a * 65536) b=a * 65536+b:=by
 obtain ⟨a,rfl⟩:=Int.eq_ofNat_of_zero_le ha
 obtain ⟨b,rfl⟩:=Int.eq_ofNat_of_zero_le hb
 unfold vM
 have e:((a:Int) * 65536)=((a * 2 ^ 16:Nat):Int):=by simp
 rw [e,show IntKind.u64.bits=64 from rfl,Sj _ _ (by omega) (by omega),Bg _ _ 16 (by omega),wrap64]
 omega
theorem Lq {a:Int} (ha:0≤a) (TU:a < 18446744073709551616):vP .u64 a 65535=a % 65536:=by
 obtain ⟨a,rfl⟩:=Int.eq_ofNat_of_zero_le ha
 unfold vP
 have e:(65535:Int)=((65535:Nat):Int):=rfl
 rw [e,show IntKind.u64.bits=64 from rfl,bv_and _ _ (by omega) (by omega),show (65535:Nat)=2 ^ 16 - 1 from rfl,Nat.and_two_pow_sub_one_eq_mod,wrap64]
 omega
def bL:List Int→Int
 | []=>0
 | x :: l=>x+65536 * bL l
def U (l:List Int):Prop:=∀ x,x∈l→0≤x∧x < 65536
def lm (n:Nat):List Int:=if h:n=0 then [] else ((n % 65536:Nat):Int) :: lm (n / 65536)
termination_by n
decreasing_by omega
def pw (k:Nat):Int:=65536 ^ k
theorem zV:pw 0=1:=rfl
theorem fT (k:Nat):pw (k+1)=65536 * pw k:=by unfold pw;rw [Int.pow_succ];omega
theorem kH (k:Nat):0 < pw k:=by
 induction k with
 | zero=>decide
 | succ k ih=>rw [fT];omega
theorem GS (j k:Nat):pw (j+k)=pw j * pw k:=Int.pow_add _ _ _
theorem U.nil:U []:=fun x h=>by simp at h
theorem U.cons {x:Int} {l:List Int} (h1:0≤x) (h2:x < 65536) (h:U l):U (x :: l):=fun y hy=>by
 rcases jw.1 hy with rfl | hy
 ·exact ⟨h1,h2⟩
 ·exact h y hy
theorem U.tail {x:Int} {l:List Int} (h:U (x :: l)):U l:=fun y hy=>h y (List.mem_cons_of_mem _ hy)
theorem U.head {x:Int} {l:List Int} (h:U (x :: l)):0≤x∧x < 65536:=h x (by simp)
theorem U.append {l m:List Int} (h1:U l) (h2:U m):U (l ++ m):=fun y hy=>by
 rcases List.mem_append.1 hy with hy | hy
 ·exact h1 y hy
 ·exact h2 y hy
theorem U.left {l m:List Int} (h:U (l ++ m)):U l:=fun y hy=>h y (List.mem_append_left _ hy)
theorem U.right {l m:List Int} (h:U (l ++ m)):U m:=fun y hy=>h y (List.mem_append_right _ hy)
theorem U.one {x:Int} (h1:0≤x) (h2:x < 65536):U [x]:=U.cons h1 h2 U.nil
theorem U.take {l:List Int} (h:U l) (k:Nat):U (l.take k):=fun y hy=>h y (List.mem_of_mem_take hy)
theorem U.drop {l:List Int} (h:U l) (k:Nat):U (l.drop k):=fun y hy=>h y (List.mem_of_mem_drop hy)
theorem U.getD {l:List Int} (h:U l) (i:Nat):0≤l.getD i 0∧l.getD i 0 < 65536:=by
 by_cases hi:i < l.length
 ·exact h _ (Si l i 0 hi)
 ·rw [ee,oE (by omega)];decide
theorem U.set {l:List Int} (h:U l) (i:Nat) {x:Int} (h1:0≤x) (h2:x < 65536):U (l.set i x):=fun y hy=>by
 rcases List.mem_or_eq_of_mem_set hy with hy | rfl
 ·exact h y hy
 ·exact ⟨h1,h2⟩
theorem U.replicate (n:Nat):U (List.replicate n 0):=fun y hy=>by
 rw [(List.mem_replicate.1 hy).2];decide
theorem lx (l m:List Int):bL (l ++ m)=bL l+pw l.length * bL m:=by
 induction l with
 | nil=>simp [bL,zV]
 | cons x l ih =>
  simp only [List.cons_append,bL,ih,qO,fT]
  rw [g7,← kL];omega
theorem qV (x:Int):bL [x]=x:=by simp [bL]
theorem jS (n:Nat):bL (List.replicate n 0)=0:=by
 induction n with
 | zero=>rfl
 | succ n ih=>simp [List.replicate_succ,bL,ih]
theorem U.pe:∀ {l:List Int},U l→0≤bL l
 | [],_=>by simp [bL]
 | x :: l,h=>by have:=U.pe h.tail;have:=h.head;simp only [bL];omega
theorem U.lt:∀ {l:List Int},U l→bL l < pw l.length
 | [],_=>by simp [bL,zV]
 | x :: l,h=>by have:=U.lt h.tail;have:=h.head;simp only [bL,qO,fT];omega
theorem mU:∀ (l:List Int) (i:Nat) (x:Int),i < l.length→bL (l.set i x)=bL l+(x - l.getD i 0) * pw i
 | [],i,x,h=>by simp at h
 | y :: l,0,x,h=>by simp [bL,zV];omega
 | y :: l,i+1,x,h=>by
  simp only [List.set_cons_succ,bL,mU l i x (by simpa using h),fT]
  rw [show (y :: l).getD (i+1) 0=l.getD i 0 from rfl,g7,show (x - l.getD i 0) * (65536 * pw i)=65536 * ((x - l.getD i 0) * pw i) by rw [Int.mul_left_comm]]
  omega
theorem cY (l:List Int) (i:Nat) (h:i < l.length):bL (l.take (i+1))=bL (l.take i)+l.getD i 0 * pw i:=by
 have e:l.take (i+1)=l.take i ++ [l.getD i 0]:=by
  rw [List.take_add_one];simp [List.getD,h]
 rw [e,lx,qV,oH,Nat.min_eq_left (by omega),gr]
theorem nD (l:List Int) (i:Nat) (h:i < l.length):bL (l.drop i)=l.getD i 0+65536 * bL (l.drop (i+1)):=by
 rw [List.drop_eq_getElem_cons h];simp [bL,List.getD,h]
theorem qW (l:List Int) (i:Nat) (h:i≤l.length):bL l=bL (l.take i)+pw i * bL (l.drop i):=by
 have:=lx (l.take i) (l.drop i)
 rwa [List.take_append_drop,oH,Nat.min_eq_left h] at this
theorem fU:lm 0=[]:=by rw [lm];rfl
theorem pf {n:Nat} (h:n≠0):lm n=((n % 65536:Nat):Int) :: lm (n / 65536):=by rw [lm,dif_neg h]
theorem rO (n:Nat):U (lm n):=by
 induction n using Nat.strongRecOn with
 | _ n ih =>
  by_cases h:n=0
  ·subst h;rw [fU];exact U.nil
  ·rw [pf h];exact U.cons (by omega) (by omega) (ih _ (by omega))
theorem gY (n:Nat):bL (lm n)=n:=by
 induction n using Nat.strongRecOn with
 | _ n ih =>
  by_cases h:n=0
  ·subst h;rw [fU];rfl
  ·rw [pf h,bL,ih _ (by omega)];omega
theorem Nr {n:Nat}:lm n=[]↔n=0:=by
 constructor
 ·intro h
  have:=gY n
  rw [h] at this;simp [bL] at this;omega
 ·rintro rfl;exact fU
theorem j9 {n:Nat}:0 < (lm n).length↔n≠0:=by
 rw [List.length_pos_iff,ne_eq,Nr]
theorem iq {n k:Nat}:(lm n).length≤k↔(n:Int) < pw k:=by
 induction k generalizing n with
 | zero =>
  rw [zV]
  constructor
  ·intro h;have:lm n=[]:=List.length_eq_zero_iff.1 (by omega);rw [Nr] at this;omega
  ·intro h;have:n=0:=by omega
   rw [Nr.2 this];simp
 | succ k ih =>
  by_cases h:n=0
  ·subst h;rw [fU];have:=kH (k+1);simp;omega
  ·rw [pf h,qO,fT]
   have:=ih (n:=n / 65536)
   constructor
   ·intro h;have:=this.1 (by omega);omega
   ·intro h;have:=this.2 (by omega);omega
theorem VF {n:Nat} (h:n≠0):∃ l x,lm n=l ++ [x]∧x≠0∧U l∧0≤x∧x < 65536:=by
 induction n using Nat.strongRecOn with
 | _ n ih =>
  rw [pf h]
  by_cases h2:n / 65536=0
  ·rw [h2,fU];exact ⟨[],_,rfl,by omega,U.nil,by omega,by omega⟩
  ·obtain ⟨l,x,e,hx,hl,h3,h4⟩:=ih _ (by omega) h2
   rw [e];exact ⟨_ :: l,x,rfl,hx,U.cons (by omega) (by omega) hl,h3,h4⟩
theorem OJ:∀ {l:List Int},U l→(∀ m x,l=m ++ [x]→x≠0)→lm (bL l).toNat=l
 | [],_,_=>by simp [bL,fU]
 | x :: l,h,hn=>by
  have h1:=h.head
  have h2:=h.tail.pe
  have e:bL (x :: l)=x+65536 * bL l:=rfl
  have ec:(bL (x :: l)).toNat≠0:=by
   rw [e]
   cases l with
   | nil=>have:=hn [] x rfl;simp [bL];omega
   | cons y l =>
    have hl:=OJ (l:=y :: l) h.tail fun m z hz=>hn (x :: m) z (by rw [hz];rfl)
    have:bL (y :: l)≠0:=fun h0=>by rw [h0] at hl;simp [fU] at hl
    omega
  rw [pf ec]
  have hl:=OJ (l:=l) h.tail fun m z hz=>hn (x :: m) z (by rw [hz];rfl)
  have e1:(((bL (x :: l)).toNat % 65536:Nat):Int)=x:=by rw [e];omega
  have e2:(bL (x :: l)).toNat / 65536=(bL l).toNat:=by rw [e];omega
  rw [e1,e2,hl]
theorem OK {N:Nat}:∀ (fuel:Nat) (l:List Int),U l→l.length < fuel→l.length < 9223372036854775807→nb N fuel l=some (lm (bL l).toNat)
 | 0,l,_,h,_=>by omega
 | fuel+1,l,hU,h,hs=>by
  rw [nb]
  rcases List.eq_nil_or_concat l with rfl | ⟨m,x,TM⟩
  ·simp [bL,fU]
  ·rw [List.concat_eq_append] at TM
   subst TM
   have hlen:(m ++ [x]).length=m.length+1:=by simp
   have e1:ao ((((m ++ [x]).length:Nat):Int) - 1)=(m.length:Int):=by rw [hlen,bC (by omega) (by rw [hlen] at hs;omega)];omega
   have e2:(m ++ [x]).getD m.length 0=x:=by simp [List.getD]
   have e3:decide ((((m ++ [x]).length:Nat):Int) > 0)=true:=by simp
   rw [e1,e3]
   rw [if_pos (fun _=>⟨by omega,by rw [hlen];omega⟩),cond_true]
   simp only [aj,e2]
   cases hx:(x == 0) with
   | true =>
    have RC:x=0:=by simpa using hx
    subst RC
    rw [cond_true,if_pos ⟨Nat.zero_le _,by rw [hlen];omega⟩,if_pos (by omega)]
    have e4:((m ++ [(0:Int)]).take m.length).drop 0=m:=by simp
    rw [e4,OK fuel m hU.left (by rw [hlen] at h;omega) (by rw [hlen] at hs;omega),lx,qV];simp
   | false =>
    rw [cond_false,OJ hU]
    intro m' x' he
    have:=(List.append_inj' he rfl).2
    simp at this hx
    omega
theorem mc {N:Nat} {l:List Int} (hU:U l) (hN:l.length < N) (hs:l.length < 9223372036854775807):fK N l=some (lm (bL l).toNat):=OK N l hU hN hs
end Go.Den
namespace Go.Den
open Go.Ab
abbrev SM (n:Nat):Prop:=n < 1000000000000
def Ns (a b:List Int):Nat→Int
 | 0=>0
 | k+1=>cond (a.getD k 0 != b.getD k 0) (a.getD k 0 - b.getD k 0) (Ns a b k)
def H5 (a b:Nat):Int:=cond ((((lm a).length:Nat):Int) != (((lm b).length:Nat):Int)) ((((lm a).length:Nat):Int) - (((lm b).length:Nat):Int)) (Ns (lm a) (lm b) (lm a).length)
theorem GU {N:Nat} {a b:List Int} (ha:U a) (hb:U b) (hl:a.length=b.length) (hs:SM a.length):∀ (k fuel:Nat),k≤a.length→k < fuel →
  ∃ c,iL N a b fuel ((k:Int) - 1)=some c∧(c < 0↔bL (a.take k) < bL (b.take k))∧(c=0↔bL (a.take k)=bL (b.take k))∧c=Ns a b k
 | 0,fuel,_,hf=>by
  obtain ⟨g,rfl⟩:∃ g,fuel=g+1:=⟨fuel - 1,by omega⟩
  exact ⟨0,by rw [iL];rfl,by simp,by simp,rfl⟩
 | k+1,fuel,hk,hf=>by
  obtain ⟨g,rfl⟩:∃ g,fuel=g+1:=⟨fuel - 1,by omega⟩
  have e:(((k+1:Nat):Int) - 1)=(k:Int):=by omega
  rw [e,iL]
  have hA:=cY a k (by omega)
  have hB:=cY b k (by omega)
  have h1:=ha.getD k
  have h2:=hb.getD k
  have hla:=(ha.take k).lt
  have hlb:=(hb.take k).lt
  have hna:=(ha.take k).pe
  have Y4:=(hb.take k).pe
  rw [oH,Nat.min_eq_left (by omega)] at hla hlb
  have e0:decide ((k:Int)≥0)=true:=by simp
  rw [e0,cond_true,if_pos ⟨by omega,by omega⟩,if_pos ⟨by omega,by omega⟩]
  simp only [aj]
  cases hd:(a.getD k 0 != b.getD k 0) with
  | true =>
   have ec:a.getD k 0≠b.getD k 0:=by simpa using hd
   refine ⟨a.getD k 0 - b.getD k 0,?_,?_,?_,by rw [Ns,hd];rfl⟩
   ·rw [cond_true]
    congr 1
    rw [bC (by rw [bC (by omega) (by omega),bC (by omega) (by omega)];omega) (by rw [bC (by omega) (by omega),bC (by omega) (by omega)];omega),bC (by omega) (by omega),bC (by omega) (by omega)]
   ·rw [hA,hB]
    generalize a.getD k 0=x at *
    generalize b.getD k 0=y at *
    rcases Int.lt_or_lt_of_ne ec with h | h
    ·have:=kc (show x+1≤y by omega) (Int.le_of_lt (kH k))
     rw [eF] at this
     constructor<;>intro<;>omega
    ·have:=kc (show y+1≤x by omega) (Int.le_of_lt (kH k))
     rw [eF] at this
     constructor<;>intro<;>omega
   ·rw [hA,hB]
    generalize a.getD k 0=x at *
    generalize b.getD k 0=y at *
    rcases Int.lt_or_lt_of_ne ec with h | h
    ·have:=kc (show x+1≤y by omega) (Int.le_of_lt (kH k))
     rw [eF] at this
     constructor<;>intro<;>omega
    ·have:=kc (show y+1≤x by omega) (Int.le_of_lt (kH k))
     rw [eF] at this
     constructor<;>intro<;>omega
  | false =>
   have heq:a.getD k 0=b.getD k 0:=by simpa using hd
   obtain ⟨c,h3,h4,h5,h6⟩:=GU ha hb hl hs k g (by omega) (by omega)
   refine ⟨c,?_,?_,?_,by rw [Ns,hd];exact h6⟩
   ·rw [cond_false,bC (by omega) (by simp only [SM] at hs;omega)];exact h3
   ·rw [hA,hB,heq,h4];omega
   ·rw [hA,hB,heq,h5];omega
theorem zW {a b:Nat} (h:(lm a).length < (lm b).length):a < b:=by
 have h1:=iq (n:=a) (k:=(lm a).length)
 have h2:=iq (n:=b) (k:=(lm a).length)
 have:=h1.1 (aP _)
 have:¬ (b:Int) < pw (lm a).length:=fun h'=>by have:=h2.2 h';omega
 omega
theorem xy {N:Nat} {a b:Nat} (hN:(lm a).length < N) (ha:SM (lm a).length) (hb:SM (lm b).length):∃ c,nc N (lm a) (lm b)=some c∧(c < 0↔a < b)∧(c=0↔a=b)∧c=H5 a b:=by
 unfold nc
 simp only [SM] at ha hb
 cases hl:((((lm a).length:Nat):Int) != (((lm b).length:Nat):Int)) with
 | true =>
  have ec:(lm a).length≠(lm b).length:=by intro h;rw [h] at hl;simp at hl
  refine ⟨_,cond_true _ _,?_,?_,by unfold H5;rw [hl,cond_true,bC (by omega) (by omega)]⟩
  ·rw [bC (by omega) (by omega)]
   rcases Nat.lt_or_gt_of_ne ec with h | h
   ·have:=zW h;omega
   ·have:=zW h;omega
  ·rw [bC (by omega) (by omega)]
   rcases Nat.lt_or_gt_of_ne ec with h | h
   ·have:=zW h;omega
   ·have:=zW h;omega
 | false =>
  have heq:(lm a).length=(lm b).length:=by simp at hl;omega
  rw [cond_false,bC (by omega) (by omega)]
  obtain ⟨c,h1,h2,h3,h4⟩:=GU (N:=N) (rO a) (rO b) heq ha (lm a).length N (aP _) hN
  rw [List.take_length,heq,List.take_length,gY,gY] at h2 h3
  exact ⟨c,h1,by omega,by omega,by unfold H5;rw [hl];exact h4⟩
theorem Lr {N a b:Nat} (hN:(lm a).length < N) (ha:SM (lm a).length) (hb:SM (lm b).length):nc N (lm a) (lm b)=some (H5 a b):=by
 obtain ⟨c,h1,_,_,rfl⟩:=xy hN ha hb
 exact h1
theorem OL {a b:Nat} (ha:SM (lm a).length) (hb:SM (lm b).length):H5 a b < 0↔a < b:=by
 obtain ⟨c,_,h,_,rfl⟩:=xy (N:=(lm a).length+1) (by omega) ha hb
 exact h
theorem OM {N:Nat} {a b:List Int} (ha:U a) (hb:U b) (hl:b.length≤a.length) (hs:SM a.length) (hN:a.length+1 < N):∀ (k x fuel:Nat) (out:List Int) (c:Int),x+k=a.length→k < fuel→out.length=x→U out→0≤c→c≤1 →
  bL out+pw x * c=bL (a.take x)+bL (b.take x)→jM N a b fuel out c (x:Int)=some (lm (bL a+bL b).toNat)
 | 0,x,fuel,out,c,hx,hf,ho,hU,uX,td,hinv=>by
  obtain ⟨g,rfl⟩:∃ g,fuel=g+1:=⟨fuel - 1,by omega⟩
  have F5:x=a.length:=by omega
  subst F5
  rw [jM]
  simp only [SM] at hs
  rw [fa,cond_false,if_pos (by omega),n5 uX (by omega)]
  have hU2:U (out ++ [c]):=hU.append (U.one uX (by omega))
  have hlen:(out ++ [c]).length=a.length+1:=by simp [ho]
  rw [mc hU2 (by rw [hlen];omega) (by rw [hlen];omega),bO,lx,qV,ho,hinv,List.take_length,je hl]
 | k+1,x,fuel,out,c,hx,hf,ho,hU,uX,td,hinv=>by
  obtain ⟨g,rfl⟩:∃ g,fuel=g+1:=⟨fuel - 1,by omega⟩
  simp only [SM] at hs
  have xz:x < a.length:=by omega
  have h1:=ha.getD x
  have h2:=hb.getD x
  rw [jM,dec_lt xz,cond_true,if_pos (lQ xz)]
  simp only [aj]
  have hA:=cY a x xz
  have hB:bL (b.take (x+1))=bL (b.take x)+b.getD x 0 * pw x:=by
   by_cases h:x < b.length
   ·exact cY b x h
   ·rw [je (by omega),je (by omega),ee,oE (by omega)];simp
  have step:∀ s:Int,s=c+a.getD x 0+b.getD x 0→(pz N a b out (x:Int) (jM N a b g) s)=some (lm (bL a+bL b).toNat):=by
   intro s hse
   unfold pz
   rw [if_pos (by omega),sD,Cj,bh (by omega)]
   refine OM ha hb hl hs hN k (x+1) g _ _ (by omega) (by omega) (by simp [ho]) (hU.append (U.one (by omega) (by omega))) (by omega) (by omega) ?_
   rw [lx,qV,ho,hA,hB,fT]
   have h5:s=s % 65536+65536 * (s / 65536):=by omega
   have h6:pw x * s=pw x * (s % 65536)+pw x * (65536 * (s / 65536)):=by rw [← g7,← h5]
   have h7:pw x * s=pw x * c+a.getD x 0 * pw x+b.getD x 0 * pw x:=by rw [hse,g7,g7,gr (pw x) (a.getD x 0),gr (pw x) (b.getD x 0)]
   have h8:65536 * pw x * (s / 65536)=pw x * (65536 * (s / 65536)):=by rw [gr 65536,kL]
   omega
  by_cases lP:x < b.length
  ·rw [dec_lt lP,cond_true,if_pos (lQ lP)]
   refine step _ ?_
   rw [cT (n:=a.getD x 0) (by omega) (by omega),cT (n:=b.getD x 0) (by omega) (by omega),cT (n:=c+a.getD x 0) (by omega) (by omega),cT (by omega) (by omega)]
  ·have e:decide ((x:Int) < ((b.length:Nat):Int))=false:=by simp;omega
   rw [e,cond_false]
   refine step _ ?_
   have h0:b.getD x 0=0:=by rw [ee,oE (by omega)];rfl
   rw [cT (n:=a.getD x 0) (by omega) (by omega),cT (n:=c+a.getD x 0) (by omega) (by omega),h0];omega
theorem ON {N:Nat} {a b:List Int} (ha:U a) (hb:U b) (hl:b.length≤a.length) (hs:SM a.length) (hN:a.length+1 < N):pC N a b=some (lm (bL a+bL b).toNat):=by
 unfold pC
 simp only [SM] at hs
 rw [if_pos (by rw [bC (by omega) (by omega)];omega)]
 exact OM ha hb hl hs hN a.length 0 N _ 0 (by omega) (by omega) rfl (U.replicate 0) (by omega) (by omega) (by simp [bL])
theorem X7 {N:Nat} {a b:List Int} (ha:U a) (hb:U b) (hs:SM a.length) (Mh:SM b.length) (hN:a.length+1 < N) (hN2:b.length+1 < N):tK N a b=some (lm (bL a+bL b).toNat):=by
 unfold tK
 cases h:decide (((a.length:Nat):Int) < ((b.length:Nat):Int)) with
 | true =>
  simp at h
  rw [cond_true,ON hb ha (by omega) Mh hN2,Int.add_comm]
 | false =>
  simp at h
  rw [cond_false,ON ha hb (by omega) hs hN]
theorem OO {N a b:Nat} (hs:SM (lm a).length) (Mh:SM (lm b).length) (hN:(lm a).length+1 < N) (hN2:(lm b).length+1 < N):tK N (lm a) (lm b)=some (lm (a+b)):=by
 rw [X7 (rO a) (rO b) hs Mh hN hN2,gY,gY];congr 1
theorem Ls {N:Nat} {a b:List Int} (ha:U a) (hb:U b) (hl:b.length≤a.length) (hle:bL b≤bL a) (hs:SM a.length) (hN:a.length+1 < N):∀ (k x fuel:Nat) (out:List Int) (c:Int),x+k=a.length→k < fuel→out.length=a.length→U out→0≤c→c≤1 →
  (∀ j,x≤j→out.getD j 0=0)→bL out - pw x * c=bL (a.take x) - bL (b.take x)→gH N a b fuel out c (x:Int)=some (lm (bL a - bL b).toNat)
 | 0,x,fuel,out,c,hx,hf,ho,hU,uX,td,hz,hinv=>by
  obtain ⟨g,rfl⟩:∃ g,fuel=g+1:=⟨fuel - 1,by omega⟩
  have F5:x=a.length:=by omega
  subst F5
  simp only [SM] at hs
  rw [gH,fa,cond_false,mc hU (by omega) (by omega),bO]
  rw [List.take_length,je hl] at hinv
  have h1:=hU.lt
  rw [ho] at h1
  have hc:c=0:=by
   rcases Int.lt_or_le 0 c with h | h
   ·have:c=1:=by omega
    subst this;omega
   ·omega
  subst hc
  have:bL out=bL a - bL b:=by omega
  rw [this]
 | k+1,x,fuel,out,c,hx,hf,ho,hU,uX,td,hz,hinv=>by
  obtain ⟨g,rfl⟩:∃ g,fuel=g+1:=⟨fuel - 1,by omega⟩
  simp only [SM] at hs
  have xz:x < a.length:=by omega
  have h1:=ha.getD x
  have h2:=hb.getD x
  rw [gH,dec_lt xz,cond_true,if_pos (lQ xz)]
  simp only [aj]
  have hA:=cY a x xz
  have hB:bL (b.take (x+1))=bL (b.take x)+b.getD x 0 * pw x:=by
   by_cases h:x < b.length
   ·exact cY b x h
   ·rw [je (by omega),je (by omega),ee,oE (by omega)];simp
  have step:∀ y:Int,y=c+b.getD x 0→(nU N a b out (x:Int) (gH N a b g) y)=some (lm (bL a - bL b).toNat):=by
   intro y hy
   unfold nU
   have fin:∀ q:Int,0≤q→q≤1→0≤a.getD x 0+q * 65536 - y→a.getD x 0+q * 65536 - y < 65536→nT N a b out (x:Int) y (gH N a b g) q=some (lm (bL a - bL b).toNat):=by
    intro q EZ FK QB Y5
    unfold nT
    rw [if_pos ⟨by omega,by omega⟩,GQ (by omega) (by omega),aj,cT (n:=a.getD x 0) (by omega) (by omega),cT (n:=a.getD x 0+q * 65536) (by omega) (by omega),cT (by omega) (by omega),n5 (by omega) (by omega),bh (by omega)]
    refine Ls ha hb hl hle hs hN k (x+1) g _ _ (by omega) (by omega) (by simp [ho]) (hU.set x (by omega) (by omega)) EZ FK ?_ ?_
    ·intro j hj
     have:=hz j (by omega)
     rw [ee] at this ⊢
     rw [List.getElem?_set_ne (by omega)];exact this
    ·rw [mU _ _ _ (by omega),hz x (aP _),hA,hB,fT]
     have h3:(a.getD x 0+q * 65536 - y - 0) * pw x=a.getD x 0 * pw x+q * 65536 * pw x - y * pw x:=by rw [Int.sub_zero,Int.sub_mul,eF]
     have h4:y * pw x=c * pw x+b.getD x 0 * pw x:=by rw [hy,eF]
     have h5:q * 65536 * pw x=65536 * pw x * q:=by rw [gr q 65536,kL,kL,gr q]
     have h6:c * pw x=pw x * c:=gr _ _
     omega
   rw [aj,cT (n:=a.getD x 0) (by omega) (by omega)]
   cases ft:decide (a.getD x 0 < y) with
   | true=>have ft:=oG ft;rw [cond_true];exact fin 1 (by omega) (by omega) (by omega) (by omega)
   | false=>have ft:=lB ft;rw [cond_false];exact fin 0 (by omega) (by omega) (by omega) (by omega)
  by_cases lP:x < b.length
  ·rw [dec_lt lP,cond_true,if_pos (lQ lP)]
   refine step _ ?_
   rw [cT (n:=b.getD x 0) (by omega) (by omega),cT (by omega) (by omega)]
  ·have e:decide ((x:Int) < ((b.length:Nat):Int))=false:=by simp;omega
   rw [e,cond_false]
   refine step _ ?_
   have h0:b.getD x 0=0:=by rw [ee,oE (by omega)];rfl
   omega
theorem gM (n j:Nat):(List.replicate n (0:Int)).getD j 0=0:=by
 rw [ee,List.getElem?_replicate];split<;>rfl
theorem VG {N:Nat} {a b:List Int} (ha:U a) (hb:U b) (hl:b.length≤a.length) (hle:bL b≤bL a) (hs:SM a.length) (hN:a.length+1 < N):pD N a b=some (lm (bL a - bL b).toNat):=by
 unfold pD
 simp only [SM] at hs
 rw [if_pos (by omega)]
 exact Ls ha hb hl hle hs hN a.length 0 N _ 0 (by omega) (by omega) (by simp) (U.replicate _) (by omega) (by omega) (fun j _=>gM _ j) (by rw [jS];simp [bL])
theorem fh {a b:Nat} (h:a≤b):(lm a).length≤(lm b).length:=iq.2 (by have:=(iq (n:=b) (k:=(lm b).length)).1 (aP _);omega)
theorem GV {N a b:Nat} (T5:b≤a) (hs:SM (lm a).length) (hN:(lm a).length+1 < N):pD N (lm a) (lm b)=some (lm (a - b)):=by
 rw [VG (rO a) (rO b) (fh T5) (by rw [gY,gY];omega) hs hN,gY,gY]
 congr 2;omega
end Go.Den
namespace Go.Den
open Go.Ab
theorem getD_set_ne (l:List Int) {i j:Nat} (x:Int) (h:i≠j):(l.set i x).getD j 0=l.getD j 0:=by
 rw [ee,List.getElem?_set_ne h,← ee]
theorem Lv (l:List Int) {i:Nat} (x:Int) (h:i < l.length):(l.set i x).getD i 0=x:=by
 rw [ee,List.getElem?_set_self h];rfl
theorem uO {l:List Int} {i:Nat} (h:l.length≤i):l.getD i 0=0:=by
 rw [ee,oE h];rfl
theorem GW {x y:Int} (h1:0≤x) (h2:x < 65536) (h3:0≤y) (h4:y < 65536):0≤x * y∧x * y≤4294836225:=by
 refine ⟨Int.mul_nonneg h1 h3,?_⟩
 have:=Int.mul_le_mul (show x≤65535 by omega) (show y≤65535 by omega) h3 (by omega)
 omega
theorem Lw {N:Nat} {a b:List Int} {i:Nat} (ha:U a) (hb:U b) (hi:i < a.length) (hs:SM (a.length+b.length)) (K:List Int→Int→Option (List Int)) (R:Option (List Int))
  (hK:∀ out,out.length=a.length+b.length→U out→(∀ j,i+b.length < j→out.getD j 0=0)→bL out=bL (a.take (i+1)) * bL b→K out ((i+1:Nat):Int)=R) :
  ∀ (k x fuel:Nat) (out:List Int) (c:Int),x+k=b.length→k < fuel→out.length=a.length+b.length→U out→0≤c→c < 65536→(∀ j,i+b.length≤j→out.getD j 0=0) →
   bL out+pw (i+x) * c=bL (a.take i) * bL b+a.getD i 0 * pw i * bL (b.take x)→kX N a b (i:Int) K fuel out c (x:Int)=R
 | 0,x,fuel,out,c,hx,hf,ho,hU,uX,td,hz,hinv=>by
  obtain ⟨g,rfl⟩:∃ g,fuel=g+1:=⟨fuel - 1,by omega⟩
  have F5:x=b.length:=by omega
  subst F5
  simp only [SM] at hs
  have e:ao ((i:Int)+((b.length:Nat):Int))=((i+b.length:Nat):Int):=by rw [bC (by omega) (by omega)];omega
  rw [kX,fa,cond_false,e,if_pos (lQ (by omega)),aj,n5 uX td,bh (by omega)]
  refine hK _ (by simp [ho]) (hU.set _ uX td) (fun j hj=>?_) ?_
  ·rw [getD_set_ne _ _ (by omega)];exact hz j (by omega)
  ·rw [mU _ _ _ (by omega),hz _ (aP _),Int.sub_zero,cY a i hi,eF,gr c]
   rw [List.take_length] at hinv
   exact hinv
 | k+1,x,fuel,out,c,hx,hf,ho,hU,uX,td,hz,hinv=>by
  obtain ⟨g,rfl⟩:∃ g,fuel=g+1:=⟨fuel - 1,by omega⟩
  simp only [SM] at hs
  have xz:x < b.length:=by omega
  have h1:=ha.getD i
  have h2:=hb.getD x
  have h3:=hU.getD (i+x)
  have e:ao ((i:Int)+(x:Int))=((i+x:Nat):Int):=by rw [bC (by omega) (by omega)];omega
  have h4:=GW h1.1 h1.2 h2.1 h2.2
  rw [kX,dec_lt xz,cond_true,if_pos (lQ xz),e,if_pos (lQ (by omega))]
  simp only [aj]
  rw [cT (n:=a.getD i 0) (by omega) (by omega),cT (n:=b.getD x 0) (by omega) (by omega),cT (n:=out.getD (i+x) 0) (by omega) (by omega),cT (n:=a.getD i 0 * b.getD x 0) (by omega) (by omega),
   cT (n:=a.getD i 0 * b.getD x 0+out.getD (i+x) 0) (by omega) (by omega),cT (n:=c+(a.getD i 0 * b.getD x 0+out.getD (i+x) 0)) (by omega) (by omega),sD,Cj,bh (by omega)]
  generalize Mh:c+(a.getD i 0 * b.getD x 0+out.getD (i+x) 0)=s
  refine Lw ha hb hi hs K R hK k (x+1) g _ _ (by omega) (by omega) (by simp [ho]) (hU.set _ (by omega) (by omega)) (by omega) (by omega) (fun j hj=>?_) ?_
  ·rw [getD_set_ne _ _ (by omega)];exact hz j hj
  ·rw [mU _ _ _ (by omega),cY b x xz,show i+(x+1)=(i+x)+1 by omega,fT]
   have h5:s=s % 65536+65536 * (s / 65536):=by omega
   have h6:pw (i+x) * s=pw (i+x) * (s % 65536)+pw (i+x) * (65536 * (s / 65536)):=by rw [← g7,← h5]
   have h7:pw (i+x) * s=pw (i+x) * c+pw (i+x) * (a.getD i 0 * b.getD x 0)+pw (i+x) * out.getD (i+x) 0:=by rw [← Mh,g7,g7];omega
   have h8:65536 * pw (i+x) * (s / 65536)=pw (i+x) * (65536 * (s / 65536)):=by rw [gr 65536,kL]
   have h9:(s % 65536 - out.getD (i+x) 0) * pw (i+x)=pw (i+x) * (s % 65536) - pw (i+x) * out.getD (i+x) 0:=by rw [Int.sub_mul,gr,gr (out.getD (i+x) 0)]
   have h10:a.getD i 0 * pw i * (bL (b.take x)+b.getD x 0 * pw x)=a.getD i 0 * pw i * bL (b.take x)+pw (i+x) * (a.getD i 0 * b.getD x 0):=by
    rw [GS];grind
   omega
theorem Lx {N:Nat} {a b:List Int} (ha:U a) (hb:U b) (hs:SM (a.length+b.length)) (hN:a.length+b.length < N):∀ (k x fuel:Nat) (out:List Int),x+k=a.length→k < fuel→out.length=a.length+b.length→U out →
  (∀ j,x+b.length≤j→out.getD j 0=0)→bL out=bL (a.take x) * bL b→kY N a b fuel out (x:Int)=some (lm (bL a * bL b).toNat)
 | 0,x,fuel,out,hx,hf,ho,hU,hz,hinv=>by
  obtain ⟨g,rfl⟩:∃ g,fuel=g+1:=⟨fuel - 1,by omega⟩
  have F5:x=a.length:=by omega
  subst F5
  simp only [SM] at hs
  rw [kY,fa,cond_false,mc hU (by omega) (by omega),bO,hinv,List.take_length]
 | k+1,x,fuel,out,hx,hf,ho,hU,hz,hinv=>by
  obtain ⟨g,rfl⟩:∃ g,fuel=g+1:=⟨fuel - 1,by omega⟩
  have xz:x < a.length:=by omega
  rw [kY,dec_lt xz,cond_true,if_pos (lQ xz)]
  refine Lw ha hb xz hs _ _ (fun fY h1 h2 h3 h4=>?_) b.length 0 N out 0 (by omega) (by omega) ho hU (by omega) (by omega) hz (by rw [hinv];simp [bL])
  exact Lx ha hb hs hN k (x+1) g fY (by omega) (by omega) h1 h2 (fun j hj=>h3 j (by omega)) h4
theorem VH {N:Nat} {a b:List Int} (ha:U a) (hb:U b) (hs:SM (a.length+b.length)) (hN:a.length+b.length < N):tn N a b=some (lm (bL a * bL b).toNat):=by
 unfold tn
 have H6:=hs
 simp only [SM] at H6
 have e:ao (((a.length:Nat):Int)+((b.length:Nat):Int))=((a.length+b.length:Nat):Int):=by rw [bC (by omega) (by omega)];omega
 rw [e,if_pos (by omega)]
 exact Lx ha hb hs hN a.length 0 N _ (by omega) (by omega) (by simp;omega) (U.replicate _) (fun j _=>gM _ j) (by rw [jS];simp [bL])
theorem vu (a b:Nat):((a:Int) * (b:Int)).toNat=a * b:=by rw [← Int.natCast_mul];rfl
theorem Sk {N a b:Nat} (hs:SM ((lm a).length+(lm b).length)) (hN:(lm a).length+(lm b).length < N):tn N (lm a) (lm b)=some (lm (a * b)):=by
 rw [VH (rO a) (rO b) hs hN,gY,gY,vu]
theorem Ly {N:Nat} {a:List Int} {d:Int} (ha:U a) (QB:0 < d) (Y5:d < 65536) (hs:SM a.length) (hN:a.length < N):∀ (k fuel:Nat) (q:List Int) (r:Int),k≤a.length→k < fuel→q.length=a.length→U q→0≤r→r < d →
  (∀ j,j < k→q.getD j 0=0)→pw k * bL (a.drop k)=bL q * d+r * pw k→∃ Q R:Int,0≤Q∧0≤R∧R < d∧bL a=Q * d+R∧kR N a d fuel q r ((k:Int) - 1)=some (lm Q.toNat,R)
 | 0,fuel,q,r,hk,hf,ho,hU,H7,Sl,hz,hinv=>by
  obtain ⟨g,rfl⟩:∃ g,fuel=g+1:=⟨fuel - 1,by omega⟩
  simp only [SM] at hs
  refine ⟨bL q,r,hU.pe,H7,Sl,by rw [zV] at hinv;simpa using hinv,?_⟩
  rw [kR]
  have e:decide ((((0:Nat):Int) - 1)≥0)=false:=rfl
  rw [e,cond_false,mc hU (by omega) (by omega),bO,n5 H7 (by omega)]
 | k+1,fuel,q,r,hk,hf,ho,hU,H7,Sl,hz,hinv=>by
  obtain ⟨g,rfl⟩:∃ g,fuel=g+1:=⟨fuel - 1,by omega⟩
  simp only [SM] at hs
  have e:(((k+1:Nat):Int) - 1)=(k:Int):=by omega
  have h1:=ha.getD k
  have e0:decide ((k:Int)≥0)=true:=by simp
  rw [e,kR,e0,cond_true,if_pos (lQ (by omega)),cT (n:=d) (by omega) (by omega),if_pos (by omega),if_pos (lQ (by omega))]
  simp only [aj]
  rw [cT (n:=a.getD k 0) (by omega) (by omega),GQ H7 (by omega),OI H7 (by omega) h1.1 h1.2,bC (by omega) (by omega)]
  have Ms:0≤r * 65536+a.getD k 0:=by omega
  have Hv:r * 65536+a.getD k 0 < d * 65536:=by omega
  generalize hn:r * 65536+a.getD k 0=n at Ms Hv ⊢
  rw [Int.tdiv_eq_ediv_of_nonneg Ms,Int.tmod_eq_emod_of_nonneg Ms]
  have FK:n / d < 65536:=Int.ediv_lt_of_lt_mul QB (by rw [gr];exact Hv)
  have EZ:0≤n / d:=Int.ediv_nonneg Ms (by omega)
  rw [cT EZ (by omega),n5 EZ FK]
  refine Ly ha QB Y5 hs hN k g _ _ (by omega) (by omega) (by simp [ho]) (hU.set _ EZ FK) (Int.emod_nonneg _ (by omega)) (Int.emod_lt_of_pos _ QB) (fun j hj=>?_) ?_
  ·rw [getD_set_ne _ _ (by omega)];exact hz j (by omega)
  ·rw [mU _ _ _ (by omega),hz k (by omega),Int.sub_zero,nD a k (by omega)]
   have h2:=Int.mul_ediv_add_emod n d
   rw [fT] at hinv
   have h3:pw k * n=pw k * (d * (n / d))+pw k * (n % d):=by rw [← g7,h2]
   have h4:pw k * n=pw k * (r * 65536)+pw k * a.getD k 0:=by rw [← hn,g7]
   grind
theorem Sm {N a d:Nat} (QB:0 < d) (Y5:d < 65536) (hs:SM (lm a).length) (hN:(lm a).length < N):vS N (lm a) (d:Int)=some (lm (a / d),((a % d:Nat):Int)):=by
 unfold vS
 have H6:=hs
 simp only [SM] at H6
 rw [if_pos (by omega),bC (by omega) (by omega)]
 obtain ⟨Q,R,h1,h2,h3,h4,h5⟩:=Ly (N:=N) (d:=(d:Int)) (rO a) (by omega) (by omega) hs hN (lm a).length N (List.replicate (lm a).length 0) 0 (aP _) hN (by simp) (U.replicate _) (by omega) (by omega) (fun j _=>gM _ j)
  (by rw [List.drop_length,jS];simp [bL])
 rw [h5]
 rw [gY] at h4
 obtain ⟨Q,rfl⟩:=Int.eq_ofNat_of_zero_le h1
 obtain ⟨R,rfl⟩:=Int.eq_ofNat_of_zero_le h2
 have h6:a=Q * d+R:=by exact_mod_cast h4
 have h7:R < d:=by omega
 have h8:a / d=Q:=by rw [h6,oI,Nat.mul_add_div QB,Nat.div_eq_of_lt h7];rfl
 have h9:a % d=R:=by rw [h6,oI,Nat.mul_add_mod,Nat.mod_eq_of_lt h7]
 rw [h8,h9];rfl
theorem GX {N:Nat}:∀ (fuel n:Nat) (out:List Int),(lm n).length < fuel→out.length+(lm n).length < 1000→n < 18446744073709551616→j5 N fuel (n:Int) out=some (out ++ lm n)
 | 0,n,out,h,_,_=>by omega
 | fuel+1,n,out,h,h2,h3=>by
  rw [j5]
  by_cases hn:n=0
  ·subst hn;rw [fU];simp
  ·have e:decide ((n:Int) > 0)=true:=by simp;omega
   rw [pf hn] at h h2
   simp only [qO] at h h2
   rw [e,cond_true,if_pos (by omega),GP,sD]
   have e1:((n:Int) / 65536)=((n / 65536:Nat):Int):=by omega
   have e2:((n:Int) % 65536)=((n % 65536:Nat):Int):=by omega
   rw [e1,e2,GX fuel (n / 65536) _ (by omega) (by simp;omega) (by omega),pf hn,wP];rfl
theorem Lz {n:Nat} (h:n < 18446744073709551616):(lm n).length≤4:=iq.2 (by show (n:Int) < 65536 ^ 4;omega)
theorem Bh {N n:Nat} (hN:4 < N) (h:n < 18446744073709551616):na N (n:Int)=some (lm n):=by
 unfold na
 have:=Lz h
 rw [GX N n [] (by omega) (by simp;omega) h];rfl
theorem LC {N:Nat}:∀ (fuel n:Nat) (out:List Int),(lm n).length < fuel→out.length+(lm n).length < 1000→n < 18446744073709551616→l6 N fuel (n:Int) out=some (out ++ lm n)
 | 0,n,out,h,_,_=>by omega
 | fuel+1,n,out,h,h2,h3=>by
  rw [l6]
  by_cases hn:n=0
  ·subst hn;rw [fU];simp
  ·have e:decide ((n:Int) > 0)=true:=by simp;omega
   rw [pf hn] at h h2
   simp only [qO] at h h2
   rw [e,cond_true,if_pos (by omega),GP,Lq (by omega) (by omega),sD]
   have e1:((n:Int) / 65536)=((n / 65536:Nat):Int):=by omega
   have e2:((n:Int) % 65536 % 65536)=((n % 65536:Nat):Int):=by omega
   rw [e1,e2,LC fuel (n / 65536) _ (by omega) (by simp;omega) (by omega),pf hn,wP];rfl
theorem LD {N n:Nat} (hN:4 < N) (h:n < 18446744073709551616):tq N (n:Int)=some (lm n):=by
 unfold tq
 have:=Lz h
 rw [LC N n [] (by omega) (by simp;omega) h];rfl
theorem OP {N:Nat} {a:List Int} (ha:U a) (hs:a.length≤4):∀ (k fuel:Nat) (r:Int),k≤a.length→k < fuel→0≤r→r < pw (4 - k)→bL (a.drop k)=r→lS N a fuel r ((k:Int) - 1)=some (bL a,true)
 | 0,fuel,r,hk,hf,H7,Sl,hinv=>by
  obtain ⟨g,rfl⟩:∃ g,fuel=g+1:=⟨fuel - 1,by omega⟩
  rw [lS]
  have e:decide ((((0:Nat):Int) - 1)≥0)=false:=rfl
  rw [e,cond_false,← hinv,List.drop_zero]
 | k+1,fuel,r,hk,hf,H7,Sl,hinv=>by
  obtain ⟨g,rfl⟩:∃ g,fuel=g+1:=⟨fuel - 1,by omega⟩
  have e:(((k+1:Nat):Int) - 1)=(k:Int):=by omega
  have h1:=ha.getD k
  have e0:decide ((k:Int)≥0)=true:=by simp
  have hp:pw (4 - k)=65536 * pw (4 - (k+1)):=by rw [← fT];congr 1;omega
  have hle:pw (4 - (k+1))≤281474976710656:=by
   have:k=0∨k=1∨k=2∨k=3:=by omega
   rcases this with rfl | rfl | rfl | rfl<;>decide
  rw [e,lS,e0,cond_true,if_pos (lQ (by omega)),aj,gP (n:=a.getD k 0) (by omega) (by omega),GR H7 (by omega),J3 H7 (by omega) h1.1 h1.2,bC (by omega) (by omega)]
  refine OP ha hs k g _ (by omega) (by omega) (by omega) (by omega) ?_
  rw [nD a k (by omega),hinv];omega
theorem OQ {N a:Nat} (hN:5 < N) (hs:SM (lm a).length):vR N (lm a)=some (if (lm a).length≤4 then ((a:Int),true) else (0,false)):=by
 unfold vR
 by_cases h:(lm a).length≤4
 ·rw [if_pos h]
  have e:decide ((((lm a).length:Nat):Int) > 4)=false:=by simp;omega
  rw [e,cond_false,bC (by omega) (by omega),OP (rO a) h (lm a).length N 0 (aP _) (by omega) (by omega) (kH _) (by rw [List.drop_length];rfl),gY]
 ·rw [if_neg h]
  have e:decide ((((lm a).length:Nat):Int) > 4)=true:=by simp;omega
  rw [e];rfl
end Go.Den
namespace Go.Den
open Go.Ab
theorem Sn:∀ x:Fin 256,(match cM 0 ((x.val:Nat):Int) 0 with | some L=>decide (0≤L∧L≤8∧(x.val≠0→1≤L∧2 ^ (L.toNat - 1)≤x.val∧x.val < 2 ^ L.toNat)) | none=>false)=true:=by decide +kernel
theorem So:∀ x:Fin 256,(match cM 0 ((x.val:Nat):Int) 8 with | some L=>decide (8≤L∧L≤16∧(x.val≠0→9≤L∧2 ^ (L.toNat - 1 - 8)≤x.val∧x.val < 2 ^ (L.toNat - 8))) | none=>false)=true:=by decide +kernel
theorem Sp {N x:Nat} (h0:0 < x) (h1:x < 65536):∃ L:Nat,1≤L∧L≤16∧kS N (x:Int)=some (L:Int)∧2 ^ (L - 1)≤x∧x < 2 ^ L:=by
 unfold kS
 by_cases h:x < 256
 ·have e:decide ((x:Int)≥256)=false:=by simp;omega
  rw [e,cond_false]
  have:=Sn ⟨x,h⟩
  simp only at this
  show ∃ L:Nat,1≤L∧L≤16∧cM 0 (x:Int) 0=some (L:Int)∧2 ^ (L - 1)≤x∧x < 2 ^ L
  cases hr:cM 0 (x:Int) 0 with
  | none=>rw [hr] at this;cases this
  | some L =>
   rw [hr] at this
   obtain ⟨q1,q2,q3⟩:=oG this
   obtain ⟨q4,q5,q6⟩:=q3 (by omega)
   obtain ⟨L,rfl⟩:=Int.eq_ofNat_of_zero_le q1
   exact ⟨L,by omega,by omega,rfl,q5,q6⟩
 ·have e:decide ((x:Int)≥256)=true:=by simp;omega
  rw [e,cond_true]
  have e2:ot .u16 (x:Int) 8=((x / 256:Nat):Int):=by
   unfold ot
   have:(2:Int) ^ (min (8:Int).toNat IntKind.u16.bits)=256:=by decide
   rw [this,Int.fdiv_eq_ediv_of_nonneg _ (by decide)];omega
  rw [e2]
  have:=So ⟨x / 256,by omega⟩
  simp only at this
  have hJ:cM N ((x / 256:Nat):Int) 8=cM 0 ((x / 256:Nat):Int) 8:=rfl
  rw [hJ]
  cases hr:cM 0 ((x / 256:Nat):Int) 8 with
  | none=>rw [hr] at this;cases this
  | some L =>
   rw [hr] at this
   obtain ⟨q1,q2,q3⟩:=oG this
   obtain ⟨q4,q5,q6⟩:=q3 (by omega)
   obtain ⟨L,rfl⟩:=Int.eq_ofNat_of_zero_le (show 0≤L by omega)
   simp only [Int.toNat_natCast] at q5 q6
   refine ⟨L,by omega,by omega,rfl,?_,?_⟩
   ·have:2 ^ (L - 1 - 8+8)=2 ^ (L - 1 - 8) * 2 ^ 8:=Nat.pow_add _ _ _
    have h8:(2:Nat) ^ 8=256:=by decide
    have h9:L - 1 - 8+8=L - 1:=by omega
    rw [h8,h9] at this
    omega
   ·have:2 ^ (L - 8+8)=2 ^ (L - 8) * 2 ^ 8:=Nat.pow_add _ _ _
    have h8:(2:Nat) ^ 8=256:=by decide
    have h9:L - 8+8=L:=by omega
    rw [h8,h9] at this
    omega
theorem aaw {N x:Nat} (h0:0 < x) (h1:x < 65536):∃ s:Nat,s≤15∧fc N (x:Int)=some (s:Int)∧32768≤x * 2 ^ s∧x * 2 ^ s < 65536:=by
 obtain ⟨L,h2,h3,h4,h5,h6⟩:=Sp (N:=N) h0 h1
 refine ⟨16 - L,by omega,?_,?_,?_⟩
 ·unfold fc
  rw [h4,bO,bC (by omega) (by omega)];congr 1;omega
 ·have e:2 ^ (L - 1) * 2 ^ (16 - L)=32768:=by rw [← Nat.pow_add,show L - 1+(16 - L)=15 by omega]
  have:=dC (2 ^ (16 - L)) h5
  omega
 ·have e:2 ^ L * 2 ^ (16 - L)=65536:=by rw [← Nat.pow_add,show L+(16 - L)=16 by omega]
  have:=Nat.mul_lt_mul_of_pos_right h6 (Nat.two_pow_pos (16 - L))
  omega
theorem X8 {n:Int} {s:Nat} (h:0≤n) (h2:n < 65536) (hs:s≤15):iK .u32 n (s:Int)=n * 2 ^ s∧0≤n * 2 ^ s∧n * 2 ^ s < 65536 * 2 ^ s∧n * 2 ^ s < 2147483648:=by
 have hp:(0:Int) < 2 ^ s:=Int.pow_pos (by decide)
 have vE:(2:Int) ^ s≤32768:=by
  have:=Nat.pow_le_pow_right (n:=2) (by decide) hs
  have e:((2 ^ s:Nat):Int)=(2:Int) ^ s:=by simp
  omega
 have h3:0≤n * 2 ^ s:=Int.mul_nonneg h (by omega)
 have h4:n * 2 ^ s < 65536 * 2 ^ s:=Int.mul_lt_mul_of_pos_right h2 hp
 refine ⟨?_,h3,h4,by omega⟩
 unfold iK
 have:min ((s:Nat):Int).toNat IntKind.u32.bits=s:=by show min s 32=s;omega
 rw [this,cT h3 (by omega)]
theorem X9 {c a:Int} {s:Nat} (hs:s≤15) (uX:0≤c) (td:c < 2 ^ s) (ha0:0≤a):vM .u16 c (a * 2 ^ s % 65536)=c+a * 2 ^ s % 65536∧c+a * 2 ^ s % 65536 < 65536:=by
 obtain ⟨c,rfl⟩:=Int.eq_ofNat_of_zero_le uX
 obtain ⟨a,rfl⟩:=Int.eq_ofNat_of_zero_le ha0
 have hc:c < 2 ^ s:=by
  have e:((2 ^ s:Nat):Int)=(2:Int) ^ s:=by simp
  omega
 have hp:2 ^ s≤32768:=Nat.pow_le_pow_right (n:=2) (by decide) hs
 have e1:(a:Int) * 2 ^ s % 65536=((a * 2 ^ s % 65536:Nat):Int):=by simp
 have e2:a * 2 ^ s % 65536=a % 2 ^ (16 - s) * 2 ^ s:=by
  have:65536=2 ^ (16 - s) * 2 ^ s:=by rw [← Nat.pow_add,show 16 - s+s=16 by omega]
  rw [this,Nat.mul_mod_mul_right]
 have e3:a % 2 ^ (16 - s) * 2 ^ s+2 ^ s≤65536:=by
  have h1:a % 2 ^ (16 - s)+1≤2 ^ (16 - s):=Nat.mod_lt _ (Nat.two_pow_pos _)
  have h2:=dC (2 ^ s) h1
  rw [← Nat.pow_add,show 16 - s+s=16 by omega,ca] at h2
  omega
 rw [e1,e2]
 generalize a % 2 ^ (16 - s)=m at *
 constructor
 ·unfold vM
  rw [show IntKind.u16.bits=16 from rfl,Sj _ _ (by omega) (by omega),Nat.or_comm,Bg _ _ s hc,sD]
  omega
 ·omega
theorem GY {N:Nat} {a:List Int} {s:Nat} (ha:U a) (hs:s≤15) (hS:SM a.length):∀ (k x fuel:Nat) (out:List Int),x+k=a.length→k < fuel→out.length=a.length+1→U out→out.getD x 0 < 2 ^ s→(∀ j,x < j→out.getD j 0=0) →
  bL out=bL (a.take x) * 2 ^ s→∃ o,iP N a (s:Int) fuel out (x:Int)=some o∧o.length=a.length+1∧U o∧bL o=bL a * 2 ^ s∧o.getD a.length 0 < 2 ^ s
 | 0,x,fuel,out,hx,hf,ho,hU,hc,hz,hinv=>by
  obtain ⟨g,rfl⟩:∃ g,fuel=g+1:=⟨fuel - 1,by omega⟩
  have F5:x=a.length:=by omega
  subst F5
  exact ⟨out,by rw [iP,fa,cond_false],ho,hU,by rw [hinv,List.take_length],hc⟩
 | k+1,x,fuel,out,hx,hf,ho,hU,hc,hz,hinv=>by
  obtain ⟨g,rfl⟩:∃ g,fuel=g+1:=⟨fuel - 1,by omega⟩
  simp only [SM] at hS
  have xz:x < a.length:=by omega
  have h1:=ha.getD x
  have h2:=hU.getD x
  obtain ⟨w1,w2,w3,w4⟩:=X8 h1.1 h1.2 hs
  obtain ⟨o1,o2⟩:=X9 hs h2.1 hc h1.1
  rw [iP,dec_lt xz,cond_true,if_pos (lQ xz),if_pos (by omega),if_pos (lQ (by omega)),bh (by omega)]
  simp only [aj]
  rw [cT (n:=a.getD x 0) (by omega) (by omega),w1,sD,Cj,sD,o1]
  rw [if_pos ⟨by omega,by simp;omega⟩]
  generalize hw:a.getD x 0 * 2 ^ s=w at *
  have hw5:w / 65536 < 2 ^ s:=by omega
  have hw6:w / 65536 % 65536=w / 65536:=by omega
  rw [hw6]
  have hU1:U (out.set x (out.getD x 0+w % 65536)):=hU.set x (by omega) o2
  refine GY ha hs hS k (x+1) g _ (by omega) (by omega) (by simp [ho]) (hU1.set (x+1) (by omega) (by omega)) ?_ (fun j hj=>?_) ?_
  ·rw [Lv _ _ (by simp;omega)];exact hw5
  ·rw [getD_set_ne _ _ (by omega),getD_set_ne _ _ (by omega)];exact hz j (by omega)
  ·rw [mU _ _ _ (by simp;omega),getD_set_ne _ _ (by omega),hz (x+1) (by omega),mU _ _ _ (by omega),cY a x xz,hinv,fT,eF]
   have h3:w=w % 65536+65536 * (w / 65536):=by omega
   have h4:w * pw x=(w % 65536+65536 * (w / 65536)) * pw x:=by rw [← h3]
   have h5:a.getD x 0 * pw x * 2 ^ s=w * pw x:=by rw [← hw];grind
   grind
theorem GZ {N:Nat} {a:List Int} {s:Nat} (ha:U a) (hs:s≤15) (hS:SM a.length) (hN:a.length < N):∃ o,py N a (s:Int)=some o∧o.length=a.length+1∧U o∧bL o=bL a * 2 ^ s∧o.getD a.length 0 < 2 ^ s:=by
 unfold py
 have W6:=hS
 simp only [SM] at W6
 have e:ao (((a.length:Nat):Int)+1)=((a.length+1:Nat):Int):=bh (by omega)
 rw [e,if_pos (by omega)]
 exact GY ha hs hS a.length 0 N _ (by omega) hN (by simp) (U.replicate _) (by rw [gM];exact Int.pow_pos (by decide)) (fun j _=>gM _ j) (by rw [jS];simp [bL])
theorem rj (p w:List Int) (i:Nat):(p ++ w).getD (bQ p.length i) 0=w.getD i 0:=by
 rw [dq,ee,gF (by omega),ee];congr 2;omega
theorem J4 (p w:List Int) (i:Nat) (x:Int):(p ++ w).set (bQ p.length i) x=p ++ w.set i x:=by
 rw [dq,List.set_append_right _ _ (by omega)];congr 2;omega
theorem tu:∀ {l:List Int} (m:Nat),(∀ j,m≤j→l.getD j 0=0)→bL l=bL (l.take m)
 | [],m,_=>by simp
 | x :: l,0,h=>by
  have h0:x=0:=h 0 (aP _)
  have:=tu (l:=l) 0 fun j _=>h (j+1) (by omega)
  simp [bL] at this;simp [bL,h0,this]
 | x :: l,m+1,h=>by
  have:=tu (l:=l) m fun j hj=>h (j+1) (by omega)
  simp only [List.take_succ_cons,bL,this]
theorem LF {l:List Int} (hU:U l) (m:Nat) (h:∀ j,m≤j→l.getD j 0=0):bL l < pw m:=by
 rw [tu m h]
 have h1:=(hU.take m).lt
 rw [oH] at h1
 by_cases hm:m≤l.length
 ·rwa [Nat.min_eq_left hm] at h1
 ·rw [Nat.min_eq_right (by omega)] at h1
  have:pw m=pw l.length * pw (m - l.length):=by rw [← GS];congr 1;omega
  have h2:=kH (m - l.length)
  have h3:=sM (show 1≤pw (m - l.length) by omega) (Int.le_of_lt (kH l.length))
  omega
theorem G0 {l:List Int} (hU:U l) (m:Nat) (h:bL l < pw m):∀ j,m≤j→l.getD j 0=0:=by
 intro j hj
 by_cases hl:j < l.length
 ·have h1:=qW l j (by omega)
  have h2:=nD l j hl
  have h3:=(hU.take j).pe
  have h4:=(hU.drop (j+1)).pe
  have h5:=hU.getD j
  have h6:pw m≤pw j:=by
   have:pw j=pw m * pw (j - m):=by rw [← GS];congr 1;omega
   have h2:=kH (j - m)
   have h3:=sM (show 1≤pw (j - m) by omega) (Int.le_of_lt (kH m))
   omega
  have h7:¬ 0 < bL (l.drop j):=fun h0=>by
   have:=sM (show 1≤bL (l.drop j) by omega) (Int.le_of_lt (kH j))
   omega
  omega
 ·exact uO (by omega)
theorem LG {N:Nat} {p v:List Int} {q:Int} (hv:U v) (EZ:0≤q) (FK:q < 65536) (hS:SM v.length) (W:Int) :
  ∀ (k x fuel:Nat) (w:List Int) (c br:Int),x+k=v.length+1→k < fuel→v.length+1≤w.length→U w→0≤c→c < 65536→(x=v.length+1→c=0)→(br=0∨br = -1)→(∀ j,v.length+1≤j→w.getD j 0=0) →
   bL w=W - q * bL (v.take x)+pw x * (c - br)→∃ (w':List Int) (VI:Int),w'.length=w.length∧U w'∧(VI=0∨VI = -1)∧(∀ j,v.length+1≤j→w'.getD j 0=0)∧bL w'=W - q * bL v - pw (v.length+1) * VI ∧
    fQ N p.length (v.length+1) v q fuel (p ++ w) c br (x:Int)=cond (decide (VI < 0)) (iy N p.length (v.length+1) v q N (p ++ w') 0 0) (kT N (p ++ w') q)
 | 0,x,fuel,w,c,br,hx,hf,hw,hU,uX,td,Fm,hbr,hz,hinv=>by
  obtain ⟨g,rfl⟩:∃ g,fuel=g+1:=⟨fuel - 1,by omega⟩
  have F5:x=v.length+1:=by omega
  subst F5
  simp only [SM] at hS
  rw [Fm rfl] at hinv
  refine ⟨w,br,rfl,hU,hbr,hz,?_,by rw [fQ,bh (by omega),fa,cond_false]⟩
  rw [hinv,je (by omega),Int.zero_sub,Int.mul_neg];omega
 | k+1,x,fuel,w,c,br,hx,hf,hw,hU,uX,td,Fm,hbr,hz,hinv=>by
  obtain ⟨g,rfl⟩:∃ g,fuel=g+1:=⟨fuel - 1,by omega⟩
  simp only [SM] at hS
  have xz:x < v.length+1:=by omega
  have h1:=hU.getD x
  have hlen:(p ++ w).length=p.length+w.length:=mN
  have step:∀ y:Int,0≤y→y < 4294967296→(x=v.length→y < 65536)→y=q * v.getD x 0+c →
    ∃ (w':List Int) (VI:Int),w'.length=w.length∧U w'∧(VI=0∨VI = -1)∧(∀ j,v.length+1≤j→w'.getD j 0=0)∧bL w'=W - q * bL v - pw (v.length+1) * VI ∧
    nQ N p.length (v.length+1) v q (p ++ w) br (x:Int) (fQ N p.length (v.length+1) v q g) y=cond (decide (VI < 0)) (iy N p.length (v.length+1) v q N (p ++ w') 0 0) (kT N (p ++ w') q):=by
   intro y NP hy1 Hy hy
   unfold nQ
   rw [if_pos (lQ xz),if_pos (by omega)]
   simp only [aj]
   rw [rj,Lq NP (by omega),bC (n:=w.getD x 0) (by omega) (by omega),bC (n:=y % 65536) (by omega) (by omega),bC (n:=w.getD x 0 - y % 65536) (by omega) (by omega),
    bC (n:=w.getD x 0 - y % 65536+br) (by omega) (by omega),sD,GP,P1,bh (by omega),J4]
   generalize hd:w.getD x 0 - y % 65536+br=d
   have Y5:-65536≤d∧d < 65536:=by omega
   have:=LG (N:=N) (p:=p) hv EZ FK hS W k (x+1) g (w.set x (d % 65536)) (y / 65536) (d / 65536) (by omega) (by omega) (by simp;omega) (hU.set _ (by omega) (by omega)) (by omega) (by omega) (fun h=>by have:=Hy (by omega);omega) (by omega) (fun j hj=>?_) ?_
   ·rwa [List.length_set] at this
   ·rw [getD_set_ne _ _ (by omega)];exact hz j hj
   ·rw [mU _ _ _ (by omega),hinv,fT]
    have hV:bL (v.take (x+1))=bL (v.take x)+v.getD x 0 * pw x:=by
     by_cases h:x < v.length
     ·exact cY v x h
     ·rw [je (by omega),je (by omega),uO (by omega)];simp
    rw [hV]
    have h5:d=d % 65536+65536 * (d / 65536):=by omega
    have h6:y=y % 65536+65536 * (y / 65536):=by omega
    have h7:d * pw x=(d % 65536) * pw x+65536 * (d / 65536) * pw x:=by rw [← eF,← h5]
    have h8:y * pw x=(y % 65536) * pw x+65536 * (y / 65536) * pw x:=by rw [← eF,← h6]
    have h9:d * pw x=w.getD x 0 * pw x - (y % 65536) * pw x+br * pw x:=by rw [← hd,eF,Int.sub_mul]
    have h10:y * pw x=q * (v.getD x 0 * pw x)+c * pw x:=by rw [hy,eF,kL]
    grind
  rw [fQ,bh (by omega),dec_lt xz,cond_true]
  by_cases hxv:x < v.length
  ·have h2:=hv.getD x
   have h3:0≤q * v.getD x 0∧q * v.getD x 0≤4294836225:=GW EZ FK h2.1 h2.2
   rw [dec_lt hxv,cond_true,if_pos (lQ hxv),aj]
   refine step _ ?_ ?_ (fun h=>by omega) ?_<;>rw [gP (n:=v.getD x 0) (by omega) (by omega),gP (n:=q * v.getD x 0) (by omega) (by omega),gP (by omega) (by omega)]<;>omega
  ·have e:decide ((x:Int) < ((v.length:Nat):Int))=false:=by simp;omega
   rw [e,cond_false]
   refine step c uX (by omega) (fun _=>td) ?_
   rw [uO (show v.length≤x by omega)];simp
theorem LH {N:Nat} {p v:List Int} {q:Int} (hv:U v) (EZ:0 < q) (FK:q < 65536) (hS:SM v.length) (W:Int) (hV0:0≤W - (q - 1) * bL v) (hV1:W - (q - 1) * bL v < pw v.length) :
  ∀ (k x fuel:Nat) (w:List Int) (c:Int),x+k=v.length→k < fuel→v.length+1≤w.length→U w→0≤c→c≤1→(∀ j,v.length+1≤j→w.getD j 0=0) →
   bL w=W - q * bL v+pw (v.length+1)+bL (v.take x) - pw x * c→∃ w',iy N p.length (v.length+1) v q fuel (p ++ w) c (x:Int)=some (q - 1,p ++ w')∧w'.length=w.length∧U w'∧bL w'=W - (q - 1) * bL v
 | 0,x,fuel,w,c,hx,hf,hw,hU,uX,td,hz,hinv=>by
  obtain ⟨g,rfl⟩:∃ g,fuel=g+1:=⟨fuel - 1,by omega⟩
  have F5:x=v.length:=by omega
  subst F5
  simp only [SM] at hS
  have h1:=hU.getD v.length
  have hlen:(p ++ w).length=p.length+w.length:=mN
  rw [List.take_length] at hinv
  rw [iy,fa,cond_false,if_pos (by omega),if_pos (by omega),rj,J4,n5 uX (by omega),sD]
  unfold kT
  rw [gP (by omega) (by omega),n5 (by omega) (by omega)]
  generalize hd:w.getD v.length 0+c=d
  have hU2:U (w.set v.length (d % 65536)):=hU.set _ (by omega) (by omega)
  refine ⟨_,rfl,by simp,hU2,?_⟩
  have h2:=mU w v.length (d % 65536) (by omega)
  have h3:d % 65536=d - 65536 * (d / 65536):=by omega
  have h4:bL (w.set v.length (d % 65536))=W - (q - 1) * bL v+(1 - d / 65536) * pw (v.length+1):=by
   rw [h2,hinv,fT,h3,← hd];grind
  have h5:d / 65536=0∨d / 65536=1:=by omega
  rcases h5 with h5 | h5
  ·have h6:=LF hU2 (v.length+1) (fun j hj=>by rw [getD_set_ne _ _ (by omega)];exact hz j hj)
   rw [h4,h5] at h6;omega
  ·rw [h4,h5];simp
 | k+1,x,fuel,w,c,hx,hf,hw,hU,uX,td,hz,hinv=>by
  obtain ⟨g,rfl⟩:∃ g,fuel=g+1:=⟨fuel - 1,by omega⟩
  simp only [SM] at hS
  have xz:x < v.length:=by omega
  have h1:=hU.getD x
  have h2:=hv.getD x
  have hlen:(p ++ w).length=p.length+w.length:=mN
  rw [iy,dec_lt xz,cond_true,if_pos (lQ (by omega)),if_pos (by omega),if_pos (lQ xz)]
  simp only [aj]
  rw [rj,cT (n:=w.getD x 0) (by omega) (by omega),cT (n:=v.getD x 0) (by omega) (by omega),cT (n:=w.getD x 0+v.getD x 0) (by omega) (by omega),cT (n:=c+(w.getD x 0+v.getD x 0)) (by omega) (by omega),
   sD,Cj,bh (by omega),J4]
  generalize hd:c+(w.getD x 0+v.getD x 0)=d
  obtain ⟨w',q1,q2,q3,q4⟩:=LH (N:=N) (p:=p) hv EZ FK hS W hV0 hV1 k (x+1) g (w.set x (d % 65536)) (d / 65536) (by omega) (by omega) (by simp;omega) (hU.set _ (by omega) (by omega)) (by omega) (by omega)
   (fun j hj=>by rw [getD_set_ne _ _ (by omega)];exact hz j hj) (by
    rw [mU _ _ _ (by omega),hinv,cY v x xz,fT x]
    have h5:d=d % 65536+65536 * (d / 65536):=by omega
    have h7:d * pw x=(d % 65536) * pw x+65536 * (d / 65536) * pw x:=by rw [← eF,← h5]
    have h9:d * pw x=c * pw x+(w.getD x 0 * pw x+v.getD x 0 * pw x):=by rw [← hd,eF,eF]
    grind)
  exact ⟨w',q1,by simpa using q2,q3,q4⟩
end Go.Den
namespace Go.Den
open Go.Ab
structure QC (v1 v2 w0 w1 w2 A V W:Int):Prop where
 A0:0 < A
 v1a:32768≤v1
 v1b:v1 < 65536
 v2a:0≤v2
 v2b:v2 < 65536
 w0a:0≤w0
 w0b:w0 < 65536
 w1a:0≤w1
 w1b:w1 < 65536
 w2a:0≤w2
 w2b:w2 < 65536
 V0:(v1 * 65536+v2) * A≤V
 V1:V < (v1 * 65536+v2+1) * A
 W0:((w0 * 65536+w1) * 65536+w2) * A≤W
 W1:W < ((w0 * 65536+w1) * 65536+w2+1) * A
 WV:W < 65536 * V
section
variable {v1 v2 w0 w1 w2 A V W:Int}
theorem QC.Sq (t:QC v1 v2 w0 w1 w2 A V W):65536 * A≤V:=by
 have:=t.V0;have:=t.A0;have:=t.v1a;have:=t.v2a
 have h:=kc (show (65536:Int)≤v1 * 65536+v2 by omega) (Int.le_of_lt t.A0)
 omega
theorem xA {x y A:Int} (hA:0 < A) (h:x * A < y * A):x < y:=Int.lt_of_mul_lt_mul_right h (Int.le_of_lt hA)
theorem QC.adX (t:QC v1 v2 w0 w1 w2 A V W):w0≤v1:=by
 have h1:((w0 * 65536+w1) * 65536+w2) * A < (65536 * (v1 * 65536+v2+1)) * A:=by
  rw [kL 65536]
  have:=t.W0;have:=t.WV;have:=t.V1
  omega
 have h2:=xA t.A0 h1
 have:=t.w1a;have:=t.w2a;have:=t.v2b
 omega
theorem QC.aax (t:QC v1 v2 w0 w1 w2 A V W) {q r Q:Int} (hq:q * v1+r=w0 * 65536+w1) (h:q * v2 > r * 65536+w2) (EZ:0≤q) (hQ:Q * V≤W):Q < q:=by
 rcases Int.lt_or_le Q q with h' | h'
 ·exact h'
 ·exfalso
  have hV:=t.Sq
  have hA:=t.A0
  have h1:q * V≤W:=Int.le_trans (kc h' (by omega)) hQ
  have h2:q * ((v1 * 65536+v2) * A)≤q * V:=sM t.V0 EZ
  have h3:(q * (v1 * 65536+v2)) * A < ((w0 * 65536+w1) * 65536+w2+1) * A:=by
   rw [kL];have:=t.W1;omega
  have h4:=xA hA h3
  rw [← hq] at h4
  have h5:q * (v1 * 65536+v2)=q * v1 * 65536+q * v2:=by rw [g7,← kL]
  rw [h5] at h4
  have h6:(q * v1+r) * 65536=q * v1 * 65536+r * 65536:=eF _ _ _
  omega
theorem QC.aay (t:QC v1 v2 w0 w1 w2 A V W) {q r:Int} (hq:q * v1+r=w0 * 65536+w1) (EZ:0≤q) (hr:0≤r) (h:65536≤r∨(q≤65535∧q * v2≤r * 65536+w2)):q≤65535∧q * V < W+V:=by
 have hA:=t.A0
 have FK:q≤65535:=by
  rcases h with h | h
  ·rcases Int.lt_or_le 65535 q with h' | h'
   ·exfalso
    have h1:=kc (show 65536≤q by omega) (show 0≤v1 by have:=t.v1a;omega)
    have:=t.adX;have:=t.w1b
    omega
   ·exact h'
  ·exact h.1
 refine ⟨FK,?_⟩
 have h2:q * v2≤r * 65536+w2:=by
  rcases h with h | h
  ·have h1:q * v2≤65535 * 65535:=Int.mul_le_mul FK (by have:=t.v2b;omega) t.v2a (by omega)
   have:=t.w2a
   omega
  ·exact h.2
 -- q V < (q (v1 B + v2) + q) A
 have h3:q * V≤q * ((v1 * 65536+v2+1) * A):=sM (Int.le_of_lt t.V1) EZ
 have h4:q * ((v1 * 65536+v2+1) * A)=(q * v1 * 65536+q * v2+q) * A:=by
  rw [← kL];congr 1
  rw [g7,g7,Int.mul_one,← kL]
 have h5:(q * v1 * 65536+q * v2+q) * A≤(((w0 * 65536+w1) * 65536+w2)+65535) * A:=by
  refine kc ?_ (Int.le_of_lt hA)
  rw [← hq]
  have:(q * v1+r) * 65536=q * v1 * 65536+r * 65536:=eF _ _ _
  omega
 have h6:(((w0 * 65536+w1) * 65536+w2)+65535) * A=((w0 * 65536+w1) * 65536+w2) * A+65535 * A:=eF _ _ _
 have:=t.W0
 have:=t.Sq
 omega
theorem QC.first (t:QC v1 v2 w0 w1 w2 A V W) {Q:Int} (WH:0≤Q) (hQ:Q * V≤W):Q≤(w0 * 65536+w1) / v1:=by
 rw [Int.le_ediv_iff_mul_le (by have:=t.v1a;omega)]
 have h1:Q * ((v1 * 65536+v2) * A)≤Q * V:=sM t.V0 WH
 have h2:(Q * (v1 * 65536+v2)) * A < ((w0 * 65536+w1) * 65536+w2+1) * A:=by rw [kL];have:=t.W1;omega
 have h3:=xA t.A0 h2
 have h4:Q * (v1 * 65536+v2)=Q * v1 * 65536+Q * v2:=by rw [g7,← kL]
 have h5:0≤Q * v2:=Int.mul_nonneg WH t.v2a
 have:=t.w2b
 omega
end
theorem Sr {N:Nat} {p v w:List Int} (hv:U v) (hw:U w) (hn:2≤v.length) (Qy:v.length+1≤w.length) (hS:SM (p.length+w.length)) {A V W:Int}
  (t:QC (v.getD (v.length - 1) 0) (v.getD (v.length - 2) 0) (w.getD v.length 0) (w.getD (v.length - 1) 0) (w.getD (v.length - 2) 0) A V W) {Q:Int} (WH:0≤Q) (hQ1:Q * V≤W) (hQ2:W < Q * V+V) :
  ∀ (k fuel:Nat) (q r:Int),k < fuel→65536≤r+32768 * (k:Int)→0≤r→r < 131072→0≤q→q < 4294967296→Q≤q→q * v.getD (v.length - 1) 0+r=w.getD v.length 0 * 65536+w.getD (v.length - 1) 0 →
   ∃ q',Q≤q'∧q'≤Q+1∧q'≤65535∧kU N p.length (v.length+1) v (p ++ w) fuel q r=fQ N p.length (v.length+1) v q' N (p ++ w) 0 0 0:=by
 intro k
 simp only [SM] at hS
 have hlen:(p ++ w).length=p.length+w.length:=mN
 have e2:ao (((v.length:Nat):Int) - 2)=((v.length - 2:Nat):Int):=by rw [bC (by omega) (by omega)];omega
 have e1:ao (((v.length:Nat):Int) - 1)=((v.length - 1:Nat):Int):=by rw [bC (by omega) (by omega)];omega
 have Y5:=hv.getD (v.length - 1)
 have VJ:=hv.getD (v.length - 2)
 have Hu:=hw.getD (v.length - 2)
 induction k with
 | zero =>
  intro fuel q r hf hk H7 Sl EZ FK hQq hinv
  obtain ⟨g,rfl⟩:∃ g,fuel=g+1:=⟨fuel - 1,by omega⟩
  have hr:65536≤r:=by simpa using hk
  obtain ⟨n1,n2⟩:=t.aay hinv EZ H7 (.inl hr)
  have dQ:q≤Q+1:=by
   rcases Int.lt_or_le (Q+1) q with h | h
   ·exfalso
    have:=kc (show Q+2≤q by omega) (show 0≤V by have:=t.Sq;have:=t.A0;omega)
    rw [eF] at this;omega
   ·exact h
  have ed:decide (r < 65536)=false:=by simp;omega
  refine ⟨q,hQq,dQ,n1,?_⟩
  rw [kU]
  simp only [ed,Bool.false_and,cond_false]
  rw [if_pos (fun h=>by cases h),if_pos (fun h=>by cases h),if_pos (fun h=>by cases h)]
 | succ k ih =>
  intro fuel q r hf hk H7 Sl EZ FK hQq hinv
  obtain ⟨g,rfl⟩:∃ g,fuel=g+1:=⟨fuel - 1,by omega⟩
  rw [kU,e1,e2,if_pos (fun _=>⟨by omega,by omega⟩),if_pos (fun _=>⟨by omega,by omega⟩),if_pos (fun _=>by omega)]
  rw [aj,aj,rj,if_pos ⟨by omega,by omega⟩,gP (n:=v.getD (v.length - 2) 0) (by omega) (by omega),gP (n:=w.getD (v.length - 2) 0) (by omega) (by omega),gP (n:=v.getD (v.length - 1) 0) (by omega) (by omega)]
  have ug:0≤q * v.getD (v.length - 2) 0:=Int.mul_nonneg EZ VJ.1
  have vE:q * v.getD (v.length - 2) 0≤4294967295 * 65535:=Int.mul_le_mul (by omega) (by omega) VJ.1 (by omega)
  rw [gP ug (by omega),GR H7 (by omega),J3 H7 (by omega) Hu.1 Hu.2]
  have hV:=t.Sq
  have hA:=t.A0
  by_cases hex:65536≤r∨(q≤65535∧q * v.getD (v.length - 2) 0≤r * 65536+w.getD (v.length - 2) 0)
  ·obtain ⟨n1,n2⟩:=t.aay hinv EZ H7 hex
   have dQ:q≤Q+1:=by
    rcases Int.lt_or_le (Q+1) q with h | h
    ·exfalso
     have:=kc (show Q+2≤q by omega) (show 0≤V by omega)
     rw [eF] at this;omega
    ·exact h
   have hc:cond (decide (r < 65536)) (cond (decide (q > 65535)) true (decide (q * v.getD (v.length - 2) 0 > r * 65536+w.getD (v.length - 2) 0))) false=false:=by
    rcases hex with h | ⟨h1,h2⟩
    ·rw [decide_eq_false (show ¬ r < 65536 by omega)];rfl
    ·rw [decide_eq_false (show ¬ q > 65535 by omega),cond_false,decide_eq_false (show ¬ q * v.getD (v.length - 2) 0 > r * 65536+w.getD (v.length - 2) 0 by omega)]
     cases decide (r < 65536)<;>rfl
   exact ⟨q,hQq,dQ,n1,by rw [hc,cond_false]⟩
  ·have eW:r < 65536:=by omega
   have hqQ:Q < q:=by
    by_cases h65:65535 < q
    ·rcases Int.lt_or_le Q q with h | h
     ·exact h
     ·exfalso
      have:=kc (show 65536≤Q by omega) (show 0≤V by omega)
      have:=t.WV
      omega
    ·exact t.aax hinv (by omega) EZ hQ1
   have hc:cond (decide (r < 65536)) (cond (decide (q > 65535)) true (decide (q * v.getD (v.length - 2) 0 > r * 65536+w.getD (v.length - 2) 0))) false=true:=by
    rw [decide_eq_true eW,cond_true]
    by_cases h65:65535 < q
    ·rw [decide_eq_true (show q > 65535 by omega)];rfl
    ·rw [decide_eq_false (show ¬ q > 65535 by omega),cond_false,decide_eq_true];omega
   have HD:=t.v1a
   rw [hc,cond_true,gP (n:=q - 1) (by omega) (by omega),gP (by omega) (by omega)]
   refine ih g _ _ (by omega) (by omega) (by omega) (by omega) (by omega) (by omega) (by omega) ?_
   rw [Int.sub_mul];omega
theorem Ss {N:Nat} {p v w:List Int} (hv:U v) (hw:U w) (hn:2≤v.length) (Qy:v.length+1≤w.length) (hS:SM (p.length+w.length)) (hN:v.length+3 < N) (hb:32768≤v.getD (v.length - 1) 0) (hz:∀ j,v.length+1≤j→w.getD j 0=0)
  (ft:bL w < 65536 * bL v):∃ Q w',vT N p.length (v.length+1) v (p ++ w)=some (Q,p ++ w')∧w'.length=w.length∧U w'∧0≤Q∧Q < 65536∧bL w'=bL w - Q * bL v∧bL w' < bL v:=by
 have W6:=hS
 simp only [SM] at W6
 have hlen:(p ++ w).length=p.length+w.length:=mN
 have e1:ao (((v.length:Nat):Int) - 1)=((v.length - 1:Nat):Int):=by rw [bC (by omega) (by omega)];omega
 obtain ⟨n,MC⟩:∃ n,v.length=n+2:=⟨v.length - 2,by omega⟩
 have hA:=kH n
 -- the top digits
 have CH:bL v=bL (v.take n)+pw n * (v.getD n 0+65536 * v.getD (n+1) 0):=by
  rw [qW v n (by omega),nD v n (by omega),nD v (n+1) (by omega),List.drop_eq_nil_of_le (by omega)];simp [bL]
 have Y6:bL w=bL (w.take n)+pw n * (w.getD n 0+65536 * (w.getD (n+1) 0+65536 * w.getD (n+2) 0)):=by
  have h3:bL (w.drop (n+3))=0:=by
   have:=tu (l:=w.drop (n+3)) 0 fun j _=>by
    have:=hz (n+3+j) (by omega)
    rw [ee] at this ⊢
    rw [kf];exact this
   simpa [bL] using this
  rw [qW w n (by omega),nD w n (by omega),nD w (n+1) (by omega),nD w (n+2) (by omega),h3];simp
 have ZR:=(hv.take n).lt
 have ag4:=(hv.take n).pe
 have hwt:=(hw.take n).lt
 have ag6:=(hw.take n).pe
 rw [oH,Nat.min_eq_left (by omega)] at ZR hwt
 have d1:=hv.getD (n+1)
 have d2:=hv.getD n
 have u0:=hw.getD (n+2)
 have u1:=hw.getD (n+1)
 have u2:=hw.getD n
 have q0:32768≤v.getD (n+1) 0:=by rw [MC] at hb;exact hb
 have t:QC (v.getD (v.length - 1) 0) (v.getD (v.length - 2) 0) (w.getD v.length 0) (w.getD (v.length - 1) 0) (w.getD (v.length - 2) 0) (pw n) (bL v) (bL w):=by
  have x1:v.length - 1=n+1:=by omega
  have x2:v.length - 2=n:=by omega
  rw [x1,x2,MC]
  refine ⟨hA,q0,d1.2,d2.1,d2.2,u0.1,u0.2,u1.1,u1.2,u2.1,u2.2,?_,?_,?_,?_,ft⟩
  ·rw [CH];grind
  ·rw [CH];grind
  ·rw [Y6];grind
  ·rw [Y6];grind
 have hVp:0 < bL v:=by have:=t.Sq;omega
 obtain ⟨Q,Su⟩:∃ Q,Q=bL w / bL v:=⟨_,rfl⟩
 have WH:0≤Q:=by rw [Su];exact Int.ediv_nonneg hw.pe (by omega)
 have hQ1:Q * bL v≤bL w:=by rw [Su];exact Int.ediv_mul_le _ (by omega)
 have hQ2:bL w < Q * bL v+bL v:=by
  have:=Int.lt_ediv_add_one_mul_self (bL w) hVp
  rw [Su];rw [eF] at this;omega
 have hQ3:Q < 65536:=by
  rcases Int.lt_or_le Q 65536 with h | h
  ·exact h
  ·exfalso;have:=kc h (Int.le_of_lt hVp);omega
 have ag8:bL v < pw v.length:=hv.lt
 have hK:∀ q,Q≤q→q≤Q+1→q≤65535→∃ w',fQ N p.length (v.length+1) v q N (p ++ w) 0 0 0=some (Q,p ++ w')∧w'.length=w.length∧U w'∧bL w'=bL w - Q * bL v:=by
  intro q EZ FK dQ
  obtain ⟨w',br,q1,q2,q3,q4,q5,q6⟩:=LG (N:=N) (p:=p) hv (show 0≤q by omega) (show q < 65536 by omega) (by simp only [SM];omega) (bL w) (v.length+1) 0 N w 0 0 (by omega) (by omega) Qy hw (by omega) (by omega) (fun h=>rfl) (.inl rfl) hz
   (by rw [List.take_zero];simp [bL])
  have h1:=q2.pe
  have h2:=LF q2 _ q4
  have hpv:pw (v.length+1)=65536 * pw v.length:=fT _
  rw [show ((0:Nat):Int)=0 from rfl] at q6
  rw [q6]
  rcases q3 with rfl | rfl
  ·have hqQ:q=Q:=by
    rcases Int.lt_or_le Q q with h | h
    ·exfalso
     have:=kc (show Q+1≤q by omega) (Int.le_of_lt hVp)
     rw [eF] at this
     simp at q5
     omega
    ·omega
   subst hqQ
   refine ⟨w',?_,q1,q2,by simpa using q5⟩
   rw [decide_eq_false (by decide),cond_false]
   unfold kT
   rw [n5 WH (by omega)]
  ·have hqQ:q=Q+1:=by
    rcases Int.lt_or_le Q q with h | h
    ·omega
    ·exfalso
     have:q=Q:=by omega
     subst this
     rw [Int.mul_neg,Int.mul_one] at q5
     omega
   subst hqQ
   rw [decide_eq_true (by decide),cond_true]
   have hQV:(Q+1 - 1) * bL v=Q * bL v:=by rw [Int.add_sub_cancel]
   obtain ⟨w2,r1,r2,r3,r4⟩:=LH (N:=N) (p:=p) hv (show 0 < Q+1 by omega) (show Q+1 < 65536 by omega) (by simp only [SM];omega) (bL w) (by rw [hQV];omega) (by rw [hQV];omega) v.length 0 N w' 0 (by omega) (by omega) (by omega) q2 (by omega) (by omega) q4
    (by rw [q5,List.take_zero];simp [bL])
   rw [hQV] at r4
   refine ⟨w2,?_,by omega,r3,r4⟩
   rw [show ((0:Nat):Int)=0 from rfl] at r1
   rw [r1,Int.add_sub_cancel]
 unfold vT
 rw [e1,if_pos ⟨by omega,by omega⟩,if_pos (by omega),if_pos ⟨by omega,by omega⟩,if_pos ⟨by omega,by omega⟩,aj]
 have b1:32768≤v.getD (v.length - 1) 0:=hb
 have b2:=hv.getD (v.length - 1)
 have c1:=hw.getD v.length
 have c2:=hw.getD (v.length - 1)
 rw [gP (n:=v.getD (v.length - 1) 0) (by omega) (by omega),if_pos (by omega),rj,rj,gP (n:=w.getD v.length 0) (by omega) (by omega),gP (n:=w.getD (v.length - 1) 0) (by omega) (by omega),GR (by omega) (by omega),J3 (by omega) (by omega) (by omega) (by omega)]
 have hT0:0≤w.getD v.length 0 * 65536+w.getD (v.length - 1) 0:=by omega
 have hT1:w.getD v.length 0 * 65536+w.getD (v.length - 1) 0 < 4294967296:=by omega
 rw [Int.tdiv_eq_ediv_of_nonneg hT0,Int.tmod_eq_emod_of_nonneg hT0]
 have oc:=Int.emod_nonneg (w.getD v.length 0 * 65536+w.getD (v.length - 1) 0) (show v.getD (v.length - 1) 0≠0 by omega)
 have Kq:=Int.emod_lt_of_pos (w.getD v.length 0 * 65536+w.getD (v.length - 1) 0) (show 0 < v.getD (v.length - 1) 0 by omega)
 have QB:=Int.ediv_nonneg hT0 (show 0≤v.getD (v.length - 1) 0 by omega)
 have hda:=Int.mul_ediv_add_emod (w.getD v.length 0 * 65536+w.getD (v.length - 1) 0) (v.getD (v.length - 1) 0)
 have hdl:(w.getD v.length 0 * 65536+w.getD (v.length - 1) 0) / v.getD (v.length - 1) 0≤w.getD v.length 0 * 65536+w.getD (v.length - 1) 0:=Int.ediv_le_self _ hT0
 rw [gP QB (by omega)]
 obtain ⟨q,h1,h2,h3,h4⟩:=Sr (N:=N) (p:=p) hv hw hn Qy hS t WH hQ1 hQ2 2 N ((w.getD v.length 0 * 65536+w.getD (v.length - 1) 0) / v.getD (v.length - 1) 0) ((w.getD v.length 0 * 65536+w.getD (v.length - 1) 0) % v.getD (v.length - 1) 0)
  (by omega) (by omega) oc (by omega) QB (by omega) (t.first WH hQ1) (by rw [gr];exact hda)
 rw [h4]
 obtain ⟨w',k1,k2,k3,k4⟩:=hK q h1 h2 h3
 exact ⟨Q,w',k1,k2,k3,WH,hQ3,k4,by omega⟩
end Go.Den
namespace Go.Den
open Go.Ab
theorem Sv {a b:Int} (ha:0≤a) (TU:a < 65536) (hb:0≤b) (lP:b < 65536):vM .u32 b (a * 65536)=a * 65536+b:=by
 have h:=OI ha TU hb lP
 unfold vM at h ⊢
 rw [BitVec.or_comm];exact h
theorem Ya {n:Int} {s:Nat} (hs:s≤15):ot .u32 n (s:Int)=n / 2 ^ s:=by
 unfold ot
 have:min ((s:Nat):Int).toNat IntKind.u32.bits=s:=by show min s 32=s;omega
 rw [this,Int.fdiv_eq_ediv_of_nonneg _ (Int.le_of_lt (Int.pow_pos (by decide)))]
theorem IX {N:Nat} {b q u:List Int} {s:Nat} (hs:s≤15) (hU:U u) (hb:b.length+1≤u.length) (hS:SM u.length) (hz:u.getD b.length 0=0) (h0:u.getD 0 0 % 2 ^ s=0) (hq:U q) (hqN:q.length < N) (hqS:SM q.length) (hN:b.length < N) :
  ∀ (k x fuel:Nat) (r:List Int),x+k=b.length→k < fuel→r.length=b.length→U r→(∀ j,x≤j→r.getD j 0=0)→2 ^ s * bL r=bL (u.take x)+u.getD x 0 % 2 ^ s * pw x →
   ∃ R:List Int,jJ N b (s:Int) q u fuel r (x:Int)=some (lm (bL q).toNat,lm (bL R).toNat)∧U R∧2 ^ s * bL R=bL (u.take b.length)
 | 0,x,fuel,r,hx,hf,hr,hUr,hzr,hinv=>by
  obtain ⟨g,rfl⟩:∃ g,fuel=g+1:=⟨fuel - 1,by omega⟩
  have F5:x=b.length:=by omega
  subst F5
  simp only [SM] at hS hqS
  have hp:(2:Int) ^ s≠0:=Int.ne_of_gt (Int.pow_pos (by decide))
  refine ⟨r,?_,hUr,?_⟩
  ·rw [jJ,Nat.sub_zero,fa,cond_false,mc hq hqN (by omega),bO,mc hUr (by omega) (by omega),bO]
  ·rw [hinv,hz];simp
 | k+1,x,fuel,r,hx,hf,hr,hUr,hzr,hinv=>by
  obtain ⟨g,rfl⟩:∃ g,fuel=g+1:=⟨fuel - 1,by omega⟩
  simp only [SM] at hS
  have xz:x < b.length:=by omega
  have h1:=hU.getD x
  have h2:=hU.getD (x+1)
  rw [jJ,Nat.sub_zero,dec_lt xz,cond_true,if_pos (lQ (by omega)),bh (by omega),if_pos (lQ (by omega)),if_pos (by omega),if_pos (lQ (by omega))]
  simp only [aj]
  rw [cT (n:=u.getD x 0) (by omega) (by omega),cT (n:=u.getD (x+1) 0) (by omega) (by omega),GQ h2.1 h2.2,Sv h2.1 h2.2 h1.1 h1.2,Ya hs,sD]
  generalize hae:u.getD x 0=a at *
  generalize D2:u.getD (x+1) 0=a' at *
  -- 65536 = P c
  obtain ⟨P,hP⟩:∃ P:Int,P=2 ^ s:=⟨_,rfl⟩
  obtain ⟨c,hc⟩:∃ c:Int,c=2 ^ (16 - s):=⟨_,rfl⟩
  have WJ:(65536:Int)=P * c:=by rw [hP,hc,← Int.pow_add,show s+(16 - s)=16 by omega];decide
  have hP0:0 < P:=by rw [hP];exact Int.pow_pos (by decide)
  have uX:0 < c:=by rw [hc];exact Int.pow_pos (by decide)
  rw [← hP] at hinv ⊢
  have e1:(a' * 65536+a) / P=a' * c+a / P:=by
   rw [WJ,show a' * (P * c)+a=a+(a' * c) * P by rw [gr P c,← kL];omega,Int.add_mul_ediv_right _ _ (by omega)];omega
  have e2:a'=P * (a' / P)+a' % P:=(Int.mul_ediv_add_emod a' P).symm
  have l0:=Int.emod_nonneg a' (show P≠0 by omega)
  have l1:=Int.emod_lt_of_pos a' hP0
  have m0:0≤a / P:=Int.ediv_nonneg h1.1 (by omega)
  have m1:a / P < c:=Int.ediv_lt_of_lt_mul hP0 (by rw [gr,← WJ];exact h1.2)
  have e3:(a' * 65536+a) / P % 65536=a' % P * c+a / P:=by
   rw [e1]
   have h3:a' * c=(a' / P) * 65536+a' % P * c:=by
    have:a' * c=(P * (a' / P)+a' % P) * c:=by rw [← e2]
    rw [this,eF,WJ];grind
   have h4:a' % P * c+a / P < 65536:=by
    have:=kc (show a' % P+1≤P by omega) (Int.le_of_lt uX)
    rw [eF,← WJ] at this;omega
   have h5:0≤a' % P * c:=Int.mul_nonneg l0 (Int.le_of_lt uX)
   rw [h3];omega
  rw [e3]
  have h4:a' % P * c+a / P < 65536:=by
   have:=kc (show a' % P+1≤P by omega) (Int.le_of_lt uX)
   rw [eF,← WJ] at this;omega
  have h5:0≤a' % P * c:=Int.mul_nonneg l0 (Int.le_of_lt uX)
  have:=IX (N:=N) (s:=s) hs hU hb (by simp only [SM];omega) hz h0 hq hqN hqS hN k (x+1) g (r.set x (a' % P * c+a / P)) (by omega) (by omega) (by simp [hr]) (hUr.set _ (by omega) h4) (fun j hj=>by rw [getD_set_ne _ _ (by omega)];exact hzr j (by omega))
   (by
    rw [← hP,mU _ _ _ (by omega),hzr x (aP _),cY u x (by omega),Int.sub_zero,D2,fT,g7,hinv]
    have e4:a=P * (a / P)+a % P:=(Int.mul_ediv_add_emod a P).symm
    rw [hae]
    have e6:P * ((a' % P * c+a / P) * pw x)=a' % P * (P * c) * pw x+P * (a / P) * pw x:=by grind
    rw [e6,← WJ]
    grind)
  rw [← hP] at this
  exact this
theorem G1 {l:List Int} (hU:U l) (n:Nat) (h:bL l < pw n):bL (l.take n)=bL l:=(tu n (G0 hU n h)).symm
theorem IY {N:Nat} {b o2:List Int} {s:Nat} (hs:s≤15) {v:List Int} (hv:v=(o2.take b.length).drop 0) (Yb:U v) (NS:v.length=b.length) (hn:2≤b.length) (hb:32768≤v.getD (b.length - 1) 0) (cE:b.length≤o2.length)
  {Lu:Nat} (hLu:b.length+1≤Lu) (hS:SM Lu) (hN:Lu+3 < N) {A B:Int} (hA:0≤A) (hB:0 < B) (hV:bL v=B * 2 ^ s) :
  ∀ (k fuel:Nat) (q u:List Int),k≤Lu - b.length→k < fuel→u.length=Lu→U u→q.length=Lu - b.length→U q→(∀ j,j < k→q.getD j 0=0)→bL (u.drop k) < bL v→A * 2 ^ s=bL q * bL v+bL u →
   jK N b (s:Int) o2 fuel q u ((k:Int) - 1)=some (lm (A / B).toNat,lm (A % B).toNat)
 | 0,fuel,q,u,hk,hf,hu,hU,hq,hqU,hqz,ft,hinv=>by
  obtain ⟨g,rfl⟩:∃ g,fuel=g+1:=⟨fuel - 1,by omega⟩
  simp only [SM] at hS
  have e:decide ((((0:Nat):Int) - 1)≥0)=false:=rfl
  rw [jK,e,cond_false,Nat.sub_zero,if_pos (by omega)]
  rw [List.drop_zero] at ft
  have hp:(0:Int) < 2 ^ s:=Int.pow_pos (by decide)
  have hvp:bL v < pw b.length:=by rw [← NS];exact Yb.lt
  have hz:=G0 hU b.length (by omega)
  -- nvl u is a multiple of 2^s
  have hR:bL u=(A - bL q * B) * 2 ^ s:=by rw [Int.sub_mul,hinv,hV];grind
  have h0:u.getD 0 0 % 2 ^ s=0:=by
   have h1:=nD u 0 (by omega)
   rw [List.drop_zero] at h1
   obtain ⟨c,hc⟩:∃ c:Int,c=2 ^ (16 - s):=⟨_,rfl⟩
   have WJ:(65536:Int)=2 ^ s * c:=by rw [hc,← Int.pow_add,show s+(16 - s)=16 by omega];decide
   have h2:u.getD 0 0=(A - bL q * B - c * bL (u.drop (0+1))) * 2 ^ s:=by
    have:u.getD 0 0=bL u - 65536 * bL (u.drop (0+1)):=by omega
    rw [this,hR,WJ];grind
   rw [h2];exact Int.mul_emod_left _ _
  obtain ⟨R,r1,r2,r3⟩:=IX (N:=N) (b:=b) (q:=q) hs hU (by omega) (by simp only [SM];omega) (hz _ (aP _)) h0 hqU (by omega) (by simp only [SM];omega) (by omega) b.length 0 N (List.replicate b.length 0) (by omega) (by omega) (by simp) (U.replicate _) (fun j _=>gM _ j)
   (by rw [jS,h0];simp [bL])
  rw [show ((0:Nat):Int)=0 from rfl] at r1
  rw [r1]
  rw [← tu b.length hz,hR,gr] at r3
  have r4:bL R=A - bL q * B:=Int.eq_of_mul_eq_mul_right (Int.ne_of_gt hp) r3
  have r5:=r2.pe
  have r6:bL R < B:=by
   refine xA hp ?_
   rw [r4,← hR,← hV];exact ft
  have FK:A / B=bL q:=by
   rw [show A=bL R+bL q * B by omega,Int.add_mul_ediv_right _ _ (by omega),Int.ediv_eq_zero_of_lt r5 r6];omega
  have dQ:A % B=bL R:=by
   rw [show A=bL R+bL q * B by omega,Int.add_mul_emod_self_right,Int.emod_eq_of_lt r5 r6]
  rw [FK,dQ]
 | k+1,fuel,q,u,hk,hf,hu,hU,hq,hqU,hqz,ft,hinv=>by
  obtain ⟨g,rfl⟩:∃ g,fuel=g+1:=⟨fuel - 1,by omega⟩
  simp only [SM] at hS
  have e:(((k+1:Nat):Int) - 1)=(k:Int):=by omega
  have e0:decide ((k:Int)≥0)=true:=by simp
  have e1:ao ((ao ((k:Int)+((b.length:Nat):Int)))+1)=((k+b.length+1:Nat):Int):=by rw [bC (n:=(k:Int)+((b.length:Nat):Int)) (by omega) (by omega),bC (by omega) (by omega)];omega
  rw [e,jK,e0,cond_true,Nat.sub_zero,e1]
  simp only [aj]
  rw [if_pos ⟨by omega,by omega⟩,if_pos (by omega),if_pos (by omega),if_pos ⟨Nat.zero_le _,cE⟩,← hv]
  have hp:u.take k ++ u.drop k=u:=List.take_append_drop _ _
  have Ao:(u.take k).length=k:=by rw [oH];omega
  have Qy:(u.drop k).length=Lu - k:=by rw [List.length_drop,hu]
  have hd:=nD u k (by omega)
  have Km:=hU.getD k
  have hvp:bL v < pw b.length:=by rw [← NS];exact Yb.lt
  have R3:bL (u.drop k) < 65536 * bL v:=by omega
  have Y6:bL (u.drop k) < pw (v.length+1):=by rw [fT,NS];omega
  obtain ⟨Q,w',d1,d2,d3,d4,d5,d6,d7⟩:=Ss (N:=N) (p:=u.take k) (v:=v) (w:=u.drop k) Yb (hU.drop k) (by omega) (by omega) (by simp only [SM];omega) (by omega) (by rw [NS];exact hb) (G0 (hU.drop k) _ Y6) R3
  rw [Ao,hp,NS] at d1
  rw [show k+b.length+1 - k=b.length+1 by omega,d1,bO]
  have hul:(u.take k ++ w').length=u.length:=by rw [mN,Ao,d2,Qy,hu];omega
  simp only [hul]
  rw [if_pos trivial,if_pos (lQ (by omega)),bC (by omega) (by omega)]
  have ec:∀ j,j < k→(q.set k Q).getD j 0=0:=fun j hj=>by rw [getD_set_ne _ _ (by omega)];exact hqz j (by omega)
  refine IY (A:=A) hs hv Yb NS hn hb cE hLu (by simp only [SM];omega) hN hA hB hV k g _ _ (by omega) (by omega) (by rw [hul,hu]) ((hU.take k).append d3) (by simp [hq]) (hqU.set _ d4 d5) ec ?_ ?_
  ·have:(u.take k ++ w').drop k=w':=by rw [List.drop_append_of_le_length (by omega),List.drop_of_length_le (by omega)];rfl
   rw [this];exact d7
  ·have h1:=lx (u.take k) w'
   have h2:=qW u k (by omega)
   rw [Ao] at h1
   rw [h1,mU _ _ _ (by omega),hqz k (by omega),d6,hinv,h2];grind
theorem Ea {A B q r:Nat} (h:A=q * B+r) (hr:r < B):A / B=q∧A % B=r:=by
 subst h
 have hB:0 < B:=by omega
 exact ⟨by rw [oI,Nat.mul_add_div hB,Nat.div_eq_of_lt hr];rfl,by rw [oI,Nat.mul_add_mod,Nat.mod_eq_of_lt hr]⟩
theorem zX {N a b:Nat} (hb:b≠0) (hs:SM ((lm a).length+(lm b).length+2)) (hN:(lm a).length+(lm b).length+10 < N):nf N (lm a) (lm b)=some (lm (a / b),lm (a % b)):=by
 have H6:=hs
 simp only [SM] at H6
 unfold nf
 obtain ⟨c,hc,td,Fm,-⟩:=xy (N:=N) (a:=a) (b:=b) (by omega) (by simp only [SM];omega) (by simp only [SM];omega)
 rw [hc,bO]
 by_cases T5:a < b
 ·rw [decide_eq_true (td.2 T5),cond_true]
  unfold dA
  rw [if_pos (by omega),bO,Nat.div_eq_of_lt T5,Nat.mod_eq_of_lt T5,fU];rfl
 ·rw [decide_eq_false (fun h=>T5 (td.1 h)),cond_false]
  have hbl:=j9.2 hb
  cases h1:(((lm b).length:Nat):Int) == 1 with
  | true =>
   have h1:(lm b).length=1:=by have h1:=eq_of_beq h1;omega
   have nM:b < 65536:=by have:=(iq (n:=b) (k:=1)).1 (by omega);simp [pw] at this;omega
   have e:(lm b).getD 0 0=(b:Int):=by
    rw [pf hb];show ((b % 65536:Nat):Int)=b;omega
   rw [cond_true,if_pos (by omega),e,Sm (by omega) nM (by simp only [SM];omega) (by omega),bO]
   have hm:a % b < 65536:=lX (Nat.mod_lt _ (by omega)) (by omega)
   rw [mc (U.one (by omega) (by omega)) (by simp;omega) (by simp),bO,qV,Int.toNat_natCast]
  | false =>
   have h2:2≤(lm b).length:=by simp at h1;omega
   rw [cond_false]
   obtain ⟨lb,x,hlb,RC,hlU,YY,TQ⟩:=VF hb
   have QD:(lm b).length=lb.length+1:=by rw [hlb];simp
   have e1:ao ((((lm b).length:Nat):Int) - 1)=((lb.length:Nat):Int):=by rw [bC (by omega) (by omega)];omega
   rw [e1,if_pos (by omega),aj]
   have ex:(lm b).getD lb.length 0=x:=by rw [hlb];simp [List.getD]
   rw [ex]
   obtain ⟨X,rfl⟩:=Int.eq_ofNat_of_zero_le YY
   obtain ⟨s,s1,s2,s3,s4⟩:=aaw (N:=N) (x:=X) (by omega) (by omega)
   rw [s2,bO]
   obtain ⟨o1,p1,p2,p3,p4,p5⟩:=GZ (N:=N) (a:=lm a) (rO a) s1 (by simp only [SM];omega) (by omega)
   obtain ⟨o2,q1,q2,q3,q4,q5⟩:=GZ (N:=N) (a:=lm b) (rO b) s1 (by simp only [SM];omega) (by omega)
   rw [p1,bO,q1,bO,if_pos ⟨Nat.zero_le _,by omega⟩,Nat.sub_zero]
   rw [gY] at p4 q4
   have TY:(lm b).length≤(lm a).length:=fh (by omega)
   have e2:ao (((o1.length:Nat):Int) - (((lm b).length:Nat):Int))=((o1.length - (lm b).length:Nat):Int):=by rw [bC (by omega) (by omega)];omega
   rw [e2,if_pos (by omega)]
   -- the divisor, shifted
   have vE:(0:Int) < 2 ^ s:=Int.pow_pos (by decide)
   have hbv:(b:Int)=bL lb+pw lb.length * X:=by
    have:=gY b
    rw [hlb,lx,qV] at this;omega
   have hs3:(32768:Int)≤X * 2 ^ s:=by
    have e:((X * 2 ^ s:Nat):Int)=(X:Int) * 2 ^ s:=by simp
    omega
   have YX:(X:Int) * 2 ^ s+2 ^ s≤65536:=by
    have e:((X * 2 ^ s:Nat):Int)=(X:Int) * 2 ^ s:=by simp
    have Y7:(65536:Nat)=2 ^ (16 - s) * 2 ^ s:=by rw [← Nat.pow_add,show 16 - s+s=16 by omega]
    have h9:X < 2 ^ (16 - s):=by
     rw [Y7] at s4;exact Nat.lt_of_mul_lt_mul_right s4
    have h10:=dC (2 ^ s) (show X+1≤2 ^ (16 - s) by omega)
    rw [← Y7,ca] at h10
    have e3:((2 ^ s:Nat):Int)=(2:Int) ^ s:=by simp
    omega
   have ahe:=hlU.lt
   have ad4:=hlU.pe
   have hV:(b:Int) * 2 ^ s=bL lb * 2 ^ s+pw lb.length * (X * 2 ^ s):=by rw [hbv,eF,kL]
   have hV1:(b:Int) * 2 ^ s < pw (lm b).length:=by
    rw [QD,fT,hV]
    have h5:=kc (show bL lb+1≤pw lb.length by omega) (Int.le_of_lt vE)
    have h6:=sM YX (Int.le_of_lt (kH lb.length))
    rw [g7] at h6
    rw [eF] at h5
    have:=kH lb.length
    omega
   have hV2:32768 * pw lb.length≤(b:Int) * 2 ^ s:=by
    rw [hV]
    have h6:=sM hs3 (Int.le_of_lt (kH lb.length))
    have h7:0≤bL lb * 2 ^ s:=Int.mul_nonneg ad4 (Int.le_of_lt vE)
    rw [gr 32768];omega
   have Yb:U ((o2.take (lm b).length).drop 0):=by rw [List.drop_zero];exact q3.take _
   have NS:((o2.take (lm b).length).drop 0).length=(lm b).length:=by simp;omega
   have hvv:bL ((o2.take (lm b).length).drop 0)=(b:Int) * 2 ^ s:=by rw [List.drop_zero,G1 q3 _ (by rw [q4];exact hV1),q4]
   have Yc:32768≤((o2.take (lm b).length).drop 0).getD ((lm b).length - 1) 0:=by
    have h5:=cY ((o2.take (lm b).length).drop 0) lb.length (by omega)
    have h6:=(Yb.take lb.length).lt
    rw [je (by omega),hvv] at h5
    rw [oH,Nat.min_eq_left (by omega)] at h6
    rw [show (lm b).length - 1=lb.length by omega]
    rcases Int.lt_or_le (((o2.take (lm b).length).drop 0).getD lb.length 0) 32768 with h | h
    ·exfalso
     have:=kc (show ((o2.take (lm b).length).drop 0).getD lb.length 0≤32767 by omega) (Int.le_of_lt (kH lb.length))
     have:=kH lb.length
     omega
    ·exact h
   have e3:ao (((o1.length - (lm b).length:Nat):Int) - 1)=((o1.length - (lm b).length:Nat):Int) - 1:=bC (by omega) (by omega)
   rw [e3,aj]
   have aaA:bL (o1.drop (o1.length - (lm b).length)) < bL ((o2.take (lm b).length).drop 0):=by
    -- the top n digits: the last one is below 2 ^ s
    have hl:(o1.drop (o1.length - (lm b).length)).length=(lm b).length:=by rw [List.length_drop];omega
    have hUd:=q3
    have hU1:=p3.drop (o1.length - (lm b).length)
    have h5:=cY (o1.drop (o1.length - (lm b).length)) lb.length (by omega)
    rw [je (by omega)] at h5
    have h6:=(hU1.take lb.length).lt
    rw [oH,Nat.min_eq_left (by omega)] at h6
    have h7:(o1.drop (o1.length - (lm b).length)).getD lb.length 0=o1.getD (lm a).length 0:=by
     rw [ee,kf,ee];congr 2;omega
    rw [h7] at h5
    rw [hvv]
    have h8:o1.getD (lm a).length 0+1≤32768:=by
     have:(2:Int) ^ s≤32768:=by
      have h:=Nat.pow_le_pow_right (n:=2) (by decide) s1
      have e:((2 ^ s:Nat):Int)=(2:Int) ^ s:=by simp
      omega
     omega
    have h9:=kc h8 (Int.le_of_lt (kH lb.length))
    rw [eF] at h9
    omega
   rw [IY (N:=N) (A:=(a:Int)) (B:=(b:Int)) s1 rfl Yb NS h2 Yc (by omega) (Lu:=o1.length) (by omega) (by simp only [SM];omega) (by omega) (by omega) (by omega) hvv (o1.length - (lm b).length) N _ o1 (aP _) (by omega) rfl p3 (by simp) (U.replicate _)
    (fun j _=>gM _ j) aaA (by rw [jS,p4];simp)]
   rfl
end Go.Den
namespace Go.Den
open Go.Ab
def Gv {α:Type} (f:Nat→Option α) (r:α):Prop:=∃ N0,∀ N,N0≤N→f N=some r
theorem Gv.pure {α:Type} (r:α):Gv (fun _=>some r) r:=⟨0,fun _ _=>rfl⟩
theorem Gv.bind {α β:Type} {f:Nat→Option α} {k:Nat→α→Option β} {r:α} {s:β} (h:Gv f r) (h2:Gv (fun N=>k N r) s):Gv (fun N=>(f N).bind (k N)) s:=by
 obtain ⟨N1,h1⟩:=h
 obtain ⟨N2,h2⟩:=h2
 exact ⟨N1+N2,fun N hN=>by show (f N).bind (k N)=some s;rw [h1 N (by omega)];exact h2 N (by omega)⟩
theorem Gv.congr {α:Type} {f g:Nat→Option α} {r:α} (h:Gv f r) (e:∀ N,g N=f N):Gv g r:=let ⟨N0,h0⟩:=h;⟨N0,fun N hN=>(e N).trans (h0 N hN)⟩
theorem Gv.of {α:Type} {f:Nat→Option α} {r:α} (N0:Nat) (h:∀ N,N0≤N→f N=some r):Gv f r:=⟨N0,h⟩
theorem Gv.ax {α:Type} {f g:Nat→Option α} {r:α} {q:Bool} (hq:q=true) (h:Gv f r):Gv (fun N=>cond q (f N) (g N)) r:=by subst hq;exact h
theorem Gv.aL {α:Type} {f g:Nat→Option α} {r:α} {q:Bool} (hq:q=false) (h:Gv g r):Gv (fun N=>cond q (f N) (g N)) r:=by subst hq;exact h
theorem Gv.if {α:Type} {f:Nat→Option α} {r:α} {p:Prop} [Decidable p] (hp:p) (h:Gv f r):Gv (fun N=>if p then f N else none) r:=h.congr fun _=>if_pos hp
theorem Gv.eq {α:Type} {f:Nat→Option α} {r s:α} (h:Gv f r) (e:r=s):Gv f s:=e ▸ h
theorem Gv.ex {α:Type} {f:Nat→Option α} {r:α} (h:Gv f r):∃ N,f N=some r:=let ⟨N,h⟩:=h;⟨N,h N (aP _)⟩
def sg (neg:Bool) (n:Nat):Int:=cond neg (-(n:Int)) (n:Int)
def uc (z:Int):bR:=⟨decide (z < 0),lm z.natAbs⟩
def zv (a:bR):Int:=sg a.fG (bL a.fL).toNat
def ZB (z:Int) (n:Nat):Prop:=(lm z.natAbs).length≤n
structure IB (a:bR) (n:Nat):Prop where
 U:U a.fL
 len:a.fL.length≤n
theorem pO (neg:Bool) (n:Nat):(sg neg n).natAbs=n:=by cases neg<;>simp [sg]
theorem jV (a:bR):(zv a).natAbs=(bL a.fL).toNat:=pO _ _
theorem Sw (neg:Bool) (n:Nat) (h:n≠0):uc (sg neg n)=⟨neg,lm n⟩:=by
 unfold uc
 rw [pO]
 cases neg
 ·rw [decide_eq_false (show ¬ sg false n < 0 by simp [sg])]
 ·rw [decide_eq_true (show sg true n < 0 by simp [sg];omega)]
theorem Sx:uc 0=⟨false,[]⟩:=by unfold uc;rw [show (0:Int).natAbs=0 from rfl,fU];rfl
theorem OS (neg:Bool):uc (sg neg 0)=⟨false,[]⟩:=by cases neg<;>exact Sx
theorem ly (z:Int):zv (uc z)=z:=by
 unfold zv uc
 simp only [gY,Int.toNat_natCast]
 unfold sg
 by_cases h:z < 0
 ·rw [decide_eq_true h];simp only [cond_true];omega
 ·rw [decide_eq_false h];simp only [cond_false];omega
theorem ZB.le {z:Int} {m n:Nat} (h:ZB z m) (OT:m≤n):ZB z n:=dp h OT
theorem Sy {z:Int} {n:Nat}:ZB z n↔(z.natAbs:Int) < pw n:=iq
theorem LI {z:Int} {n:Nat}:ZB z n↔z.natAbs < 65536 ^ n:=by
 rw [Sy];unfold pw
 have:((65536 ^ n:Nat):Int)=65536 ^ n:=by simp
 omega
theorem ZB.neg {z:Int} {n:Nat} (h:ZB z n):ZB (-z) n:=by unfold ZB at *;rwa [Int.natAbs_neg]
theorem ZB.mul {x y:Int} {m n:Nat} (h1:ZB x m) (h2:ZB y n):ZB (x * y) (m+n):=by
 rw [LI] at *
 rw [Int.natAbs_mul,Nat.pow_add]
 exact Nat.mul_lt_mul'' h1 h2
theorem ZB.add {x y:Int} {n:Nat} (h1:ZB x n) (h2:ZB y n):ZB (x+y) (n+1):=by
 rw [LI] at *
 have:=Int.natAbs_add_le x y
 have h3:65536 ^ (n+1)=65536 * 65536 ^ n:=by rw [Nat.pow_succ];omega
 have:=Nat.pow_pos (n:=n) (show 0 < 65536 by decide)
 omega
theorem ZB.sub {x y:Int} {n:Nat} (h1:ZB x n) (h2:ZB y n):ZB (x - y) (n+1):=by rw [Int.sub_eq_add_neg];exact h1.add h2.neg
theorem ZB.of_le {x y:Int} {n:Nat} (h:ZB y n) (PL:x.natAbs≤y.natAbs):ZB x n:=by rw [LI] at *;omega
theorem ZB.small {x:Int} (h:x.natAbs < 65536):ZB x 1:=by rw [LI];simpa using h
theorem ZB.word {x:Int} (h:-9223372036854775808≤x) (h2:x≤9223372036854775807):ZB x 4:=by rw [LI];omega
theorem IB.zb {a:bR} {n:Nat} (h:IB a n):ZB (zv a) n:=by
 rw [Sy,jV]
 have h1:=h.U.lt
 have h2:=h.U.pe
 have h3:pw a.fL.length≤pw n:=by
  have e:pw n=pw a.fL.length * pw (n - a.fL.length):=by rw [← GS];congr 1;have:=h.len;omega
  have:=kH (n - a.fL.length)
  have:=sM (show 1≤pw (n - a.fL.length) by omega) (Int.le_of_lt (kH a.fL.length))
  omega
 omega
theorem ZB.ib {z:Int} {n:Nat} (h:ZB z n):IB (uc z) n:=⟨rO _,h⟩
theorem IB.le {a:bR} {m n:Nat} (h:IB a m) (OT:m≤n):IB a n:=⟨h.U,dp h.len OT⟩
section
variable {a b:bR} {m n:Nat}
theorem s7 (ha:IB a n) (hn:SM n):Gv (fun N=>fK N a.fL) (lm (zv a).natAbs) :=
 .of (n+1) fun N hN=>by
  simp only [SM] at hn
  have:=ha.len
  rw [mc ha.U (by omega) (by omega),jV]
theorem mE (neg:Bool) {k:Nat} (hk:SM (lm k).length):Gv (fun N=>gG N neg (lm k)) (uc (sg neg k)) :=
 .of ((lm k).length+1) fun N hN=>by
  simp only [SM] at hk
  unfold gG
  rw [mc (rO k) (by omega) (by omega),gY,Int.toNat_natCast,bO]
  by_cases h:k=0
  ·subst h
   rw [fU,OS];rfl
  ·have e:((((lm k).length:Nat):Int) == 0)=false:=by
    have:=j9.2 h
    simp;exact fun h'=>by rw [h'] at this;simp at this
   rw [e,cond_false]
   unfold dA
   rw [if_pos (by omega),bO,Sw _ _ h];rfl
theorem LJ (a:bR):Gv (fun N=>sP N a) ⟨!a.fG,a.fL⟩:=.pure _
theorem LK (a:bR):zv ⟨!a.fG,a.fL⟩ = -zv a:=by unfold zv sg;cases a.fG<;>simp
theorem sign_eq (a b:Bool) (x y:Nat):sg (!(a == b)) (x * y)=sg a x * sg b y:=by
 cases a<;>cases b<;>simp [sg,Int.neg_mul,Int.mul_neg]
theorem zd (ha:IB a m) (hb:IB b n) (hs:SM (m+n)):Gv (fun N=>pX N a b) (uc (zv a * zv b)):=by
 simp only [SM] at hs
 have D2:=ha.zb
 have q0:=hb.zb
 unfold ZB at D2 q0
 refine (s7 ha (by simp only [SM];omega)).bind ((s7 hb (by simp only [SM];omega)).bind ?_)
 refine Gv.bind (r:=lm ((zv a).natAbs * (zv b).natAbs)) (.of (m+n+1) fun N hN=>Sk (by simp only [SM];omega) (by omega)) ?_
 have hz:=ha.zb.mul hb.zb
 unfold ZB at hz
 rw [Int.natAbs_mul] at hz
 refine (mE _ (by simp only [SM];omega)).bind ((Gv.pure _).eq ?_)
 rw [jV,jV,sign_eq];rfl
theorem Sz (ha:IB a n) (hb:IB b n) (hs:SM (n+1)):Gv (fun N=>BR N a b) (uc (zv a+zv b)):=by
 simp only [SM] at hs
 have D2:=ha.zb
 have q0:=hb.zb
 have hz:=D2.add q0
 unfold ZB at D2 q0
 refine (s7 ha (by simp only [SM];omega)).bind ((s7 hb (by simp only [SM];omega)).bind ?_)
 have hX:zv a=sg a.fG (zv a).natAbs:=by rw [jV];rfl
 have hY:zv b=sg b.fG (zv b).natAbs:=by rw [jV];rfl
 generalize (zv a).natAbs=x at *
 generalize (zv b).natAbs=y at *
 rw [hX,hY] at hz ⊢
 generalize a.fG=p at *
 generalize b.fG=q at *
 cases Ko:(p == q) with
 | true =>
  have Ko:p=q:=by simpa using Ko
  subst Ko
  have e:sg p x+sg p y=sg p (x+y):=by cases p<;>simp [sg]<;>omega
  rw [e] at hz ⊢
  unfold ZB at hz
  rw [pO] at hz
  refine Gv.ax rfl (Gv.bind (r:=lm (x+y)) (.of (n+2) fun N hN=>OO (by simp only [SM];omega) (by simp only [SM];omega) (by omega) (by omega)) ?_)
  exact (mE _ (by simp only [SM];omega)).bind (Gv.pure _)
 | false =>
  have Ko:q=!p:=by cases p<;>cases q<;>simp_all
  subst Ko
  refine Gv.aL rfl ?_
  refine Gv.bind (r:=H5 x y) (.of (n+2) fun N hN=>Lr (by omega) (by simp only [SM];omega) (by simp only [SM];omega)) ?_
  have ft:=OL (a:=x) (b:=y) (by simp only [SM];omega) (by simp only [SM];omega)
  by_cases PL:x < y
  ·refine Gv.aL (decide_eq_false (by have:=ft.2 PL;omega)) (Gv.bind (r:=lm (y - x)) (.of (n+2) fun N hN=>GV (by omega) (by simp only [SM];omega) (by omega)) ?_)
   have e:sg p x+sg (!p) y=sg (!p) (y - x):=by cases p<;>simp [sg]<;>omega
   rw [e] at hz ⊢
   unfold ZB at hz
   rw [pO] at hz
   exact (mE _ (by simp only [SM];omega)).bind (Gv.pure _)
  ·refine Gv.ax (decide_eq_true (by have:=fun h=>PL (ft.1 h);omega)) (Gv.bind (r:=lm (x - y)) (.of (n+2) fun N hN=>GV (by omega) (by simp only [SM];omega) (by omega)) ?_)
   have e:sg p x+sg (!p) y=sg p (x - y):=by cases p<;>simp [sg]<;>omega
   rw [e] at hz ⊢
   unfold ZB at hz
   rw [pO] at hz
   exact (mE _ (by simp only [SM];omega)).bind (Gv.pure _)
theorem IB.opp (ha:IB a n):IB ⟨!a.fG,a.fL⟩ n:=⟨ha.U,ha.len⟩
theorem Fc (ha:IB a n) (hn:SM n):Gv (fun N=>tJ N a) (zv a).sign:=by
 refine (s7 ha hn).bind ?_
 have hX:zv a=sg a.fG (zv a).natAbs:=by rw [jV];rfl
 generalize (zv a).natAbs=x at *
 rw [hX]
 generalize a.fG=p
 by_cases h:x=0
 ·subst h
  refine Gv.ax (by rw [fU];rfl) ((Gv.pure _).eq ?_)
  cases p<;>rfl
 ·refine Gv.aL ?_ ?_
  ·have:=j9.2 h
   simp;exact fun h'=>by rw [h'] at this;simp at this
  ·cases p with
   | true=>exact Gv.ax rfl ((Gv.pure _).eq (by simp only [sg,cond_true];rw [Int.sign_eq_neg_one_of_neg];omega))
   | false=>exact Gv.aL rfl ((Gv.pure _).eq (by simp only [sg,cond_false];rw [Int.sign_eq_one_of_pos];omega))
theorem SA {z:Int} (h1:-9223372036854775808≤z) (h2:z≤9223372036854775807):Gv (fun N=>AW N z) (uc z):=by
 have hl:ZB z 4:=ZB.word h1 h2
 unfold ZB at hl
 unfold AW
 by_cases h:z < 0
 ·refine Gv.ax (decide_eq_true h) (Gv.bind (r:=lm z.natAbs) (.of 5 fun N hN=>?_) ?_)
  ·have e:IntKind.u64.wrap (0 - IntKind.u64.wrap z)=((z.natAbs:Nat):Int):=by rw [wrap64,wrap64];omega
   rw [e];exact Bh (by omega) (by omega)
  ·refine (mE true (by simp only [SM];omega)).bind ((Gv.pure _).eq ?_)
   have:sg true z.natAbs=z:=by simp [sg];omega
   rw [this]
 ·refine Gv.aL (decide_eq_false h) (Gv.bind (r:=lm z.natAbs) (.of 5 fun N hN=>?_) ?_)
  ·have e:IntKind.u64.wrap z=((z.natAbs:Nat):Int):=by rw [wrap64];omega
   rw [e];exact Bh (by omega) (by omega)
  ·refine (mE false (by simp only [SM];omega)).bind ((Gv.pure _).eq ?_)
   have:sg false z.natAbs=z:=by simp [sg];omega
   rw [this]
theorem LL {z:Int} (h1:-9223372036854775808≤z) (h2:z≤9223372036854775807):Gv (fun N=>xN N z) (uc z):=by
 unfold xN
 by_cases h:z < 0
 ·refine Gv.ax (decide_eq_true h) (Gv.bind (r:=lm z.natAbs) (.of 5 fun N hN=>?_) ?_)
  ·have e:IntKind.u64.wrap ((IntKind.u64.wrap ((ao (0 - (ao (z+1))))))+1)=((z.natAbs:Nat):Int):=by rw [bC (n:=z+1) (by omega) (by omega),bC (by omega) (by omega),wrap64,wrap64];omega
   rw [e];exact LD (by omega) (by omega)
  ·refine (Gv.pure _).eq ?_
   unfold uc;rw [decide_eq_true h]
 ·refine Gv.aL (decide_eq_false h) (Gv.bind (r:=lm z.natAbs) (.of 5 fun N hN=>?_) ?_)
  ·have e:IntKind.u64.wrap z=((z.natAbs:Nat):Int):=by rw [wrap64];omega
   rw [e];exact LD (by omega) (by omega)
  ·refine (Gv.pure _).eq ?_
   unfold uc;rw [decide_eq_false h]
theorem P2 (ha:IB a m) (hb:IB b n) (hs:SM (m+n+2)) (h0:zv b≠0):Gv (fun N=>xi N a b) (uc (zv a / zv b),uc (zv a % zv b),0):=by
 simp only [SM] at hs
 have D2:=ha.zb
 have q0:=hb.zb
 unfold ZB at D2 q0
 refine (s7 ha (by simp only [SM];omega)).bind ((s7 hb (by simp only [SM];omega)).bind ?_)
 have hX:zv a=sg a.fG (zv a).natAbs:=by rw [jV];rfl
 have hY:zv b=sg b.fG (zv b).natAbs:=by rw [jV];rfl
 generalize hx:(zv a).natAbs=x at *
 generalize hy:(zv b).natAbs=y at *
 have NP:y≠0:=by omega
 refine Gv.aL (by have:=j9.2 NP;simp;exact fun h'=>by rw [h'] at this;simp at this) ?_
 refine Gv.bind (r:=(lm (x / y),lm (x % y))) (.of (m+n+20) fun N hN=>zX NP (by simp only [SM];omega) (by omega)) ?_
 have hq:(lm (x / y)).length≤m:=dp (fh (Nat.div_le_self _ _)) D2
 have hr:(lm (x % y)).length≤n:=dp (fh (Nat.le_of_lt (Nat.mod_lt _ (by omega)))) q0
 have fin:∀ (k r:Nat),(lm k).length≤m+1→(lm r).length≤n→zv a=zv b * sg (!(a.fG == b.fG)) k+r→r < y →
   Gv (fun N=>ou N a b (lm k) (lm r)) (uc (zv a / zv b),uc (zv a % zv b),0):=by
  intro k r hk hr he ft
  have SB:zv a % zv b=(r:Int):=by
   rw [he,Int.add_comm,Int.add_mul_emod_self_left]
   have lP:zv b=(y:Int)∨zv b = -(y:Int):=by omega
   rcases lP with h | h
   ·rw [h];exact Int.emod_eq_of_lt (by omega) (by omega)
   ·rw [h,Int.emod_neg];exact Int.emod_eq_of_lt (by omega) (by omega)
  have hdiv:zv a / zv b=sg (!(a.fG == b.fG)) k:=by
   have h1:=Int.mul_ediv_add_emod (zv a) (zv b)
   rw [SB] at h1
   have h2:zv b * (zv a / zv b)=zv b * sg (!(a.fG == b.fG)) k:=by omega
   exact Int.eq_of_mul_eq_mul_left h0 h2
  refine (mE _ (by simp only [SM];omega)).bind ((mE false (by simp only [SM];omega)).bind ((Gv.pure _).eq ?_))
  rw [SB,hdiv];rfl
 have PL:=Nat.div_add_mod x y
 have hml:=Nat.mod_lt x (Nat.pos_of_ne_zero NP)
 by_cases SC:a.fG=true∧0 < x % y
 ·obtain ⟨hp,H7⟩:=SC
  have hl:=j9.2 (show x % y≠0 by omega)
  refine Gv.ax (by rw [hp,cond_true];show decide ((((lm (x % y)).length:Nat):Int) > 0)=true;exact decide_eq_true (by omega)) ?_
  have ZY:(lm (x / y+1)).length≤m+1:=by
   rw [iq] at hq ⊢
   rw [fT];have:=kH m;omega
  have e1:([1]:List Int)=lm 1:=by rw [pf (by decide)];simp [fU]
  refine Gv.bind (r:=lm (x / y+1)) (.of (m+5) fun N hN=>by rw [e1];exact OO (by simp only [SM];omega) (by rw [← e1];decide) (by omega) (by rw [← e1];simp;omega)) ?_
  refine Gv.bind (r:=lm (y - x % y)) (.of (n+2) fun N hN=>GV (by omega) (by simp only [SM];omega) (by omega)) ?_
  refine fin _ _ ZY (dp (fh (Nat.sub_le _ _)) q0) ?_ (by omega)
  rw [hX,hY,hp]
  have Yd:(x:Int)=y * (x / y:Nat)+(x % y:Nat):=by exact_mod_cast PL.symm
  have Z6:((y - x % y:Nat):Int)=y - (x % y:Nat):=by omega
  rw [Z6]
  generalize (x / y)=k at *
  generalize (x % y)=r at *
  cases b.fG<;>simp only [sg,cond_true,cond_false,Bool.not_true,Bool.not_false,BEq.rfl,show (true == false)=false from rfl]<;>rw [Yd]<;>push_cast<;>grind
 ·have hcf:cond a.fG (decide ((((lm (x % y)).length:Nat):Int) > 0)) false=false:=by
   cases hp:a.fG with
   | false=>rfl
   | true =>
    have:x % y=0:=Nat.eq_zero_of_not_pos fun h=>SC ⟨hp,h⟩
    rw [this,fU];rfl
  refine Gv.aL hcf ?_
  refine fin _ _ (by omega) hr ?_ hml
  rw [hX,hY]
  have Yd:(x:Int)=y * (x / y:Nat)+(x % y:Nat):=by exact_mod_cast PL.symm
  have hz:a.fG=true→x % y=0:=fun hp=>Nat.eq_zero_of_not_pos fun h=>SC ⟨hp,h⟩
  generalize (x / y)=k at *
  generalize (x % y)=r at *
  cases hp:a.fG<;>cases b.fG<;>simp only [sg,cond_true,cond_false,Bool.not_true,Bool.not_false,BEq.rfl,show (true == false)=false from rfl,show (false == true)=false from rfl]<;>rw [Yd]<;>(try have H7:=hz hp)<;>grind
end
end Go.Den
namespace Go.Den
open Go.Ab
theorem P3 {N:Nat} (K:List Int→List Int→Option (List Int)) (hN:4 < N):∀ (y x fuel:Nat),y < fuel→x < 18446744073709551616→y < 18446744073709551616→lk N K fuel (x:Int) (y:Int)=some (lm (Nat.gcd x y)):=by
 intro y
 induction y using Nat.strongRecOn with
 | _ y ih =>
  intro x fuel hf hx hy
  obtain ⟨g,rfl⟩:∃ g,fuel=g+1:=⟨fuel - 1,by omega⟩
  rw [lk]
  by_cases h:y=0
  ·subst h
   rw [decide_eq_false (by decide),cond_false,Bh hN hx,bO,Nat.gcd_zero_right]
  ·rw [decide_eq_true (by omega),cond_true,if_pos (by omega),Int.tmod_eq_emod_of_nonneg (by omega)]
   have e:((x:Int) % (y:Int))=((x % y:Nat):Int):=by simp
   have ft:=Nat.mod_lt x (Nat.pos_of_ne_zero h)
   rw [e,ih (x % y) ft y g (by omega) hy (by omega),Nat.gcd_comm x y,Nat.gcd_rec y x,Nat.gcd_comm]
theorem P4 {N:Nat} {k:Nat} (hk:SM (2 * k+2)) (hN:2 * k+20 < N):∀ (y x fuel:Nat),y < fuel→y < N→(lm x).length≤k→(lm y).length≤k→jL N fuel (lm x) (lm y)=some (lm (Nat.gcd x y)):=by
 intro y
 simp only [SM] at hk
 induction y using Nat.strongRecOn with
 | _ y ih =>
  intro x fuel hf hyN hx hy
  obtain ⟨g,rfl⟩:∃ g,fuel=g+1:=⟨fuel - 1,by omega⟩
  rw [jL]
  by_cases h:y=0
  ·subst h
   rw [fU,Nat.gcd_zero_right];rfl
  ·have hl:=j9.2 h
   rw [decide_eq_true (by omega),cond_true,OQ (by omega) (by simp only [SM];omega),bO,OQ (by omega) (by simp only [SM];omega),bO]
   by_cases h4:(lm x).length≤4∧(lm y).length≤4
   ·rw [if_pos h4.1,if_pos h4.2]
    have b1:=iq.1 h4.1
    have b2:=iq.1 h4.2
    have e4:pw 4=18446744073709551616:=by decide
    exact P3 _ (by omega) y x N hyN (by omega) (by omega)
   ·have e:cond (if (lm x).length≤4 then ((x:Int),true) else (0,false)).2 (if (lm y).length≤4 then ((y:Int),true) else (0,false)).2 false=false:=by
     by_cases h1:(lm x).length≤4
     ·have h2:¬ (lm y).length≤4:=fun h2=>h4 ⟨h1,h2⟩
      rw [if_pos h1,if_neg h2];rfl
     ·rw [if_neg h1];rfl
    rw [e,cond_false,zX h (by simp only [SM];omega) (by omega),bO]
    have ft:=Nat.mod_lt x (Nat.pos_of_ne_zero h)
    rw [ih (x % y) ft y g (by omega) (by omega) hy (dp (fh (by omega)) hy),Nat.gcd_comm x y,Nat.gcd_rec y x,Nat.gcd_comm]
theorem P5 {x y k:Nat} (hx:(lm x).length≤k) (hy:(lm y).length≤k) (hk:SM (2 * k+2)):Gv (fun N=>xf N (lm x) (lm y)) (lm (Nat.gcd x y)) :=
 .of (2 * k+21+y) fun N hN=>P4 hk (by omega) y x N (by omega) (by omega) hx hy
def dv (x:aa):Int:=if zv x.fD=0 then 1 else zv x.fD
def qv (x:aa):Rat:=Rat.divInt (zv x.fN) (dv x)
def aX (q:Rat):aa:=⟨uc q.num,uc (q.den:Int)⟩
structure RB (q:Rat) (n:Nat):Prop where
 num:ZB q.num n
 den:ZB (q.den:Int) n
structure IR (x:aa) (n:Nat):Prop where
 num:IB x.fN n
 den:IB x.fD n
theorem uP (x:aa):dv x≠0:=by unfold dv;split<;>omega
theorem RB.le {q:Rat} {m n:Nat} (h:RB q m) (OT:m≤n):RB q n:=⟨h.num.le OT,h.den.le OT⟩
theorem IR.le {x:aa} {m n:Nat} (h:IR x m) (OT:m≤n):IR x n:=⟨h.num.le OT,h.den.le OT⟩
theorem RB.ir {q:Rat} {n:Nat} (h:RB q n):IR (aX q) n:=⟨h.num.ib,h.den.ib⟩
theorem Ye (q:Rat):dv (aX q)=q.den:=by
 unfold dv aX;simp only [ly];rw [if_neg];have:=q.den_nz;omega
theorem jo (q:Rat):qv (aX q)=q:=by
 unfold qv;rw [Ye];simp only [aX,ly];exact Rat.num_divInt_den q
theorem G2 (a:Int) (b:Nat) (hb:b≠0):(a / (b:Int)).natAbs≤a.natAbs:=Int.natAbs_ediv_le_natAbs a b
theorem wJ {a b:Int} {n:Nat} (ha:ZB a n) (hb:ZB b n) (h0:b≠0):RB (Rat.divInt a b) n:=by
 have hg:Int.gcd b a≠0:=fun h=>h0 (Int.gcd_eq_zero_iff.1 h).1
 constructor
 ·rw [Rat.num_divInt]
  refine ha.of_le (dp (G2 _ _ hg) ?_)
  rw [Int.natAbs_mul,Int.natAbs_sign_of_ne_zero h0];omega
 ·rw [Rat.den_divInt,if_neg h0]
  refine hb.of_le ?_
  rw [Int.natAbs_natCast]
  exact Nat.div_le_self _ _
theorem IR.rb {x:aa} {n:Nat} (h:IR x n) (hn:1≤n):RB (qv x) n:=by
 refine wJ h.num.zb ?_ (uP x)
 unfold dv
 split
 ·exact (ZB.small (by decide)).le hn
 ·exact h.den.zb
theorem RB.int {z:Int} {n:Nat} (h:ZB z n) (hn:1≤n):RB (z:Rat) n:=⟨h,(ZB.small (x:=1) (by decide)).le hn⟩
theorem RB.neg {q:Rat} {n:Nat} (h:RB q n):RB (-q) n:=⟨by rw [Rat.neg_num];exact h.num.neg,by rw [Rat.neg_den];exact h.den⟩
theorem mF (q:Rat):q=Rat.divInt q.num q.den:=(Rat.num_divInt_den q).symm
theorem pg (q:Rat):(q.den:Int)≠0:=by have:=q.den_nz;omega
theorem RB.add {p q:Rat} {m n:Nat} (h1:RB p m) (h2:RB q n):RB (p+q) (m+n+1):=by
 rw [mF p,mF q,Rat.divInt_add_divInt _ _ (pg p) (pg q)]
 refine wJ ((h1.num.mul h2.den).add ((h2.num.mul h1.den).le (by omega))) ((h1.den.mul h2.den).le (by omega)) ?_
 exact Int.mul_ne_zero (pg p) (pg q)
theorem RB.sub {p q:Rat} {m n:Nat} (h1:RB p m) (h2:RB q n):RB (p - q) (m+n+1):=by rw [Rat.sub_eq_add_neg];exact h1.add h2.neg
theorem RB.mul {p q:Rat} {m n:Nat} (h1:RB p m) (h2:RB q n):RB (p * q) (m+n):=by
 rw [mF p,mF q,Rat.divInt_mul_divInt]
 exact wJ (h1.num.mul h2.num) (h1.den.mul h2.den) (Int.mul_ne_zero (pg p) (pg q))
theorem uQ {a b c d:Int} (hb:b≠0) (hd:d≠0):Rat.divInt a b / Rat.divInt c d=Rat.divInt (a * d) (b * c):=by
 rw [Rat.div_def,Rat.inv_divInt,Rat.divInt_mul_divInt]
theorem Yf {q:Rat} (h:q≠0):q.num≠0:=fun h'=>h (Rat.num_eq_zero.1 h')
theorem RB.div {p q:Rat} {m n:Nat} (h1:RB p m) (h2:RB q n) (h0:q≠0):RB (p / q) (m+n):=by
 rw [mF p,mF q,uQ (pg p) (pg q)]
 exact wJ (h1.num.mul h2.den) (h1.den.mul h2.num) (Int.mul_ne_zero (pg p) (Yf h0))
section
variable {a b:bR} {x y:aa} {m n:Nat}
theorem nF (ha:IB a n) (hb:IB b n) (h0:zv b≠0) (hs:SM (2 * n+2)):Gv (fun N=>iz N a b) (aX (Rat.divInt (zv a) (zv b))):=by
 simp only [SM] at hs
 have D2:=ha.zb
 have q0:=hb.zb
 unfold ZB at D2 q0
 refine (s7 ha (by simp only [SM];omega)).bind ((s7 hb (by simp only [SM];omega)).bind ?_)
 have hX:zv a=sg a.fG (zv a).natAbs:=by rw [jV];rfl
 have hY:zv b=sg b.fG (zv b).natAbs:=by rw [jV];rfl
 generalize hxx:(zv a).natAbs=x at *
 generalize hyy:(zv b).natAbs=y at *
 have NP:y≠0:=by omega
 have hg0:0 < Nat.gcd x y:=Nat.gcd_pos_of_pos_right _ (by omega)
 refine (P5 D2 q0 (by simp only [SM];omega)).bind ?_
 have Wj:=j9.2 (show Nat.gcd x y≠0 by omega)
 have hgn:(lm (Nat.gcd x y)).length≤n:=dp (fh (Nat.gcd_le_right _ (by omega))) q0
 have fin:∀ u v:Nat,u=x / Nat.gcd x y→v=y / Nat.gcd x y→Gv (fun N=>mg N a b (lm u) (lm v)) (aX (Rat.divInt (zv a) (zv b))):=by
  intro u v hu hv
  have hul:(lm u).length≤n:=dp (fh (by rw [hu];exact Nat.div_le_self _ _)) D2
  have NS:(lm v).length≤n:=dp (fh (by rw [hv];exact Nat.div_le_self _ _)) q0
  refine (mE _ (by simp only [SM];omega)).bind ((mE false (by simp only [SM];omega)).bind ((Gv.pure _).eq ?_))
  have Yg:Int.gcd (zv b) (zv a)=Nat.gcd x y:=by unfold Int.gcd;rw [hxx,hyy,Nat.gcd_comm]
  unfold aX
  rw [Rat.num_divInt,Rat.den_divInt,if_neg h0,Yg,hyy]
  have hd:(Nat.gcd x y) ∣ x:=Nat.gcd_dvd_left _ _
  have e1:(zv b).sign * zv a / ((Nat.gcd x y:Nat):Int)=sg (!(a.fG == b.fG)) u:=by
   have VK:(x:Int)=(Nat.gcd x y:Nat) * (u:Int):=by
    have:x=Nat.gcd x y * u:=by rw [hu,Nat.mul_div_cancel' hd]
    exact_mod_cast this
   have e2:(zv b).sign * zv a=(Nat.gcd x y:Nat) * sg (!(a.fG == b.fG)) u:=by
    rw [hX,hY]
    cases a.fG<;>cases b.fG<;>simp only [sg,cond_true,cond_false,Bool.not_true,Bool.not_false,BEq.rfl,show (true == false)=false from rfl,show (false == true)=false from rfl]
    ·rw [Int.sign_eq_one_of_pos (by omega),Int.one_mul,← VK]
    ·rw [Int.sign_eq_neg_one_of_neg (by omega),Int.mul_neg,← VK];omega
    ·rw [Int.sign_eq_one_of_pos (by omega),Int.one_mul,Int.mul_neg,← VK]
    ·rw [Int.sign_eq_neg_one_of_neg (by omega),← VK];omega
   rw [e2,Int.mul_ediv_cancel_left _ (by omega)]
  rw [e1,← hv];rfl
 have e0:(lm (Nat.gcd x y)).getD 0 0=((Nat.gcd x y % 65536:Nat):Int):=by rw [pf (by omega)];rfl
 refine Gv.if (fun _=>⟨by omega,by omega⟩) ?_
 rw [e0]
 by_cases h1:Nat.gcd x y=1
 ·refine Gv.aL ?_ (fin x y (by rw [h1,Nat.div_one]) (by rw [h1,Nat.div_one]))
  rw [h1,pf (by decide)];simp [fU]
 ·refine Gv.ax ?_ ?_
  ·by_cases h2:(lm (Nat.gcd x y)).length=1
   ·have:=iq.1 (show (lm (Nat.gcd x y)).length≤1 by omega)
    have e1:pw 1=65536:=by decide
    rw [h2]
    have h3:(((Nat.gcd x y % 65536:Nat):Int) != 1)=true:=by simp;omega
    rw [h3];rfl
   ·have h3:((((lm (Nat.gcd x y)).length:Nat):Int) != 1)=true:=by simp;omega
    rw [h3];rfl
  ·refine Gv.bind (r:=(lm (x / Nat.gcd x y),lm (x % Nat.gcd x y))) (.of (2 * n+20) fun N hN=>zX (by omega) (by simp only [SM];omega) (by omega)) ?_
   refine Gv.bind (r:=(lm (y / Nat.gcd x y),lm (y % Nat.gcd x y))) (.of (2 * n+20) fun N hN=>zX (by omega) (by simp only [SM];omega) (by omega)) ?_
   exact fin _ _ rfl rfl
def CE (x:aa):bR:=if zv x.fD=0 then ⟨false,[1]⟩ else x.fD
theorem Nt:zv ⟨false,[1]⟩=1:=by decide
theorem kb (x:aa):zv (CE x)=dv x:=by unfold CE dv;split<;>simp [Nt]
theorem SD {n:Nat} (hn:1≤n):IB ⟨false,[1]⟩ n:=⟨U.one (by decide) (by decide),hn⟩
theorem IR.CE (h:IR x n) (hn:1≤n):IB (CE x) n:=by
 unfold Go.Den.CE;split
 ·exact SD hn
 ·exact h.den
theorem qk (hx:IR x n) (hs:SM n):Gv (fun N=>kJ N x) (CE x):=by
 refine (Fc hx.den hs).bind ?_
 unfold CE
 by_cases h:zv x.fD=0
 ·rw [if_pos h];exact Gv.ax (by rw [h];rfl) (Gv.pure _)
 ·rw [if_neg h]
  exact Gv.aL (by simp;exact h) (Gv.pure _)
theorem DJ (hx:IR x n) (hn:1≤n) (hs:SM (2 * n+2)):Gv (fun N=>jl N x) (aX (qv x)):=by
 have H6:=hs
 simp only [SM] at H6
 refine (qk hx (by simp only [SM];omega)).bind ?_
 refine (nF hx.num (hx.CE hn) (by rw [kb];exact uP x) hs).bind ((Gv.pure _).eq ?_)
 rw [kb];rfl
theorem DK (hx:IR x n) (hs:SM n):Gv (fun N=>fX N x) (decide (qv x=0)):=by
 refine (Fc hx.num hs).bind ((Gv.pure _).eq ?_)
 unfold qv
 by_cases h:zv x.fN=0
 ·rw [h,Rat.zero_divInt];rfl
 ·have:Rat.divInt (zv x.fN) (dv x)≠0:=by
   rw [← Rat.zero_divInt 1,ne_eq,Rat.divInt_eq_divInt_iff (uP x) (by decide)];simpa using h
  rw [decide_eq_false this]
  simp;exact h
theorem DL (hx:IR x m) (hy:IR y n) (hm:1≤m) (hn:1≤n) (hs:SM (2 * (m+n+1)+2)):Gv (fun N=>dn N x y) (aX (qv x+qv y)):=by
 simp only [SM] at hs
 refine (DK hx (by simp only [SM];omega)).bind ?_
 by_cases h1:qv x=0
 ·refine Gv.ax (decide_eq_true h1) ((DJ hy hn (by simp only [SM];omega)).bind ((Gv.pure _).eq ?_))
  rw [h1,Rat.zero_add]
 ·refine Gv.aL (decide_eq_false h1) ((DK hy (by simp only [SM];omega)).bind ?_)
  by_cases h2:qv y=0
  ·refine Gv.ax (decide_eq_true h2) ((DJ hx hm (by simp only [SM];omega)).bind ((Gv.pure _).eq ?_))
   rw [h2,Rat.add_zero]
  ·refine Gv.aL (decide_eq_false h2) ((qk hx (by simp only [SM];omega)).bind ((qk hy (by simp only [SM];omega)).bind ?_))
   refine (zd hx.num (hy.CE hn) (by simp only [SM];omega)).bind ((zd hy.num (hx.CE hm) (by simp only [SM];omega)).bind ?_)
   have z1:=hx.num.zb.mul (hy.CE hn).zb
   have z2:=hy.num.zb.mul (hx.CE hm).zb
   have z3:=(hx.CE hm).zb.mul (hy.CE hn).zb
   rw [kb] at z1 z2
   rw [kb,kb] at z3
   refine Gv.bind (r:=uc (zv x.fN * dv y+zv y.fN * dv x)) ?_ ?_
   ·have:=Sz (n:=m+n) (a:=uc (zv x.fN * zv (CE y))) (b:=uc (zv y.fN * zv (CE x))) (by rw [kb];exact z1.ib) (by rw [kb];exact (z2.le (by omega)).ib) (by simp only [SM];omega)
    rw [ly,ly,kb,kb] at this
    rw [kb,kb];exact this
   ·refine Gv.bind (r:=uc (dv x * dv y)) ?_ ?_
    ·have:=zd (hx.CE hm) (hy.CE hn) (by simp only [SM];omega)
     rwa [kb,kb] at this
    ·have h0:dv x * dv y≠0:=Int.mul_ne_zero (uP x) (uP y)
     refine (nF (n:=m+n+1) (z1.add (z2.le (by omega))).ib (z3.le (by omega)).ib (by rw [ly];exact h0) (by simp only [SM];omega)).bind ((Gv.pure _).eq ?_)
     rw [ly,ly]
     unfold qv
     rw [Rat.divInt_add_divInt _ _ (uP x) (uP y)]
theorem nH (hx:IR x n) (hn:1≤n) (hs:SM (2 * n+2)):Gv (fun N=>ej N x) (aX (-qv x)):=by
 have H6:=hs
 simp only [SM] at H6
 refine (LJ x.fN).bind ((qk hx (by simp only [SM];omega)).bind ?_)
 refine (nF hx.num.opp (hx.CE hn) (by rw [kb];exact uP x) hs).bind ((Gv.pure _).eq ?_)
 rw [LK,kb];unfold qv;rw [Rat.neg_divInt]
theorem zY (hx:IR x m) (hy:IR y n) (hm:1≤m) (hn:1≤n) (hs:SM (2 * (m+n+1)+2)):Gv (fun N=>ll N x y) (aX (qv x - qv y)):=by
 have H6:=hs
 simp only [SM] at H6
 refine (nH hy hn (by simp only [SM];omega)).bind ?_
 refine (DL hx (hy.rb hn).neg.ir hm hn hs).bind ((Gv.pure _).eq ?_)
 rw [jo,Rat.sub_eq_add_neg]
theorem IZ (hx:IR x m) (hy:IR y n) (hm:1≤m) (hn:1≤n) (hs:SM (2 * (m+n)+2)):Gv (fun N=>dy N x y) (aX (qv x * qv y)):=by
 simp only [SM] at hs
 refine (zd hx.num hy.num (by simp only [SM];omega)).bind ((qk hx (by simp only [SM];omega)).bind ((qk hy (by simp only [SM];omega)).bind ?_))
 refine (zd (hx.CE hm) (hy.CE hn) (by simp only [SM];omega)).bind ?_
 have z1:=hx.num.zb.mul hy.num.zb
 have z3:=(hx.CE hm).zb.mul (hy.CE hn).zb
 have h0:dv x * dv y≠0:=Int.mul_ne_zero (uP x) (uP y)
 refine (nF (n:=m+n) z1.ib z3.ib (by rw [ly,kb,kb];exact h0) (by simp only [SM];omega)).bind ((Gv.pure _).eq ?_)
 rw [ly,ly,kb,kb]
 unfold qv
 rw [Rat.divInt_mul_divInt]
theorem VL (hx:IR x m) (hy:IR y n) (hm:1≤m) (hn:1≤n) (h0:qv y≠0) (hs:SM (2 * (m+n)+2)):Gv (fun N=>ru N x y) (aX (qv x / qv y)):=by
 simp only [SM] at hs
 refine (qk hy (by simp only [SM];omega)).bind ((zd hx.num (hy.CE hn) (by simp only [SM];omega)).bind ((qk hx (by simp only [SM];omega)).bind ((zd (hx.CE hm) hy.num (by simp only [SM];omega)).bind ?_)))
 have z1:=hx.num.zb.mul (hy.CE hn).zb
 have z3:=(hx.CE hm).zb.mul hy.num.zb
 have hyn:zv y.fN≠0:=fun h=>h0 (by unfold qv;rw [h,Rat.zero_divInt])
 have h0:dv x * zv y.fN≠0:=Int.mul_ne_zero (uP x) hyn
 refine (nF (n:=m+n) z1.ib z3.ib (by rw [ly,kb];exact h0) (by simp only [SM];omega)).bind ((Gv.pure _).eq ?_)
 rw [ly,ly,kb,kb]
 unfold qv
 rw [uQ (uP x) (uP y)]
def pR (q:Rat):Int:=q.num.sign
theorem LO {a b:Int} (hb:b≠0):(Rat.divInt a b).num.sign=a.sign * b.sign:=by
 rw [Rat.num_divInt]
 have hg:Int.gcd b a≠0:=fun h=>hb (Int.gcd_eq_zero_iff.1 h).1
 obtain ⟨c,hc⟩:((Int.gcd b a:Nat):Int) ∣ a:=Int.gcd_dvd_right ..
 have e:b.sign * a / ((Int.gcd b a:Nat):Int)=b.sign * c:=by
  have e0:b.sign * a=((Int.gcd b a:Nat):Int) * (b.sign * c):=by rw [Int.mul_left_comm,← hc]
  rw [e0,Int.mul_ediv_cancel_left _ (by omega)]
 rw [e,Int.sign_mul,Int.sign_sign]
 have e2:a.sign=c.sign:=by
  have e0:=congrArg Int.sign hc
  rw [Int.sign_mul,Int.sign_eq_one_of_pos (show 0 < ((Int.gcd b a:Nat):Int) by omega),Int.one_mul] at e0
  exact e0
 rw [e2,gr]
theorem Eb (z:Int):z.sign=0∨z.sign=1∨z.sign = -1:=by
 rcases Int.lt_trichotomy z 0 with h | h | h
 ·right;right;exact Int.sign_eq_neg_one_of_neg h
 ·left;rw [h];rfl
 ·right;left;exact Int.sign_eq_one_of_pos h
theorem zZ (hx:IR x n) (hn:1≤n) (hs:SM n):Gv (fun N=>ij N x) (pR (qv x)):=by
 refine (Fc hx.num hs).bind ((qk hx hs).bind ((Fc (hx.CE hn) hs).bind ((Gv.pure _).eq ?_)))
 rw [kb]
 unfold pR qv
 rw [LO (uP x)]
 rcases Eb (zv x.fN) with h | h | h<;>rcases Eb (dv x) with h' | h' | h'<;>rw [h,h']<;>rfl
theorem P6 (hx:IR x m) (hy:IR y n) (hm:1≤m) (hn:1≤n) (hs:SM (2 * (m+n+1)+2)):Gv (fun N=>gI N x y) (pR (qv x - qv y)):=by
 have H6:=hs
 simp only [SM] at H6
 refine (zY hx hy hm hn hs).bind ?_
 refine (zZ ((hx.rb hm).sub (hy.rb hn)).ir (by omega) (by simp only [SM];omega)).bind ((Gv.pure _).eq ?_)
 rw [jo]
theorem G3 (z:Int):Rat.divInt z 1=(z:Rat):=by
 apply Rat.ext
 ·rw [Rat.num_divInt];simp
 ·rw [Rat.den_divInt];simp
theorem SE (ha:IB a n) (hn:1≤n) (hs:SM (2 * n+2)):Gv (fun N=>zO N a) (aX (zv a:Rat)):=by
 refine (nF ha (SD hn) (by rw [Nt];decide) hs).bind ((Gv.pure _).eq ?_)
 rw [Nt,G3]
theorem lM {z:Int} (h1:-9223372036854775808≤z) (h2:z≤9223372036854775807):Gv (fun N=>da N z) (aX (z:Rat)):=by
 refine (SA h1 h2).bind ((SE (n:=4) (ZB.word h1 h2).ib (by decide) (by simp)).bind ((Gv.pure _).eq ?_))
 rw [ly]
theorem VM {z:Int} (h1:-9223372036854775808≤z) (h2:z≤9223372036854775807):Gv (fun N=>IV N z) (aX (z:Rat)) :=
 (LL h1 h2).bind ((LL (by decide) (by decide)).bind ((Gv.pure _).eq rfl))
theorem SG {a b:Int} (h1:-9223372036854775808≤a) (h2:a≤9223372036854775807) (h3:-9223372036854775808≤b) (h4:b≤9223372036854775807) (h0:b≠0):Gv (fun N=>zP N a b) (aX (Rat.divInt a b),0):=by
 refine Gv.aL (by simpa using h0) ((SA h1 h2).bind ((SA h3 h4).bind ?_))
 refine (nF (n:=4) (ZB.word h1 h2).ib (ZB.word h3 h4).ib (by rw [ly];exact h0) (by simp)).bind ((Gv.pure _).eq ?_)
 rw [ly,ly]
end
theorem lF {q:Rat}:pR q < 0↔q < 0:=by
 unfold pR;rw [Rat.lt_iff]
 simp
theorem Ck {q:Rat}:pR q=0↔q=0:=by
 unfold pR;rw [Int.sign_eq_zero_iff_zero];exact Rat.num_eq_zero
theorem Fe {q:Rat}:0 < pR q↔0 < q:=by
 unfold pR;rw [Rat.lt_iff]
 simp
end Go.Den
namespace Go.Den
open Go.Ab
def aH {α:Type} (f:Nat→Nat→Option α) (r:α):Prop:=∃ N0,∀ N fuel,N0≤N→N0≤fuel→f N fuel=some r
theorem aH.diag {α:Type} {f:Nat→Nat→Option α} {r:α} (h:aH f r):Gv (fun N=>f N N) r:=let ⟨N0,h0⟩:=h;⟨N0,fun N hN=>h0 N N hN hN⟩
theorem aH.step {α:Type} {f:Nat→Nat→Option α} {r:α} (N1:Nat) (h:∀ N g,N1≤N→N1≤g→f N (g+1)=some r):aH f r :=
 ⟨N1+1,fun N fuel hN hf=>by obtain ⟨g,rfl⟩:∃ g,fuel=g+1:=⟨fuel - 1,by omega⟩;exact h N g (by omega) (by omega)⟩
def cs (c:fo) (i:Nat):Int:=c.av.getD i 0
def cq (c:fo) (i:Nat):Rat:=qv (c.bc.getD i aa.d)
structure CB (c:fo) (n:Nat):Prop where
 one:1≤n
 len:c.av.length≤1000
 Yh:c.bc.length≤1000
 ir:∀ i,IR (c.bc.getD i aa.d) n
def jW (c:fo) (i:Nat):Option Int :=
 cond (cond (cond (decide (cs c i < -10000000)) true (decide (cs c i > 10000000))) true (decide (pR (cq c i) < 0))) (some 2) (cond (cond (decide (0 < i)) (decide (cs c i≤cs c (i - 1))) false) (some 10) none)
def tv (c:fo):Int :=
 cond (decide (((c.av.length:Nat):Int) > 40)) 8 (cond (((c.bc.length:Nat):Int) != ((c.av.length:Nat):Int)) 11 (scan (jW c) 0 c.av.length 0))
theorem Az {c:fo} {n:Nat} (h:CB c n) (hs:SM n) (hl:c.bc.length=c.av.length):∀ k i,i+k=c.av.length→aH (fun N fuel=>fC N c fuel (i:Int)) (scan (jW c) 0 k i)
 | 0,i,hi=>.step 0 fun N g _ _=>by
  have:i=c.av.length:=by omega
  subst this
  rw [fC,fa];rfl
 | k+1,i,hi=>by
  have hlen:=h.len
  obtain ⟨N1,h1⟩:=zZ (h.ir i) h.one hs
  obtain ⟨N2,h2⟩:=Az h hs hl k (i+1) (by omega)
  dsimp only at h1 h2
  refine .step (N1+N2) fun N g hN hg=>?_
  rw [fC,dec_lt (by omega),cond_true,if_pos (lQ (by omega)),if_pos (fun _=>lQ (by omega)),aj,bh (by omega),h2 N g (by omega) (by omega)]
  have It:ij N (⟨((c.bc.getD i aa.d).fN),((c.bc.getD i aa.d).fD)⟩:aa)=some (pR (cq c i)):=h1 N (by omega)
  rw [It]
  have e0:decide ((i:Int) > 0)=decide (0 < i):=by simp
  rw [e0]
  have e1:decide (0 < i)=true→ao ((i:Int) - 1)=((i - 1:Nat):Int):=fun h=>by have:=oG h;rw [bC (by omega) (by omega)];omega
  rw [if_pos (fun h=>by rw [e1 h];exact lQ (by omega))]
  rw [scan]
  generalize scan (jW c) 0 k (i+1)=S
  unfold jW
  have e2:cond (decide (0 < i)) (decide (c.av.getD i 0≤c.av.getD (ao ((i:Int) - 1)).toNat 0)) false=cond (decide (0 < i)) (decide (cs c i≤cs c (i - 1))) false:=by
   cases h0:decide (0 < i) with
   | false=>rfl
   | true=>rw [e1 h0];rfl
  rw [e2]
  show (cond (!(cond (decide (cs c i < -10000000)) true (decide (cs c i > 10000000)))) (some (pR (cq c i))) (some 0)).bind (fun an=>cond (cond (cond (decide (cs c i < -10000000)) true (decide (cs c i > 10000000))) true (decide (an < 0))) (some 2) (cond (cond (decide (0 < i)) (decide (cs c i≤cs c (i - 1))) false) (some 10) (some S)))=_
  cases cond (decide (cs c i < -10000000)) true (decide (cs c i > 10000000)) with
  | true=>rfl
  | false =>
   rw [Bool.not_false,cond_true,bO]
   cases decide (pR (cq c i) < 0)<;>cases cond (decide (0 < i)) (decide (cs c i≤cs c (i - 1))) false<;>rfl
theorem H8 {c:fo} {n:Nat} (h:CB c n) (hs:SM n):Gv (fun N=>np N c) (tv c):=by
 unfold np tv
 cases h1:decide (((c.av.length:Nat):Int) > 40) with
 | true=>exact Gv.ax rfl (Gv.pure _)
 | false =>
  refine Gv.aL rfl ?_
  cases h2:(((c.bc.length:Nat):Int) != ((c.av.length:Nat):Int)) with
  | true=>exact Gv.ax rfl (Gv.pure _)
  | false =>
   have:c.bc.length=c.av.length:=by simp at h2;omega
   exact Gv.aL rfl (Az h hs this c.av.length 0 (by omega)).diag
structure uR (c:fo):Prop where
 len:c.av.length≤40
 Yh:c.bc.length=c.av.length
 lo:∀ i,i < c.av.length→-10000000≤cs c i
 hi:∀ i,i < c.av.length→cs c i≤10000000
 nn:∀ i,i < c.av.length→0≤cq c i
 lt:∀ i,i+1 < c.av.length→cs c i < cs c (i+1)
theorem P7 {f:Nat→Option Int} (hf:∀ i,f i≠some 0):∀ (k m:Nat),scan f 0 k m=0→∀ i,m≤i→i < m+k→f i=none:=by
 intro k m h
 rcases Lp (f:=f) (z:=0) k m with ⟨i,r,_,_,h3,_,h5⟩ | ⟨h1,_⟩
 ·rw [h5] at h;subst h;exact absurd h3 (hf i)
 ·exact h1
theorem SH {c:fo} (h:tv c=0):uR c:=by
 unfold tv at h
 cases h1:decide (((c.av.length:Nat):Int) > 40) with
 | true=>rw [h1] at h;cases h
 | false =>
  rw [h1,cond_false] at h
  cases h2:(((c.bc.length:Nat):Int) != ((c.av.length:Nat):Int)) with
  | true=>rw [h2] at h;cases h
  | false =>
   rw [h2,cond_false] at h
   have qE:=P7 (f:=jW c) (fun i hi=>by
    unfold jW at hi
    revert hi
    cases cond (cond (decide (cs c i < -10000000)) true (decide (cs c i > 10000000))) true (decide (pR (cq c i) < 0))<;>cases cond (decide (0 < i)) (decide (cs c i≤cs c (i - 1))) false<;>decide) _ _ h
   have one:∀ i,i < c.av.length→(-10000000≤cs c i∧cs c i≤10000000∧0≤cq c i)∧(0 < i→cs c (i - 1) < cs c i):=by
    intro i hi
    have:=qE i (Nat.zero_le _) (by omega)
    unfold jW at this
    cases ha:cond (cond (decide (cs c i < -10000000)) true (decide (cs c i > 10000000))) true (decide (pR (cq c i) < 0)) with
    | true=>rw [ha] at this;cases this
    | false =>
     rw [ha,cond_false] at this
     cases hb:cond (decide (0 < i)) (decide (cs c i≤cs c (i - 1))) false with
     | true=>rw [hb] at this;cases this
     | false =>
      cases h3:decide (cs c i < -10000000) with
      | true=>rw [h3] at ha;cases ha
      | false =>
       rw [h3,cond_false] at ha
       cases h4:decide (cs c i > 10000000) with
       | true=>rw [h4] at ha;cases ha
       | false =>
        rw [h4,cond_false] at ha
        have h3:=lB h3
        have h4:=lB h4
        have ha:=lB ha
        refine ⟨⟨by omega,by omega,?_⟩,fun h0=>?_⟩
        ·rw [lF] at ha;exact Rat.not_lt.1 ha
        ·rw [decide_eq_true h0,cond_true] at hb
         have:=lB hb
         omega
   have h1:=lB h1
   refine ⟨by omega,by simp at h2;omega,fun i hi=>(one i hi).1.1,fun i hi=>(one i hi).1.2.1,fun i hi=>(one i hi).1.2.2,fun i hi=>?_⟩
   have:=(one (i+1) hi).2 (by omega)
   rwa [Nat.add_sub_cancel] at this
def Ec (R:Rat→Rat→Rat→Rat) (c:fo) (y:Rat):Nat→Nat→Rat→Rat→Rat
 | 0,_,_,acc=>acc
 | k+1,i,before,acc=>if y - (cs c i:Rat) < 0 then acc else Ec R c y k (i+1) (cq c i) (R (cq c i - before) (y - (cs c i:Rat)) acc)
structure Yi (RD:Nat→aa→aa→aa→Option aa) (R:Rat→Rat→Rat→Rat) (A B C:Nat):Prop where
 run:∀ (ch fr acc:Rat) (m:Nat),RB ch A→RB fr B→RB acc m→1≤m→m≤100000000→Gv (fun N=>RD N (aX ch) (aX fr) (aX acc)) (aX (R ch fr acc))
 WK:∀ (ch fr acc:Rat) (m:Nat),RB ch A→RB fr B→RB acc m→RB (R ch fr acc) (m+C)
theorem SI {c:fo} (hr:uR c) {i:Nat} (hi:i < c.av.length):RB (cs c i:Rat) 4:=by
 have:=hr.lo i hi;have:=hr.hi i hi
 exact RB.int (ZB.word (by omega) (by omega)) (by decide)
theorem LP {RD:Nat→aa→aa→aa→Option aa} {R:Rat→Rat→Rat→Rat} {c:fo} {y:aa} {n p C:Nat} (hR:Yi RD R (2 * n+1) (p+5) C) (h:CB c n) (hr:uR c) (hy:IR y p) (hp:1≤p) (Hv:n≤1000000) (ug:p≤1000000) (hC:C≤1000000) :
  ∀ (k i m:Nat) (before acc:Rat) (b:aa),i+k=c.av.length→RB acc m→1≤m→m+k * C≤100000000→IR b n→qv b=before→aH (fun N fuel=>gK N (RD N) c y fuel (aX acc) b (i:Int)) (aX (Ec R c (qv y) k i before acc))
 | 0,i,m,before,acc,b,hi,_,_,_,_,_=>.step 0 fun N g _ _=>by
  have:i=c.av.length:=by omega
  subst this
  rw [gK,fa];rfl
 | k+1,i,m,before,acc,b,hi,hm,Kq,hmC,hb,YR=>by
  have hlen:=h.len
  have yh:i < c.av.length:=by omega
  have Wm:=hr.lo i yh
  have NT:=hr.hi i yh
  have hsn:=SI hr yh
  have qP:(k+1) * C=k * C+C:=Nat.succ_mul _ _
  obtain ⟨N1,h1⟩:=lM (z:=cs c i) (by omega) (by omega)
  obtain ⟨N2,h2⟩:=zY (x:=y) (y:=aX (cs c i:Rat)) hy hsn.ir hp (by decide) (by simp only [SM];omega)
  rw [jo] at h2
  have Me:RB (qv y - (cs c i:Rat)) (p+5):=(hy.rb hp).sub hsn
  obtain ⟨N3,h3⟩:=zZ Me.ir (by omega) (by simp only [SM];omega)
  rw [jo] at h3
  obtain ⟨N4,h4⟩:=zY (x:=c.bc.getD i aa.d) (y:=b) (h.ir i) hb h.one h.one (by simp only [SM];omega)
  rw [YR] at h4
  have hch:RB (cq c i - before) (2 * n+1):=by
   have:=((h.ir i).rb h.one).sub (hb.rb h.one)
   rw [YR] at this
   exact this.le (by omega)
  obtain ⟨N5,h5⟩:=hR.run (cq c i - before) (qv y - (cs c i:Rat)) acc m hch Me hm Kq (by omega)
  have ad8:=hR.WK (cq c i - before) (qv y - (cs c i:Rat)) acc m hch Me hm
  obtain ⟨N6,h6⟩:=LP hR h hr hy hp Hv ug hC k (i+1) (m+C) (cq c i) (R (cq c i - before) (qv y - (cs c i:Rat)) acc) (c.bc.getD i aa.d) (by omega) ad8 (by omega) (by omega) (h.ir i) rfl
  dsimp only at h1 h2 h3 h4 h5 h6
  refine .step (N1+N2+N3+N4+N5+N6) fun N g hN hg=>?_
  have Zw:=hr.Yh
  rw [gK,dec_lt yh,cond_true,if_pos (lQ yh),aj]
  have It:da N (c.av.getD i 0)=some (aX (cs c i:Rat)):=h1 N (by omega)
  rw [It,bO,h2 N (by omega),bO,h3 N (by omega),bO,if_pos (fun _=>lQ (by omega)),bh (by omega)]
  have h4':ll N (⟨((c.bc.getD i aa.d).fN),((c.bc.getD i aa.d).fD)⟩:aa) b=some (aX (cq c i - before)):=h4 N (by omega)
  unfold Ec
  by_cases rP:qv y - (cs c i:Rat) < 0
  ·have hd:decide (pR (qv y - (cs c i:Rat)) < 0)=true:=decide_eq_true (lF.2 rP)
   rw [hd,if_pos rP];rfl
  ·have hd:decide (pR (qv y - (cs c i:Rat)) < 0)=false:=decide_eq_false fun h=>rP (lF.1 h)
   rw [hd,if_neg rP,Bool.not_false,cond_true,h4',bO,cond_true,h5 N (by omega),bO,cond_false,Bool.not_true,cond_false,if_pos (lQ (by omega))]
   exact h6 N g (by omega) (by omega)
theorem SJ {RD:Nat→aa→aa→aa→Option aa} {R:Rat→Rat→Rat→Rat} {c:fo} {y:aa} {n p C:Nat} (hR:Yi RD R (2 * n+1) (p+5) C) (h:CB c n) (hr:uR c) (hy:IR y p) (hp:1≤p) (Hv:n≤1000000) (ug:p≤1000000) (hC:C≤1000000) :
  Gv (fun N=>uG N (RD N) (aX 0) c y) (aX (Ec R c (qv y) c.av.length 0 0 0)):=by
 have h0:RB 0 1:=RB.int (z:=0) (ZB.small (by decide)) (by decide)
 have hl:=hr.len
 have hlC:c.av.length * C≤40 * 1000000:=Nat.mul_le_mul hl hC
 refine (lM (z:=0) (by decide) (by decide)).bind ?_
 exact (LP hR h hr hy hp Hv ug hC c.av.length 0 1 0 0 (aX 0) (by omega) h0 (by decide) (by omega) (h0.ir.le h.one) (jo 0)).diag
def VN (ch fr acc:Rat):Rat:=acc+ch * fr
theorem aaC {A B:Nat} (hA:1≤A) (hB:1≤B) (h1:A≤10000000) (h2:B≤10000000):Yi rC VN A B (A+B+1) where
 run:=fun ch fr acc m hc hf ha hm AF=>by
  refine (IZ hc.ir hf.ir hA hB (by simp only [SM];omega)).bind ?_
  rw [jo,jo]
  refine (DL ha.ir (hc.mul hf).ir hm (by omega) (by simp only [SM];omega)).bind ((Gv.pure _).eq ?_)
  rw [jo,jo];rfl
 WK:=fun ch fr acc m hc hf ha=>(ha.add (hc.mul hf)).le (by omega)
section
variable {c:fo} {y:aa} {n p:Nat}
def WL (R:Rat→Rat→Rat→Rat) (c:fo) (y:Rat):Rat:=Ec R c y c.av.length 0 0 0
theorem SK (h:CB c n) (h0:tv c=0) (hy:IR y p) (hp:1≤p) (Hv:n≤100000) (ug:p≤100000):Gv (fun N=>zQ N c y) (aX (WL VN c (qv y)),0):=by
 refine (H8 h (by simp only [SM];omega)).bind (Gv.aL (by rw [h0];rfl) ?_)
 refine (lM (z:=0) (by decide) (by decide)).bind (Gv.bind (Gv.pure (c,y)) ?_)
 exact (SJ (aaC (A:=2 * n+1) (B:=p+5) (by omega) (by omega) (by omega) (by omega)) h (SH h0) hy hp (by omega) (by omega) (by omega)).bind (Gv.pure _)
end
end Go.Den
namespace Go.Den
open Go.Ab
theorem G4 {a:bR} (hl:SM a.fL.length):∀ k i,i+k=a.fL.length→aH (fun N fuel=>iT N a a fuel (i:Int)) true
 | 0,i,hi=>.step 0 fun N g _ _=>by
  have:i=a.fL.length:=by omega
  subst this
  rw [iT,fa];rfl
 | k+1,i,hi=>by
  simp only [SM] at hl
  obtain ⟨N1,h1⟩:=G4 (a:=a) hl k (i+1) (by omega)
  dsimp only at h1
  refine .step N1 fun N g hN hg=>?_
  rw [iT,dec_lt (by omega),cond_true,if_pos (lQ (by omega)),if_pos (lQ (by omega)),bh (by omega)]
  have e:(a.fL.getD ((i:Int)).toNat 0 != a.fL.getD ((i:Int)).toNat 0)=false:=by simp
  rw [e,cond_false]
  exact h1 N g hN hg
theorem Bi (a:bR) (hl:SM a.fL.length):Gv (fun N=>k9 N a a) true:=by
 unfold k9
 refine Gv.aL ?_ (G4 hl a.fL.length 0 (by omega)).diag
 cases a.fG<;>simp
theorem LR {z:Int} {n:Nat} (h:ZB z n) (hn:SM n):Gv (fun N=>k9 N (uc z) (uc z)) true :=
 Bi _ (by unfold ZB at h;simp only [SM,uc] at *;omega)
theorem Nu (x:aa) (h1:SM x.fN.fL.length) (h2:SM x.fD.fL.length):Gv (fun N=>pF N x x) true :=
 (Bi _ h1).bind (Gv.bind (Gv.ax rfl (Bi _ h2)) (Gv.pure _))
theorem LS {q:Rat} {n:Nat} (h:RB q n) (hn:SM n):Gv (fun N=>pF N (aX q) (aX q)) true:=by
 have h1:=h.num
 have h2:=h.den
 unfold ZB at h1 h2
 exact Nu _ (by simp only [SM,aX,uc] at *;omega) (by simp only [SM,aX,uc] at *;omega)
theorem aaD:Gv (fun N=>Gg N [2,0]) [aX 2,aX 0]:=by
 obtain ⟨N1,h1⟩:=VM (z:=2) (by decide) (by decide)
 obtain ⟨N2,h2⟩:=VM (z:=0) (by decide) (by decide)
 dsimp only at h1 h2
 refine .of (N1+N2+5) fun N hN=>?_
 unfold Gg
 obtain ⟨g,rfl⟩:∃ g,N=g+3:=⟨N - 3,by omega⟩
 rw [pE,decide_eq_true (by decide),cond_true,if_pos (by decide)]
 rw [show ([2,0]:List Int).getD ((0:Int)).toNat 0=2 from rfl,h1 _ (by omega),bO,if_pos (by decide),bC (by decide) (by decide)]
 rw [pE,decide_eq_true (by decide),cond_true,if_pos (by decide)]
 rw [show ([2,0]:List Int).getD ((0:Int)+1).toNat 0=0 from rfl,h2 _ (by omega),bO,if_pos (by decide),bC (by decide) (by decide)]
 rw [pE,decide_eq_false (by decide),cond_false]
 rfl
theorem ad9:Gv (fun N=>Ll N (-3) 2) (aX (Rat.divInt (-3) 2)):=by
 obtain ⟨N1,h1⟩:=LL (z:=-3) (by decide) (by decide)
 obtain ⟨N2,h2⟩:=LL (z:=2) (by decide) (by decide)
 dsimp only at h1 h2
 refine .of (N1+N2+8) fun N hN=>?_
 unfold Ll
 rw [decide_eq_false (by decide),cond_false]
 unfold yM
 rw [decide_eq_true (by decide),cond_true,show ao (0 - (-3))=3 from by decide]
 obtain ⟨g,rfl⟩:∃ g,N=g+4:=⟨N - 4,by omega⟩
 rw [p7,decide_eq_true (by decide),cond_true,if_pos (by decide),show (3:Int).tmod 2=1 from by decide]
 rw [p7,decide_eq_true (by decide),cond_true,if_pos (by decide),show (2:Int).tmod 1=0 from by decide]
 rw [p7,decide_eq_false (by decide),cond_false,if_pos (by decide),show ao ((-3:Int).tdiv 1) = -3 from by decide,show ao ((2:Int).tdiv 1)=2 from by decide,h1 _ (by omega),bO,h2 _ (by omega),bO]
 rfl
def ql:fo:=⟨[0,10],[aX 2,aX 0]⟩
theorem J5 {k:Nat} (h:k < 65536):RB (((k:Int):Rat)) 1:=RB.int (ZB.small (by omega)) (by decide)
theorem P8:CB ql 1 where
 one:=by decide
 len:=by decide
 Yh:=by decide
 ir:=fun i=>by
  match i with
  | 0=>exact (J5 (k:=2) (by decide)).ir
  | 1=>exact (J5 (k:=0) (by decide)).ir
  | i+2=>exact ⟨⟨U.nil,by show (0:Nat)≤1;decide⟩,⟨U.nil,by show (0:Nat)≤1;decide⟩⟩
theorem Nv:tv ql=0:=by
 have e0:cq ql 0=2:=jo 2
 have e1:cq ql 1=0:=jo 0
 have s0:jW ql 0=none:=by unfold jW;rw [e0];rfl
 have s1:jW ql 1=none:=by unfold jW;rw [e1];rfl
 show scan (jW ql) 0 2 0=0
 rw [scan,s0]
 show scan (jW ql) 0 1 1=0
 rw [scan,s1];rfl
theorem P9:WL VN ql 5=10:=by
 have e0:cq ql 0=2:=jo 2
 show Ec VN ql 5 2 0 0 0=10
 unfold Ec
 rw [show cs ql 0=0 from rfl,if_neg (by decide +kernel),e0]
 unfold Ec
 rw [show cs ql (0+1)=10 from rfl,if_pos (by decide +kernel)]
 decide +kernel
theorem wM:Gv (fun N=>gS N) true:=by
 refine (LL (z:=-7) (by decide) (by decide)).bind ((LL (z:=2) (by decide) (by decide)).bind ?_)
 refine Gv.bind (r:=(uc (-4),uc 1,0)) ?_ ?_
 ·have:=P2 (a:=uc (-7)) (b:=uc 2) (m:=1) (n:=1) (ZB.small (by decide)).ib (ZB.small (by decide)).ib (by decide) (by rw [ly];decide)
  rw [ly,ly] at this;exact this
 refine (SG (a:=6) (b:=-4) (by decide) (by decide) (by decide) (by decide) (by decide)).bind (aaD.bind ((VM (z:=5) (by decide) (by decide)).bind ?_))
 refine Gv.bind (r:=(aX 10,0)) ?_ ?_
 ·have:=SK (c:=ql) (y:=aX 5) (n:=1) (p:=1) P8 Nv (J5 (k:=5) (by decide)).ir (by decide) (by decide) (by decide)
  rw [jo,P9] at this;exact this
 refine Gv.bind (Gv.ax rfl (LL (z:=-4) (by decide) (by decide))) ?_
 refine Gv.bind (Gv.ax rfl (LR (n:=1) (ZB.small (by decide)) (by decide))) ?_
 refine Gv.bind (Gv.ax rfl (LL (z:=1) (by decide) (by decide))) ?_
 refine Gv.bind (Gv.ax rfl (LR (n:=1) (ZB.small (by decide)) (by decide))) ?_
 refine Gv.bind (Gv.ax rfl ad9) ?_
 have e:Rat.divInt 6 (-4)=Rat.divInt (-3) 2:=by decide +kernel
 rw [e]
 refine Gv.bind (Gv.ax rfl (LS (n:=1) (wJ (ZB.small (by decide)) (ZB.small (by decide)) (by decide)) (by decide))) ?_
 refine Gv.bind (Gv.ax rfl (VM (z:=10) (by decide) (by decide))) ?_
 refine Gv.bind (Gv.ax rfl (LS (n:=1) (J5 (k:=10) (by decide)) (by decide))) (Gv.pure _)
end Go.Den
namespace Go.Den
open Go.Ab
structure RQ (x:aa) (p:Rat) (n:Nat):Prop where
 ir:IR x n
 v:qv x=p
 pos:1≤n
structure ZI (a:bR) (z:Int) (n:Nat):Prop where
 ib:IB a n
 v:zv a=z
theorem RQ.rb {x:aa} {p:Rat} {n:Nat} (h:RQ x p n):RB p n:=h.v ▸ h.ir.rb h.pos
theorem RB.rq {p:Rat} {n:Nat} (h:RB p n) (hn:1≤n):RQ (aX p) p n:=⟨h.ir,jo p,hn⟩
theorem RQ.le {x:aa} {p:Rat} {m n:Nat} (h:RQ x p m) (OT:m≤n):RQ x p n:=⟨h.ir.le OT,h.v,dp h.pos OT⟩
theorem ZI.zb {a:bR} {z:Int} {n:Nat} (h:ZI a z n):ZB z n:=h.v ▸ h.ib.zb
theorem ZB.zi {z:Int} {n:Nat} (h:ZB z n):ZI (uc z) z n:=⟨h.ib,ly z⟩
theorem ZI.le {a:bR} {z:Int} {m n:Nat} (h:ZI a z m) (OT:m≤n):ZI a z n:=⟨h.ib.le OT,h.v⟩
theorem IB.OU {a:bR} (h:bR.wf a) {n:Nat} (hn:a.fL.length≤n):IB a n :=
 ⟨fun x hx=>by
  have:=h.2.2 x hx
  unfold wK at this
  have e1:IntKind.u16.min=0:=by decide
  have e2:IntKind.u16.max=65535:=by decide
  omega,hn⟩
section
variable {a b:bR} {x y:aa} {m n:Nat} {p q:Rat} {z w:Int}
theorem RQ.add (hx:RQ x p m) (hy:RQ y q n) (hs:SM (2 * (m+n+1)+2)):Gv (fun N=>dn N x y) (aX (p+q)):=by
 have:=DL hx.ir hy.ir hx.pos hy.pos hs;rwa [hx.v,hy.v] at this
theorem RQ.sub (hx:RQ x p m) (hy:RQ y q n) (hs:SM (2 * (m+n+1)+2)):Gv (fun N=>ll N x y) (aX (p - q)):=by
 have:=zY hx.ir hy.ir hx.pos hy.pos hs;rwa [hx.v,hy.v] at this
theorem RQ.mul (hx:RQ x p m) (hy:RQ y q n) (hs:SM (2 * (m+n)+2)):Gv (fun N=>dy N x y) (aX (p * q)):=by
 have:=IZ hx.ir hy.ir hx.pos hy.pos hs;rwa [hx.v,hy.v] at this
theorem RQ.JJ (hx:RQ x p m) (hy:RQ y q n) (h0:q≠0) (hs:SM (2 * (m+n)+2)):Gv (fun N=>ru N x y) (aX (p / q)):=by
 have:=VL hx.ir hy.ir hx.pos hy.pos (by rw [hy.v];exact h0) hs;rwa [hx.v,hy.v] at this
theorem RQ.cmp (hx:RQ x p m) (hy:RQ y q n) (hs:SM (2 * (m+n+1)+2)):Gv (fun N=>gI N x y) (pR (p - q)):=by
 have:=P6 hx.ir hy.ir hx.pos hy.pos hs;rwa [hx.v,hy.v] at this
theorem RQ.pR (hx:RQ x p m) (hs:SM m):Gv (fun N=>ij N x) (pR p):=by
 have:=zZ hx.ir hx.pos hs;rwa [hx.v] at this
theorem RQ.low (hx:RQ x p m) (hs:SM (2 * m+2)):Gv (fun N=>jl N x) (aX p):=by
 have:=DJ hx.ir hx.pos hs;rwa [hx.v] at this
theorem RQ.zero (hx:RQ x p m) (hs:SM m):Gv (fun N=>fX N x) (decide (p=0)):=by
 have:=DK hx.ir hs;rwa [hx.v] at this
theorem ZI.add (ha:ZI a z n) (hb:ZI b w n) (hs:SM (n+1)):Gv (fun N=>BR N a b) (uc (z+w)):=by
 have:=Sz ha.ib hb.ib hs;rwa [ha.v,hb.v] at this
theorem ZI.mul (ha:ZI a z m) (hb:ZI b w n) (hs:SM (m+n)):Gv (fun N=>pX N a b) (uc (z * w)):=by
 have:=zd ha.ib hb.ib hs;rwa [ha.v,hb.v] at this
end
end Go.Den
namespace Go.Den
open Go.Ab
theorem LU {N:Nat} {a:List Int} (ha:U a) (hs:SM a.length):∀ (n fuel:Nat),n≤a.length→n < fuel→bL (a.take n)=bL a→jO N a fuel (n:Int)=some (lm (bL a).toNat)
 | 0,fuel,_,hf,hv=>by
  obtain ⟨g,rfl⟩:∃ g,fuel=g+1:=⟨fuel - 1,by omega⟩
  rw [jO,if_pos (fun h=>by cases h)]
  have e:bL a=0:=by rw [← hv];simp [bL]
  rw [e]
  have e1:cond (decide (((0:Nat):Int) > 0)) (a.getD (ao (((0:Nat):Int) - 1)).toNat 0 == 0) false=false:=rfl
  rw [e1,cond_false,if_pos ⟨by simp,by simp⟩,if_pos (by simp),if_pos (by simp)]
  simp [fU]
 | n+1,fuel,hn,hf,hv=>by
  obtain ⟨g,rfl⟩:∃ g,fuel=g+1:=⟨fuel - 1,by omega⟩
  simp only [SM] at hs
  have e1:ao (((n+1:Nat):Int) - 1)=(n:Int):=by rw [bC (by omega) (by omega)];omega
  have h1:=cY a n (by omega)
  rw [jO,e1,if_pos (fun _=>lQ (by omega)),decide_eq_true (by omega),cond_true,aj]
  cases hx:(a.getD n 0 == 0) with
  | true =>
   have RC:a.getD n 0=0:=eq_of_beq hx
   rw [cond_true]
   exact LU ha hs n g (by omega) (by omega) (by rw [h1,RC] at hv;omega)
  | false =>
   have RC:a.getD n 0≠0:=fun h=>by rw [h] at hx;cases hx
   rw [cond_false,aj,if_pos ⟨Nat.zero_le _,hn⟩,if_pos (by omega),if_pos (by omega),List.nil_append,List.drop_zero,← hv]
   congr 1
   refine (OJ (ha.take _) fun m x he=>?_).symm
   have hl:m.length=n:=by have:=congrArg List.length he;rw [oH] at this;simp at this;omega
   have:(a.take (n+1)).getD n 0=x:=by rw [he,← hl];simp [List.getD]
   rw [ee,List.getElem?_take_of_lt (by omega),← ee] at this
   rw [← this];exact RC
theorem ud {N:Nat} {a:List Int} (ha:U a) (hs:SM a.length) (hN:a.length < N):l8 N a=some (lm (bL a).toNat) :=
 LU ha hs a.length N (aP _) hN (by rw [List.take_length])
theorem OV {N:Nat} {a:List Int} (ha:U a) (hs:SM a.length) (hN:a.length < N):∀ (k i fuel:Nat),i+k=a.length→k < fuel→jP N a fuel (a.take i) (i:Int)=some (lm (bL a).toNat)
 | 0,i,fuel,hi,hf=>by
  obtain ⟨g,rfl⟩:∃ g,fuel=g+1:=⟨fuel - 1,by omega⟩
  have:i=a.length:=by omega
  subst this
  rw [jP,fa,cond_false,List.take_length,ud ha hs hN,bO]
 | k+1,i,fuel,hi,hf=>by
  obtain ⟨g,rfl⟩:∃ g,fuel=g+1:=⟨fuel - 1,by omega⟩
  simp only [SM] at hs
  have h1:=ha.getD i
  rw [jP,dec_lt (by omega),cond_true,if_pos (lQ (by omega)),if_pos (by rw [oH];omega),aj,bC (by omega) (by omega),bh (by omega)]
  have e:a.take i ++ [a.getD i 0]=a.take (i+1):=by rw [List.take_add_one];simp [List.getD,show i < a.length by omega]
  rw [e]
  exact OV ha (by simp only [SM];omega) hN k (i+1) g (by omega) (by omega)
theorem Yj {N:Nat} {a:List Int} (ha:U a) (hs:SM a.length) (hN:a.length < N):im N a=some (lm (bL a).toNat):=by
 have:=OV ha hs hN a.length 0 N (by omega) hN
 unfold im
 simpa using this
theorem OW {N:Nat} {neg:Bool} {a:List Int} (ha:U a) (hs:SM a.length):∀ (k i fuel:Nat),i+k=a.length→k < fuel→jN N neg a fuel (a.take i) (i:Int)=some ⟨cond neg (decide (((a.length:Nat):Int) > 0)) false,a⟩
 | 0,i,fuel,hi,hf=>by
  obtain ⟨g,rfl⟩:∃ g,fuel=g+1:=⟨fuel - 1,by omega⟩
  have:i=a.length:=by omega
  subst this
  rw [jN,fa,cond_false,List.take_length]
 | k+1,i,fuel,hi,hf=>by
  obtain ⟨g,rfl⟩:∃ g,fuel=g+1:=⟨fuel - 1,by omega⟩
  simp only [SM] at hs
  have h1:=ha.getD i
  rw [jN,dec_lt (by omega),cond_true,if_pos (lQ (by omega)),if_pos (by rw [oH];omega),aj,n5 (by omega) (by omega),bh (by omega)]
  have e:a.take i ++ [a.getD i 0]=a.take (i+1):=by rw [List.take_add_one];simp [List.getD,show i < a.length by omega]
  rw [e]
  exact OW ha (by simp only [SM];omega) k (i+1) g (by omega) (by omega)
theorem VO (neg:Bool) {k:Nat} (hk:SM (lm k).length):Gv (fun N=>fB N neg (lm k)) (uc (sg neg k)) :=
 .of ((lm k).length+1) fun N hN=>by
  have:=OW (N:=N) (neg:=neg) (rO k) hk (lm k).length 0 N (by omega) (by omega)
  rw [List.take_zero] at this
  unfold fB
  rw [show ((0:Nat):Int)=0 from rfl] at this
  rw [this]
  by_cases h:k=0
  ·subst h;rw [fU,OS];cases neg<;>rfl
  ·rw [Sw _ _ h]
   have:=j9.2 h
   rw [decide_eq_true (by omega)];cases neg<;>rfl
theorem z4 (N:Nat) (a:List Int) (i:Nat):lU N a (i:Int)=some (a.getD i 0):=by
 unfold lU
 by_cases h:i < a.length
 ·rw [dec_lt h,cond_true,if_pos (lQ h),aj]
 ·rw [decide_eq_false (by omega),cond_false,uO (by omega)]
theorem oC (a:List Int) (i:Nat):bL (a.take (i+1))=bL (a.take i)+a.getD i 0 * pw i:=by
 by_cases h:i < a.length
 ·exact cY a i h
 ·rw [je (by omega),je (by omega),uO (by omega)];simp
theorem SL {N:Nat} {a b:List Int} (ha:U a) (hb:U b) (hs:SM (a.length+b.length+2)) (hN:a.length+b.length+2 < N):∀ (k i fuel:Nat) (out:List Int) (c:Int),a.length+b.length+1≤i+k→k < fuel→out.length=i→i≤a.length+b.length+1→U out→0≤c→c≤1 →
  (a.length < i∧b.length < i→c=0)→bL out+pw i * c=bL (a.take i)+bL (b.take i)→jQ N a b fuel out c (i:Int)=some (lm (bL a+bL b).toNat):=by
 intro k
 simp only [SM] at hs
 induction k with
 | zero =>
  intro i fuel out c hi hf ho TS hU uX td Fm hinv
  obtain ⟨g,rfl⟩:∃ g,fuel=g+1:=⟨fuel - 1,by omega⟩
  have hc:=Fm ⟨by omega,by omega⟩
  subst hc
  rw [jQ,decide_eq_false (by omega),decide_eq_false (by omega),decide_eq_false (by decide)]
  simp only [cond_false]
  rw [ud hU (by simp only [SM];omega) (by omega),bO]
  rw [je (by omega),je (by omega)] at hinv
  rw [show bL out=bL a+bL b by omega]
 | succ k ih =>
  intro i fuel out c hi hf ho TS hU uX td Fm hinv
  obtain ⟨g,rfl⟩:∃ g,fuel=g+1:=⟨fuel - 1,by omega⟩
  rw [jQ]
  by_cases YZ:i < a.length∨i < b.length∨0 < c
  ·have e:cond (cond (decide ((i:Int) < ((a.length:Nat):Int))) true (decide ((i:Int) < ((b.length:Nat):Int)))) true (decide (c > 0))=true:=by
    rcases YZ with h | h | h
    ·rw [dec_lt h];rfl
    ·rw [dec_lt h];cases decide ((i:Int) < ((a.length:Nat):Int))<;>rfl
    ·rw [decide_eq_true (show c > 0 by omega)];cases cond (decide ((i:Int) < ((a.length:Nat):Int))) true (decide ((i:Int) < ((b.length:Nat):Int)))<;>rfl
   have h1:=ha.getD i
   have h2:=hb.getD i
   have ahk:i≤a.length+b.length:=by
    rcases YZ with h | h | h
    ·omega
    ·omega
    ·have:¬ (a.length < i∧b.length < i):=fun h'=>by have:=Fm h';omega
     omega
   rw [e,cond_true,z4,bO,z4,bO,if_pos (by omega),bC (n:=a.getD i 0+b.getD i 0) (by omega) (by omega),bC (n:=a.getD i 0+b.getD i 0+c) (by omega) (by omega),bh (by omega)]
   generalize hsm:a.getD i 0+b.getD i 0+c=s
   have Mi:0≤s:=by omega
   rw [Int.tmod_eq_emod_of_nonneg Mi,Int.tdiv_eq_ediv_of_nonneg Mi,bC (n:=s / 65536) (by omega) (by omega)]
   refine ih (i+1) g _ _ (by omega) (by omega) (by simp [ho]) (by omega) (hU.append (U.one (by omega) (by omega))) (by omega) (by omega) (fun h=>?_) ?_
   ·have e1:=uO (show a.length≤i by omega)
    have e2:=uO (show b.length≤i by omega)
    omega
   ·rw [lx,qV,ho,oC a,oC b,fT]
    have h5:s=s % 65536+65536 * (s / 65536):=by omega
    have h6:pw i * s=pw i * (s % 65536)+pw i * (65536 * (s / 65536)):=by rw [← g7,← h5]
    have h7:pw i * s=a.getD i 0 * pw i+b.getD i 0 * pw i+pw i * c:=by rw [← hsm,g7,g7,gr (pw i) (a.getD i 0),gr (pw i) (b.getD i 0)]
    have h8:65536 * pw i * (s / 65536)=pw i * (65536 * (s / 65536)):=by rw [gr 65536,kL]
    omega
  ·have e:cond (cond (decide ((i:Int) < ((a.length:Nat):Int))) true (decide ((i:Int) < ((b.length:Nat):Int)))) true (decide (c > 0))=false:=by
    rw [decide_eq_false (by omega),decide_eq_false (by omega),decide_eq_false (by omega)];rfl
   have hc:c=0:=by omega
   subst hc
   rw [e,cond_false,ud hU (by simp only [SM];omega) (by omega),bO]
   rw [je (by omega),je (by omega)] at hinv
   rw [show bL out=bL a+bL b by omega]
theorem SN {N a b:Nat} (hs:SM ((lm a).length+(lm b).length+2)) (hN:(lm a).length+(lm b).length+3 < N):xj N (lm a) (lm b)=some (lm (a+b)):=by
 have:=SL (N:=N) (rO a) (rO b) hs (by omega) ((lm a).length+(lm b).length+1) 0 N [] 0 (by omega) (by omega) rfl (by omega) U.nil (by omega) (by omega) (fun _=>rfl) (by simp [bL])
 rw [gY,gY] at this
 exact this
theorem Ed {N:Nat} {a b:List Int} (ha:U a) (hb:U b) (hl:a.length=b.length) (hs:SM a.length):∀ (k fuel:Nat),k≤a.length→k < fuel→gk N a b fuel ((k:Int) - 1)=some (Ns a b k)
 | 0,fuel,_,hf=>by
  obtain ⟨g,rfl⟩:∃ g,fuel=g+1:=⟨fuel - 1,by omega⟩
  rw [gk];rfl
 | k+1,fuel,hk,hf=>by
  obtain ⟨g,rfl⟩:∃ g,fuel=g+1:=⟨fuel - 1,by omega⟩
  simp only [SM] at hs
  have e:(((k+1:Nat):Int) - 1)=(k:Int):=by omega
  have h1:=ha.getD k
  have h2:=hb.getD k
  rw [e,gk,decide_eq_true (by omega),cond_true,if_pos (lQ (by omega)),if_pos (lQ (by omega)),aj,bC (n:=a.getD k 0 - b.getD k 0) (by omega) (by omega),bC (n:=(k:Int) - 1) (by omega) (by omega),Ed ha hb hl (by simp only [SM];omega) k g (by omega) (by omega)]
  rw [Ns]
  cases (a.getD k 0 != b.getD k 0)<;>rfl
theorem Cl {N a b:Nat} (hN:(lm a).length < N) (ha:SM (lm a).length) (hb:SM (lm b).length):mv N (lm a) (lm b)=some (H5 a b):=by
 unfold mv H5
 simp only [SM] at ha hb
 cases hl:((((lm a).length:Nat):Int) != (((lm b).length:Nat):Int)) with
 | true=>rw [cond_true,cond_true,bC (by omega) (by omega)]
 | false =>
  have heq:(lm a).length=(lm b).length:=by simp at hl;omega
  rw [cond_false,cond_false,bC (by omega) (by omega)]
  exact Ed (rO a) (rO b) heq ha _ N (aP _) hN
theorem I0 {N:Nat} {a b:List Int} (ha:U a) (hb:U b) (hl:b.length≤a.length) (hle:bL b≤bL a) (hs:SM a.length) (hN:a.length+1 < N):∀ (k x fuel:Nat) (out:List Int) (c:Int),x+k=a.length→k < fuel→out.length=x→U out→0≤c→c≤1 →
  bL out - pw x * c=bL (a.take x) - bL (b.take x)→fO N a b fuel out c (x:Int)=some (lm (bL a - bL b).toNat)
 | 0,x,fuel,out,c,hx,hf,ho,hU,uX,td,hinv=>by
  obtain ⟨g,rfl⟩:∃ g,fuel=g+1:=⟨fuel - 1,by omega⟩
  have F5:x=a.length:=by omega
  subst F5
  rw [fO,fa,cond_false,ud hU (by simp only [SM] at *;omega) (by omega),bO]
  rw [List.take_length,je hl] at hinv
  have h1:=hU.lt
  rw [ho] at h1
  have hc:c=0:=by
   rcases Int.lt_or_le 0 c with h | h
   ·have:c=1:=by omega
    subst this;omega
   ·omega
  subst hc
  rw [show bL out=bL a - bL b by omega]
 | k+1,x,fuel,out,c,hx,hf,ho,hU,uX,td,hinv=>by
  obtain ⟨g,rfl⟩:∃ g,fuel=g+1:=⟨fuel - 1,by omega⟩
  simp only [SM] at hs
  have xz:x < a.length:=by omega
  have h1:=ha.getD x
  have h2:=hb.getD x
  rw [fO,dec_lt xz,cond_true,if_pos (lQ xz),z4,bO,aj,bC (n:=a.getD x 0 - b.getD x 0) (by omega) (by omega),bC (n:=a.getD x 0 - b.getD x 0 - c) (by omega) (by omega)]
  have fin:∀ q s:Int,0≤q→q≤1→s=a.getD x 0 - b.getD x 0 - c+q * 65536→0≤s→s < 65536→lJ N a b out (x:Int) (fO N a b g) q s=some (lm (bL a - bL b).toNat):=by
   intro q s EZ FK hse Mi HG
   unfold lJ
   rw [if_pos (by omega),bh (by omega)]
   refine I0 ha hb hl hle (by simp only [SM];omega) hN k (x+1) g _ _ (by omega) (by omega) (by simp [ho]) (hU.append (U.one Mi HG)) EZ FK ?_
   rw [lx,qV,ho,oC a,oC b,fT]
   have h3:pw x * s=a.getD x 0 * pw x - b.getD x 0 * pw x - pw x * c+65536 * pw x * q:=by rw [hse];grind
   omega
  cases ft:decide (a.getD x 0 - b.getD x 0 - c < 0) with
  | true =>
   have ft:=oG ft
   rw [cond_true,bC (by omega) (by omega)]
   exact fin 1 _ (by omega) (by omega) (by omega) (by omega) (by omega)
  | false =>
   have ft:=lB ft
   rw [cond_false]
   exact fin 0 _ (by omega) (by omega) (by omega) (by omega) (by omega)
theorem DM {N a b:Nat} (T5:b≤a) (hs:SM (lm a).length) (hN:(lm a).length+1 < N):pG N (lm a) (lm b)=some (lm (a - b)):=by
 have:=I0 (N:=N) (rO a) (rO b) (fh T5) (by rw [gY,gY];omega) hs hN (lm a).length 0 N [] 0 (by omega) (by omega) rfl U.nil (by omega) (by omega) (by simp [bL])
 rw [gY,gY] at this
 rw [show (lm (a - b))=lm ((a:Int) - (b:Int)).toNat by congr 1;omega]
 exact this
theorem Qa {N:Nat} {a b:List Int} {i:Nat} (ha:U a) (hb:U b) (hi:i < a.length) (hs:SM (a.length+b.length+1)) (K:List Int→Int→Option (List Int)) (R:Option (List Int))
  (hK:∀ out,out.length=a.length+b.length+1→U out→(∀ j,i+1+b.length≤j→out.getD j 0=0)→bL out=bL (a.take (i+1)) * bL b→K out ((i+1:Nat):Int)=R) :
  ∀ (k x fuel:Nat) (out:List Int) (c:Int),x+k=b.length+1→k < fuel→out.length=a.length+b.length+1→U out→0≤c→c < 65536→(x=b.length+1→c=0)→(∀ j,i+b.length≤j→x≤b.length→out.getD j 0=0)→(∀ j,i+1+b.length≤j→out.getD j 0=0) →
   bL out+pw (i+x) * c=bL (a.take i) * bL b+a.getD i 0 * pw i * bL (b.take x)→iW N a b (i:Int) K fuel out c (x:Int)=R:=by
 intro k
 simp only [SM] at hs
 induction k with
 | zero =>
  intro x fuel out c hx hf ho hU uX td Fm hz hz2 hinv
  obtain ⟨g,rfl⟩:∃ g,fuel=g+1:=⟨fuel - 1,by omega⟩
  have F5:x=b.length+1:=by omega
  subst F5
  have hc:=Fm rfl
  subst hc
  rw [iW,decide_eq_false (by omega),decide_eq_false (by decide)]
  simp only [cond_false]
  rw [bh (by omega)]
  refine hK out ho hU hz2 ?_
  rw [show b.take (b.length+1)=b from je (by omega)] at hinv
  rw [cY a i hi,eF];omega
 | succ k ih =>
  intro x fuel out c hx hf ho hU uX td Fm hz hz2 hinv
  obtain ⟨g,rfl⟩:∃ g,fuel=g+1:=⟨fuel - 1,by omega⟩
  rw [iW]
  have h1:=ha.getD i
  have h2:=hb.getD x
  have h3:=hU.getD (i+x)
  by_cases YZ:x < b.length∨0 < c
  ·have e:cond (decide ((x:Int) < ((b.length:Nat):Int))) true (decide (c > 0))=true:=by
    rcases YZ with h | h
    ·rw [dec_lt h];rfl
    ·rw [decide_eq_true (show c > 0 by omega)];cases decide ((x:Int) < ((b.length:Nat):Int))<;>rfl
   have ei:ao ((i:Int)+(x:Int))=((i+x:Nat):Int):=by rw [bC (by omega) (by omega)];omega
   have h4:=GW h1.1 h1.2 h2.1 h2.2
   rw [e,cond_true,ei,if_pos (lQ (by omega)),if_pos (lQ hi),z4,bO]
   simp only [aj]
   rw [bC (n:=a.getD i 0 * b.getD x 0) (by omega) (by omega),bC (n:=out.getD (i+x) 0+a.getD i 0 * b.getD x 0) (by omega) (by omega),bC (n:=out.getD (i+x) 0+a.getD i 0 * b.getD x 0+c) (by omega) (by omega),bh (by omega)]
   generalize Mh:out.getD (i+x) 0+a.getD i 0 * b.getD x 0+c=s
   have Mi:0≤s:=by omega
   rw [Int.tmod_eq_emod_of_nonneg Mi,Int.tdiv_eq_ediv_of_nonneg Mi,bC (n:=s / 65536) (by omega) (by omega)]
   refine ih (x+1) g _ _ (by omega) (by omega) (by simp [ho]) (hU.set _ (by omega) (by omega)) (by omega) (by omega) (fun h=>?_) (fun j hj Qv=>?_) (fun j hj=>?_) ?_
   ·have e1:=uO (show b.length≤x by omega)
    have e2:=hz (i+x) (by omega) (by omega)
    rw [e1,e2] at Mh;simp at Mh;omega
   ·rw [getD_set_ne _ _ (by omega)];exact hz j hj (by omega)
   ·rw [getD_set_ne _ _ (by omega)];exact hz2 j hj
   ·rw [mU _ _ _ (by omega),oC b,show i+(x+1)=(i+x)+1 by omega,fT]
    have h5:s=s % 65536+65536 * (s / 65536):=by omega
    have h6:pw (i+x) * s=pw (i+x) * (s % 65536)+pw (i+x) * (65536 * (s / 65536)):=by rw [← g7,← h5]
    have h7:pw (i+x) * s=pw (i+x) * c+pw (i+x) * (a.getD i 0 * b.getD x 0)+pw (i+x) * out.getD (i+x) 0:=by rw [← Mh,g7,g7];omega
    have h8:65536 * pw (i+x) * (s / 65536)=pw (i+x) * (65536 * (s / 65536)):=by rw [gr 65536,kL]
    have h9:(s % 65536 - out.getD (i+x) 0) * pw (i+x)=pw (i+x) * (s % 65536) - pw (i+x) * out.getD (i+x) 0:=by rw [Int.sub_mul,gr,gr (out.getD (i+x) 0)]
    have h10:a.getD i 0 * pw i * (bL (b.take x)+b.getD x 0 * pw x)=a.getD i 0 * pw i * bL (b.take x)+pw (i+x) * (a.getD i 0 * b.getD x 0):=by
     rw [GS];grind
    omega
  ·have e:cond (decide ((x:Int) < ((b.length:Nat):Int))) true (decide (c > 0))=false:=by
    rw [decide_eq_false (by omega),decide_eq_false (by omega)];rfl
   have hc:c=0:=by omega
   subst hc
   rw [e,cond_false,bh (by omega)]
   refine hK out ho hU hz2 ?_
   rw [show b.take x=b from je (by omega)] at hinv
   rw [cY a i hi,eF];omega
theorem I1 {N:Nat} {a b:List Int} (ha:U a) (hb:U b) (hs:SM (a.length+b.length+1)) (hN:a.length+b.length+2 < N):∀ (k x fuel:Nat) (out:List Int),x+k=a.length→k < fuel→out.length=a.length+b.length+1→U out →
  (∀ j,x+b.length≤j→out.getD j 0=0)→bL out=bL (a.take x) * bL b→iX N a b fuel out (x:Int)=some (lm (bL a * bL b).toNat)
 | 0,x,fuel,out,hx,hf,ho,hU,hz,hinv=>by
  obtain ⟨g,rfl⟩:∃ g,fuel=g+1:=⟨fuel - 1,by omega⟩
  have F5:x=a.length:=by omega
  subst F5
  rw [iX,fa,cond_false,ud hU (by simp only [SM] at *;omega) (by omega),bO,hinv,List.take_length]
 | k+1,x,fuel,out,hx,hf,ho,hU,hz,hinv=>by
  obtain ⟨g,rfl⟩:∃ g,fuel=g+1:=⟨fuel - 1,by omega⟩
  have xz:x < a.length:=by omega
  rw [iX,dec_lt xz,cond_true]
  refine Qa ha hb xz hs _ _ (fun fY h1 h2 h3 h4=>?_) (b.length+1) 0 N out 0 (by omega) (by omega) ho hU (by omega) (by omega) (fun h=>by omega) (fun j hj _=>hz j hj) (fun j hj=>hz j (by omega)) (by rw [hinv];simp [bL])
  exact I1 ha hb hs hN k (x+1) g fY (by omega) (by omega) h1 h2 h3 h4
theorem LV {N:Nat} {a b:List Int} (ha:U a) (hb:U b) (hs:SM (a.length+b.length+1)) (hN:a.length+b.length+2 < N):lg N a b=some (lm (bL a * bL b).toNat):=by
 unfold lg
 have H6:=hs
 simp only [SM] at H6
 have e:ao (ao (((a.length:Nat):Int)+((b.length:Nat):Int))+1)=((a.length+b.length+1:Nat):Int):=by rw [bC (n:=((a.length:Nat):Int)+((b.length:Nat):Int)) (by omega) (by omega),bC (by omega) (by omega)];omega
 rw [e,if_pos (by omega)]
 exact I1 ha hb hs hN a.length 0 N _ (by omega) (by omega) (by simp;omega) (U.replicate _) (fun j _=>gM _ j) (by rw [jS];simp [bL])
theorem Qb {N a b:Nat} (hs:SM ((lm a).length+(lm b).length+1)) (hN:(lm a).length+(lm b).length+2 < N):lg N (lm a) (lm b)=some (lm (a * b)):=by
 rw [LV (rO a) (rO b) hs hN,gY,gY,vu]
theorem VP {N:Nat} {a q:List Int} {b i X:Nat} (hb:0 < b) (hX:X < 65536 * b) (hq:i < q.length) (hs:SM ((lm b).length+(lm X).length+3)) (hi:SM i) (hN:(lm b).length+(lm X).length+65546 < N) (K:List Int→List Int→Int→Option (List Int×List Int)) :
  ∀ (d lo hi fuel:Nat),hi - lo≤d→lo≤hi→hi < 65536→d < fuel→lo * b≤X→X < (hi+1) * b→iB N a (lm b) q (i:Int) (lm X) K fuel (lo:Int) (hi:Int)=K (lm (X % b)) (q.set i ((X / b:Nat):Int)) ((i:Int) - 1):=by
 intro d
 simp only [SM] at hs hi
 have one:∀ m:Nat,m < 65536→lg N (lm b) [(m:Int)]=some (lm (b * m)):=fun m hm=>by
  rw [LV (rO b) (U.one (by omega) (by omega)) (by simp only [SM,List.length_singleton];omega) (by simp only [List.length_singleton];omega),gY,qV,vu]
 have aea:∀ m:Nat,m < 65536→(lm (b * m)).length≤(lm b).length+1:=fun m hm=>by
  rw [iq,fT]
  have:=(iq (n:=b) (k:=(lm b).length)).1 (aP _)
  have h2:=Nat.mul_le_mul_left b (show m≤65535 by omega)
  have:=kH (lm b).length
  omega
 induction d with
 | zero =>
  intro lo oY fuel hd hle NT hf h1 h2
  obtain ⟨g,rfl⟩:∃ g,fuel=g+1:=⟨fuel - 1,by omega⟩
  have hlh:oY=lo:=by omega
  subst hlh
  have hdiv:X / b=oY:=by
   have h3:X=oY * b+(X - oY * b):=by omega
   have h4:X - oY * b < b:=by rw [ca,Nat.one_mul] at h2;omega
   exact (Ea h3 h4).1
  have SB:X % b=X - b * oY:=by
   have:=Nat.div_add_mod X b
   rw [hdiv] at this;omega
  rw [iB,decide_eq_false (by omega),cond_false,if_pos (lQ hq)]
  have h5:b * oY≤X:=by rw [oI];exact h1
  by_cases h0:0 < oY
  ·rw [decide_eq_true (by omega),cond_true,one oY NT,bO,DM h5 (by simp only [SM];omega) (by omega),bO]
   unfold mw
   rw [aj,bC (by omega) (by omega),hdiv,SB]
  ·have:oY=0:=by omega
   subst this
   rw [decide_eq_false (by decide),cond_false]
   unfold mw
   rw [aj,bC (by omega) (by omega),hdiv,SB];simp
 | succ d ih =>
  intro lo oY fuel hd hle NT hf h1 h2
  obtain ⟨g,rfl⟩:∃ g,fuel=g+1:=⟨fuel - 1,by omega⟩
  by_cases ft:lo < oY
  ·rw [iB,decide_eq_true (by omega),cond_true,bC (n:=(lo:Int)+(oY:Int)) (by omega) (by omega),bC (n:=(lo:Int)+(oY:Int)+1) (by omega) (by omega)]
   have em:((lo:Int)+(oY:Int)+1).tdiv 2=(((lo+oY+1) / 2:Nat):Int):=by rw [Int.tdiv_eq_ediv_of_nonneg (by omega)];omega
   rw [em,bC (n:=(((lo+oY+1) / 2:Nat):Int)) (by omega) (by omega)]
   generalize hm:(lo+oY+1) / 2=m
   have hml:=aea m (by omega)
   rw [one m (by omega),bO,Cl (by omega) (by simp only [SM];omega) (by simp only [SM];omega),bO]
   have hc:H5 (b * m) X≤0↔b * m≤X:=by
    obtain ⟨c,_,h3,h4,h5⟩:=xy (N:=(lm (b * m)).length+1) (a:=b * m) (b:=X) (by omega) (by simp only [SM];omega) (by simp only [SM];omega)
    rw [← h5];omega
   by_cases Mn:b * m≤X
   ·rw [decide_eq_true (hc.2 Mn),cond_true]
    exact ih m oY g (by omega) (by omega) NT (by omega) (by rw [oI];exact Mn) h2
   ·rw [decide_eq_false (fun h=>Mn (hc.1 h)),cond_false,bC (by omega) (by omega)]
    have e1:((m:Int) - 1)=((m - 1:Nat):Int):=by omega
    rw [e1]
    refine ih lo (m - 1) g (by omega) (by omega) (by omega) (by omega) h1 ?_
    rw [show m - 1+1=m by omega,oI];omega
  ·have:=ih lo oY (g+1) (by omega) hle NT (by omega) h1 h2
   exact this
theorem OX {N:Nat} {A b:Nat} (hb:0 < b) (hs:SM (2 * (lm A).length+2 * (lm b).length+10)) (hN:(lm A).length+2 * (lm b).length+65560 < N):∀ (k fuel:Nat) (q:List Int) (r:Nat),k≤(lm A).length→k < fuel→q.length=(lm A).length→U q→r < b →
  (∀ j,j < k→q.getD j 0=0)→pw k * bL ((lm A).drop k)=bL q * b+r * pw k→iC N (lm A) (lm b) fuel (lm r) q ((k:Int) - 1)=some (lm (A / b),lm (A % b))
 | 0,fuel,q,r,hk,hf,hq,hU,hr,hz,hinv=>by
  obtain ⟨g,rfl⟩:∃ g,fuel=g+1:=⟨fuel - 1,by omega⟩
  have e:decide ((((0:Nat):Int) - 1)≥0)=false:=rfl
  rw [iC,e,cond_false,ud hU (by simp only [SM] at *;omega) (by omega),bO]
  rw [zV,List.drop_zero,gY] at hinv
  have EZ:=hU.pe
  obtain ⟨Q,hQ⟩:=Int.eq_ofNat_of_zero_le EZ
  rw [hQ] at hinv ⊢
  have h6:A=Q * b+r:=by
   have h9:(A:Int)=Q * b+r:=by omega
   exact_mod_cast h9
  obtain ⟨h7,h8⟩:=Ea h6 hr
  rw [h7,h8];rfl
 | k+1,fuel,q,r,hk,hf,hq,hU,hr,hz,hinv=>by
  obtain ⟨g,rfl⟩:∃ g,fuel=g+1:=⟨fuel - 1,by omega⟩
  have H6:=hs
  simp only [SM] at H6
  have e:(((k+1:Nat):Int) - 1)=(k:Int):=by omega
  have h1:=(rO A).getD k
  have Px:(lm r).length≤(lm b).length:=fh (by omega)
  rw [e,iC,decide_eq_true (by omega),cond_true,if_pos (lQ (by omega)),if_pos (by omega),aj]
  obtain ⟨D,hD⟩:=Int.eq_ofNat_of_zero_le h1.1
  have hX:lm (bL ([(lm A).getD k 0] ++ lm r)).toNat=lm (D+65536 * r):=by
   have e9:bL ([(lm A).getD k 0] ++ lm r)=((D+65536 * r:Nat):Int):=by rw [lx,qV,gY,hD];simp [pw]
   rw [e9,Int.toNat_natCast]
  have hD2:D < 65536:=by omega
  rw [ud ((U.one h1.1 h1.2).append (rO r)) (by simp only [SM,mN,List.length_singleton];omega) (by simp only [mN,List.length_singleton];omega),bO,hX]
  have hXb:D+65536 * r < 65536 * b:=by omega
  have hXl:(lm (D+65536 * r)).length≤(lm b).length+1:=by
   rw [iq,fT]
   have:=(iq (n:=b) (k:=(lm b).length)).1 (aP _)
   omega
  have:=VP (N:=N) (a:=lm A) (q:=q) (b:=b) (i:=k) (X:=D+65536 * r) hb hXb (by omega) (by simp only [SM];omega) (by simp only [SM];omega) (by omega) (iC N (lm A) (lm b) g) 65535 0 65535 N (by omega) (by omega) (by omega) (by omega) (by omega) (by omega)
  rw [show ((0:Nat):Int)=0 from rfl,show ((65535:Nat):Int)=65535 from rfl] at this
  rw [this]
  have Y7:(D+65536 * r) / b < 65536:=Nat.div_lt_of_lt_mul (by omega)
  have hml:=Nat.mod_lt (D+65536 * r) hb
  have hdm:=Nat.div_add_mod (D+65536 * r) b
  generalize (D+65536 * r) / b=u at *
  generalize (D+65536 * r) % b=v at *
  refine OX hb hs hN k g _ _ (by omega) (by omega) (by simp [hq]) (hU.set _ (by omega) (by omega)) hml (fun j hj=>by rw [getD_set_ne _ _ (by omega)];exact hz j (by omega)) ?_
  rw [mU _ _ _ (by omega),hz k (by omega),Int.sub_zero,nD _ k (by omega),hD]
  rw [fT] at hinv
  have h2:(D:Int)+65536 * r=b * u+v:=by
   have:=congrArg (fun x:Nat=>(x:Int)) hdm
   simp only [Int.natCast_add,Int.natCast_mul] at this
   omega
  have h3:pw k * ((D:Int)+65536 * r)=pw k * (b * u+v):=by rw [h2]
  grind
theorem OY {N A b:Nat} (hb:b≠0) (hs:SM (2 * (lm A).length+2 * (lm b).length+10)) (hN:(lm A).length+2 * (lm b).length+65560 < N):nu N (lm A) (lm b)=some (lm (A / b),lm (A % b)):=by
 have H6:=hs
 simp only [SM] at H6
 unfold nu
 rw [if_pos (by omega),bC (by omega) (by omega)]
 have:=OX (N:=N) (A:=A) (b:=b) (by omega) hs hN (lm A).length N (List.replicate (lm A).length 0) 0 (aP _) (by omega) (by simp) (U.replicate _) (by omega) (fun j _=>gM _ j) (by rw [List.drop_length,jS];simp [bL])
 rw [fU] at this
 exact this
end Go.Den
namespace Go.Den
open Go.Ab
abbrev LM (n:Nat):Prop:=n < 1000000000
section
variable {a b:bR} {x y:aa} {m n:Nat} {p q:Rat} {z w:Int}
theorem ZI.read (ha:ZI a z n) (hs:LM n):Gv (fun N=>im N a.fL) (lm z.natAbs) :=
 .of (n+1) fun N hN=>by
  have:=Yj (N:=N) ha.ib.U (by have:=ha.ib.len;simp only [SM,LM] at *;omega) (by have:=ha.ib.len;omega)
  rwa [← jV,ha.v] at this
theorem ZI.J6 (ha:ZI a z n):z=sg a.fG z.natAbs:=by
 have h1:=jV a
 have:zv a=sg a.fG (zv a).natAbs:=by rw [h1];rfl
 rwa [ha.v] at this
theorem oD {neg:Bool} {k:Nat} (hz:ZB (sg neg k) n) (hs:LM n):Gv (fun N=>fB N neg (lm k)) (uc (sg neg k)):=by
 unfold ZB at hz
 rw [pO] at hz
 exact VO neg (by simp only [SM,LM] at *;omega)
theorem SO {N:Nat} {z:Int}:∀ (fuel n:Nat) (out:List Int) (r:Option bR),(lm n).length < fuel→out.length+(lm n).length < 1000→n < 18446744073709551616→((fB N (decide (z < 0)) (out ++ lm n)).bind fun r=>some r)=r→ld N z fuel out (n:Int)=r
 | 0,n,out,r,h,_,_,_=>by omega
 | fuel+1,n,out,r,h,h2,h3,hr=>by
  rw [ld]
  by_cases hn:n=0
  ·subst hn
   rw [fU,List.append_nil] at hr
   exact hr
  ·have e:decide ((n:Int) > 0)=true:=by simp;omega
   rw [pf hn] at h h2
   simp only [qO] at h h2
   have e1:((n:Int) / 65536)=((n / 65536:Nat):Int):=by omega
   have e2:((n:Int) % 65536)=((n % 65536:Nat):Int):=by omega
   rw [e,cond_true,if_pos (by omega),Int.tmod_eq_emod_of_nonneg (by omega),Int.tdiv_eq_ediv_of_nonneg (by omega),e1,e2,gP (by omega) (by omega),bC (by omega) (by omega)]
   refine SO fuel (n / 65536) _ r (by omega) (by simp;omega) (by omega) ?_
   rw [← hr,pf hn,wP];rfl
theorem Kx (h1:-9223372036854775808≤z) (h2:z≤9223372036854775807):Gv (fun N=>rD N z) (uc z):=by
 have hl:ZB z 4:=ZB.word h1 h2
 have key:Gv (fun N=>ld N z N [] ((z.natAbs:Nat):Int)) (uc z):=by
  have hm:Gv (fun N=>(fB N (decide (z < 0)) (lm z.natAbs)).bind fun r=>some r) (uc z):=by
   by_cases h:z < 0
   ·have e:sg true z.natAbs=z:=by simp [sg];omega
    have:=oD (neg:=true) (k:=z.natAbs) (n:=4) (by rw [e];exact hl) (by decide)
    rw [e] at this
    rw [decide_eq_true h]
    exact this.bind (Gv.pure _)
   ·have e:sg false z.natAbs=z:=by simp [sg];omega
    have:=oD (neg:=false) (k:=z.natAbs) (n:=4) (by rw [e];exact hl) (by decide)
    rw [e] at this
    rw [decide_eq_false h]
    exact this.bind (Gv.pure _)
  obtain ⟨N0,hm⟩:=hm
  refine .of (N0+5) fun N hN=>?_
  unfold ZB at hl
  exact SO N z.natAbs [] _ (by omega) (by simp;omega) (by omega) (by have:=hm N (by omega);simpa using this)
 unfold rD
 by_cases h:z < 0
 ·have e:IntKind.u64.wrap (0 - IntKind.u64.wrap z)=((z.natAbs:Nat):Int):=by rw [wrap64,wrap64];omega
  refine Gv.ax (decide_eq_true h) ?_
  rw [e];exact key
 ·have e:IntKind.u64.wrap z=((z.natAbs:Nat):Int):=by rw [wrap64];omega
  refine Gv.aL (decide_eq_false h) ?_
  rw [e];exact key
theorem ZI.Yk (ha:ZI a z n) (hs:LM n):Gv (fun N=>zU N a) (uc (-z)):=by
 refine (ha.read hs).bind ?_
 have e:sg (!a.fG) z.natAbs = -z:=by
  have:=ha.J6
  generalize z.natAbs=k at *
  subst this
  cases a.fG<;>simp [sg]
 refine Gv.bind (r:=uc (-z)) ?_ (Gv.pure _)
 rw [← e]
 exact oD (n:=n) (by rw [e];exact ha.zb.neg) hs
theorem ZI.VQ (ha:ZI a z n) (hb:ZI b w n) (hs:LM (n+1)):Gv (fun N=>zT N a b) (uc (z+w)):=by
 simp only [LM] at hs
 have hz:=ha.zb.add hb.zb
 have D2:=ha.zb
 have q0:=hb.zb
 unfold ZB at D2 q0
 refine (ha.read (by simp only [LM];omega)).bind ((hb.read (by simp only [LM];omega)).bind ?_)
 have hX:=ha.J6
 have hY:=hb.J6
 clear ha hb
 generalize z.natAbs=x at *
 generalize w.natAbs=y at *
 rw [hX,hY] at hz ⊢
 generalize a.fG=p at *
 generalize b.fG=q at *
 cases Ko:(p == q) with
 | true =>
  have Ko:p=q:=by simpa using Ko
  subst Ko
  have e:sg p x+sg p y=sg p (x+y):=by cases p<;>simp [sg]<;>omega
  rw [e] at hz ⊢
  refine Gv.ax rfl (Gv.bind (r:=lm (x+y)) (.of (2 * n+4) fun N hN=>SN (by simp only [SM];omega) (by omega)) ?_)
  exact (oD hz (by simp only [LM];omega)).bind (Gv.pure _)
 | false =>
  have Ko:q=!p:=by cases p<;>cases q<;>simp_all
  subst Ko
  refine Gv.aL rfl ?_
  refine Gv.bind (r:=H5 x y) (.of (n+2) fun N hN=>Cl (by omega) (by simp only [SM];omega) (by simp only [SM];omega)) ?_
  have ft:=OL (a:=x) (b:=y) (by simp only [SM];omega) (by simp only [SM];omega)
  by_cases PL:x < y
  ·refine Gv.aL (decide_eq_false (by have:=ft.2 PL;omega)) (Gv.bind (r:=lm (y - x)) (.of (n+2) fun N hN=>DM (by omega) (by simp only [SM];omega) (by omega)) ?_)
   have e:sg p x+sg (!p) y=sg (!p) (y - x):=by cases p<;>simp [sg]<;>omega
   rw [e] at hz ⊢
   exact (oD hz (by simp only [LM];omega)).bind (Gv.pure _)
  ·refine Gv.ax (decide_eq_true (by have:=fun h=>PL (ft.1 h);omega)) (Gv.bind (r:=lm (x - y)) (.of (n+2) fun N hN=>DM (by omega) (by simp only [SM];omega) (by omega)) ?_)
   have e:sg p x+sg (!p) y=sg p (x - y):=by cases p<;>simp [sg]<;>omega
   rw [e] at hz ⊢
   exact (oD hz (by simp only [LM];omega)).bind (Gv.pure _)
theorem ZI.vU (ha:ZI a z n) (hs:LM n):Gv (fun N=>xk N a) z.sign:=by
 refine (ha.read hs).bind ?_
 have hX:=ha.J6
 clear ha
 generalize z.natAbs=x at *
 rw [hX]
 generalize a.fG=p
 by_cases h:x=0
 ·subst h
  refine Gv.ax (by rw [fU];rfl) ((Gv.pure _).eq ?_)
  cases p<;>rfl
 ·refine Gv.aL ?_ ?_
  ·have:=j9.2 h
   simp;exact fun h'=>by rw [h'] at this;simp at this
  ·cases p with
   | true=>exact Gv.ax rfl ((Gv.pure _).eq (by simp only [sg,cond_true];rw [Int.sign_eq_neg_one_of_neg];omega))
   | false=>exact Gv.aL rfl ((Gv.pure _).eq (by simp only [sg,cond_false];rw [Int.sign_eq_one_of_pos];omega))
theorem ZI.Nw (ha:ZI a z m) (hb:ZI b w n) (hs:LM (m+n)):Gv (fun N=>pH N a b) (uc (z * w)):=by
 simp only [LM] at hs
 have hz:=ha.zb.mul hb.zb
 have D2:=ha.zb
 have q0:=hb.zb
 unfold ZB at D2 q0
 refine (ha.read (by simp only [LM];omega)).bind ((hb.read (by simp only [LM];omega)).bind ?_)
 refine Gv.bind (r:=lm (z.natAbs * w.natAbs)) (.of (m+n+3) fun N hN=>Qb (by simp only [SM];omega) (by omega)) ?_
 have e:sg (!(a.fG == b.fG)) (z.natAbs * w.natAbs)=z * w:=by rw [sign_eq,← ha.J6,← hb.J6]
 have:=oD (neg:=!(a.fG == b.fG)) (k:=z.natAbs * w.natAbs) (n:=m+n) (by rw [e];exact hz) hs
 rw [e] at this
 exact this.bind (Gv.pure _)
theorem LW {A B:Nat} (ha:(lm A).length≤m) (hb:(lm B).length≤n) (h0:B≠0) (hs:LM (m+n+10)):Gv (fun N=>nu N (lm A) (lm B)) (lm (A / B),lm (A % B)) :=
 .of (m+2 * n+65561) fun N hN=>OY h0 (by simp only [SM,LM] at *;omega) (by omega)
end
end Go.Den
namespace Go.Den
open Go.Ab
section
variable {a b:bR} {x y:aa} {m n:Nat} {p q:Rat} {z w:Int}
theorem VR {N k:Nat} (hk:LM (4 * k+30)) (hN:3 * k+65570 < N):∀ (y x fuel:Nat),y < fuel→(lm x).length≤k→(lm y).length≤k→l9 N fuel (lm x) (lm y)=some (lm (Nat.gcd x y)):=by
 intro y
 simp only [LM] at hk
 induction y using Nat.strongRecOn with
 | _ y ih =>
  intro x fuel hf hx hy
  obtain ⟨g,rfl⟩:∃ g,fuel=g+1:=⟨fuel - 1,by omega⟩
  rw [l9]
  by_cases h:y=0
  ·subst h
   rw [fU,Nat.gcd_zero_right];rfl
  ·have hl:=j9.2 h
   rw [decide_eq_true (by omega),cond_true,OY h (by simp only [SM];omega) (by omega),bO]
   have ft:=Nat.mod_lt x (Nat.pos_of_ne_zero h)
   rw [ih (x % y) ft y g (by omega) hy (dp (fh (by omega)) hy),Nat.gcd_comm x y,Nat.gcd_rec y x,Nat.gcd_comm]
theorem VS {x y k:Nat} (hx:(lm x).length≤k) (hy:(lm y).length≤k) (hk:LM (4 * k+30)):Gv (fun N=>zS N (lm x) (lm y)) (lm (Nat.gcd x y)) :=
 .of (3 * k+65571+y) fun N hN=>VR hk (by omega) y x N (by omega) hx hy
theorem ZI.ku (ha:ZI a z n) (hb:ZI b w n) (h0:w≠0) (hs:LM (4 * n+30)):Gv (fun N=>o9 N a b) (aX (Rat.divInt z w)):=by
 simp only [LM] at hs
 have D2:=ha.zb
 have q0:=hb.zb
 unfold ZB at D2 q0
 refine (ha.read (by simp only [LM];omega)).bind ((hb.read (by simp only [LM];omega)).bind ?_)
 have hX:=ha.J6
 have hY:=hb.J6
 clear ha hb
 generalize hxx:z.natAbs=x at *
 generalize hyy:w.natAbs=y at *
 have NP:y≠0:=by omega
 have hg0:0 < Nat.gcd x y:=Nat.gcd_pos_of_pos_right _ (by omega)
 refine Gv.aL (by have:=j9.2 NP;simp;exact fun h'=>by rw [h'] at this;simp at this) ?_
 refine (VS D2 q0 (by simp only [LM];omega)).bind ?_
 have hgn:(lm (Nat.gcd x y)).length≤n:=dp (fh (Nat.gcd_le_right _ (by omega))) q0
 refine (LW D2 hgn (by omega) (by simp only [LM];omega)).bind ((LW q0 hgn (by omega) (by simp only [LM];omega)).bind ?_)
 generalize hu:x / Nat.gcd x y=u
 generalize hv:y / Nat.gcd x y=v
 have hul:(lm u).length≤n:=dp (fh (by rw [← hu];exact Nat.div_le_self _ _)) D2
 have NS:(lm v).length≤n:=dp (fh (by rw [← hv];exact Nat.div_le_self _ _)) q0
 refine (oD (neg:=!(a.fG == b.fG)) (k:=u) (n:=n) (by unfold ZB;rw [pO];exact hul) (by simp only [LM];omega)).bind ((oD (neg:=false) (k:=v) (n:=n) (by unfold ZB;rw [pO];exact NS) (by simp only [LM];omega)).bind ((Gv.pure _).eq ?_))
 have Yg:Int.gcd w z=Nat.gcd x y:=by unfold Int.gcd;rw [hxx,hyy,Nat.gcd_comm]
 unfold aX
 rw [Rat.num_divInt,Rat.den_divInt,if_neg h0,Yg,hyy,hv]
 have hd:(Nat.gcd x y) ∣ x:=Nat.gcd_dvd_left _ _
 have e1:w.sign * z / ((Nat.gcd x y:Nat):Int)=sg (!(a.fG == b.fG)) u:=by
  have VK:(x:Int)=(Nat.gcd x y:Nat) * (u:Int):=by
   have:x=Nat.gcd x y * u:=by rw [← hu,Nat.mul_div_cancel' hd]
   exact_mod_cast this
  have e2:w.sign * z=(Nat.gcd x y:Nat) * sg (!(a.fG == b.fG)) u:=by
   rw [hX,hY]
   cases a.fG<;>cases b.fG<;>simp only [sg,cond_true,cond_false,Bool.not_true,Bool.not_false,BEq.rfl,show (true == false)=false from rfl,show (false == true)=false from rfl]
   ·rw [Int.sign_eq_one_of_pos (by omega),Int.one_mul,← VK]
   ·rw [Int.sign_eq_neg_one_of_neg (by omega),Int.mul_neg,← VK];omega
   ·rw [Int.sign_eq_one_of_pos (by omega),Int.one_mul,Int.mul_neg,← VK]
   ·rw [Int.sign_eq_neg_one_of_neg (by omega),← VK];omega
  rw [e2,Int.mul_ediv_cancel_left _ (by omega)]
 rw [e1];rfl
theorem aaE:Gv (fun N=>rD N 1) (uc 1):=Kx (by decide) (by decide)
theorem ZI.Yl (ha:ZI a z n) (hb:ZI b w n) (h0:w=0) (hs:LM (4 * n+30)):Gv (fun N=>o9 N a b) (aX (z:Rat)):=by
 simp only [LM] at hs
 refine (ha.read (by simp only [LM];omega)).bind ((hb.read (by simp only [LM];omega)).bind ?_)
 refine Gv.ax (by rw [h0];show (((lm 0).length:Nat):Int) == 0;rw [fU];rfl) ?_
 have e:=ha.J6
 have:=oD (neg:=a.fG) (k:=z.natAbs) (n:=n) (by rw [← e];exact ha.zb) (by simp only [LM];omega)
 rw [← e] at this
 exact this.bind (aaE.bind (Gv.pure _))
theorem RQ.parts (h:RQ x p n):∃ z w,ZI x.fN z n∧ZI x.fD w n∧p=Rat.divInt z (if w=0 then 1 else w) :=
 ⟨zv x.fN,zv x.fD,⟨h.ir.num,rfl⟩,⟨h.ir.den,rfl⟩,h.v.symm⟩
theorem RQ.I2 (h:RQ x p n) (hs:LM (4 * n+30)):Gv (fun N=>iE N x) (aX p):=by
 obtain ⟨z,w,hz,hw,e⟩:=h.parts
 by_cases h0:w=0
 ·rw [if_pos h0] at e
  refine (hz.Yl hw h0 hs).bind ((Gv.pure _).eq ?_)
  rw [e,G3]
 ·rw [if_neg h0] at e
  refine (hz.ku hw h0 hs).bind ((Gv.pure _).eq ?_)
  rw [e]
theorem RQ.aeb (h:RQ x p n) (hs:LM (4 * n+30)):Gv (fun N=>qT N x) (Go.Den.pR p) :=
 (h.I2 hs).bind ((h.rb.num.zi.vU (by simp only [LM] at *;omega)).bind (Gv.pure _))
theorem Qc (p q:Rat):Rat.divInt (p.num * q.den+q.num * p.den) (p.den * q.den)=p+q:=by
 conv=>rhs;rw [mF p,mF q]
 rw [Rat.divInt_add_divInt _ _ (pg p) (pg q)]
theorem RQ.VQ (hx:RQ x p m) (hy:RQ y q n) (hs:LM (4 * (m+n+1)+30)):Gv (fun N=>p9 N x y) (aX (p+q)):=by
 simp only [LM] at hs
 have bx:=hx.rb
 have SP:=hy.rb
 refine (hx.I2 (by simp only [LM];omega)).bind ((hy.I2 (by simp only [LM];omega)).bind ?_)
 refine (bx.num.zi.Nw SP.den.zi (by simp only [LM];omega)).bind ((SP.num.zi.Nw bx.den.zi (by simp only [LM];omega)).bind ?_)
 have e1:=(bx.num.mul SP.den).le (show m+n≤m+n by omega)
 have e2:=(SP.num.mul bx.den).le (show n+m≤m+n by omega)
 refine (e1.zi.VQ e2.zi (by simp only [LM];omega)).bind ((bx.den.zi.Nw SP.den.zi (by simp only [LM];omega)).bind ?_)
 refine ((e1.add e2).zi.ku ((bx.den.mul SP.den).le (show m+n≤m+n+1 by omega)).zi (Int.mul_ne_zero (pg p) (pg q)) (by simp only [LM];omega)).bind ((Gv.pure _).eq ?_)
 rw [Qc]
theorem RQ.Yk (hx:RQ x p n) (hs:LM (4 * n+30)):Gv (fun N=>sV N x) (aX (-p)):=by
 refine (hx.I2 hs).bind ((hx.rb.num.zi.Yk (by simp only [LM] at *;omega)).bind ((Gv.pure _).eq ?_))
 unfold aX;rw [Rat.neg_num,Rat.neg_den]
theorem RQ.aec (hx:RQ x p m) (hy:RQ y q n) (hs:LM (4 * (m+n+1)+30)):Gv (fun N=>sX N x y) (aX (p - q)):=by
 refine (hy.Yk (by simp only [LM] at *;omega)).bind ((hx.VQ (hy.rb.neg.rq hy.pos) hs).bind ((Gv.pure _).eq ?_))
 rw [Rat.sub_eq_add_neg]
theorem RQ.Nw (hx:RQ x p m) (hy:RQ y q n) (hs:LM (4 * (m+n+1)+30)):Gv (fun N=>sU N x y) (aX (p * q)):=by
 simp only [LM] at hs
 have bx:=hx.rb
 have SP:=hy.rb
 refine (hx.I2 (by simp only [LM];omega)).bind ((hy.I2 (by simp only [LM];omega)).bind ?_)
 refine (bx.num.zi.Nw SP.num.zi (by simp only [LM];omega)).bind ((bx.den.zi.Nw SP.den.zi (by simp only [LM];omega)).bind ?_)
 refine ((bx.num.mul SP.num).zi.ku (bx.den.mul SP.den).zi (Int.mul_ne_zero (pg p) (pg q)) (by simp only [LM];omega)).bind ((Gv.pure _).eq ?_)
 conv=>rhs;rw [mF p,mF q]
 rw [Rat.divInt_mul_divInt]
theorem RQ.aaF (hx:RQ x p m) (hy:RQ y q n) (hs:LM (4 * (m+n+1)+30)):Gv (fun N=>nX N x y) (Go.Den.pR (p - q)) :=
 (hx.aec hy hs).bind ((((hx.rb.sub hy.rb).rq (by omega)).aeb hs).bind (Gv.pure _))
end
end Go.Den
namespace Go.Den
open Go.Ab
section
variable (t s:Nat→Rat) (n:Nat)
def aaG (i:Nat) (y:Rat):Rat:=if i+1 < n∧t (i+1) < y then t (i+1) else y
def pc (i:Nat) (y:Rat):Rat:=if aaG t n i y≤t i then 0 else aaG t n i y - t i
def vs:Nat→Nat→Rat→Rat
 | 0,_,_=>0
 | k+1,i,y=>s i * pc t n i y+vs k (i+1) y
def fs:Nat→Rat
 | 0=>0
 | i+1=>fs i+s i * (t (i+1) - t i)
def ps (x:Rat):Rat:=if x < 0 then 0 else x
def Up:Prop:=∀ i,i+1 < n→t i < t (i+1)
end
section
variable {t s:Nat→Rat} {n:Nat} (up:Up t n)
include up
end
end Go.Den
namespace Go.Den
open Go.Ab
theorem aH.succ {α:Type} {f f':Nat→Nat→Option α} {r:α} (e:∀ N g,f N (g+1)=f' N g) (h:aH f' r):aH f r :=
 let ⟨N0,h0⟩:=h;.step N0 fun N g hN hg=>(e N g).trans (h0 N g hN hg)
theorem aH.bind {α β:Type} {f:Nat→Option α} {k:Nat→Nat→α→Option β} {r:α} {s:β} (h:Gv f r) (h2:aH (fun N g=>k N g r) s):aH (fun N g=>(f N).bind (k N g)) s:=by
 obtain ⟨N0,h⟩:=h
 obtain ⟨N1,h2⟩:=h2
 exact ⟨N0+N1,fun N g hN hg=>by dsimp only;rw [h N (by omega)];exact h2 N g (by omega) (by omega)⟩
theorem aH.ax {α:Type} {f g:Nat→Nat→Option α} {r:α} {q:Bool} (hq:q=true) (h:aH f r):aH (fun N n=>cond q (f N n) (g N n)) r:=by subst hq;exact h
theorem aH.aL {α:Type} {f g:Nat→Nat→Option α} {r:α} {q:Bool} (hq:q=false) (h:aH g r):aH (fun N n=>cond q (f N n) (g N n)) r:=by subst hq;exact h
theorem aH.if {α:Type} {f:Nat→Nat→Option α} {r:α} {p:Prop} [Decidable p] (hp:p) (h:aH f r):aH (fun N n=>if p then f N n else none) r:=by
 obtain ⟨N0,h⟩:=h
 exact ⟨N0,fun N g hN hg=>by dsimp only;rw [if_pos hp];exact h N g hN hg⟩
theorem aH.one {α:Type} {f:Nat→Option α} {r:α} (h:Gv f r):aH (fun N _=>f N) r:=let ⟨N0,h⟩:=h;⟨N0,fun N _ hN _=>h N hN⟩
theorem aH.eq {α:Type} {f:Nat→Nat→Option α} {r s:α} (h:aH f r) (e:r=s):aH f s:=e ▸ h
def ct (c:fo) (i:Nat):Rat:=(cs c i:Rat)
abbrev cn (c:fo):Nat:=c.av.length
theorem uR.up {c:fo} (h:uR c):Up (ct c) (cn c):=fun i hi=>by
 have:=h.lt i hi
 unfold ct
 exact Rat.intCast_lt_intCast.2 this
def rr (t s:Nat→Rat) (n:Nat) (v:Rat):Nat→Nat→Option Rat
 | 0,_=>none
 | k+1,i=>if s i=0 then rr t s n v k (i+1) else if i+1=n∨(v - fs t s i) / s i≤t (i+1) - t i then some (t i+(v - fs t s i) / s i) else rr t s n v k (i+1)
end Go.Den
namespace Go.Den
open Go.Ab
theorem WM {z:Int} (h1:-9223372036854775808≤z) (h2:z≤9223372036854775807):Gv (fun N=>zR N z) (aX (z:Rat)) :=
 (Kx h1 h2).bind (aaE.bind ((Gv.pure _).eq rfl))
theorem rQ0:Gv (fun N=>zR N 0) (aX 0):=WM (z:=0) (by decide) (by decide)
theorem RB.zero:RB 0 1:=RB.int (z:=0) (ZB.small (by decide)) (by decide)
section
variable {c:fo} {y:aa} {p:Rat} {n m:Nat}
theorem CB.rq (h:CB c n) (i:Nat):RQ (c.bc.getD i aa.d) (cq c i) n:=⟨h.ir i,rfl,h.one⟩
theorem uR.WK (hr:uR c) {i:Nat} (hi:i < cn c):-10000000≤cs c i∧cs c i≤10000000:=⟨hr.lo i hi,hr.hi i hi⟩
theorem uR.rq (hr:uR c) {i:Nat} (hi:i < cn c):RQ (aX (ct c i)) (ct c i) 4:=(SI hr hi).rq (by decide)
theorem uR.Q (hr:uR c) {i:Nat} (hi:i < cn c):Gv (fun N=>zR N (c.av.getD i 0)) (aX (ct c i)):=by
 have:=hr.WK hi
 exact WM (z:=cs c i) (by omega) (by omega)
theorem uR.num (hr:uR c) {i:Nat} (hi:i < cn c):Gv (fun N=>da N (c.av.getD i 0)) (aX (ct c i)):=by
 have:=hr.WK hi
 exact lM (z:=cs c i) (by omega) (by omega)
theorem Ee {q:Rat}:decide (pR q < 0)=decide (q < 0):=decide_eq_decide.2 lF
theorem Ef {q:Rat}:decide (pR q > 0)=decide (0 < q):=decide_eq_decide.2 Fe
theorem Nx {q:Rat}:decide (pR q≥0)=decide (0≤q):=decide_eq_decide.2 (by
 constructor
 ·intro h;exact Rat.not_lt.1 fun h2=>by have:=lF.2 h2;omega
 ·intro h;exact Int.not_lt.1 fun h2=>by have:=lF.1 h2;grind)
end
end Go.Den
namespace Go.Den
open Go.Ab
theorem VT (x:aa):Gv (fun N=>o8 N x) (cond (decide (((x.fN.fL.length:Nat):Int) > 12)) true (decide (((x.fD.fL.length:Nat):Int) > 12))):=Gv.pure _
theorem G5 {x:aa} (h:aa.wf x):Gv (fun N=>o8 N x) true∨(Gv (fun N=>o8 N x) false∧RQ x (qv x) 12):=by
 have:=VT x
 by_cases h1:x.fN.fL.length≤12
 ·by_cases h2:x.fD.fL.length≤12
  ·rw [decide_eq_false (by omega),decide_eq_false (by omega)] at this
   exact .inr ⟨this,⟨IB.OU h.1 h1,IB.OU h.2 h2⟩,rfl,by decide⟩
  ·rw [decide_eq_true (p:=((x.fD.fL.length:Nat):Int) > 12) (by omega)] at this
   left;revert this;cases decide (((x.fN.fL.length:Nat):Int) > 12)<;>exact id
 ·rw [decide_eq_true (by omega)] at this
  exact .inl this
theorem aed {n:Nat}:IR aa.d n:=⟨⟨U.nil,Nat.zero_le _⟩,⟨U.nil,Nat.zero_le _⟩⟩
theorem ze {l:List aa} {i:Nat} (h:l.length≤i):l.getD i aa.d=aa.d:=by
 simp [List.getD,List.getElem?_eq_none_iff.2 h]
theorem OZ {l:List aa} (h:∀ x∈l,aa.wf x) {i:Nat} (hi:i < l.length):aa.wf (l.getD i aa.d):=by
 have e:l.getD i aa.d=l[i]:=by simp [List.getD,hi]
 rw [e];exact h _ (List.getElem_mem hi)
theorem G6 {l:List aa} (h:∀ x∈l,aa.wf x) (hl:l.length≤1000):∀ (k i:Nat),i+k=l.length→aH (fun N fuel=>dB N l fuel (i:Int)) true∨(aH (fun N fuel=>dB N l fuel (i:Int)) false∧∀ j,i≤j→IR (l.getD j aa.d) 12)
 | 0,i,hi=>.inr ⟨.step 0 fun N g _ _=>by
  have:i=l.length:=by omega
  subst this
  rw [dB,fa];rfl,fun j hj=>by rw [ze (by omega)];exact aed⟩
 | k+1,i,hi=>by
  have mn:i < l.length:=by omega
  rcases G5 (OZ h mn) with w | ⟨w,r⟩
  ·refine .inl (aH.succ (fun N g=>dB.eq_2 ..) (aH.ax (dec_lt mn) (aH.if (lQ mn) ?_)))
   rw [aj]
   exact aH.bind w (aH.ax rfl (aH.one (Gv.pure _)))
  ·have key:∀ b,aH (fun N fuel=>dB N l fuel ((i+1:Nat):Int)) b→aH (fun N fuel=>dB N l fuel (i:Int)) b:=fun b hb=>by
    refine aH.succ (fun N g=>dB.eq_2 ..) (aH.ax (dec_lt mn) (aH.if (lQ mn) ?_))
    rw [aj,bh (by omega)]
    exact aH.bind w (aH.aL rfl hb)
   rcases G6 h hl k (i+1) (by omega) with g | ⟨g,r2⟩
   ·exact .inl (key _ g)
   ·refine .inr ⟨key _ g,fun j hj=>?_⟩
    by_cases Hz:j=i
    ·rw [Hz];exact r.ir
    ·exact r2 j (by omega)
theorem vv {l:List aa} (h:∀ x∈l,aa.wf x) {most:Nat} (hm:most≤1000):Gv (fun N=>ln N l most) true∨(Gv (fun N=>ln N l most) false∧l.length≤most∧∀ j,IR (l.getD j aa.d) 12):=by
 by_cases h1:l.length≤most
 ·rcases G6 h (by omega) l.length 0 (by omega) with g | ⟨g,r⟩
  ·exact .inl (Gv.aL (decide_eq_false (by omega)) g.diag)
  ·exact .inr ⟨Gv.aL (decide_eq_false (by omega)) g.diag,h1,fun j=>r j (Nat.zero_le _)⟩
 ·exact .inl (Gv.ax (decide_eq_true (by omega)) (Gv.pure _))
end Go.Den
namespace Go.Den
open Go.Ab
abbrev MS:Nat:=100000000
def Ev (p:Nat→Nat→Prop):Prop:=∃ N0,∀ N g,N0≤N→N0≤g→p N g
theorem Ev.of {p:Nat→Nat→Prop} (N0:Nat) (h:∀ N g,N0≤N→N0≤g→p N g):Ev p:=⟨N0,h⟩
theorem Gv.ev {α:Type} {f:Nat→Option α} {r:α} (h:Gv f r):Ev fun N _=>f N=some r:=let ⟨N0,h0⟩:=h;⟨N0,fun N _ hN _=>h0 N hN⟩
theorem Ev.and {p q:Nat→Nat→Prop} (h:Ev p) (k:Ev q):Ev fun N g=>p N g∧q N g:=by
 obtain ⟨a,ha⟩:=h;obtain ⟨b,hb⟩:=k
 exact ⟨a+b,fun N g h1 h2=>⟨ha N g (by omega) (by omega),hb N g (by omega) (by omega)⟩⟩
theorem Ev.mono {p q:Nat→Nat→Prop} (h:Ev p) (k:∀ N g,p N g→q N g):Ev q:=let ⟨a,ha⟩:=h;⟨a,fun N g h1 h2=>k N g (ha N g h1 h2)⟩
theorem Ev.succ {p:Nat→Nat→Prop} (h:Ev fun N g=>p N (g+1)):Ev p:=by
 obtain ⟨a,ha⟩:=h
 refine ⟨a+1,fun N g h1 h2=>?_⟩
 obtain ⟨g,rfl⟩:∃ g',g=g'+1:=⟨g - 1,by omega⟩
 exact ha N g (by omega) (by omega)
theorem Ev.diag {p:Nat→Nat→Prop} (h:Ev p):Ev fun N _=>p N N:=let ⟨a,ha⟩:=h;⟨a,fun N _ h1 _=>ha N N h1 h1⟩
theorem Ev.true {p:Nat→Nat→Prop} (h:∀ N g,p N g):Ev p:=⟨0,fun N g _ _=>h N g⟩
def CD (A:List (List aa)) (i j:Nat):aa:=(A.getD i []).getD j aa.d
structure LX (A:List (List aa)) (n w:Nat) (M:Nat→Nat→Rat):Prop where
 len:A.length=n
 row:∀ i,i < n→(A.getD i []).length=w
 CD:∀ i j,i < n→j < w→RQ (CD A i j) (M i j) MS
def upd (M:Nat→Nat→Rat) (i j:Nat) (v:Rat):Nat→Nat→Rat:=fun a b=>if a=i∧b=j then v else M a b
theorem lN {α:Type} (l:List α) (i:Nat) (x d:α) (h:i < l.length):(l.set i x).getD i d=x:=by
 simp [ee,List.getElem?_set_self h]
theorem jj {α:Type} (l:List α) {i j:Nat} (x d:α) (h:i≠j):(l.set i x).getD j d=l.getD j d:=by
 simp [ee,List.getElem?_set_ne h]
theorem LX.set {A:List (List aa)} {n w:Nat} {M:Nat→Nat→Rat} (h:LX A n w M) {i j:Nat} (hi:i < n) (hj:j < w) {x:aa} {v:Rat} (hx:RQ x v MS) :
  LX (A.set i ((A.getD i []).set j x)) n w (upd M i j v):=by
 refine ⟨by rw [List.length_set];exact h.len,fun a ha=>?_,fun a b ha hb=>?_⟩
 ·by_cases e:i=a
  ·subst e;rw [lN _ _ _ _ (by rw [h.len];exact hi),List.length_set];exact h.row i hi
  ·rw [jj _ _ _ e];exact h.row a ha
 ·unfold Go.Den.CD upd
  by_cases e:i=a
  ·subst e
   rw [lN _ _ _ _ (by rw [h.len];exact hi)]
   by_cases e2:j=b
   ·subst e2
    rw [lN _ _ _ _ (by rw [h.row i hi];exact hj),if_pos ⟨rfl,rfl⟩];exact hx
   ·rw [jj _ _ _ e2,if_neg (fun q=>e2 q.2.symm)];exact h.CD i b ha hb
  ·rw [jj _ _ _ e,if_neg (fun q=>e q.1.symm)];exact h.CD a b ha hb
theorem LX.congr {A:List (List aa)} {n w:Nat} {M M':Nat→Nat→Rat} (h:LX A n w M) (e:∀ i j,i < n→j < w→M i j=M' i j):LX A n w M' :=
 ⟨h.len,h.row,fun i j hi hj=>e i j hi hj ▸ h.CD i j hi hj⟩
def VB (M:Nat→Nat→Rat) (n w s:Nat):Prop:=∀ i j,i < n→j < w→RB (M i j) s
end Go.Den
namespace Go.Den
open Go.Ab
def T6 (M:Nat→Nat→Rat) (c d:Nat):Nat→Nat→Rat:=fun i j=>if i=c then M d j else if i=d then M c j else M i j
def T7 (M:Nat→Nat→Rat) (c t:Nat):Nat→Nat→Rat:=fun i j=>if i=c∧j < t then M c j / M c c else M i j
def Ny (M:Nat→Nat→Rat) (g:Nat→Rat) (c t:Nat):Nat→Nat→Rat:=fun i j=>if i < t∧i≠c then M i j - g i * M c j else M i j
def stE (M:Nat→Nat→Rat) (n w c d:Nat):Nat→Nat→Rat:=Ny (T7 (T6 M c d) c w) (fun i=>T6 M c d i c) c n
def stR (M:Nat→Nat→Rat) (n c d:Nat):Nat→Nat→Rat:=Ny (T6 M c d) (fun i=>T6 M c d i c / T6 M c d c c) c n
structure Prl (M R:Nat→Nat→Rat) (n w c:Nat) (l:Nat→Rat):Prop where
 ne:∀ i,i < n→l i≠0
 eq:∀ i j,i < n→j < w→R i j=l i * M i j
 one:∀ i j,i < n→j < c→M i j=if i=j then 1 else 0
theorem Prl.step {M R:Nat→Nat→Rat} {n w c:Nat} {l:Nat→Rat} (h:Prl M R n w c l) (hc:c < n) (hw:n≤w) {d:Nat} (Y5:c≤d) (VJ:d < n) (h0:M d c≠0) :
  ∃ l',Prl (stE M n w c d) (stR R n c d) n w (c+1) l':=by
 let s:Nat→Nat:=fun i=>if i=c then d else if i=d then c else i
 have hs:∀ i,i < n→s i < n:=fun i hi=>by
  show (if i=c then d else if i=d then c else i) < n
  split
  ·exact VJ
  ·split<;>omega
 have hM:∀ i j,T6 M c d i j=M (s i) j:=fun i j=>by
  show (if i=c then M d j else if i=d then M c j else M i j)=M (if i=c then d else if i=d then c else i) j
  split
  ·rfl
  ·split<;>rfl
 have hR:∀ i j,T6 R c d i j=R (s i) j:=fun i j=>by
  show (if i=c then R d j else if i=d then R c j else R i j)=R (if i=c then d else if i=d then c else i) j
  split
  ·rfl
  ·split<;>rfl
 have TZ:s c=d:=if_pos rfl
 have Y8:c < w:=by omega
 refine ⟨fun i=>if i=c then l d * M d c else l (s i),fun i hi=>?_,fun i j hi hj=>?_,fun i j hi hj=>?_⟩
 ·split
  ·intro e
   rcases Rat.mul_eq_zero.1 e with e | e
   ·exact h.ne d VJ e
   ·exact h0 e
  ·exact h.ne _ (hs i hi)
 ·simp only [stE,stR,Ny]
  have e1:=h.eq (s i) j (hs i hi) hj
  have e2:=h.eq d j VJ hj
  have e3:=h.eq (s i) c (hs i hi) Y8
  have e4:=h.eq d c VJ Y8
  have hl:=h.ne d VJ
  by_cases O0:i=c
  ·have hn:¬ (i < n∧i≠c):=fun q=>q.2 O0
   simp only [hn,if_false,O0,if_true,hR,TZ,e2,T7,hM,hj,and_self]
   grind
  ·have hn:i < n∧i≠c:=⟨hi,O0⟩
   simp only [hn,O0,if_true,if_false,not_false_eq_true,and_self,ne_eq,hR,TZ,e1,e2,e3,e4,T7,hM,false_and,hj]
   have:l d * M d c≠0:=fun e=>by
    rcases Rat.mul_eq_zero.1 e with e | e
    ·exact hl e
    ·exact h0 e
   grind
 ·have hz:∀ i,i < n→j < c→M i j=if i=j then 1 else 0:=fun i hi h1=>h.one i j hi h1
  simp only [stE,Ny]
  by_cases hjc:j=c
  ·by_cases O0:i=c
   ·have hn:¬ (i < n∧i≠c):=fun q=>q.2 O0
    simp only [hn,if_false,O0,hjc,if_true,T7,hM,TZ,Y8,and_self]
    grind
   ·have hn:i < n∧i≠c:=⟨hi,O0⟩
    simp only [hn,O0,hjc,if_true,if_false,not_false_eq_true,and_self,ne_eq,T7,hM,TZ,false_and,Y8]
    grind
  ·have aaH:j < c:=by omega
   have hjw:j < w:=by omega
   have QB:M d j=0:=by rw [hz d VJ aaH,if_neg (by omega)]
   have aeg:M (s i) j=if i=j then 1 else 0:=by
    rw [hz (s i) (hs i hi) aaH]
    have:(s i=j)↔(i=j):=by
     show ((if i=c then d else if i=d then c else i)=j)↔i=j
     split
     ·omega
     ·split<;>omega
    simp only [this]
   by_cases O0:i=c
   ·have hn:¬ (i < n∧i≠c):=fun q=>q.2 O0
    have UD:¬ c=j:=fun q=>hjc q.symm
    simp only [hn,if_false,O0,if_true,T7,hM,TZ,hjw,and_self,QB,UD]
    grind
   ·have hn:i < n∧i≠c:=⟨hi,O0⟩
    simp only [hn,O0,if_true,if_false,not_false_eq_true,and_self,ne_eq,T7,hM,TZ,false_and,hjw,aeg,QB]
    grind
theorem VB.T6 {M:Nat→Nat→Rat} {n w s c d:Nat} (h:VB M n w s) (hc:c < n) (hd:d < n):VB (T6 M c d) n w s:=fun i j hi hj=>by
 unfold Go.Den.T6
 split
 ·exact h d j hd hj
 ·split
  ·exact h c j hc hj
  ·exact h i j hi hj
theorem VB.T7 {M:Nat→Nat→Rat} {n w s c t:Nat} (h:VB M n w s) (hc:c < n) (Y8:c < w) (h0:M c c≠0):VB (T7 M c t) n w (s+s):=fun i j hi hj=>by
 unfold Go.Den.T7
 split
 ·exact (h c j hc hj).div (h c c hc Y8) h0
 ·exact (h i j hi hj).le (by omega)
theorem VB.Ny {M:Nat→Nat→Rat} {n w s c t:Nat} {g:Nat→Rat} (h:VB M n w s) (hg:∀ i,i < n→RB (g i) s) (hc:c < n):VB (Ny M g c t) n w (s+(s+s)+1):=fun a j ha hj=>by
 unfold Go.Den.Ny
 split
 ·exact (h a j ha hj).sub ((hg a ha).mul (h c j hc hj))
 ·exact (h a j ha hj).le (by omega)
end Go.Den
namespace Go.Den
open Go.Ab
theorem E2 {a:Nat} (h:a≤MS+MS+1):SM (2 * a+2):=by simp only [SM,MS] at *;omega
theorem LX.at {A:List (List aa)} {n w:Nat} {M:Nat→Nat→Rat} (h:LX A n w M) {i j:Nat} (hi:i < n) (hj:j < w):RQ ((A.getD i []).getD j aa.d) (M i j) MS:=h.CD i j hi hj
theorem inl {m n k:Nat} (h:m < n) (e:k=n):0≤(m:Int)∧(m:Int) < ((k:Nat):Int):=⟨by omega,by omega⟩
theorem Ky {m n k:Nat} (h:m < n) (e:k=n):decide ((m:Int) < ((k:Nat):Int))=true:=by simp;omega
theorem LY {m n k:Nat} (h:n≤m) (e:k=n):decide ((m:Int) < ((k:Nat):Int))=false:=by simp;omega
section
variable {A:List (List aa)} {n w c:Nat} {M:Nat→Nat→Rat}
end
end Go.Den
namespace Go.Den
open Go.Ab
def bJ:Nat→(Nat→Rat)→Rat
 | 0,_=>0
 | n+1,f=>bJ n f+f n
theorem aA {n:Nat} {f g:Nat→Rat} (h:∀ i,i < n→f i=g i):bJ n f=bJ n g:=by
 induction n with
 | zero=>rfl
 | succ n ih=>rw [bJ,bJ,ih fun i hi=>h i (by omega),h n (by omega)]
theorem rR (n:Nat) (f g:Nat→Rat):bJ n (fun i=>f i+g i)=bJ n f+bJ n g:=by
 induction n with
 | zero=>show (0:Rat)=0+0;grind
 | succ n ih=>rw [bJ,bJ,bJ,ih];grind
theorem ja (n:Nat) (c:Rat) (f:Nat→Rat):bJ n (fun i=>c * f i)=c * bJ n f:=by
 induction n with
 | zero=>show (0:Rat)=c * 0;grind
 | succ n ih=>rw [bJ,bJ,ih];grind
theorem gQ (n:Nat):bJ n (fun _=>0)=0:=by
 induction n with
 | zero=>rfl
 | succ n ih=>rw [bJ,ih];grind
theorem jv {n j:Nat} (hj:j < n) (f:Nat→Rat) (h:∀ i,i < n→i≠j→f i=0):bJ n f=f j:=by
 induction n with
 | zero=>omega
 | succ n ih =>
  rw [bJ]
  by_cases e:j=n
  ·subst e
   rw [aA (g:=fun _=>0) fun i hi=>h i (by omega) (by omega),gQ];grind
  ·rw [ih (by omega) fun i hi ec=>h i (by omega) ec,h n (by omega) (by omega)];grind
theorem ue {n j:Nat} (hj:j < n) (f:Nat→Rat):bJ n f=f j+bJ n (fun i=>if i=j then 0 else f i):=by
 have e:bJ n f=bJ n (fun i=>(if i=j then f j else 0)+(if i=j then 0 else f i)):=aA fun i _=>by
  split
  ·rename_i h;subst h;grind
  ·grind
 rw [e,rR,jv hj (fun i=>if i=j then f j else 0) fun i _ h=>if_neg h,if_pos rfl]
structure bp where
 eV:Nat→Nat
 fr:Nat→Nat
 a:Nat→Nat→Rat
 b:Nat→Rat
 g:Nat→Rat
 v:Rat
namespace bp
def row (D:bp) (k:Nat) (x:Nat→Rat) (i:Nat):Rat:=D.b i+bJ k fun j=>D.a i j * x (D.fr j)
def Cm (D:bp) (m k:Nat) (x:Nat→Rat):Prop:=∀ i,i < m→x (D.eV i)=D.row k x i
def gv (D:bp) (k:Nat) (x:Nat→Rat):Rat:=D.v+bJ k fun j=>D.g j * x (D.fr j)
structure WF (D:bp) (m k:Nat):Prop where
 bi:∀ i i',i < m→i' < m→D.eV i=D.eV i'→i=i'
 fi:∀ j j',j < k→j' < k→D.fr j=D.fr j'→j=j'
 bf:∀ i j,i < m→j < k→D.eV i≠D.fr j
 bl:∀ i,i < m→D.eV i < m+k
 fl:∀ j,j < k→D.fr j < m+k
 al:∀ u,u < m+k→(∃ i,i < m∧D.eV i=u)∨∃ j,j < k∧D.fr j=u
def nI (D:bp) (i j k:Nat):Rat:=if k=j then 1 / D.a i j else -(D.a i k / D.a i j)
def pb (D:bp) (i j:Nat):Rat:=-(D.b i / D.a i j)
def iu (D:bp) (i j:Nat):bp where
 eV:=fun r=>if r=i then D.fr j else D.eV r
 fr:=fun c=>if c=j then D.eV i else D.fr c
 a:=fun r c=>if r=i then D.nI i j c else if c=j then D.a r j * D.nI i j c else D.a r c+D.a r j * D.nI i j c
 b:=fun r=>if r=i then D.pb i j else D.b r+D.a r j * D.pb i j
 g:=fun c=>if c=j then D.g j * D.nI i j c else D.g c+D.g j * D.nI i j c
 v:=D.v+D.g j * D.pb i j
theorem WF.iu {D:bp} {m k i j:Nat} (h:D.WF m k) (hi:i < m) (hj:j < k):(D.iu i j).WF m k:=by
 refine ⟨fun r r' hr Av e=>?_,fun c c' hc jr e=>?_,fun r c hr hc e=>?_,fun r hr=>?_,fun c hc=>?_,fun u hu=>?_⟩
 ·simp only [bp.iu] at e
  split at e<;>split at e
  ·omega
  ·exact absurd e.symm (h.bf _ _ Av hj)
  ·exact absurd e (h.bf _ _ hr hj)
  ·exact h.bi _ _ hr Av e
 ·simp only [bp.iu] at e
  split at e<;>split at e
  ·omega
  ·exact absurd e (h.bf _ _ hi jr)
  ·exact absurd e.symm (h.bf _ _ hi hc)
  ·exact h.fi _ _ hc jr e
 ·simp only [bp.iu] at e
  split at e<;>split at e
  ·exact h.bf _ _ hi hj e.symm
  ·rename_i h1 h2;exact h2 (h.fi _ _ hc hj e.symm)
  ·rename_i h1 h2;exact h1 (h.bi _ _ hr hi e)
  ·exact h.bf _ _ hr hc e
 ·simp only [bp.iu];split
  ·exact h.fl j hj
  ·exact h.bl r hr
 ·simp only [bp.iu];split
  ·exact h.bl i hi
  ·exact h.fl c hc
 ·rcases h.al u hu with ⟨r,hr,e⟩ | ⟨c,hc,e⟩
  ·by_cases q:r=i
   ·subst q;exact .inr ⟨j,hj,by simp only [bp.iu,if_pos];exact e⟩
   ·exact .inl ⟨r,hr,by simp only [bp.iu,if_neg q];exact e⟩
  ·by_cases q:c=j
   ·subst q;exact .inl ⟨i,hi,by simp only [bp.iu,if_pos];exact e⟩
   ·exact .inr ⟨c,hc,by simp only [bp.iu,if_neg q];exact e⟩
theorem J7 {D:bp} {k i j:Nat} (hj:j < k) (h0:D.a i j≠0) {x:Nat→Rat} (hs:x (D.eV i)=D.row k x i∨x (D.fr j)=(D.iu i j).row k x i) :
  x (D.fr j)=D.pb i j+bJ k fun c=>D.nI i j c * x ((D.iu i j).fr c):=by
 rcases hs with hs | hs
 ·rw [ue hj]
  have e1:(fun c=>if c=j then (0:Rat) else D.nI i j c * x ((D.iu i j).fr c))=fun c=>(-(1 / D.a i j)) * (if c=j then 0 else D.a i c * x (D.fr c)):=by
   funext c
   by_cases q:c=j
   ·simp only [q,if_true];grind
   ·simp only [bp.nI,bp.iu,q,if_false];grind
  rw [e1,ja]
  unfold bp.row at hs
  rw [ue hj] at hs
  simp only [bp.nI,bp.iu,if_true,bp.pb]
  rw [hs]
  grind
 ·rw [hs]
  simp only [bp.row,bp.iu,if_true]
theorem LZ {D:bp} {k i j:Nat} (hj:j < k) (f:Nat→Rat) {x:Nat→Rat} {p:Rat} (hx:x (D.fr j)=p+bJ k fun c=>D.nI i j c * x ((D.iu i j).fr c)) :
  (f j * p+bJ k fun c=>(if c=j then f j * D.nI i j c else f c+f j * D.nI i j c) * x ((D.iu i j).fr c))=bJ k fun c=>f c * x (D.fr c):=by
 have e1:bJ k (fun c=>(if c=j then f j * D.nI i j c else f c+f j * D.nI i j c) * x ((D.iu i j).fr c))=bJ k (fun c=>(if c=j then 0 else f c * x (D.fr c))+f j * (D.nI i j c * x ((D.iu i j).fr c))):=aA fun c _=>by
  by_cases q:c=j
  ·simp only [q,if_true];grind
  ·simp only [q,if_false,bp.iu];grind
 rw [e1,rR,ja,ue hj (fun c=>f c * x (D.fr c)),hx]
 grind
theorem Cm.iu {D:bp} {m k i j:Nat} (hi:i < m) (hj:j < k) (h0:D.a i j≠0) {x:Nat→Rat}:(D.iu i j).Cm m k x↔D.Cm m k x:=by
 have key:∀ r,r≠i→x (D.fr j)=D.pb i j+bJ k (fun c=>D.nI i j c * x ((D.iu i j).fr c))→(D.iu i j).row k x r=D.row k x r:=fun r hr hx=>by
  have e:=LZ hj (fun c=>D.a r c) hx
  simp only [bp.row]
  rw [← e]
  simp only [bp.iu,hr,if_false]
  grind
 constructor
 ·intro h r hr
  have h1:=h i hi
  have h2:x (D.fr j)=(D.iu i j).row k x i:=by rw [← h1];simp [bp.iu]
  have hx:=J7 hj h0 (.inr h2)
  by_cases q:r=i
  ·subst q
   -- solve for the basic variable
   have e:=hx
   rw [ue hj] at e
   have e1:(fun c=>if c=j then (0:Rat) else D.nI r j c * x ((D.iu r j).fr c))=fun c=>(-(1 / D.a r j)) * (if c=j then 0 else D.a r c * x (D.fr c)):=by
    funext c
    by_cases q:c=j
    ·simp only [q,if_true];grind
    ·simp only [bp.nI,bp.iu,q,if_false];grind
   rw [e1,ja] at e
   simp only [bp.nI,bp.iu,if_true,bp.pb] at e
   unfold bp.row
   rw [ue hj]
   grind
  ·have h3:=h r hr
   rw [key r q hx] at h3
   rw [← h3]
   simp [bp.iu,q]
 ·intro h r hr
  have hx:=J7 hj h0 (.inl (h i hi))
  by_cases q:r=i
  ·subst q
   simp only [bp.row,bp.iu,if_true]
   exact hx
  ·rw [key r q hx,← h r hr]
   simp [bp.iu,q]
theorem Ym {D:bp} {m k i j:Nat} (hi:i < m) (hj:j < k) (h0:D.a i j≠0) {x:Nat→Rat} (hs:D.Cm m k x):(D.iu i j).gv k x=D.gv k x:=by
 have hx:=J7 hj h0 (.inl (hs i hi))
 have e:=LZ hj D.g hx
 simp only [bp.gv]
 rw [← e]
 simp only [bp.iu]
 grind
def T8 (D:bp):Nat→Nat→Option Nat
 | 0,_=>none
 | m+1,u=>if D.eV m=u then some m else T8 D m u
theorem qm {D:bp}:∀ {m i:Nat},(∀ i i',i < m→i' < m→D.eV i=D.eV i'→i=i')→i < m→D.T8 m (D.eV i)=some i
 | 0,i,_,hi=>by omega
 | m+1,i,h,hi=>by
  rw [T8]
  by_cases e:D.eV m=D.eV i
  ·rw [if_pos e,h m i (by omega) hi e]
  ·rw [if_neg e]
   exact qm (fun i i' h1 h2=>h i i' (by omega) (by omega)) (Nat.lt_of_le_of_ne (by omega) fun q=>e (by rw [q]))
theorem mj {D:bp} {u:Nat}:∀ {m:Nat},(∀ i,i < m→D.eV i≠u)→D.T8 m u=none
 | 0,_=>rfl
 | m+1,h=>by rw [T8,if_neg (h m (by omega))];exact mj fun i hi=>h i (by omega)
def ext (D:bp) (m k:Nat) (y:Nat→Rat) (u:Nat):Rat:=match D.T8 m u with
 | some i=>D.row k y i
 | none=>y u
theorem uS {D:bp} {m k i:Nat} (h:D.WF m k) (hi:i < m) (y:Nat→Rat):D.ext m k y (D.eV i)=D.row k y i:=by unfold ext;rw [qm h.bi hi]
theorem vw {D:bp} {m k j:Nat} (h:D.WF m k) (hj:j < k) (y:Nat→Rat):D.ext m k y (D.fr j)=y (D.fr j):=by
 unfold ext;rw [mj fun i hi=>h.bf i j hi hj]
theorem oW {D:bp} {m k:Nat} (h:D.WF m k) (y:Nat→Rat):D.Cm m k (D.ext m k y):=fun i hi=>by
 rw [uS h hi]
 unfold bp.row
 congr 1
 exact aA fun j hj=>by rw [vw h hj]
theorem zf {D:bp} {m k:Nat} (h:D.WF m k) (y:Nat→Rat):D.gv k (D.ext m k y)=D.gv k y:=by
 unfold bp.gv
 congr 1
 exact aA fun j hj=>by rw [vw h hj]
def one (u:Nat):Nat→Rat:=fun w=>if w=u then 1 else 0
def qX:Nat→Rat:=fun _=>0
theorem s8 (D:bp) (k i:Nat):D.row k qX i=D.b i:=by
 unfold row qX
 rw [aA (g:=fun _=>0) fun j _=>by grind,gQ];grind
theorem row_one {D:bp} {m k j:Nat} (h:D.WF m k) (hj:j < k) (i:Nat):D.row k (one (D.fr j)) i=D.b i+D.a i j:=by
 unfold row one
 rw [jv hj _ fun c hc ec=>by rw [if_neg fun e=>ec (h.fi _ _ hc hj e)];grind]
 rw [if_pos rfl];grind
theorem DN (D:bp) (k:Nat):D.gv k qX=D.v:=by
 unfold gv qX
 rw [aA (g:=fun _=>0) fun j _=>by grind,gQ];grind
theorem J8 {D:bp} {m k j:Nat} (h:D.WF m k) (hj:j < k):D.gv k (one (D.fr j))=D.v+D.g j:=by
 unfold gv one
 rw [jv hj _ fun c hc ec=>by rw [if_neg fun e=>ec (h.fi _ _ hc hj e)];grind]
 rw [if_pos rfl];grind
structure Am (m k:Nat) (D D':bp):Prop where
 Kz:∀ x,D.Cm m k x↔D'.Cm m k x
 gv:∀ x,D.Cm m k x→D.gv k x=D'.gv k x
theorem Am.refl (m k:Nat) (D:bp):Am m k D D:=⟨fun _=>Iff.rfl,fun _ _=>rfl⟩
theorem Am.symm {m k:Nat} {D D':bp} (h:Am m k D D'):Am m k D' D:=⟨fun x=>(h.Kz x).symm,fun x hx=>(h.gv x ((h.Kz x).2 hx)).symm⟩
theorem Am.trans {m k:Nat} {D D' D'':bp} (h:Am m k D D') (h':Am m k D' D''):Am m k D D'' :=
 ⟨fun x=>(h.Kz x).trans (h'.Kz x),fun x hx=>(h.gv x hx).trans (h'.gv x ((h.Kz x).1 hx))⟩
theorem Am.iu {m k i j:Nat} {D:bp} (hi:i < m) (hj:j < k) (h0:D.a i j≠0):Am m k D (D.iu i j) :=
 ⟨fun _=>(Cm.iu hi hj h0).symm,fun _ hx=>(Ym hi hj h0 hx).symm⟩
def vA (D:bp) (m u:Nat):Prop:=∃ i,i < m∧D.eV i=u
theorem z5 {D:bp} {m k:Nat} (h:D.WF m k) {u:Nat} (hu:u < m+k) (hn:¬ D.vA m u):∃ j,j < k∧D.fr j=u:=(h.al u hu).resolve_left hn
theorem zg {D:bp} {m k:Nat} {x y:Nat→Rat} (hx:D.Cm m k x) (hf:∀ j,j < k→x (D.fr j)=y (D.fr j)) {i:Nat} (hi:i < m):x (D.eV i)=D.row k y i:=by
 rw [hx i hi];unfold row;congr 1
 exact aA fun j hj=>by rw [hf j hj]
theorem uniq {D D':bp} {m k:Nat} (h:D.WF m k) (h':D'.WF m k) (e:Am m k D D') (hb:∀ u,D.vA m u→D'.vA m u) :
  (∀ i i',i < m→i' < m→D.eV i=D'.eV i'→D.b i=D'.b i')∧(∀ i j i' j',i < m→i' < m→j < k→j' < k→D.eV i=D'.eV i'→D.fr j=D'.fr j'→D.a i j=D'.a i' j') ∧
   (∀ j j',j < k→j' < k→D.fr j=D'.fr j'→D.g j=D'.g j')∧D.v=D'.v:=by
 have hf:∀ j',j' < k→∃ j,j < k∧D.fr j=D'.fr j':=fun j' sJ=>z5 h (h'.fl j' sJ) fun q=>by
  obtain ⟨i,hi,e⟩:=hb _ q
  exact h'.bf i j' hi sJ e
 have key:∀ y,(∀ i i',i < m→i' < m→D.eV i=D'.eV i'→D.row k y i=D'.row k y i')∧D.gv k y=D'.gv k y:=fun y=>by
  have hs:=oW h y
  have H6:=(e.Kz _).1 hs
  have Me:∀ j',j' < k→D.ext m k y (D'.fr j')=y (D'.fr j'):=fun j' sJ=>by
   obtain ⟨j,hj,q⟩:=hf j' sJ
   rw [← q,vw h hj]
  refine ⟨fun i i' hi oY q=>?_,?_⟩
  ·rw [← uS h hi y,q]
   exact zg H6 Me oY
  ·rw [← zf h y,e.gv _ hs]
   unfold gv;congr 1
   exact aA fun j hj=>by rw [Me j hj]
 have U9:∀ i i',i < m→i' < m→D.eV i=D'.eV i'→D.b i=D'.b i':=fun i i' hi oY q=>by
  have:=(key qX).1 i i' hi oY q
  rwa [s8,s8] at this
 have hv:D.v=D'.v:=by have:=(key qX).2;rwa [DN,DN] at this
 refine ⟨U9,fun i j i' j' hi oY hj sJ q1 q2=>?_,fun j j' hj sJ q=>?_,hv⟩
 ·have:=(key (one (D.fr j))).1 i i' hi oY q1
  rw [row_one h hj,q2,row_one h' sJ,U9 i i' hi oY q1] at this
  grind
 ·have:=(key (one (D.fr j))).2
  rw [J8 h hj,q,J8 h' sJ,hv] at this
  grind
end bp
end Go.Den
