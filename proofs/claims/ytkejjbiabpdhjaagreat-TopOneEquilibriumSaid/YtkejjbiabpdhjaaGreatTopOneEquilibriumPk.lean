/- The plain law: the Lean function of the law returns true for every input, and what it needs. No conditions. -/
import Derived.Test.YtkejjbiabpdhjaaGreatTopOneEquilibriumDen
set_option linter.unusedVariables false
set_option linter.unusedSimpArgs false
namespace Go.Den
open Go.Ab
theorem bb (n:Nat) (h:0 < n:=by omega):∃ g,n=g+1:=⟨n-1,by omega⟩
theorem am2 (n:Int):av n=if n % 18446744073709551616>=9223372036854775808 then n % 18446744073709551616 - 18446744073709551616 else n % 18446744073709551616:=by
 have e:av n=(if (true && decide (n % 18446744073709551616>=9223372036854775808))=true then n % 18446744073709551616 - 18446744073709551616 else n % 18446744073709551616):=rfl;rw [e];simp
theorem bD {n:Int} (a:-9223372036854775808<=n) (b:n<=9223372036854775807):av n=n:=by
 rw [am2];split<;>omega
theorem a0 {p:Prop} (h:p:=by rw [bD ad ad];omega):p:=h
theorem aX {m:Nat} (h:m < 9223372036854775807):av ((m:Int)+1)=((m+1:Nat):Int):=by rw [bD ad ad];simp
def scan {R:Type} (f:Nat->Option R) (z:R):Nat->Nat->R
 | 0,_=>z
 | k+1,m=>match f m with
  | some r=>r
  | none=>scan f z k (m+1)
theorem ZU {R:Type} {f:Nat->Option R} {z:R}:∀ (k m:Nat),(∃ i r,m<=i/\i < m+k/\f i=some r/\(∀ j,m<=j->j < i->f j=none)/\scan f z k m=r)\/((∀ i,m<=i->i < m+k->f i=none)/\scan f z k m=z)
 | 0,m=>.inr ⟨fun i a b=>ad,rfl⟩
 | k+1,m=>by
  cases hm:f m with
  | some r=>exact .inl ⟨m,r,aH _,ad,hm,fun j a b=>ad,by unfold scan;rw [hm]⟩
  | none =>
   have e:scan f z (k+1) m=scan f z k (m+1):=by rw [scan,hm]
   rcases ZU (f:=f) (z:=z) k (m+1) with ⟨i,r,a,b,g,h,l⟩ | ⟨a,b⟩
   ·refine .inl ⟨i,r,ad,ad,g,fun j n c=>?_,e.trans l⟩
    by_cases d:j=m
    ·subst d;exact hm
    ·exact h j ad c
   ·refine .inr ⟨fun i o p=>?_,e.trans b⟩
    by_cases d:i=m
    ·subst d;exact hm
    ·exact a i ad ad
theorem Th {α:Type} (l:List α) (m:Nat) (d:α) (h:m < l.length):l.getD m d∈l:=by
 simp [List.getD,h]
theorem ai (m:Nat):((m:Int)).toNat=m:=rfl
theorem k6 {m n:Nat} (h:m < n):0<=(m:Int)/\(m:Int) < ((n:Nat):Int):=⟨ad,ad⟩
theorem dec_lt {m n:Nat} (h:m < n):decide ((m:Int) < ((n:Nat):Int))=true:=by simp;omega
theorem hT {n:Nat}:decide ((n:Int) < ((n:Nat):Int))=false:=aD
theorem AN (n:Int):IntKind.u16.wrap n=n % 65536:=by
 have e:IntKind.u16.wrap n=(if (false && decide (n % 65536>=32768))=true then n % 65536 - 65536 else n % 65536):=rfl;rw [e];simp
theorem wrap32 (n:Int):IntKind.u32.wrap n=n % 4294967296:=by
 have e:IntKind.u32.wrap n=(if (false && decide (n % 4294967296>=2147483648))=true then n % 4294967296 - 4294967296 else n % 4294967296):=rfl;rw [e];simp
theorem wrap64 (n:Int):IntKind.u64.wrap n=n % 18446744073709551616:=by
 have e:IntKind.u64.wrap n=(if (false && decide (n % 18446744073709551616>=9223372036854775808))=true then n % 18446744073709551616 - 18446744073709551616 else n % 18446744073709551616):=rfl;rw [e];simp
theorem uC {n:Int} (h:0<=n) (a:n < 65536):IntKind.u16.wrap n=n:=by rw [AN];omega
theorem fA {n:Int} (h:0<=n) (a:n < 4294967296):IntKind.u32.wrap n=n:=by rw [wrap32];omega
theorem lz {n:Int} (h:0<=n) (a:n < 18446744073709551616):IntKind.u64.wrap n=n:=by rw [wrap64];omega
theorem MQ (n:Int):iU .u32 n 16=n / 65536:=by
 unfold iU;have:(2:Int) ^ (min (16:Int).toNat IntKind.u32.bits)=65536:=ay;rw [this,Int.fdiv_eq_ediv_of_nonneg _ ay]
theorem Ti (n:Int):iU .u64 n 16=n / 65536:=by
 unfold iU;have:(2:Int) ^ (min (16:Int).toNat IntKind.u64.bits)=65536:=ay;rw [this,Int.fdiv_eq_ediv_of_nonneg _ ay]
theorem afY (n:Int):iU .i64 n 16=n / 65536:=by
 unfold iU;have:(2:Int) ^ (min (16:Int).toNat IntKind.i64.bits)=65536:=ay;rw [this,Int.fdiv_eq_ediv_of_nonneg _ ay]
theorem Tj {n:Int} (h:0<=n) (a:n < 65536):Dl .u32 n 16=n * 65536:=by
 unfold Dl;have:(2:Int) ^ (min (16:Int).toNat IntKind.u32.bits)=65536:=ay;rw [this,wrap32];omega
theorem Tk {n:Int} (h:0<=n) (a:n < 281474976710656):Dl .u64 n 16=n * 65536:=by
 unfold Dl;have:(2:Int) ^ (min (16:Int).toNat IntKind.u64.bits)=65536:=ay;rw [this,wrap64];omega
theorem ajH {n:Nat} (a b:Nat) (c:a < 2 ^ n) (hb:b < 2 ^ n):(BitVec.ofInt n (a:Int) ||| BitVec.ofInt n (b:Int)).toNat=a ||| b:=by
 rw [BitVec.ofInt_natCast,BitVec.ofInt_natCast,BitVec.toNat_or,BitVec.toNat_ofNat,BitVec.toNat_ofNat,Nat.mod_eq_of_lt c,Nat.mod_eq_of_lt hb]
theorem bv_and {n:Nat} (a b:Nat) (c:a < 2 ^ n) (hb:b < 2 ^ n):(BitVec.ofInt n (a:Int) &&& BitVec.ofInt n (b:Int)).toNat=a &&& b:=by
 rw [BitVec.ofInt_natCast,BitVec.ofInt_natCast,BitVec.toNat_and,BitVec.toNat_ofNat,BitVec.toNat_ofNat,Nat.mod_eq_of_lt c,Nat.mod_eq_of_lt hb]
theorem LD (a b k:Nat) (hb:b < 2 ^ k):(a * 2 ^ k) ||| b=a * 2 ^ k+b:=by
 have:=Nat.shiftLeft_add_eq_or_of_lt hb a;rw [Nat.shiftLeft_eq] at this;exact this.symm
theorem aef {a b:Int} (c:0<=a) (d:a < 65536) (hb:0<=b) (f:b < 65536):Us .u32 (a * 65536) b=a * 65536+b:=by
 obtain ⟨a,rfl⟩:=Int.eq_ofNat_of_zero_le c;obtain ⟨b,rfl⟩:=Int.eq_ofNat_of_zero_le hb;unfold Us;have e:((a:Int) * 65536)=((a * 2 ^ 16:Nat):Int):=aD;rw [e,show IntKind.u32.bits=32 from rfl,ajH _ _ ad ad,LD _ _ 16 ad,wrap32];omega
theorem Yi {a b:Int} (c:0<=a) (d:a < 281474976710656) (hb:0<=b) (f:b < 65536):Us .u64 (a * 65536) b=a * 65536+b:=by
 obtain ⟨a,rfl⟩:=Int.eq_ofNat_of_zero_le c;obtain ⟨b,rfl⟩:=Int.eq_ofNat_of_zero_le hb;unfold Us;have e:((a:Int) * 65536)=((a * 2 ^ 16:Nat):Int):=aD;rw [e,show IntKind.u64.bits=64 from rfl,ajH _ _ ad ad,LD _ _ 16 ad,wrap64];omega
theorem ZV {a:Int} (b:0<=a) (c:a < 18446744073709551616):Zw .u64 a 65535=a % 65536:=by
 obtain ⟨a,rfl⟩:=Int.eq_ofNat_of_zero_le b;unfold Zw;have e:(65535:Int)=((65535:Nat):Int):=rfl;rw [e,show IntKind.u64.bits=64 from rfl,bv_and _ _ ad ad,show (65535:Nat)=2 ^ 16 - 1 from rfl,Nat.and_two_pow_sub_one_eq_mod,wrap64];omega
def de:List Int->Int
 | []=>0
 | x :: l=>x+65536 * de l
def U (l:List Int):Prop:=∀ x,x∈l->0<=x/\x < 65536
def lm (n:Nat):List Int:=if h:n=0 then [] else ((n % 65536:Nat):Int) :: lm (n / 65536)
termination_by n
decreasing_by omega
def pw (k:Nat):Int:=65536 ^ k
theorem JA:pw 0=1:=rfl
theorem kQ (k:Nat):pw (k+1)=65536 * pw k:=by unfold pw;rw [Int.pow_succ];omega
theorem qz (k:Nat):0 < pw k:=by
 induction k with
 | zero=>decide
 | succ k a=>rw [kQ];omega
theorem Tl (j k:Nat):pw (j+k)=pw j * pw k:=Int.pow_add _ _ _
theorem U.nil:U []:=fun x h=>by simp at h
theorem U.cons {x:Int} {l:List Int} (b:0<=x) (c:x < 65536) (h:U l):U (x :: l):=fun y a=>by
 rcases rJ.1 a with rfl | a
 ·exact ⟨b,c⟩
 ·exact h y a
theorem U.tail {x:Int} {l:List Int} (h:U (x :: l)):U l:=fun y a=>h y (List.mem_cons_of_mem _ a)
theorem U.head {x:Int} {l:List Int} (h:U (x :: l)):0<=x/\x < 65536:=h x aD
theorem U.append {l m:List Int} (b:U l) (c:U m):U (l ++ m):=fun y a=>by
 rcases List.mem_append.1 a with a | a
 ·exact b y a
 ·exact c y a
theorem U.left {l m:List Int} (h:U (l ++ m)):U l:=fun y a=>h y (List.mem_append_left _ a)
theorem U.one {x:Int} (a:0<=x) (b:x < 65536):U [x]:=U.cons a b U.nil
theorem U.take {l:List Int} (h:U l) (k:Nat):U (l.take k):=fun y a=>h y (List.mem_of_mem_take a)
theorem U.drop {l:List Int} (h:U l) (k:Nat):U (l.drop k):=fun y a=>h y (List.mem_of_mem_drop a)
theorem U.getD {l:List Int} (h:U l) (i:Nat):0<=l.getD i 0/\l.getD i 0 < 65536:=by
 by_cases hi:i < l.length
 ·exact h _ (Th l i 0 hi)
 ·rw [lH,yZ ad];decide
theorem U.set {l:List Int} (h:U l) (i:Nat) {x:Int} (b:0<=x) (c:x < 65536):U (l.set i x):=fun y a=>by
 rcases List.mem_or_eq_of_mem_set a with a | rfl
 ·exact h y a
 ·exact ⟨b,c⟩
theorem U.replicate (n:Nat):U (List.replicate n 0):=fun y a=>by
 rw [(List.mem_replicate.1 a).2];decide
theorem qA (l m:List Int):de (l ++ m)=de l+pw l.length * de m:=by
 induction l with
 | nil=>simp [de,JA]
 | cons x l a =>
  simp only [List.cons_append,de,a,Fp,kQ];rw [lM,<- pM];omega
theorem zd (x:Int):de [x]=x:=by simp [de]
theorem ou (n:Nat):de (List.replicate n 0)=0:=by
 induction n with
 | zero=>rfl
 | succ n a=>simp [List.replicate_succ,de,a]
theorem U.wa:∀ {l:List Int},U l->0<=de l
 | [],_=>by simp [de]
 | x :: l,h=>by have:=U.wa h.tail;have:=h.head;simp only [de];omega
theorem U.lt:∀ {l:List Int},U l->de l < pw l.length
 | [],_=>by simp [de,JA]
 | x :: l,h=>by have:=U.lt h.tail;have:=h.head;simp only [de,Fp,kQ];omega
theorem tl:∀ (l:List Int) (i:Nat) (x:Int),i < l.length->de (l.set i x)=de l+(x - l.getD i 0) * pw i
 | [],i,x,h=>by simp at h
 | y :: l,0,x,h=>by simp [de,JA];omega
 | y :: l,i+1,x,h=>by
  simp only [List.set_cons_succ,de,tl l i x (by simpa using h),kQ];rw [show (y :: l).getD (i+1) 0=l.getD i 0 from rfl,lM,show (x - l.getD i 0) * (65536 * pw i)=65536 * ((x - l.getD i 0) * pw i) by rw [Int.mul_left_comm]];omega
theorem fE (l:List Int) (i:Nat) (h:i < l.length):de (l.take (i+1))=de (l.take i)+l.getD i 0 * pw i:=by
 have e:l.take (i+1)=l.take i ++ [l.getD i 0]:=by
  rw [List.take_add_one];simp [List.getD,h]
 rw [e,qA,zd,ud,Nat.min_eq_left ad,kM]
theorem tZ (l:List Int) (i:Nat) (h:i < l.length):de (l.drop i)=l.getD i 0+65536 * de (l.drop (i+1)):=by
 rw [List.drop_eq_getElem_cons h];simp [de,List.getD,h]
theorem ze (l:List Int) (i:Nat) (h:i<=l.length):de l=de (l.take i)+pw i * de (l.drop i):=by
 have:=qA (l.take i) (l.drop i);rwa [List.take_append_drop,ud,Nat.min_eq_left h] at this
theorem lr:lm 0=[]:=by rw [lm];rfl
theorem x5 {n:Nat} (h:n≠0):lm n=((n % 65536:Nat):Int) :: lm (n / 65536):=by rw [lm,dif_neg h]
theorem zZ (n:Nat):U (lm n):=by
 induction n using Nat.strongRecOn with
 | _ n a =>
  by_cases h:n=0
  ·subst h;rw [lr];exact U.nil
  ·rw [x5 h];exact U.cons ad ad (a _ ad)
theorem lK (n:Nat):de (lm n)=n:=by
 induction n using Nat.strongRecOn with
 | _ n a =>
  by_cases h:n=0
  ·subst h;rw [lr];rfl
  ·rw [x5 h,de,a _ ad];omega
theorem acS {n:Nat}:lm n=[]↔n=0:=by
 constructor
 ·intro h;have:=lK n;rw [h] at this;simp [de] at this;omega
 ·rintro rfl;exact lr
theorem rV {n:Nat}:0 < (lm n).length↔n≠0:=by
 rw [List.length_pos_iff,ne_eq,acS]
theorem nj {n k:Nat}:(lm n).length<=k↔(n:Int) < pw k:=by
 induction k generalizing n with
 | zero =>
  rw [JA];constructor
  ·intro h;have:lm n=[]:=List.length_eq_zero_iff.1 ad;rw [acS] at this;omega
  ·intro h;have:n=0:=ad;rw [acS.2 this];simp
 | succ k a =>
  by_cases h:n=0
  ·subst h;rw [lr];have:=qz (k+1);simp;omega
  ·rw [x5 h,Fp,kQ];have:=a (n:=n / 65536);constructor
   ·intro h;have:=this.1 ad;omega
   ·intro h;have:=this.2 ad;omega
theorem am3 {n:Nat} (h:n≠0):∃ l x,lm n=l ++ [x]/\x≠0/\U l/\0<=x/\x < 65536:=by
 induction n using Nat.strongRecOn with
 | _ n b =>
  rw [x5 h]
  by_cases a:n / 65536=0
  ·rw [a,lr];exact ⟨[],_,rfl,ad,U.nil,ad,ad⟩
  ·obtain ⟨l,x,e,c,d,f,g⟩:=b _ ad a;rw [e];exact ⟨_ :: l,x,rfl,c,U.cons ad ad d,f,g⟩
theorem aeg:∀ {l:List Int},U l->(∀ m x,l=m ++ [x]->x≠0)->lm (de l).toNat=l
 | [],_,_=>by simp [de,lr]
 | x :: l,h,b=>by
  have j:=h.head;have k:=h.tail.wa;have e:de (x :: l)=x+65536 * de l:=rfl;have d:(de (x :: l)).toNat≠0:=by
   rw [e];cases l with
   | nil=>have:=b [] x rfl;simp [de];omega
   | cons y l =>
    have a:=aeg (l:=y :: l) h.tail fun m z c=>b (x :: m) z (by rw [c];rfl);have:de (y :: l)≠0:=fun f=>by rw [f] at a;simp [lr] at a
    omega
  rw [x5 d];have a:=aeg (l:=l) h.tail fun m z c=>b (x :: m) z (by rw [c];rfl);have g:(((de (x :: l)).toNat % 65536:Nat):Int)=x:=by rw [e];omega
  have i:(de (x :: l)).toNat / 65536=(de l).toNat:=by rw [e];omega
  rw [g,i,a]
theorem aeh {N:Nat}:∀ (fuel:Nat) (l:List Int),U l->l.length < fuel->l.length < 9223372036854775807->tH N fuel l=some (lm (de l).toNat)
 | 0,l,_,h,_=>ad
 | fuel+1,l,d,h,e=>by
  rw [tH];rcases List.eq_nil_or_concat l with rfl | ⟨m,x,b⟩
  ·simp [de,lr]
  ·rw [List.concat_eq_append] at b;subst b;have a:(m ++ [x]).length=m.length+1:=aD;have g:av ((((m ++ [x]).length:Nat):Int) - 1)=(m.length:Int):=by rw [a,bD ad (by rw [a] at e;omega)];omega
   have i:(m ++ [x]).getD m.length 0=x:=by simp [List.getD]
   have j:decide ((((m ++ [x]).length:Nat):Int) > 0)=true:=aD;rw [g,j];rw [if_pos (fun _=>⟨ad,by rw [a];omega⟩),cond_true];simp only [ai,i];cases f:(x == 0) with
   | true =>
    have c:x=0:=by simpa using f
    subst c;rw [cond_true,if_pos ⟨Nat.zero_le _,by rw [a];omega⟩,if_pos ad];have k:((m ++ [(0:Int)]).take m.length).drop 0=m:=aD;rw [k,aeh fuel m d.left (by rw [a] at h;omega) (by rw [a] at e;omega),qA,zd];simp
   | false =>
    rw [cond_false,aeg d];intro n x' he;have:=(List.append_inj' he rfl).2;simp at this f;omega
theorem rX {N:Nat} {l:List Int} (a:U l) (b:l.length < N) (c:l.length < 9223372036854775807):k9 N l=some (lm (de l).toNat):=aeh N l a b c
abbrev SM (n:Nat):Prop:=n < 10000000000000
theorem aF {p:Prop} (h:p:=by simp only [SM];omega):p:=h
def acT (a b:List Int):Nat->Int
 | 0=>0
 | k+1=>cond (a.getD k 0 != b.getD k 0) (a.getD k 0 - b.getD k 0) (acT a b k)
def UM (a b:Nat):Int:=cond ((((lm a).length:Nat):Int) != (((lm b).length:Nat):Int)) ((((lm a).length:Nat):Int) - (((lm b).length:Nat):Int)) (acT (lm a) (lm b) (lm a).length)
theorem Tm {N:Nat} {a b:List Int} (d:U a) (hb:U b) (p:a.length=b.length) (n:SM a.length):∀ (k fuel:Nat),k<=a.length->k < fuel ->
  ∃ c,mw N a b fuel ((k:Int) - 1)=some c/\(c < 0↔de (a.take k) < de (b.take k))/\(c=0↔de (a.take k)=de (b.take k))/\c=acT a b k
 | 0,fuel,_,q=>by
  obtain ⟨g,rfl⟩:=bb fuel;exact ⟨0,by rw [mw];rfl,aD,aD,rfl⟩
 | k+1,fuel,A,q=>by
  obtain ⟨g,rfl⟩:=bb fuel;have e:(((k+1:Nat):Int) - 1)=(k:Int):=ad;rw [e,mw];have f:=fE a k ad;have i:=fE b k ad;have B:=d.getD k;have C:=hb.getD k;have l:=(d.take k).lt;have m:=(hb.take k).lt;have r:=(d.take k).wa;have s:=(hb.take k).wa;rw [ud,Nat.min_eq_left ad] at l m;have t:decide ((k:Int)>=0)=true:=aD;rw [t,cond_true,if_pos ⟨ad,ad⟩,if_pos ⟨ad,ad⟩];simp only [ai];cases j:(a.getD k 0 != b.getD k 0) with
  | true =>
   have o:a.getD k 0≠b.getD k 0:=by simpa using j
   refine ⟨a.getD k 0 - b.getD k 0,?_,?_,?_,by rw [acT,j];rfl⟩
   ·rw [cond_true];congr 1;rw [bD (by rw [bD ad ad,bD ad ad];omega) (by rw [bD ad ad,bD ad ad];omega),bD ad ad,bD ad ad]
   ·rw [f,i];generalize a.getD k 0=x at *
    generalize b.getD k 0=y at *
    rcases Int.lt_or_lt_of_ne o with h | h
    ·have:=o6 (show x+1<=y by omega) (Int.le_of_lt (qz k));rw [jb] at this;constructor<;>intro<;>omega
    ·have:=o6 (show y+1<=x by omega) (Int.le_of_lt (qz k));rw [jb] at this;constructor<;>intro<;>omega
   ·rw [f,i];generalize a.getD k 0=x at *
    generalize b.getD k 0=y at *
    rcases Int.lt_or_lt_of_ne o with h | h
    ·have:=o6 (show x+1<=y by omega) (Int.le_of_lt (qz k));rw [jb] at this;constructor<;>intro<;>omega
    ·have:=o6 (show y+1<=x by omega) (Int.le_of_lt (qz k));rw [jb] at this;constructor<;>intro<;>omega
  | false =>
   have heq:a.getD k 0=b.getD k 0:=by simpa using j
   obtain ⟨c,u,v,w,z⟩:=Tm d hb p n k g ad ad;refine ⟨c,?_,?_,?_,by rw [acT,j];exact z⟩
   ·rw [cond_false,bD ad (by simp only [SM] at n;omega)];exact u
   ·rw [f,i,heq,v];omega
   ·rw [f,i,heq,w];omega
theorem JB {a b:Nat} (h:(lm a).length < (lm b).length):a < b:=by
 have c:=nj (n:=a) (k:=(lm a).length);have d:=nj (n:=b) (k:=(lm a).length);have:=c.1 (aH _);have:¬ (b:Int) < pw (lm a).length:=fun h'=>by have:=d.2 h';omega
 omega
theorem Gz {N:Nat} {a b:Nat} (g:(lm a).length < N) (e:SM (lm a).length) (hb:SM (lm b).length):∃ c,tI N (lm a) (lm b)=some c/\(c < 0↔a < b)/\(c=0↔a=b)/\c=UM a b:=by
 unfold tI;simp only [SM] at e hb;cases d:((((lm a).length:Nat):Int) != (((lm b).length:Nat):Int)) with
 | true =>
  have f:(lm a).length≠(lm b).length:=by intro h;rw [h] at d;simp at d
  refine ⟨_,cond_true _ _,?_,?_,by unfold UM;rw [d,cond_true,bD ad ad]⟩
  ·rw [bD ad ad];rcases Nat.lt_or_gt_of_ne f with h | h
   ·have:=JB h;omega
   ·have:=JB h;omega
  ·rw [bD ad ad];rcases Nat.lt_or_gt_of_ne f with h | h
   ·have:=JB h;omega
   ·have:=JB h;omega
 | false =>
  have heq:(lm a).length=(lm b).length:=by simp at d;omega
  rw [cond_false,bD ad ad];obtain ⟨c,i,j,k,l⟩:=Tm (N:=N) (zZ a) (zZ b) heq e (lm a).length N (aH _) g;rw [List.take_length,heq,List.take_length,lK,lK] at j k;exact ⟨c,i,ad,ad,by unfold UM;rw [d];exact l⟩
theorem ZW {N a b:Nat} (d:(lm a).length < N) (e:SM (lm a).length) (hb:SM (lm b).length):tI N (lm a) (lm b)=some (UM a b):=by
 obtain ⟨c,f,_,_,rfl⟩:=Gz d e hb;exact f
theorem aei {a b:Nat} (d:SM (lm a).length) (hb:SM (lm b).length):UM a b < 0↔a < b:=by
 obtain ⟨c,_,h,_,rfl⟩:=Gz (N:=(lm a).length+1) ad d hb;exact h
theorem aej {N:Nat} {a b:List Int} (r:U a) (hb:U b) (t:b.length<=a.length) (j:SM a.length) (v:a.length+1 < N):∀ (k x fuel:Nat) (out:List Int) (c:Int),x+k=a.length->k < fuel->out.length=x->U out->0<=c->c<=1 ->
  de out+pw x * c=de (a.take x)+de (b.take x)->n9 N a b fuel out c (x:Int)=some (lm (de a+de b).toNat)
 | 0,x,fuel,out,c,w,y,i,l,m,z,d=>by
  obtain ⟨g,rfl⟩:=bb fuel;have A:x=a.length:=ad;subst A;rw [n9];simp only [SM] at j;rw [hT,cond_false,if_pos ad,uC m ad];have o:U (out ++ [c]):=l.append (U.one m ad);have f:(out ++ [c]).length=a.length+1:=by simp [i]
  rw [rX o (by rw [f];omega) (by rw [f];omega),db,qA,zd,i,d,List.take_length,mU t]
 | k+1,x,fuel,out,c,w,y,i,l,m,z,d=>by
  obtain ⟨g,rfl⟩:=bb fuel;simp only [SM] at j;have p:x < a.length:=ad;have F:=r.getD x;have G:=hb.getD x;rw [n9,dec_lt p,cond_true,if_pos (k6 p)];simp only [ai];have B:=fE a x p;have C:de (b.take (x+1))=de (b.take x)+b.getD x 0 * pw x:=by
   by_cases h:x < b.length
   ·exact fE b x h
   ·rw [mU ad,mU ad,lH,yZ ad];simp
  have step:∀ s:Int,s=c+a.getD x 0+b.getD x 0->(wq N a b out (x:Int) (n9 N a b g) s)=some (lm (de a+de b).toNat):=by
   intro s q;unfold wq;rw [if_pos ad,AN,MQ,aX ad];refine aej r hb t j v k (x+1) g _ _ ad ad (by simp [i]) (l.append (U.one ad ad)) ad ad ?_;rw [qA,zd,i,B,C,kQ];have D:s=s % 65536+65536 * (s / 65536):=ad;have H:pw x * s=pw x * (s % 65536)+pw x * (65536 * (s / 65536)):=by rw [<- lM,<- D]
   have I:pw x * s=pw x * c+a.getD x 0 * pw x+b.getD x 0 * pw x:=by rw [q,lM,lM,kM (pw x) (a.getD x 0),kM (pw x) (b.getD x 0)]
   have J:65536 * pw x * (s / 65536)=pw x * (65536 * (s / 65536)):=by rw [kM 65536,pM]
   omega
  by_cases u:x < b.length
  ·rw [dec_lt u,cond_true,if_pos (k6 u)];refine step _ ?_;rw [fA (n:=a.getD x 0) ad ad,fA (n:=b.getD x 0) ad ad,fA (n:=c+a.getD x 0) ad ad,fA ad ad]
  ·have e:decide ((x:Int) < (b.length:Int))=false:=by simp;omega
   rw [e,cond_false];refine step _ ?_;have E:b.getD x 0=0:=by rw [lH,yZ ad];rfl
   rw [fA (n:=a.getD x 0) ad ad,fA (n:=c+a.getD x 0) ad ad,E];omega
theorem aek {N:Nat} {a b:List Int} (d:U a) (hb:U b) (e:b.length<=a.length) (c:SM a.length) (f:a.length+1 < N):wu N a b=some (lm (de a+de b).toNat):=by
 unfold wu;simp only [SM] at c;rw [if_pos a0];exact aej d hb e c f a.length 0 N _ 0 ad ad rfl (U.replicate 0) ad ad (by simp [de])
theorem aqf {N:Nat} {a b:List Int} (e:U a) (hb:U b) (f:SM a.length) (c:SM b.length) (g:a.length+1 < N) (d:b.length+1 < N):Em N a b=some (lm (de a+de b).toNat):=by
 unfold Em;cases h:decide ((a.length:Int) < (b.length:Int)) with
 | true =>
  simp at h;rw [cond_true,aek hb e ad c d,Int.add_comm]
 | false =>
  simp at h;rw [cond_false,aek e hb ad f g]
theorem am4 {N a b:Nat} (e:SM (lm a).length) (c:SM (lm b).length) (f:(lm a).length+1 < N) (d:(lm b).length+1 < N):Em N (lm a) (lm b)=some (lm (a+b)):=by
 rw [aqf (zZ a) (zZ b) e c f d,lK,lK];congr 1
theorem ZX {N:Nat} {a b:List Int} (s:U a) (hb:U b) (t:b.length<=a.length) (l:de b<=de a) (m:SM a.length) (w:a.length+1 < N):∀ (k x fuel:Nat) (out:List Int) (c:Int),x+k=a.length->k < fuel->out.length=a.length->U out->0<=c->c<=1 ->
  (∀ j,x<=j->out.getD j 0=0)->de out - pw x * c=de (a.take x) - de (b.take x)->la N a b fuel out c (x:Int)=some (lm (de a - de b).toNat)
 | 0,x,fuel,out,c,z,A,o,f,B,C,p,d=>by
  obtain ⟨g,rfl⟩:=bb fuel;have D:x=a.length:=ad;subst D;simp only [SM] at m;rw [la,hT,cond_false,rX f ad ad,db];rw [List.take_length,mU t] at d;have u:=f.lt;rw [o] at u;have E:c=0:=by
   rcases Int.lt_or_le 0 c with h | h
   ·have:c=1:=ad;subst this;omega
   ·omega
  subst E;have:de out=de a - de b:=ad;rw [this]
 | k+1,x,fuel,out,c,z,A,o,f,B,C,p,d=>by
  obtain ⟨g,rfl⟩:=bb fuel;simp only [SM] at m;have r:x < a.length:=ad;have u:=s.getD x;have M:=hb.getD x;rw [la,dec_lt r,cond_true,if_pos (k6 r)];simp only [ai];have F:=fE a x r;have G:de (b.take (x+1))=de (b.take x)+b.getD x 0 * pw x:=by
   by_cases h:x < b.length
   ·exact fE b x h
   ·rw [mU ad,mU ad,lH,yZ ad];simp
  have step:∀ y:Int,y=c+b.getD x 0->(uj N a b out (x:Int) (la N a b g) y)=some (lm (de a - de b).toNat):=by
   intro y H;unfold uj;have fin:∀ q:Int,0<=q->q<=1->0<=a.getD x 0+q * 65536 - y->a.getD x 0+q * 65536 - y < 65536->ui N a b out (x:Int) y (la N a b g) q=some (lm (de a - de b).toNat):=by
    intro q I J K L;unfold ui;rw [if_pos ⟨ad,ad⟩,Tj ad ad,ai,fA (n:=a.getD x 0) ad ad,fA (n:=a.getD x 0+q * 65536) ad ad,fA ad ad,uC ad ad,aX ad];refine ZX s hb t l m w k (x+1) g _ _ ad ad (by simp [o]) (f.set x ad ad) I J ?_ ?_
    ·intro j O;have:=p j ad;rw [lH] at this ⊢;rw [List.getElem?_set_ne ad];exact this
    ·rw [tl _ _ _ ad,p x (aH _),F,G,kQ];have P:(a.getD x 0+q * 65536 - y - 0) * pw x=a.getD x 0 * pw x+q * 65536 * pw x - y * pw x:=by rw [Int.sub_zero,Int.sub_mul,jb]
     have Q:y * pw x=c * pw x+b.getD x 0 * pw x:=by rw [H,jb]
     have R:q * 65536 * pw x=65536 * pw x * q:=by rw [kM q 65536,pM,pM,kM q]
     have S:c * pw x=pw x * c:=kM _ _;omega
   rw [ai,fA (n:=a.getD x 0) ad ad];cases i:decide (a.getD x 0 < y) with
   | true=>have i:=nH i;rw [cond_true];exact fin 1 ad ad ad ad
   | false=>have i:=o7 i;rw [cond_false];exact fin 0 ad ad ad ad
  by_cases v:x < b.length
  ·rw [dec_lt v,cond_true,if_pos (k6 v)];refine step _ ?_;rw [fA (n:=b.getD x 0) ad ad,fA ad ad]
  ·have e:decide ((x:Int) < (b.length:Int))=false:=by simp;omega
   rw [e,cond_false];refine step _ ?_;have T:b.getD x 0=0:=by rw [lH,yZ ad];rfl
   omega
theorem lu (n j:Nat):(List.replicate n (0:Int)).getD j 0=0:=by
 rw [lH,List.getElem?_replicate];split<;>rfl
theorem am6 {N:Nat} {a b:List Int} (e:U a) (hb:U b) (f:b.length<=a.length) (c:de b<=de a) (d:SM a.length) (g:a.length+1 < N):yE N a b=some (lm (de a - de b).toNat):=by
 unfold yE;simp only [SM] at d;rw [if_pos ad];exact ZX e hb f c d g a.length 0 N _ 0 ad ad aD (U.replicate _) ad ad (fun j _=>lu _ j) (by rw [ou];simp [de])
theorem lF {a b:Nat} (h:a<=b):(lm a).length<=(lm b).length:=nj.2 (by have:=(nj (n:=b) (k:=(lm b).length)).1 (aH _);omega)
theorem ZY {N a b:Nat} (c:b<=a) (d:SM (lm a).length) (e:(lm a).length+1 < N):yE N (lm a) (lm b)=some (lm (a - b)):=by
 rw [am6 (zZ a) (zZ b) (lF c) (by rw [lK,lK];omega) d e,lK,lK];congr 2;omega
theorem getD_set_ne (l:List Int) {i j:Nat} (x:Int) (h:i≠j):(l.set i x).getD j 0=l.getD j 0:=by
 rw [lH,List.getElem?_set_ne h,<- lH]
theorem Z0 (l:List Int) {i:Nat} (x:Int) (h:i < l.length):(l.set i x).getD i 0=x:=by
 rw [lH,List.getElem?_set_self h];rfl
theorem C7 {l:List Int} {i:Nat} (h:l.length<=i):l.getD i 0=0:=by
 rw [lH,yZ h];rfl
theorem Tn {x y:Int} (b:0<=x) (c:x < 65536) (a:0<=y) (d:y < 65536):0<=x * y/\x * y<=4294836225:=by
 refine ⟨Int.mul_nonneg b a,?_⟩;have:=Int.mul_le_mul (show x<=65535 by omega) (show y<=65535 by omega) a ad;omega
theorem Z1 {N:Nat} {a b:List Int} {i:Nat} (t:U a) (hb:U b) (hi:i < a.length) (l:SM (a.length+b.length)) (K:List Int->Int->Option (List Int)) (R:Option (List Int))
  (u:∀ out,out.length=a.length+b.length->U out->(∀ j,i+b.length < j->out.getD j 0=0)->de out=de (a.take (i+1)) * de b->K out ((i+1:Nat):Int)=R) :
  ∀ (k x fuel:Nat) (out:List Int) (c:Int),x+k=b.length->k < fuel->out.length=a.length+b.length->U out->0<=c->c < 65536->(∀ j,i+b.length<=j->out.getD j 0=0) ->
   de out+pw (i+x) * c=de (a.take i) * de b+a.getD i 0 * pw i * de (b.take x)->pU N a b (i:Int) K fuel out c (x:Int)=R
 | 0,x,fuel,out,c,z,A,m,f,o,p,h,d=>by
  obtain ⟨g,rfl⟩:=bb fuel;have B:x=b.length:=ad;subst B;simp only [SM] at l;have e:av ((i:Int)+(b.length:Int))=((i+b.length:Nat):Int):=a0
  rw [pU,hT,cond_false,e,if_pos (k6 ad),ai,uC o p,aX ad];refine u _ (by simp [m]) (f.set _ o p) (fun j v=>?_) ?_
  ·rw [getD_set_ne _ _ ad];exact h j ad
  ·rw [tl _ _ _ ad,h _ (aH _),Int.sub_zero,fE a i hi,jb,kM c];rw [List.take_length] at d;exact d
 | k+1,x,fuel,out,c,z,A,m,f,o,p,h,d=>by
  obtain ⟨g,rfl⟩:=bb fuel;simp only [SM] at l;have q:x < b.length:=ad;have w:=t.getD i;have y:=hb.getD x;have E:=f.getD (i+x);have e:av ((i:Int)+(x:Int))=((i+x:Nat):Int):=a0
  have F:=Tn w.1 w.2 y.1 y.2;rw [pU,dec_lt q,cond_true,if_pos (k6 q),e,if_pos (k6 ad)];simp only [ai];rw [fA (n:=a.getD i 0) ad ad,fA (n:=b.getD x 0) ad ad,fA (n:=out.getD (i+x) 0) ad ad,fA (n:=a.getD i 0 * b.getD x 0) ad ad,
   fA (n:=a.getD i 0 * b.getD x 0+out.getD (i+x) 0) ad ad,fA (n:=c+(a.getD i 0 * b.getD x 0+out.getD (i+x) 0)) ad ad,AN,MQ,aX ad]
  generalize r:c+(a.getD i 0 * b.getD x 0+out.getD (i+x) 0)=s;refine Z1 t hb hi l K R u k (x+1) g _ _ ad ad (by simp [m]) (f.set _ ad ad) ad ad (fun j v=>?_) ?_
  ·rw [getD_set_ne _ _ ad];exact h j v
  ·rw [tl _ _ _ ad,fE b x q,show i+(x+1)=(i+x)+1 by omega,kQ];have C:s=s % 65536+65536 * (s / 65536):=ad;have G:pw (i+x) * s=pw (i+x) * (s % 65536)+pw (i+x) * (65536 * (s / 65536)):=by rw [<- lM,<- C]
   have H:pw (i+x) * s=pw (i+x) * c+pw (i+x) * (a.getD i 0 * b.getD x 0)+pw (i+x) * out.getD (i+x) 0:=by rw [<- r,lM,lM];omega
   have I:65536 * pw (i+x) * (s / 65536)=pw (i+x) * (65536 * (s / 65536)):=by rw [kM 65536,pM]
   have J:(s % 65536 - out.getD (i+x) 0) * pw (i+x)=pw (i+x) * (s % 65536) - pw (i+x) * out.getD (i+x) 0:=by rw [Int.sub_mul,kM,kM (out.getD (i+x) 0)]
   have D:a.getD i 0 * pw i * (de (b.take x)+b.getD x 0 * pw x)=a.getD i 0 * pw i * de (b.take x)+pw (i+x) * (a.getD i 0 * b.getD x 0):=by
    rw [Tl];grind
   omega
theorem Z2 {N:Nat} {a b:List Int} (h:U a) (hb:U b) (d:SM (a.length+b.length)) (m:a.length+b.length < N):∀ (k x fuel:Nat) (out:List Int),x+k=a.length->k < fuel->out.length=a.length+b.length->U out ->
  (∀ j,x+b.length<=j->out.getD j 0=0)->de out=de (a.take x) * de b->pV N a b fuel out (x:Int)=some (lm (de a * de b).toNat)
 | 0,x,fuel,out,n,o,i,e,l,c=>by
  obtain ⟨g,rfl⟩:=bb fuel;have p:x=a.length:=ad;subst p;simp only [SM] at d;rw [pV,hT,cond_false,rX e ad ad,db,c,List.take_length]
 | k+1,x,fuel,out,n,o,i,e,l,c=>by
  obtain ⟨g,rfl⟩:=bb fuel;have f:x < a.length:=ad;rw [pV,dec_lt f,cond_true,if_pos (k6 f)];refine Z1 h hb f d _ _ (fun q r s t u=>?_) b.length 0 N out 0 ad ad i e ad ad l (by rw [c];simp [de]);exact Z2 h hb d m k (x+1) g q ad ad r s (fun j v=>t j ad) u
theorem am7 {N:Nat} {a b:List Int} (d:U a) (hb:U b) (c:SM (a.length+b.length)) (f:a.length+b.length < N):Bu N a b=some (lm (de a * de b).toNat):=by
 unfold Bu;have g:=c;simp only [SM] at g;have e:av ((a.length:Int)+(b.length:Int))=((a.length+b.length:Nat):Int):=a0
 rw [e,if_pos ad];exact Z2 d hb c f a.length 0 N _ ad ad (by simp;omega) (U.replicate _) (fun j _=>lu _ j) (by rw [ou];simp [de])
theorem DU (a b:Nat):((a:Int) * (b:Int)).toNat=a * b:=by rw [<- Int.natCast_mul];rfl
theorem ajI {N a b:Nat} (c:SM ((lm a).length+(lm b).length)) (d:(lm a).length+(lm b).length < N):Bu N (lm a) (lm b)=some (lm (a * b)):=by
 rw [am7 (zZ a) (zZ b) c d,lK,lK,DU]
theorem Z3 {N:Nat} {a:List Int} {d:Int} (t:U a) (f:0 < d) (m:d < 65536) (o:SM a.length) (y:a.length < N):∀ (k fuel:Nat) (q:List Int) (r:Int),k<=a.length->k < fuel->q.length=a.length->U q->0<=r->r < d ->
  (∀ j,j < k->q.getD j 0=0)->pw k * de (a.drop k)=de q * d+r * pw k->∃ Q R:Int,0<=Q/\0<=R/\R < d/\de a=Q * d+R/\pO N a d fuel q r ((k:Int) - 1)=some (lm Q.toNat,R)
 | 0,fuel,q,r,z,A,u,l,h,i,p,b=>by
  obtain ⟨g,rfl⟩:=bb fuel;simp only [SM] at o;refine ⟨de q,r,l.wa,h,i,by rw [JA] at b;simpa using b,?_⟩;rw [pO];have e:decide ((((0:Nat):Int) - 1)>=0)=false:=rfl;rw [e,cond_false,rX l ad ad,db,uC h ad]
 | k+1,fuel,q,r,z,A,u,l,h,i,p,b=>by
  obtain ⟨g,rfl⟩:=bb fuel;simp only [SM] at o;have e:(((k+1:Nat):Int) - 1)=(k:Int):=ad;have v:=t.getD k;have B:decide ((k:Int)>=0)=true:=aD;rw [e,pO,B,cond_true,if_pos (k6 ad),fA (n:=d) ad ad,if_pos ad,if_pos (k6 ad)];simp only [ai];rw [fA (n:=a.getD k 0) ad ad,Tj h ad,aef h ad v.1 v.2,bD ad ad];have c:0<=r * 65536+a.getD k 0:=ad;have w:r * 65536+a.getD k 0 < d * 65536:=ad;generalize C:r * 65536+a.getD k 0=n at c w ⊢;rw [Int.tdiv_eq_ediv_of_nonneg c,Int.tmod_eq_emod_of_nonneg c];have x:n / d < 65536:=Int.ediv_lt_of_lt_mul f (by rw [kM];exact w);have s:0<=n / d:=Int.ediv_nonneg c ad;rw [fA s ad,uC s x];refine Z3 t f m o y k g _ _ ad ad (by simp [u]) (l.set _ s x) (Int.emod_nonneg _ ad) (Int.emod_lt_of_pos _ f) (fun j E=>?_) ?_
  ·rw [getD_set_ne _ _ ad];exact p j ad
  ·rw [tl _ _ _ ad,p k ad,Int.sub_zero,tZ a k ad];have D:=Int.mul_ediv_add_emod n d;rw [kQ] at b;have F:pw k * n=pw k * (d * (n / d))+pw k * (n % d):=by rw [<- lM,D]
   have G:pw k * n=pw k * (r * 65536)+pw k * a.getD k 0:=by rw [<- C,lM]
   grind
theorem ajK {N a d:Nat} (b:0 < d) (i:d < 65536) (c:SM (lm a).length) (e:(lm a).length < N):Ek N (lm a) (d:Int)=some (lm (a / d),((a % d:Nat):Int)):=by
 unfold Ek;have k:=c;simp only [SM] at k;rw [if_pos ad,bD ad ad];obtain ⟨Q,R,l,m,q,f,n⟩:=Z3 (N:=N) (d:=(d:Int)) (zZ a) ad ad c e (lm a).length N (List.replicate (lm a).length 0) 0 (aH _) e aD (U.replicate _) ad ad (fun j _=>lu _ j)
  (by rw [List.drop_length,ou];simp [de])
 rw [n];rw [lK] at f;obtain ⟨Q,rfl⟩:=Int.eq_ofNat_of_zero_le l;obtain ⟨R,rfl⟩:=Int.eq_ofNat_of_zero_le m;have g:a=Q * d+R:=by exact_mod_cast f
 have h:R < d:=ad;have o:a / d=Q:=by rw [g,rK,Nat.mul_add_div b,Nat.div_eq_of_lt h];rfl
 have p:a % d=R:=by rw [g,rK,Nat.mul_add_mod,Nat.mod_eq_of_lt h]
 rw [o,p];rfl
theorem Tp {N:Nat}:∀ (fuel n:Nat) (out:List Int),(lm n).length < fuel->out.length+(lm n).length < 1000->n < 18446744073709551616->oM N fuel (n:Int) out=some (out ++ lm n)
 | 0,n,out,h,_,_=>ad
 | fuel+1,n,out,h,b,f=>by
  rw [oM]
  by_cases a:n=0
  ·subst a;rw [lr];simp
  ·have e:decide ((n:Int) > 0)=true:=by simp;omega
   rw [x5 a] at h b;simp only [Fp] at h b;rw [e,cond_true,if_pos ad,Ti,AN];have c:((n:Int) / 65536)=((n / 65536:Nat):Int):=ad;have d:((n:Int) % 65536)=((n % 65536:Nat):Int):=ad;rw [c,d,Tp fuel (n / 65536) _ ad (by simp;omega) ad,x5 a,AX];rfl
theorem Z4 {n:Nat} (h:n < 18446744073709551616):(lm n).length<=4:=nj.2 (by show (n:Int) < 65536 ^ 4;omega)
theorem LF {N n:Nat} (a:4 < N) (h:n < 18446744073709551616):tG N (n:Int)=some (lm n):=by
 unfold tG;have:=Z4 h;rw [Tp N n [] ad (by simp;omega) h];rfl
theorem Z5 {N:Nat}:∀ (fuel n:Nat) (out:List Int),(lm n).length < fuel->out.length+(lm n).length < 1000->n < 18446744073709551616->rO N fuel (n:Int) out=some (out ++ lm n)
 | 0,n,out,h,_,_=>ad
 | fuel+1,n,out,h,b,f=>by
  rw [rO]
  by_cases a:n=0
  ·subst a;rw [lr];simp
  ·have e:decide ((n:Int) > 0)=true:=by simp;omega
   rw [x5 a] at h b;simp only [Fp] at h b;rw [e,cond_true,if_pos ad,Ti,ZV ad ad,AN];have c:((n:Int) / 65536)=((n / 65536:Nat):Int):=ad;have d:((n:Int) % 65536 % 65536)=((n % 65536:Nat):Int):=ad;rw [c,d,Z5 fuel (n / 65536) _ ad (by simp;omega) ad,x5 a,AX];rfl
theorem Z6 {N n:Nat} (a:4 < N) (h:n < 18446744073709551616):Bw N (n:Int)=some (lm n):=by
 unfold Bw;have:=Z4 h;rw [Z5 N n [] ad (by simp;omega) h];rfl
theorem aem {N:Nat} {a:List Int} (f:U a) (i:a.length<=4):∀ (k fuel:Nat) (r:Int),k<=a.length->k < fuel->0<=r->r < pw (4 - k)->de (a.drop k)=r->rj N a fuel r ((k:Int) - 1)=some (de a,true)
 | 0,fuel,r,j,l,c,d,b=>by
  obtain ⟨g,rfl⟩:=bb fuel;rw [rj];have e:decide ((((0:Nat):Int) - 1)>=0)=false:=rfl;rw [e,cond_false,<- b,List.drop_zero]
 | k+1,fuel,r,j,l,c,d,b=>by
  obtain ⟨g,rfl⟩:=bb fuel;have e:(((k+1:Nat):Int) - 1)=(k:Int):=ad;have h:=f.getD k;have m:decide ((k:Int)>=0)=true:=aD;have p:pw (4 - k)=65536 * pw (4 - (k+1)):=by rw [<- kQ];congr 1;omega
  have o:pw (4 - (k+1))<=281474976710656:=by
   have:k=0\/k=1\/k=2\/k=3:=ad;rcases this with rfl | rfl | rfl | rfl<;>decide
  rw [e,rj,m,cond_true,if_pos (k6 ad),ai,lz (n:=a.getD k 0) ad ad,Tk c ad,Yi c ad h.1 h.2,bD ad ad];refine aem f i k g _ ad ad ad ad ?_;rw [tZ a k ad,b];omega
theorem aen {N a:Nat} (b:5 < N) (c:SM (lm a).length):Ej N (lm a)=some (if (lm a).length<=4 then ((a:Int),true) else (0,false)):=by
 unfold Ej
 by_cases h:(lm a).length<=4
 ·rw [if_pos h];have e:decide ((((lm a).length:Nat):Int) > 4)=false:=by simp;omega
  rw [e,cond_false,bD ad ad,aem (zZ a) h (lm a).length N 0 (aH _) ad ad (qz _) (by rw [List.drop_length];rfl),lK]
 ·rw [if_neg h];have e:decide ((((lm a).length:Nat):Int) > 4)=true:=by simp;omega
  rw [e];rfl
theorem ajL:∀ x:Fin 256,(match fa 0 ((x.val:Nat):Int) 0 with | some L=>decide (0<=L/\L<=8/\(x.val≠0->1<=L/\2 ^ (L.toNat - 1)<=x.val/\x.val < 2 ^ L.toNat)) | none=>false)=true:=by decide +kernel
theorem ajM:∀ x:Fin 256,(match fa 0 ((x.val:Nat):Int) 8 with | some L=>decide (8<=L/\L<=16/\(x.val≠0->9<=L/\2 ^ (L.toNat - 1 - 8)<=x.val/\x.val < 2 ^ (L.toNat - 8))) | none=>false)=true:=by decide +kernel
theorem ajN {N x:Nat} (n:0 < x) (o:x < 65536):∃ L:Nat,1<=L/\L<=16/\pP N (x:Int)=some (L:Int)/\2 ^ (L - 1)<=x/\x < 2 ^ L:=by
 unfold pP
 by_cases h:x < 256
 ·have e:decide ((x:Int)>=256)=false:=by simp;omega
  rw [e,cond_false];have:=ajL ⟨x,h⟩;simp only at this;show ∃ L:Nat,1<=L/\L<=16/\fa 0 (x:Int) 0=some (L:Int)/\2 ^ (L - 1)<=x/\x < 2 ^ L;cases a:fa 0 (x:Int) 0 with
  | none=>rw [a] at this;cases this
  | some L =>
   rw [a] at this;obtain ⟨i,j,b⟩:=nH this;obtain ⟨k,c,d⟩:=b ad;obtain ⟨L,rfl⟩:=Int.eq_ofNat_of_zero_le i;exact ⟨L,ad,ad,rfl,c,d⟩
 ·have e:decide ((x:Int)>=256)=true:=by simp;omega
  rw [e,cond_true];have l:iU .u16 (x:Int) 8=((x / 256:Nat):Int):=by
   unfold iU;have:(2:Int) ^ (min (8:Int).toNat IntKind.u16.bits)=256:=ay;rw [this,Int.fdiv_eq_ediv_of_nonneg _ ay];omega
  rw [l];have:=ajM ⟨x / 256,ad⟩;simp only at this;have m:fa N ((x / 256:Nat):Int) 8=fa 0 ((x / 256:Nat):Int) 8:=rfl;rw [m];cases a:fa 0 ((x / 256:Nat):Int) 8 with
  | none=>rw [a] at this;cases this
  | some L =>
   rw [a] at this;obtain ⟨i,j,b⟩:=nH this;obtain ⟨k,c,d⟩:=b ad;obtain ⟨L,rfl⟩:=Int.eq_ofNat_of_zero_le (show 0<=L by omega);simp only [Int.toNat_natCast] at c d;refine ⟨L,ad,ad,rfl,?_,?_⟩
   ·have:2 ^ (L - 1 - 8+8)=2 ^ (L - 1 - 8) * 2 ^ 8:=Nat.pow_add _ _ _;have f:(2:Nat) ^ 8=256:=ay;have g:L - 1 - 8+8=L - 1:=ad;rw [f,g] at this;omega
   ·have:2 ^ (L - 8+8)=2 ^ (L - 8) * 2 ^ 8:=Nat.pow_add _ _ _;have f:(2:Nat) ^ 8=256:=ay;have g:L - 8+8=L:=ad;rw [f,g] at this;omega
theorem asI {N x:Nat} (a:0 < x) (b:x < 65536):∃ s:Nat,s<=15/\ju N (x:Int)=some (s:Int)/\32768<=x * 2 ^ s/\x * 2 ^ s < 65536:=by
 obtain ⟨L,g,h,c,d,f⟩:=ajN (N:=N) a b;refine ⟨16 - L,ad,?_,?_,?_⟩
 ·unfold ju;rw [c,db,bD ad ad];congr 1;omega
 ·have e:2 ^ (L - 1) * 2 ^ (16 - L)=32768:=by rw [<- Nat.pow_add,show L - 1+(16 - L)=15 by omega]
  have:=dU (2 ^ (16 - L)) d;omega
 ·have e:2 ^ L * 2 ^ (16 - L)=65536:=by rw [<- Nat.pow_add,show L+(16 - L)=16 by omega]
  have:=Nat.mul_lt_mul_of_pos_right f (Nat.two_pow_pos (16 - L));omega
theorem aqg {n:Int} {s:Nat} (h:0<=n) (b:n < 65536) (c:s<=15):Dl .u32 n (s:Int)=n * 2 ^ s/\0<=n * 2 ^ s/\n * 2 ^ s < 65536 * 2 ^ s/\n * 2 ^ s < 2147483648:=by
 have d:(0:Int) < 2 ^ s:=Int.pow_pos ay;have g:(2:Int) ^ s<=32768:=by
  have:=Nat.pow_le_pow_right (n:=2) ay c;have e:((2 ^ s:Nat):Int)=(2:Int) ^ s:=aD;omega
 have a:0<=n * 2 ^ s:=Int.mul_nonneg h ad;have f:n * 2 ^ s < 65536 * 2 ^ s:=Int.mul_lt_mul_of_pos_right b d;refine ⟨?_,a,f,ad⟩;unfold Dl;have:min ((s:Nat):Int).toNat IntKind.u32.bits=s:=by show min s 32=s;omega
 rw [this,fA a ad]
theorem aqh {c a:Int} {s:Nat} (d:s<=15) (f:0<=c) (l:c < 2 ^ s) (b:0<=a):Us .u16 c (a * 2 ^ s % 65536)=c+a * 2 ^ s % 65536/\c+a * 2 ^ s % 65536 < 65536:=by
 obtain ⟨c,rfl⟩:=Int.eq_ofNat_of_zero_le f;obtain ⟨a,rfl⟩:=Int.eq_ofNat_of_zero_le b;have g:c < 2 ^ s:=by
  have e:((2 ^ s:Nat):Int)=(2:Int) ^ s:=aD;omega
 have o:2 ^ s<=32768:=Nat.pow_le_pow_right (n:=2) ay d;have h:(a:Int) * 2 ^ s % 65536=((a * 2 ^ s % 65536:Nat):Int):=aD;have i:a * 2 ^ s % 65536=a % 2 ^ (16 - s) * 2 ^ s:=by
  have:65536=2 ^ (16 - s) * 2 ^ s:=by rw [<- Nat.pow_add,show 16 - s+s=16 by omega]
  rw [this,Nat.mul_mod_mul_right]
 have p:a % 2 ^ (16 - s) * 2 ^ s+2 ^ s<=65536:=by
  have j:a % 2 ^ (16 - s)+1<=2 ^ (16 - s):=Nat.mod_lt _ (Nat.two_pow_pos _);have k:=dU (2 ^ s) j;rw [<- Nat.pow_add,show 16 - s+s=16 by omega,eS] at k;omega
 rw [h,i];generalize a % 2 ^ (16 - s)=m at *
 constructor
 ·unfold Us;rw [show IntKind.u16.bits=16 from rfl,ajH _ _ ad ad,Nat.or_comm,LD _ _ s g,AN];omega
 ·omega
theorem Tr {N:Nat} {a:List Int} {s:Nat} (r:U a) (d:s<=15) (t:SM a.length):∀ (k x fuel:Nat) (out:List Int),x+k=a.length->k < fuel->out.length=a.length+1->U out->out.getD x 0 < 2 ^ s->(∀ j,x < j->out.getD j 0=0) ->
  de out=de (a.take x) * 2 ^ s->∃ o,my N a (s:Int) fuel out (x:Int)=some o/\o.length=a.length+1/\U o/\de o=de a * 2 ^ s/\o.getD a.length 0 < 2 ^ s
 | 0,x,fuel,out,u,v,e,c,f,h,b=>by
  obtain ⟨g,rfl⟩:=bb fuel;have y:x=a.length:=ad;subst y;exact ⟨out,by rw [my,hT,cond_false],e,c,by rw [b,List.take_length],f⟩
 | k+1,x,fuel,out,u,v,e,c,f,h,b=>by
  obtain ⟨g,rfl⟩:=bb fuel;simp only [SM] at t;have i:x < a.length:=ad;have l:=r.getD x;have z:=c.getD x;obtain ⟨w1,w2,C,D⟩:=aqg l.1 l.2 d;obtain ⟨o1,A⟩:=aqh d z.1 f l.1;rw [my,dec_lt i,cond_true,if_pos (k6 i),if_pos ad,if_pos (k6 ad),aX ad];simp only [ai];rw [fA (n:=a.getD x 0) ad ad,w1,AN,MQ,AN,o1];rw [if_pos ⟨ad,by simp;omega⟩];generalize hw:a.getD x 0 * 2 ^ s=w at *
  have m:w / 65536 < 2 ^ s:=ad;have p:w / 65536 % 65536=w / 65536:=ad;rw [p];have q:U (out.set x (out.getD x 0+w % 65536)):=c.set x ad A;refine Tr r d t k (x+1) g _ ad ad (by simp [e]) (q.set (x+1) ad ad) ?_ (fun j E=>?_) ?_
  ·rw [Z0 _ _ (by simp;omega)];exact m
  ·rw [getD_set_ne _ _ ad,getD_set_ne _ _ ad];exact h j ad
  ·rw [tl _ _ _ (by simp;omega),getD_set_ne _ _ ad,h (x+1) ad,tl _ _ _ ad,fE a x i,b,kQ,jb];have B:w=w % 65536+65536 * (w / 65536):=ad;have F:w * pw x=(w % 65536+65536 * (w / 65536)) * pw x:=by rw [<- B]
   have G:a.getD x 0 * pw x * 2 ^ s=w * pw x:=by rw [<- hw];grind
   grind
theorem Ts {N:Nat} {a:List Int} {s:Nat} (d:U a) (f:s<=15) (c:SM a.length) (g:a.length < N):∃ o,wo N a (s:Int)=some o/\o.length=a.length+1/\U o/\de o=de a * 2 ^ s/\o.getD a.length 0 < 2 ^ s:=by
 unfold wo;have b:=c;simp only [SM] at b;have e:av ((a.length:Int)+1)=((a.length+1:Nat):Int):=aX ad;rw [e,if_pos ad];exact Tr d f c a.length 0 N _ ad g aD (U.replicate _) (by rw [lu];exact Int.pow_pos ay) (fun j _=>lu _ j) (by rw [ou];simp [de])
theorem zw (p w:List Int) (i:Nat):(p ++ w).getD (eu p.length i) 0=w.getD i 0:=by
 rw [fw,lH,o5 ad,lH];congr 2;omega
theorem Yk (p w:List Int) (i:Nat) (x:Int):(p ++ w).set (eu p.length i) x=p ++ w.set i x:=by
 rw [fw,List.set_append_right _ _ ad];congr 2;omega
theorem Bx:∀ {l:List Int} (m:Nat),(∀ j,m<=j->l.getD j 0=0)->de l=de (l.take m)
 | [],m,_=>aD
 | x :: l,0,h=>by
  have a:x=0:=h 0 (aH _);have:=Bx (l:=l) 0 fun j _=>h (j+1) ad;simp [de] at this;simp [de,a,this]
 | x :: l,m+1,h=>by
  have:=Bx (l:=l) m fun j b=>h (j+1) ad;simp only [List.take_succ_cons,de,this]
theorem Z7 {l:List Int} (b:U l) (m:Nat) (h:∀ j,m<=j->l.getD j 0=0):de l < pw m:=by
 rw [Bx m h];have a:=(b.take m).lt;rw [ud] at a
 by_cases hm:m<=l.length
 ·rwa [Nat.min_eq_left hm] at a
 ·rw [Nat.min_eq_right ad] at a;have:pw m=pw l.length * pw (m - l.length):=by rw [<- Tl];congr 1;omega
  have c:=qz (m - l.length);have d:=AY (show 1<=pw (m - l.length) by omega) (Int.le_of_lt (qz l.length));omega
theorem Tt {l:List Int} (a:U l) (m:Nat) (h:de l < pw m):∀ j,m<=j->l.getD j 0=0:=by
 intro j e
 by_cases b:j < l.length
 ·have f:=ze l j ad;have c:=tZ l j b;have d:=(a.take j).wa;have g:=(a.drop (j+1)).wa;have i:=a.getD j;have k:pw m<=pw j:=by
   have:pw j=pw m * pw (j - m):=by rw [<- Tl];congr 1;omega
   have c:=qz (j - m);have d:=AY (show 1<=pw (j - m) by omega) (Int.le_of_lt (qz m));omega
  have n:¬ 0 < de (l.drop j):=fun o=>by
   have:=AY (show 1<=de (l.drop j) by omega) (Int.le_of_lt (qz j));omega
  omega
 ·exact C7 ad
theorem Z8 {N:Nat} {p v:List Int} {q:Int} (t:U v) (u:0<=q) (z:q < 65536) (o:SM v.length) (W:Int) :
  ∀ (k x fuel:Nat) (w:List Int) (c f:Int),x+k=v.length+1->k < fuel->v.length+1<=w.length->U w->0<=c->c < 65536->(x=v.length+1->c=0)->(f=0\/f = -1)->(∀ j,v.length+1<=j->w.getD j 0=0) ->
   de w=W - q * de (v.take x)+pw x * (c - f)->∃ (w':List Int) (a:Int),w'.length=w.length/\U w'/\(a=0\/a = -1)/\(∀ j,v.length+1<=j->w'.getD j 0=0)/\de w'=W - q * de v - pw (v.length+1) * a /\
    kc N p.length (v.length+1) v q fuel (p ++ w) c f (x:Int)=cond (decide (a < 0)) (mi N p.length (v.length+1) v q N (p ++ w') 0 0) (pQ N (p ++ w') q)
 | 0,x,fuel,w,c,f,G,H,hw,m,A,B,C,i,r,b=>by
  obtain ⟨g,rfl⟩:=bb fuel;have I:x=v.length+1:=ad;subst I;simp only [SM] at o;rw [C rfl] at b;refine ⟨w,f,rfl,m,i,r,?_,by rw [kc,aX ad,hT,cond_false]⟩;rw [b,mU ad,Int.zero_sub,Int.mul_neg];omega
 | k+1,x,fuel,w,c,f,G,H,hw,m,A,B,C,i,r,b=>by
  obtain ⟨g,rfl⟩:=bb fuel;simp only [SM] at o;have D:x < v.length+1:=ad;have V:=m.getD x;have E:(p ++ w).length=p.length+w.length:=rI;have step:∀ y:Int,0<=y->y < 4294967296->(x=v.length->y < 65536)->y=q * v.getD x 0+c ->
    ∃ (w':List Int) (a:Int),w'.length=w.length/\U w'/\(a=0\/a = -1)/\(∀ j,v.length+1<=j->w'.getD j 0=0)/\de w'=W - q * de v - pw (v.length+1) * a /\
    ug N p.length (v.length+1) v q (p ++ w) f (x:Int) (kc N p.length (v.length+1) v q g) y=cond (decide (a < 0)) (mi N p.length (v.length+1) v q N (p ++ w') 0 0) (pQ N (p ++ w') q):=by
   intro y s J K L;unfold ug;rw [if_pos (k6 D),if_pos ad];simp only [ai];rw [zw,ZV s ad,bD (n:=w.getD x 0) ad ad,bD (n:=y % 65536) ad ad,bD (n:=w.getD x 0 - y % 65536) ad ad,
    bD (n:=w.getD x 0 - y % 65536+f) ad ad,AN,Ti,afY,aX ad,Yk]
   generalize M:w.getD x 0 - y % 65536+f=d;have O:-65536<=d/\d < 65536:=ad;have:=Z8 (N:=N) (p:=p) t u z o W k (x+1) g (w.set x (d % 65536)) (y / 65536) (d / 65536) ad ad (by simp;omega) (m.set _ ad ad) ad ad (fun h=>by have:=K ad;omega) ad (fun j P=>?_) ?_
   ·rwa [List.length_set] at this
   ·rw [getD_set_ne _ _ ad];exact r j P
   ·rw [tl _ _ _ ad,b,kQ];have Q:de (v.take (x+1))=de (v.take x)+v.getD x 0 * pw x:=by
     by_cases h:x < v.length
     ·exact fE v x h
     ·rw [mU ad,mU ad,C7 ad];simp
    rw [Q];have R:d=d % 65536+65536 * (d / 65536):=ad;have S:y=y % 65536+65536 * (y / 65536):=ad;have X:d * pw x=(d % 65536) * pw x+65536 * (d / 65536) * pw x:=by rw [<- jb,<- R]
    have Y:y * pw x=(y % 65536) * pw x+65536 * (y / 65536) * pw x:=by rw [<- jb,<- S]
    have Z:d * pw x=w.getD x 0 * pw x - (y % 65536) * pw x+f * pw x:=by rw [<- M,jb,Int.sub_mul]
    have T:y * pw x=q * (v.getD x 0 * pw x)+c * pw x:=by rw [L,jb,pM]
    grind
  rw [kc,aX ad,dec_lt D,cond_true]
  by_cases l:x < v.length
  ·have F:=t.getD x;have h3:0<=q * v.getD x 0/\q * v.getD x 0<=4294836225:=Tn u z F.1 F.2;rw [dec_lt l,cond_true,if_pos (k6 l),ai];refine step _ ?_ ?_ (fun h=>ad) ?_<;>rw [lz (n:=v.getD x 0) ad ad,lz (n:=q * v.getD x 0) ad ad,lz ad ad]<;>omega
  ·have e:decide ((x:Int) < (v.length:Int))=false:=by simp;omega
   rw [e,cond_false];refine step c A ad (fun _=>B) ?_;rw [C7 (show v.length<=x by omega)];simp
theorem Z9 {N:Nat} {p v:List Int} {q:Int} (u:U v) (B:0 < q) (C:q < 65536) (i:SM v.length) (W:Int) (l:0<=W - (q - 1) * de v) (m:W - (q - 1) * de v < pw v.length) :
  ∀ (k x fuel:Nat) (w:List Int) (c:Int),x+k=v.length->k < fuel->v.length+1<=w.length->U w->0<=c->c<=1->(∀ j,v.length+1<=j->w.getD j 0=0) ->
   de w=W - q * de v+pw (v.length+1)+de (v.take x) - pw x * c->∃ w',mi N p.length (v.length+1) v q fuel (p ++ w) c (x:Int)=some (q - 1,p ++ w')/\w'.length=w.length/\U w'/\de w'=W - (q - 1) * de v
 | 0,x,fuel,w,c,D,E,hw,e,y,F,o,a=>by
  obtain ⟨g,rfl⟩:=bb fuel;have G:x=v.length:=ad;subst G;simp only [SM] at i;have H:=e.getD v.length;have f:(p ++ w).length=p.length+w.length:=rI;rw [List.take_length] at a;rw [mi,hT,cond_false,if_pos ad,if_pos ad,zw,Yk,uC y ad,AN];unfold pQ;rw [lz ad ad,uC ad ad];generalize r:w.getD v.length 0+c=d;have h:U (w.set v.length (d % 65536)):=e.set _ ad ad;refine ⟨_,rfl,aD,h,?_⟩;have z:=tl w v.length (d % 65536) ad;have I:d % 65536=d - 65536 * (d / 65536):=ad;have A:de (w.set v.length (d % 65536))=W - (q - 1) * de v+(1 - d / 65536) * pw (v.length+1):=by
   rw [z,a,kQ,I,<- r];grind
  have b:d / 65536=0\/d / 65536=1:=ad;rcases b with b | b
  ·have J:=Z7 h (v.length+1) (fun j s=>by rw [getD_set_ne _ _ ad];exact o j s);rw [A,b] at J;omega
  ·rw [A,b];simp
 | k+1,x,fuel,w,c,D,E,hw,e,y,F,o,a=>by
  obtain ⟨g,rfl⟩:=bb fuel;simp only [SM] at i;have t:x < v.length:=ad;have H:=e.getD x;have z:=u.getD x;have f:(p ++ w).length=p.length+w.length:=rI;rw [mi,dec_lt t,cond_true,if_pos (k6 ad),if_pos ad,if_pos (k6 t)];simp only [ai];rw [zw,fA (n:=w.getD x 0) ad ad,fA (n:=v.getD x 0) ad ad,fA (n:=w.getD x 0+v.getD x 0) ad ad,fA (n:=c+(w.getD x 0+v.getD x 0)) ad ad,
   AN,MQ,aX ad,Yk]
  generalize r:c+(w.getD x 0+v.getD x 0)=d;obtain ⟨w',K,L,M,O⟩:=Z9 (N:=N) (p:=p) u B C i W l m k (x+1) g (w.set x (d % 65536)) (d / 65536) ad ad (by simp;omega) (e.set _ ad ad) ad ad
   (fun j s=>by rw [getD_set_ne _ _ ad];exact o j s) (by
    rw [tl _ _ _ ad,a,fE v x t,kQ x];have b:d=d % 65536+65536 * (d / 65536):=ad;have P:d * pw x=(d % 65536) * pw x+65536 * (d / 65536) * pw x:=by rw [<- jb,<- b]
    have Q:d * pw x=c * pw x+(w.getD x 0 * pw x+v.getD x 0 * pw x):=by rw [<- r,jb,jb]
    grind)
  exact ⟨w',K,by simpa using L,M,O⟩
structure Top (v1 v2 w0 w1 w2 A V W:Int):Prop where
 A0:0 < A
 v1a:32768<=v1
 v1b:v1 < 65536
 v2a:0<=v2
 v2b:v2 < 65536
 w0a:0<=w0
 w0b:w0 < 65536
 w1a:0<=w1
 w1b:w1 < 65536
 w2a:0<=w2
 w2b:w2 < 65536
 V0:(v1 * 65536+v2) * A<=V
 V1:V < (v1 * 65536+v2+1) * A
 W0:((w0 * 65536+w1) * 65536+w2) * A<=W
 W1:W < ((w0 * 65536+w1) * 65536+w2+1) * A
 WV:W < 65536 * V
section
variable {v1 v2 w0 w1 w2 A V W:Int}
theorem Top.ajO (t:Top v1 v2 w0 w1 w2 A V W):65536 * A<=V:=by
 have:=t.V0;have:=t.A0;have:=t.v1a;have:=t.v2a;have h:=o6 (show (65536:Int)<=v1 * 65536+v2 by omega) (Int.le_of_lt t.A0);omega
theorem GB {x y A:Int} (a:0 < A) (h:x * A < y * A):x < y:=Int.lt_of_mul_lt_mul_right h (Int.le_of_lt a)
theorem Top.avS (t:Top v1 v2 w0 w1 w2 A V W):w0<=v1:=by
 have a:((w0 * 65536+w1) * 65536+w2) * A < (65536 * (v1 * 65536+v2+1)) * A:=by
  rw [pM 65536];have:=t.W0;have:=t.WV;have:=t.V1;omega
 have b:=GB t.A0 a;have:=t.w1a;have:=t.w2a;have:=t.v2b;omega
theorem Top.asJ (t:Top v1 v2 w0 w1 w2 A V W) {q r Q:Int} (hq:q * v1+r=w0 * 65536+w1) (h:q * v2 > r * 65536+w2) (b:0<=q) (c:Q * V<=W):Q < q:=by
 rcases Int.lt_or_le Q q with h' | h'
 ·exact h'
 ·exfalso;have g:=t.ajO;have d:=t.A0;have i:q * V<=W:=Int.le_trans (o6 h' ad) c;have j:q * ((v1 * 65536+v2) * A)<=q * V:=AY t.V0 b;have e:(q * (v1 * 65536+v2)) * A < ((w0 * 65536+w1) * 65536+w2+1) * A:=by
   rw [pM];have:=t.W1;omega
  have a:=GB d e;rw [<- hq] at a;have f:q * (v1 * 65536+v2)=q * v1 * 65536+q * v2:=by rw [lM,<- pM]
  rw [f] at a;have k:(q * v1+r) * 65536=q * v1 * 65536+r * 65536:=jb _ _ _;omega
theorem Top.ajP (t:Top v1 v2 w0 w1 w2 A V W) {q r:Int} (hq:q * v1+r=w0 * 65536+w1) (b:0<=q) (e:0<=r) (h:65536<=r\/(q<=65535/\q * v2<=r * 65536+w2)):q<=65535/\q * V < W+V:=by
 have c:=t.A0;have a:q<=65535:=by
  rcases h with h | h
  ·rcases Int.lt_or_le 65535 q with h' | h'
   ·exfalso;have d:=o6 (show 65536<=q by omega) (show 0<=v1 by have:=t.v1a;omega);have:=t.avS;have:=t.w1b;omega
   ·exact h'
  ·exact h.1
 refine ⟨a,?_⟩;have f:q * v2<=r * 65536+w2:=by
  rcases h with h | h
  ·have d:q * v2<=65535 * 65535:=Int.mul_le_mul a (by have:=t.v2b;omega) t.v2a ad;have:=t.w2a;omega
  ·exact h.2
 -- q V < (q (v1 B + v2) + q) A
 have g:q * V<=q * ((v1 * 65536+v2+1) * A):=AY (Int.le_of_lt t.V1) b;have i:q * ((v1 * 65536+v2+1) * A)=(q * v1 * 65536+q * v2+q) * A:=by
  rw [<- pM];congr 1;rw [lM,lM,Int.mul_one,<- pM]
 have j:(q * v1 * 65536+q * v2+q) * A<=(((w0 * 65536+w1) * 65536+w2)+65535) * A:=by
  refine o6 ?_ (Int.le_of_lt c);rw [<- hq];have:(q * v1+r) * 65536=q * v1 * 65536+r * 65536:=jb _ _ _;omega
 have k:(((w0 * 65536+w1) * 65536+w2)+65535) * A=((w0 * 65536+w1) * 65536+w2) * A+65535 * A:=jb _ _ _;have:=t.W0;have:=t.ajO;omega
theorem Top.first (t:Top v1 v2 w0 w1 w2 A V W) {Q:Int} (a:0<=Q) (c:Q * V<=W):Q<=(w0 * 65536+w1) / v1:=by
 rw [Int.le_ediv_iff_mul_le (by have:=t.v1a;omega)];have d:Q * ((v1 * 65536+v2) * A)<=Q * V:=AY t.V0 a;have b:(Q * (v1 * 65536+v2)) * A < ((w0 * 65536+w1) * 65536+w2+1) * A:=by rw [pM];have:=t.W1;omega
 have e:=GB t.A0 b;have f:Q * (v1 * 65536+v2)=Q * v1 * 65536+Q * v2:=by rw [lM,<- pM]
 have g:0<=Q * v2:=Int.mul_nonneg a t.v2a;have:=t.w2b;omega
end
theorem ajQ {N:Nat} {p v w:List Int} (x:U v) (hw:U w) (X:2<=v.length) (C:v.length+1<=w.length) (D:SM (p.length+w.length)) {A V W:Int}
  (t:Top (v.getD (v.length - 1) 0) (v.getD (v.length - 2) 0) (w.getD v.length 0) (w.getD (v.length - 1) 0) (w.getD (v.length - 2) 0) A V W) {Q:Int} (E:0<=Q) (j:Q * V<=W) (F:W < Q * V+V) :
  ∀ (k fuel:Nat) (q r:Int),k < fuel->65536<=r+32768 * (k:Int)->0<=r->r < 131072->0<=q->q < 4294967296->Q<=q->q * v.getD (v.length - 1) 0+r=w.getD v.length 0 * 65536+w.getD (v.length - 1) 0 ->
   ∃ i,Q<=i/\i<=Q+1/\i<=65535/\pR N p.length (v.length+1) v (p ++ w) fuel q r=kc N p.length (v.length+1) v i N (p ++ w) 0 0 0:=by
 intro k;simp only [SM] at D;have y:(p ++ w).length=p.length+w.length:=rI;have G:av ((v.length:Int) - 2)=((v.length - 2:Nat):Int):=a0
 have H:av ((v.length:Int) - 1)=((v.length - 1:Nat):Int):=a0
 have I:=x.getD (v.length - 1);have c:=x.getD (v.length - 2);have z:=hw.getD (v.length - 2)
 induction k with
 | zero =>
  intro fuel q r J B d l e K b a;obtain ⟨g,rfl⟩:=bb fuel;have L:65536<=r:=by simpa using B
  obtain ⟨m,M⟩:=t.ajP a e d (.inl L);have o:q<=Q+1:=by
   rcases Int.lt_or_le (Q+1) q with h | h
   ·exfalso;have:=o6 (show Q+2<=q by omega) (show 0<=V by have:=t.ajO;have:=t.A0;omega);rw [jb] at this;omega
   ·exact h
  have O:decide (r < 65536)=false:=by simp;omega
  refine ⟨q,b,o,m,?_⟩;rw [pR];simp only [O,Bool.false_and,cond_false];rw [if_pos (fun h=>by cases h),if_pos (fun h=>by cases h),if_pos (fun h=>by cases h)]
 | succ k P =>
  intro fuel q r J B d l e K b a;obtain ⟨g,rfl⟩:=bb fuel;rw [pR,H,G,if_pos (fun _=>⟨ad,ad⟩),if_pos (fun _=>⟨ad,ad⟩),if_pos (fun _=>ad)];rw [ai,ai,zw,if_pos ⟨ad,ad⟩,lz (n:=v.getD (v.length - 2) 0) ad ad,lz (n:=w.getD (v.length - 2) 0) ad ad,lz (n:=v.getD (v.length - 1) 0) ad ad];have R:0<=q * v.getD (v.length - 2) 0:=Int.mul_nonneg e c.1;have Y:q * v.getD (v.length - 2) 0<=4294967295 * 65535:=Int.mul_le_mul ad ad c.1 ad;rw [lz R ad,Tk d ad,Yi d ad z.1 z.2];have Z:=t.ajO;have hA:=t.A0
  by_cases f:65536<=r\/(q<=65535/\q * v.getD (v.length - 2) 0<=r * 65536+w.getD (v.length - 2) 0)
  ·obtain ⟨m,M⟩:=t.ajP a e d f;have o:q<=Q+1:=by
    rcases Int.lt_or_le (Q+1) q with h | h
    ·exfalso;have:=o6 (show Q+2<=q by omega) (show 0<=V by omega);rw [jb] at this;omega
    ·exact h
   have s:cond (decide (r < 65536)) (cond (decide (q > 65535)) true (decide (q * v.getD (v.length - 2) 0 > r * 65536+w.getD (v.length - 2) 0))) false=false:=by
    rcases f with h | ⟨h1,h2⟩
    ·rw [decide_eq_false (show ¬ r < 65536 by omega)];rfl
    ·rw [decide_eq_false (show ¬ q > 65535 by omega),cond_false,decide_eq_false (show ¬ q * v.getD (v.length - 2) 0 > r * 65536+w.getD (v.length - 2) 0 by omega)];cases decide (r < 65536)<;>rfl
   exact ⟨q,b,o,m,by rw [s,cond_false]⟩
  ·have S:r < 65536:=ad;have T:Q < q:=by
    by_cases u:65535 < q
    ·rcases Int.lt_or_le Q q with h | h
     ·exact h
     ·exfalso;have:=o6 (show 65536<=Q by omega) (show 0<=V by omega);have:=t.WV;omega
    ·exact t.asJ a ad e j
   have s:cond (decide (r < 65536)) (cond (decide (q > 65535)) true (decide (q * v.getD (v.length - 2) 0 > r * 65536+w.getD (v.length - 2) 0))) false=true:=by
    rw [decide_eq_true S,cond_true]
    by_cases u:65535 < q
    ·rw [decide_eq_true (show q > 65535 by omega)];rfl
    ·rw [decide_eq_false (show ¬ q > 65535 by omega),cond_false,decide_eq_true];omega
   have Uj:=t.v1a;rw [s,cond_true,lz (n:=q - 1) ad ad,lz ad ad];refine P g _ _ ad ad ad ad ad ad ad ?_;rw [Int.sub_mul];omega
theorem ajR {N:Nat} {p v w:List Int} (a:U v) (hw:U w) (V:2<=v.length) (i:v.length+1<=w.length) (E:SM (p.length+w.length)) (hN:v.length+3 < N) (hb:32768<=v.getD (v.length - 1) 0) (F:∀ j,v.length+1<=j->w.getD j 0=0)
  (W:de w < 65536 * de v):∃ Q w',El N p.length (v.length+1) v (p ++ w)=some (Q,p ++ w')/\w'.length=w.length/\U w'/\0<=Q/\Q < 65536/\de w'=de w - Q * de v/\de w' < de v:=by
 have x:=E;simp only [SM] at x;have G:(p ++ w).length=p.length+w.length:=rI;have X:av ((v.length:Int) - 1)=((v.length - 1:Nat):Int):=a0
 obtain ⟨n,k⟩:∃ n,v.length=n+2:=⟨v.length - 2,ad⟩;have Y:=qz n
 -- the top digits
 have H:de v=de (v.take n)+pw n * (v.getD n 0+65536 * v.getD (n+1) 0):=by
  rw [ze v n ad,tZ v n ad,tZ v (n+1) ad,List.drop_eq_nil_of_le ad];simp [de]
 have m:de w=de (w.take n)+pw n * (w.getD n 0+65536 * (w.getD (n+1) 0+65536 * w.getD (n+2) 0)):=by
  have y:de (w.drop (n+3))=0:=by
   have:=Bx (l:=w.drop (n+3)) 0 fun j _=>by
    have:=F (n+3+j) ad;rw [lH] at this ⊢;rw [vz];exact this
   simpa [de] using this
  rw [ze w n ad,tZ w n ad,tZ w (n+1) ad,tZ w (n+2) ad,y];simp
 have z:=(a.take n).lt;have Z:=(a.take n).wa;have A:=(hw.take n).lt;have azc:=(hw.take n).wa;rw [ud,Nat.min_eq_left ad] at z A;have d1:=a.getD (n+1);have I:=a.getD n;have J:=hw.getD (n+2);have K:=hw.getD (n+1);have L:=hw.getD n;have D5:32768<=v.getD (n+1) 0:=by rw [k] at hb;exact hb
 have t:Top (v.getD (v.length - 1) 0) (v.getD (v.length - 2) 0) (w.getD v.length 0) (w.getD (v.length - 1) 0) (w.getD (v.length - 2) 0) (pw n) (de v) (de w):=by
  have x1:v.length - 1=n+1:=ad;have x2:v.length - 2=n:=ad;rw [x1,x2,k];refine ⟨Y,D5,d1.2,I.1,I.2,J.1,J.2,K.1,K.2,L.1,L.2,?_,?_,?_,?_,W⟩
  ·rw [H];grind
  ·rw [H];grind
  ·rw [m];grind
  ·rw [m];grind
 have d:0 < de v:=by have:=t.ajO;omega
 obtain ⟨Q,e⟩:∃ Q,Q=de w / de v:=⟨_,rfl⟩;have b:0<=Q:=by rw [e];exact Int.ediv_nonneg hw.wa ad
 have o:Q * de v<=de w:=by rw [e];exact Int.ediv_mul_le _ ad
 have B:de w < Q * de v+de v:=by
  have:=Int.lt_ediv_add_one_mul_self (de w) d;rw [e];rw [jb] at this;omega
 have C:Q < 65536:=by
  rcases Int.lt_or_le Q 65536 with h | h
  ·exact h
  ·exfalso;have:=o6 h (Int.le_of_lt d);omega
 have aze:de v < pw v.length:=a.lt;have hK:∀ q,Q<=q->q<=Q+1->q<=65535->∃ w',kc N p.length (v.length+1) v q N (p ++ w) 0 0 0=some (Q,p ++ w')/\w'.length=w.length/\U w'/\de w'=de w - Q * de v:=by
  intro q Qi Q7 dP;obtain ⟨w',br,q1,s,q3,M,u,O⟩:=Z8 (N:=N) (p:=p) a (show 0<=q by omega) (show q < 65536 by omega) aF (de w) (v.length+1) 0 N w 0 0 ad ad i hw ad ad (fun h=>rfl) (.inl rfl) F
   (by rw [List.take_zero];simp [de])
  have P:=s.wa;have R:=Z7 s _ M;have hpv:pw (v.length+1)=65536 * pw v.length:=kQ _;rw [show ((0:Nat):Int)=0 from rfl] at O;rw [O];rcases q3 with rfl | rfl
  ·have f:q=Q:=by
    rcases Int.lt_or_le Q q with h | h
    ·exfalso;have:=o6 (show Q+1<=q by omega) (Int.le_of_lt d);rw [jb] at this;simp at u;omega
    ·omega
   subst f;refine ⟨w',?_,q1,s,by simpa using u⟩;rw [decide_eq_false ay,cond_false];unfold pQ;rw [uC b ad]
  ·have f:q=Q+1:=by
    rcases Int.lt_or_le Q q with h | h
    ·omega
    ·exfalso;have:q=Q:=ad;subst this;rw [Int.mul_neg,Int.mul_one] at u;omega
   subst f;rw [decide_eq_true ay,cond_true];have g:(Q+1 - 1) * de v=Q * de v:=by rw [Int.add_sub_cancel]
   obtain ⟨w2,S,r2,r3,T⟩:=Z9 (N:=N) (p:=p) a (show 0 < Q+1 by omega) (show Q+1 < 65536 by omega) aF (de w) (by rw [g];omega) (by rw [g];omega) v.length 0 N w' 0 ad ad ad s ad ad M
    (by rw [u,List.take_zero];simp [de])
   rw [g] at T;refine ⟨w2,?_,ad,r3,T⟩;rw [show ((0:Nat):Int)=0 from rfl] at S;rw [S,Int.add_sub_cancel]
 unfold El;rw [X,if_pos ⟨ad,ad⟩,if_pos ad,if_pos ⟨ad,ad⟩,if_pos ⟨ad,ad⟩,ai];have b1:32768<=v.getD (v.length - 1) 0:=hb;have b2:=a.getD (v.length - 1);have c1:=hw.getD v.length;have c2:=hw.getD (v.length - 1);rw [lz (n:=v.getD (v.length - 1) 0) ad ad,if_pos ad,zw,zw,lz (n:=w.getD v.length 0) ad ad,lz (n:=w.getD (v.length - 1) 0) ad ad,Tk ad ad,Yi ad ad ad ad];have c:0<=w.getD v.length 0 * 65536+w.getD (v.length - 1) 0:=ad;have hT1:w.getD v.length 0 * 65536+w.getD (v.length - 1) 0 < 4294967296:=ad;rw [Int.tdiv_eq_ediv_of_nonneg c,Int.tmod_eq_emod_of_nonneg c];have Af:=Int.emod_nonneg (w.getD v.length 0 * 65536+w.getD (v.length - 1) 0) (show v.getD (v.length - 1) 0≠0 by omega);have JO:=Int.emod_lt_of_pos (w.getD v.length 0 * 65536+w.getD (v.length - 1) 0) (show 0 < v.getD (v.length - 1) 0 by omega);have r:=Int.ediv_nonneg c (show 0<=v.getD (v.length - 1) 0 by omega);have D:=Int.mul_ediv_add_emod (w.getD v.length 0 * 65536+w.getD (v.length - 1) 0) (v.getD (v.length - 1) 0);have hdl:(w.getD v.length 0 * 65536+w.getD (v.length - 1) 0) / v.getD (v.length - 1) 0<=w.getD v.length 0 * 65536+w.getD (v.length - 1) 0:=Int.ediv_le_self _ c;rw [lz r ad];obtain ⟨q,P,R,y,h4⟩:=ajQ (N:=N) (p:=p) a hw V i E t b o B 2 N ((w.getD v.length 0 * 65536+w.getD (v.length - 1) 0) / v.getD (v.length - 1) 0) ((w.getD v.length 0 * 65536+w.getD (v.length - 1) 0) % v.getD (v.length - 1) 0)
  ad ad Af ad r ad (t.first b o) (by rw [kM];exact D)
 rw [h4];obtain ⟨w',k1,k2,k3,k4⟩:=hK q P R y;exact ⟨Q,w',k1,k2,k3,b,C,k4,ad⟩
theorem ajT {a b:Int} (d:0<=a) (c:a < 65536) (hb:0<=b) (e:b < 65536):Us .u32 b (a * 65536)=a * 65536+b:=by
 have h:=aef d c hb e;unfold Us at h ⊢;rw [BitVec.or_comm];exact h
theorem aqi {n:Int} {s:Nat} (a:s<=15):iU .u32 n (s:Int)=n / 2 ^ s:=by
 unfold iU;have:min ((s:Nat):Int).toNat IntKind.u32.bits=s:=by show min s 32=s;omega
 rw [this,Int.fdiv_eq_ediv_of_nonneg _ (Int.le_of_lt (Int.pow_pos ay))]
theorem VU {N:Nat} {b q u:List Int} {s:Nat} (z:s<=15) (w:U u) (hb:b.length+1<=u.length) (A:SM u.length) (B:u.getD b.length 0=0) (G:u.getD 0 0 % 2 ^ s=0) (hq:U q) (i:q.length < N) (l:SM q.length) (H:b.length < N) :
  ∀ (k x fuel:Nat) (r:List Int),x+k=b.length->k < fuel->r.length=b.length->U r->(∀ j,x<=j->r.getD j 0=0)->2 ^ s * de r=de (u.take x)+u.getD x 0 % 2 ^ s * pw x ->
   ∃ R:List Int,n6 N b (s:Int) q u fuel r (x:Int)=some (lm (de q).toNat,lm (de R).toNat)/\U R/\2 ^ s * de R=de (u.take b.length)
 | 0,x,fuel,r,I,J,C,f,h,d=>by
  obtain ⟨g,rfl⟩:=bb fuel;have K:x=b.length:=ad;subst K;simp only [SM] at A l;have X:(2:Int) ^ s≠0:=Int.ne_of_gt (Int.pow_pos ay);refine ⟨r,?_,f,?_⟩
  ·rw [n6,Nat.sub_zero,hT,cond_false,rX hq i ad,db,rX f ad ad,db]
  ·rw [d,B];simp
 | k+1,x,fuel,r,I,J,C,f,h,d=>by
  obtain ⟨g,rfl⟩:=bb fuel;simp only [SM] at A;have L:x < b.length:=ad;have p:=w.getD x;have t:=w.getD (x+1);rw [n6,Nat.sub_zero,dec_lt L,cond_true,if_pos (k6 ad),aX ad,if_pos (k6 ad),if_pos ad,if_pos (k6 ad)];simp only [ai];rw [fA (n:=u.getD x 0) ad ad,fA (n:=u.getD (x+1) 0) ad ad,Tj t.1 t.2,ajT t.1 t.2 p.1 p.2,aqi z,AN];generalize y:u.getD x 0=a at *
  generalize M:u.getD (x+1) 0=a' at *
  -- 65536 = P c
  obtain ⟨P,m⟩:∃ P:Int,P=2 ^ s:=⟨_,rfl⟩;obtain ⟨c,D⟩:∃ c:Int,c=2 ^ (16 - s):=⟨_,rfl⟩;have e:(65536:Int)=P * c:=by rw [m,D,<- Int.pow_add,show s+(16 - s)=16 by omega];decide
  have o:0 < P:=by rw [m];exact Int.pow_pos ay
  have v:0 < c:=by rw [D];exact Int.pow_pos ay
  rw [<- m] at d ⊢;have O:(a' * 65536+a) / P=a' * c+a / P:=by
   rw [e,show a' * (P * c)+a=a+(a' * c) * P by rw [kM P c,<- pM];omega,Int.add_mul_ediv_right _ _ ad];omega
  have Q:a'=P * (a' / P)+a' % P:=(Int.mul_ediv_add_emod a' P).symm;have E:=Int.emod_nonneg a' (show P≠0 by omega);have Y:=Int.emod_lt_of_pos a' o;have m0:0<=a / P:=Int.ediv_nonneg p.1 ad;have m1:a / P < c:=Int.ediv_lt_of_lt_mul o (by rw [kM,<- e];exact p.2);have S:(a' * 65536+a) / P % 65536=a' % P * c+a / P:=by
   rw [O];have T:a' * c=(a' / P) * 65536+a' % P * c:=by
    have:a' * c=(P * (a' / P)+a' % P) * c:=by rw [<- Q]
    rw [this,jb,e];grind
   have F:a' % P * c+a / P < 65536:=by
    have:=o6 (show a' % P+1<=P by omega) (Int.le_of_lt v);rw [jb,<- e] at this;omega
   have V:0<=a' % P * c:=Int.mul_nonneg E (Int.le_of_lt v);rw [T];omega
  rw [S];have F:a' % P * c+a / P < 65536:=by
   have:=o6 (show a' % P+1<=P by omega) (Int.le_of_lt v);rw [jb,<- e] at this;omega
  have V:0<=a' % P * c:=Int.mul_nonneg E (Int.le_of_lt v);have:=VU (N:=N) (s:=s) z w hb aF B G hq i l H k (x+1) g (r.set x (a' % P * c+a / P)) ad ad (by simp [C]) (f.set _ ad F) (fun j Z=>by rw [getD_set_ne _ _ ad];exact h j ad)
   (by
    rw [<- m,tl _ _ _ ad,h x (aH _),fE u x ad,Int.sub_zero,M,kQ,lM,d];have e4:a=P * (a / P)+a % P:=(Int.mul_ediv_add_emod a P).symm;rw [y];have W:P * ((a' % P * c+a / P) * pw x)=a' % P * (P * c) * pw x+P * (a / P) * pw x:=by grind
    rw [W,<- e];grind)
  rw [<- m] at this;exact this
theorem Tu {l:List Int} (a:U l) (n:Nat) (h:de l < pw n):de (l.take n)=de l:=(Bx n (Tt a n h)).symm
theorem VV {N:Nat} {b x:List Int} {s:Nat} (L:s<=15) {v:List Int} (M:v=(x.take b.length).drop 0) (f:U v) (a:v.length=b.length) (hn:2<=b.length) (hb:32768<=v.getD (b.length - 1) 0) (O:b.length<=x.length)
  {Lu:Nat} (y:b.length+1<=Lu) (P:SM Lu) (hN:Lu+3 < N) {A B:Int} (hA:0<=A) (hB:0 < B) (z:de v=B * 2 ^ s) :
  ∀ (k fuel:Nat) (q u:List Int),k<=Lu - b.length->k < fuel->u.length=Lu->U u->q.length=Lu - b.length->U q->(∀ j,j < k->q.getD j 0=0)->de (u.drop k) < de v->A * 2 ^ s=de q * de v+de u ->
   n7 N b (s:Int) x fuel q u ((k:Int) - 1)=some (lm (A / B).toNat,lm (A % B).toNat)
 | 0,fuel,q,u,hk,hf,o,h,hq,i,l,C,d=>by
  obtain ⟨g,rfl⟩:=bb fuel;simp only [SM] at P;have e:decide ((((0:Nat):Int) - 1)>=0)=false:=rfl;rw [n7,e,cond_false,Nat.sub_zero,if_pos ad];rw [List.drop_zero] at C;have r:(0:Int) < 2 ^ s:=Int.pow_pos ay;have D:de v < pw b.length:=by rw [<- a];exact f.lt
  have S:=Tt h b.length ad
  -- nvl u is a multiple of 2^s
  have E:de u=(A - de q * B) * 2 ^ s:=by rw [Int.sub_mul,d,z];grind
  have T:u.getD 0 0 % 2 ^ s=0:=by
   have t:=tZ u 0 ad;rw [List.drop_zero] at t;obtain ⟨c,hc⟩:∃ c:Int,c=2 ^ (16 - s):=⟨_,rfl⟩;have F:(65536:Int)=2 ^ s * c:=by rw [hc,<- Int.pow_add,show s+(16 - s)=16 by omega];decide
   have G:u.getD 0 0=(A - de q * B - c * de (u.drop (0+1))) * 2 ^ s:=by
    have:u.getD 0 0=de u - 65536 * de (u.drop (0+1)):=ad;rw [this,E,F];grind
   rw [G];exact Int.mul_emod_left _ _
  obtain ⟨R,V,r2,W⟩:=VU (N:=N) (b:=b) (q:=q) L h ad aF (S _ (aH _)) T i ad aF ad b.length 0 N (List.replicate b.length 0) ad ad aD (U.replicate _) (fun j _=>lu _ j)
   (by rw [ou,T];simp [de])
  rw [show ((0:Nat):Int)=0 from rfl] at V;rw [V];rw [<- Bx b.length S,E,kM] at W;have r4:de R=A - de q * B:=Int.eq_of_mul_eq_mul_right (Int.ne_of_gt r) W;have X:=r2.wa;have Y:de R < B:=by
   refine GB r ?_;rw [r4,<- E,<- z];exact C
  have Q7:A / B=de q:=by
   rw [show A=de R+de q * B by omega,Int.add_mul_ediv_right _ _ ad,Int.ediv_eq_zero_of_lt X Y];omega
  have dP:A % B=de R:=by
   rw [show A=de R+de q * B by omega,Int.add_mul_emod_self_right,Int.emod_eq_of_lt X Y]
  rw [Q7,dP]
 | k+1,fuel,q,u,hk,hf,o,h,hq,i,l,C,d=>by
  obtain ⟨g,rfl⟩:=bb fuel;simp only [SM] at P;have e:(((k+1:Nat):Int) - 1)=(k:Int):=ad;have e0:decide ((k:Int)>=0)=true:=aD;have e1:av ((av ((k:Int)+(b.length:Int)))+1)=((k+b.length+1:Nat):Int):=by rw [bD (n:=(k:Int)+(b.length:Int)) ad ad,bD ad ad];omega
  rw [e,n7,e0,cond_true,Nat.sub_zero,e1];simp only [ai];rw [if_pos ⟨ad,ad⟩,if_pos ad,if_pos ad,if_pos ⟨Nat.zero_le _,O⟩,<- M];have r:u.take k ++ u.drop k=u:=List.take_append_drop _ _;have H:(u.take k).length=k:=by rw [ud];omega
  have I:(u.drop k).length=Lu - k:=by rw [List.length_drop,o]
  have hd:=tZ u k ad;have hu1:=h.getD k;have D:de v < pw b.length:=by rw [<- a];exact f.lt
  have J:de (u.drop k) < 65536 * de v:=ad;have K:de (u.drop k) < pw (v.length+1):=by rw [kQ,a];omega
  obtain ⟨Q,w',Z,d2,d3,d4,d5,d6,d7⟩:=ajR (N:=N) (p:=u.take k) (v:=v) (w:=u.drop k) f (h.drop k) ad ad aF ad (by rw [a];exact hb) (Tt (h.drop k) _ K) J;rw [H,r,a] at Z;rw [show k+b.length+1 - k=b.length+1 by omega,Z,db];have m:(u.take k ++ w').length=u.length:=by rw [rI,H,d2,I,o];omega
  simp only [m];rw [if_pos trivial,if_pos (k6 ad),bD ad ad];have jr:∀ j,j < k->(q.set k Q).getD j 0=0:=fun j hj=>by rw [getD_set_ne _ _ ad];exact l j ad
  refine VV (A:=A) L M f a hn hb O y aF hN hA hB z k g _ _ ad ad (by rw [m,o]) ((h.take k).append d3) (by simp [hq]) (i.set _ d4 d5) jr ?_ ?_
  ·have:(u.take k ++ w').drop k=w':=by rw [List.drop_append_of_le_length ad,List.drop_of_length_le ad];rfl
   rw [this];exact d7
  ·have t:=qA (u.take k) w';have G:=ze u k ad;rw [H] at t;rw [t,tl _ _ _ ad,l k ad,d6,d,G];grind
theorem Pw {A B q r:Nat} (h:A=q * B+r) (a:r < B):A / B=q/\A % B=r:=by
 subst h;have b:0 < B:=ad;exact ⟨by rw [rK,Nat.mul_add_div b,Nat.div_eq_of_lt a];rfl,by rw [rK,Nat.mul_add_mod,Nat.mod_eq_of_lt a]⟩
theorem O5 {N a b:Nat} (hb:b≠0) (W:SM ((lm a).length+(lm b).length+2)) (hN:(lm a).length+(lm b).length+10 < N):vP N (lm a) (lm b)=some (lm (a / b),lm (a % b)):=by
 have Y:=W;simp only [SM] at Y;unfold vP;obtain ⟨c,Z,L,Ui,-⟩:=Gz (N:=N) (a:=a) (b:=b) ad aF aF;rw [Z,db]
 by_cases d:a < b
 ·rw [decide_eq_true (L.2 d),cond_true];unfold gL;rw [if_pos ad,db,Nat.div_eq_of_lt d,Nat.mod_eq_of_lt d,lr];rfl
 ·rw [decide_eq_false (fun h=>d (L.1 h)),cond_false];have hbl:=rV.2 hb;cases r:(((lm b).length:Nat):Int) == 1 with
  | true =>
   have r:(lm b).length=1:=by have r:=eq_of_beq r;omega
   have z7:b < 65536:=by have:=(nj (n:=b) (k:=1)).1 ad;simp [pw] at this;omega
   have e:(lm b).getD 0 0=(b:Int):=by
    rw [x5 hb];show ((b % 65536:Nat):Int)=b;omega
   rw [cond_true,if_pos ad,e,ajK ad z7 aF ad,db];have hm:a % b < 65536:=rH (Nat.mod_lt _ ad) ad;rw [rX (U.one ad ad) (by simp;omega) aD,db,zd,Int.toNat_natCast]
  | false =>
   have h2:2<=(lm b).length:=by simp at r;omega
   rw [cond_false];obtain ⟨lb,x,g,hx0,o,u,hx2⟩:=am3 hb;have v:(lm b).length=lb.length+1:=by rw [g];simp
   have e1:av ((((lm b).length:Nat):Int) - 1)=(lb.length:Int):=a0
   rw [e1,if_pos ad,ai];have ex:(lm b).getD lb.length 0=x:=by rw [g];simp [List.getD]
   rw [ex];obtain ⟨X,rfl⟩:=Int.eq_ofNat_of_zero_le u;obtain ⟨s,t,s2,s3,M⟩:=asI (N:=N) (x:=X) ad ad;rw [s2,db];obtain ⟨o1,p1,p2,O,P,p5⟩:=Ts (N:=N) (a:=lm a) (zZ a) t aF ad;obtain ⟨f,q1,q2,w,y,q5⟩:=Ts (N:=N) (a:=lm b) (zZ b) t aF ad;rw [p1,db,q1,db,if_pos ⟨Nat.zero_le _,ad⟩,Nat.sub_zero];rw [lK] at P y;have hal:(lm b).length<=(lm a).length:=lF ad;have e2:av ((o1.length:Int) - (((lm b).length:Nat):Int))=((o1.length - (lm b).length:Nat):Int):=a0
   rw [e2,if_pos ad]
   -- the divisor, shifted
   have Q:(0:Int) < 2 ^ s:=Int.pow_pos ay;have z:(b:Int)=de lb+pw lb.length * X:=by
    have:=lK b;rw [g,qA,zd] at this;omega
   have C:(32768:Int)<=X * 2 ^ s:=by
    have e:((X * 2 ^ s:Nat):Int)=(X:Int) * 2 ^ s:=aD;omega
   have D:(X:Int) * 2 ^ s+2 ^ s<=65536:=by
    have e:((X * 2 ^ s:Nat):Int)=(X:Int) * 2 ^ s:=aD;have p:(65536:Nat)=2 ^ (16 - s) * 2 ^ s:=by rw [<- Nat.pow_add,show 16 - s+s=16 by omega]
    have R:X < 2 ^ (16 - s):=by
     rw [p] at M;exact Nat.lt_of_mul_lt_mul_right M
    have E:=dU (2 ^ s) (show X+1<=2 ^ (16 - s) by omega);rw [<- p,eS] at E;have S:((2 ^ s:Nat):Int)=(2:Int) ^ s:=aD;omega
   have azm:=o.lt;have F:=o.wa;have T:(b:Int) * 2 ^ s=de lb * 2 ^ s+pw lb.length * (X * 2 ^ s):=by rw [z,jb,pM]
   have G:(b:Int) * 2 ^ s < pw (lm b).length:=by
    rw [v,kQ,T];have l:=o6 (show de lb+1<=pw lb.length by omega) (Int.le_of_lt Q);have m:=AY D (Int.le_of_lt (qz lb.length));rw [lM] at m;rw [jb] at l;have:=qz lb.length;omega
   have hV2:32768 * pw lb.length<=(b:Int) * 2 ^ s:=by
    rw [T];have m:=AY C (Int.le_of_lt (qz lb.length));have V:0<=de lb * 2 ^ s:=Int.mul_nonneg F (Int.le_of_lt Q);rw [kM 32768];omega
   have q:U ((f.take (lm b).length).drop 0):=by rw [List.drop_zero];exact w.take _
   have H:((f.take (lm b).length).drop 0).length=(lm b).length:=by simp;omega
   have i:de ((f.take (lm b).length).drop 0)=(b:Int) * 2 ^ s:=by rw [List.drop_zero,Tu w _ (by rw [y];exact G),y]
   have I:32768<=((f.take (lm b).length).drop 0).getD ((lm b).length - 1) 0:=by
    have l:=fE ((f.take (lm b).length).drop 0) lb.length ad;have m:=(q.take lb.length).lt;rw [mU ad,i] at l;rw [ud,Nat.min_eq_left ad] at m;rw [show (lm b).length - 1=lb.length by omega];rcases Int.lt_or_le (((f.take (lm b).length).drop 0).getD lb.length 0) 32768 with h | h
    ·exfalso;have:=o6 (show ((f.take (lm b).length).drop 0).getD lb.length 0<=32767 by omega) (Int.le_of_lt (qz lb.length));have:=qz lb.length;omega
    ·exact h
   have S:av (((o1.length - (lm b).length:Nat):Int) - 1)=((o1.length - (lm b).length:Nat):Int) - 1:=bD ad ad;rw [S,ai];have J:de (o1.drop (o1.length - (lm b).length)) < de ((f.take (lm b).length).drop 0):=by
    -- the top n digits: the last one is below 2 ^ s
    have hl:(o1.drop (o1.length - (lm b).length)).length=(lm b).length:=by rw [List.length_drop];omega
    have hUd:=w;have K:=O.drop (o1.length - (lm b).length);have l:=fE (o1.drop (o1.length - (lm b).length)) lb.length ad;rw [mU ad] at l;have m:=(K.take lb.length).lt;rw [ud,Nat.min_eq_left ad] at m;have V:(o1.drop (o1.length - (lm b).length)).getD lb.length 0=o1.getD (lm a).length 0:=by
     rw [lH,vz,lH];congr 2;omega
    rw [V] at l;rw [i];have h8:o1.getD (lm a).length 0+1<=32768:=by
     have:(2:Int) ^ s<=32768:=by
      have h:=Nat.pow_le_pow_right (n:=2) ay t;have e:((2 ^ s:Nat):Int)=(2:Int) ^ s:=aD;omega
     omega
    have R:=o6 h8 (Int.le_of_lt (qz lb.length));rw [jb] at R;omega
   rw [VV (N:=N) (A:=(a:Int)) (B:=(b:Int)) t rfl q H h2 I ad (Lu:=o1.length) ad aF ad ad ad i (o1.length - (lm b).length) N _ o1 (aH _) ad rfl O aD (U.replicate _)
    (fun j _=>lu _ j) J (by rw [ou,P];simp)]
   rfl
def Gv {α:Type} (f:Nat->Option α) (r:α):Prop:=∃ a,∀ N,a<=N->f N=some r
theorem Gv.pure {α:Type} (r:α):Gv (fun _=>some r) r:=⟨0,fun _ _=>rfl⟩
theorem Gv.bind {α β:Type} {f:Nat->Option α} {k:Nat->α->Option β} {r:α} {s:β} (h:Gv f r) (a:Gv (fun N=>k N r) s):Gv (fun N=>(f N).bind (k N)) s:=by
 obtain ⟨b,c⟩:=h;obtain ⟨d,a⟩:=a;exact ⟨b+d,fun N e=>by show (f N).bind (k N)=some s;rw [c N ad];exact a N ad⟩
theorem Gv.congr {α:Type} {f g:Nat->Option α} {r:α} (h:Gv f r) (e:∀ N,g N=f N):Gv g r:=let ⟨a,b⟩:=h;⟨a,fun N c=>(e N).trans (b N c)⟩
theorem Gv.of {α:Type} {f:Nat->Option α} {r:α} (a:Nat) (h:∀ N,a<=N->f N=some r):Gv f r:=⟨a,h⟩
theorem Gv.aN {α:Type} {f g:Nat->Option α} {r:α} {q:Bool} (hq:q=true) (h:Gv f r):Gv (fun N=>cond q (f N) (g N)) r:=by subst hq;exact h
theorem Gv.a9 {α:Type} {f g:Nat->Option α} {r:α} {q:Bool} (hq:q=false) (h:Gv g r):Gv (fun N=>cond q (f N) (g N)) r:=by subst hq;exact h
theorem Gv.if {α:Type} {f:Nat->Option α} {r:α} {p:Prop} [Decidable p] (a:p) (h:Gv f r):Gv (fun N=>if p then f N else none) r:=h.congr fun _=>if_pos a
theorem Gv.eq {α:Type} {f:Nat->Option α} {r s:α} (h:Gv f r) (e:r=s):Gv f s:=e ▸ h
theorem Gv.ex {α:Type} {f:Nat->Option α} {r:α} (h:Gv f r):∃ N,f N=some r:=let ⟨N,h⟩:=h;⟨N,h N (aH _)⟩
def sg (neg:Bool) (n:Nat):Int:=cond neg (-(n:Int)) (n:Int)
def Hb (z:Int):cj:=⟨decide (z < 0),lm z.natAbs⟩
def zv (a:cj):Int:=sg a.fG (de a.fL).toNat
def ZB (z:Int) (n:Nat):Prop:=(lm z.natAbs).length<=n
structure IB (a:cj) (n:Nat):Prop where
 U:U a.fL
 len:a.fL.length<=n
theorem wR (neg:Bool) (n:Nat):(sg neg n).natAbs=n:=by cases neg<;>simp [sg]
theorem q8 (a:cj):(zv a).natAbs=(de a.fL).toNat:=wR _ _
theorem ajU (neg:Bool) (n:Nat) (h:n≠0):Hb (sg neg n)=⟨neg,lm n⟩:=by
 unfold Hb;rw [wR];cases neg
 ·rw [decide_eq_false (show ¬ sg false n < 0 by simp [sg])]
 ·rw [decide_eq_true (show sg true n < 0 by simp [sg];omega)]
theorem ajV:Hb 0=⟨false,[]⟩:=by unfold Hb;rw [show (0:Int).natAbs=0 from rfl,lr];rfl
theorem aep (neg:Bool):Hb (sg neg 0)=⟨false,[]⟩:=by cases neg<;>exact ajV
theorem wb (z:Int):zv (Hb z)=z:=by
 unfold zv Hb;simp only [lK,Int.toNat_natCast];unfold sg
 by_cases h:z < 0
 ·rw [decide_eq_true h];simp only [cond_true];omega
 ·rw [decide_eq_false h];simp only [cond_false];omega
theorem ZB.le {z:Int} {m n:Nat} (h:ZB z m) (a:m<=n):ZB z n:=gf h a
theorem ajW {z:Int} {n:Nat}:ZB z n↔(z.natAbs:Int) < pw n:=nj
theorem Hc {z:Int} {n:Nat}:ZB z n↔z.natAbs < 65536 ^ n:=by
 rw [ajW];unfold pw;have:((65536 ^ n:Nat):Int)=65536 ^ n:=aD;omega
theorem ZB.neg {z:Int} {n:Nat} (h:ZB z n):ZB (-z) n:=by unfold ZB at *;rwa [Int.natAbs_neg]
theorem ZB.mul {x y:Int} {m n:Nat} (a:ZB x m) (b:ZB y n):ZB (x * y) (m+n):=by
 rw [Hc] at *
 rw [Int.natAbs_mul,Nat.pow_add];exact Nat.mul_lt_mul'' a b
theorem ZB.add {x y:Int} {n:Nat} (a:ZB x n) (b:ZB y n):ZB (x+y) (n+1):=by
 rw [Hc] at *
 have:=Int.natAbs_add_le x y;have c:65536 ^ (n+1)=65536 * 65536 ^ n:=by rw [Nat.pow_succ];omega
 have:=Nat.pow_pos (n:=n) (show 0 < 65536 by decide);omega
theorem ZB.of_le {x y:Int} {n:Nat} (h:ZB y n) (a:x.natAbs<=y.natAbs):ZB x n:=by rw [Hc] at *;omega
theorem ZB.small {x:Int} (h:x.natAbs < 65536):ZB x 1:=by rw [Hc];simpa using h
theorem ZB.word {x:Int} (h:-9223372036854775808<=x) (a:x<=9223372036854775807):ZB x 4:=by rw [Hc];omega
theorem IB.zb {a:cj} {n:Nat} (h:IB a n):ZB (zv a) n:=by
 rw [ajW,q8];have b:=h.U.lt;have c:=h.U.wa;have d:pw a.fL.length<=pw n:=by
  have e:pw n=pw a.fL.length * pw (n - a.fL.length):=by rw [<- Tl];congr 1;have:=h.len;omega
  have:=qz (n - a.fL.length);have:=AY (show 1<=pw (n - a.fL.length) by omega) (Int.le_of_lt (qz a.fL.length));omega
 omega
theorem ZB.ib {z:Int} {n:Nat} (h:ZB z n):IB (Hb z) n:=⟨zZ _,h⟩
theorem IB.le {a:cj} {m n:Nat} (h:IB a m) (b:m<=n):IB a n:=⟨h.U,gf h.len b⟩
section
variable {a b:cj} {m n:Nat}
theorem GC (b:IB a n) (c:SM n):Gv (fun N=>k9 N a.fL) (lm (zv a).natAbs) :=
 .of (n+1) fun N d=>by
  simp only [SM] at c;have:=b.len;rw [rX b.U ad ad,q8]
theorem wS (neg:Bool) {k:Nat} (a:SM (lm k).length):Gv (fun N=>nu N neg (lm k)) (Hb (sg neg k)) :=
 .of ((lm k).length+1) fun N b=>by
  simp only [SM] at a;unfold nu;rw [rX (zZ k) ad ad,lK,Int.toNat_natCast,db]
  by_cases h:k=0
  ·subst h;rw [lr,aep];rfl
  ·have e:((((lm k).length:Nat):Int) == 0)=false:=by
    have:=rV.2 h;simp;exact fun h'=>by rw [h'] at this;simp at this
   rw [e,cond_false];unfold gL;rw [if_pos ad,db,ajU _ _ h];rfl
theorem aab (a:cj):Gv (fun N=>A8 N a) ⟨!a.fG,a.fL⟩:=.pure _
theorem aac (a:cj):zv ⟨!a.fG,a.fL⟩ = -zv a:=by unfold zv sg;cases a.fG<;>simp
theorem sign_eq (a b:Bool) (x y:Nat):sg (!(a == b)) (x * y)=sg a x * sg b y:=by
 cases a<;>cases b<;>simp [sg,Int.neg_mul,Int.mul_neg]
theorem I0 (c:IB a m) (hb:IB b n) (e:SM (m+n)):Gv (fun N=>xq N a b) (Hb (zv a * zv b)):=by
 simp only [SM] at e;have f:=c.zb;have g:=hb.zb;unfold ZB at f g;refine (GC c aF).bind ((GC hb aF).bind ?_);refine Gv.bind (r:=lm ((zv a).natAbs * (zv b).natAbs)) (.of (m+n+1) fun N h=>ajI aF ad) ?_;have d:=c.zb.mul hb.zb;unfold ZB at d;rw [Int.natAbs_mul] at d;refine (wS _ aF).bind ((Gv.pure _).eq ?_);rw [q8,q8,sign_eq];rfl
theorem ajX (i:IB a n) (hb:IB b n) (m:SM (n+1)):Gv (fun N=>Mf N a b) (Hb (zv a+zv b)):=by
 simp only [SM] at m;have j:=i.zb;have k:=hb.zb;have d:=j.add k;unfold ZB at j k;refine (GC i aF).bind ((GC hb aF).bind ?_);have o:zv a=sg a.fG (zv a).natAbs:=by rw [q8];rfl
 have s:zv b=sg b.fG (zv b).natAbs:=by rw [q8];rfl
 generalize (zv a).natAbs=x at *
 generalize (zv b).natAbs=y at *
 rw [o,s] at d ⊢;generalize a.fG=p at *
 generalize b.fG=q at *
 cases c:(p == q) with
 | true =>
  have c:p=q:=by simpa using c
  subst c;have e:sg p x+sg p y=sg p (x+y):=by cases p<;>simp [sg]<;>omega
  rw [e] at d ⊢;unfold ZB at d;rw [wR] at d;refine Gv.aN rfl (Gv.bind (r:=lm (x+y)) (.of (n+2) fun N g=>am4 aF aF ad ad) ?_);exact (wS _ aF).bind (Gv.pure _)
 | false =>
  have c:q=!p:=by cases p<;>cases q<;>simp_all
  subst c;refine Gv.a9 rfl ?_;refine Gv.bind (r:=UM x y) (.of (n+2) fun N g=>ZW ad aF aF) ?_;have l:=aei (a:=x) (b:=y) aF aF
  by_cases f:x < y
  ·refine Gv.a9 (decide_eq_false (by have:=l.2 f;omega)) (Gv.bind (r:=lm (y - x)) (.of (n+2) fun N g=>ZY ad aF ad) ?_);have e:sg p x+sg (!p) y=sg (!p) (y - x):=by cases p<;>simp [sg]<;>omega
   rw [e] at d ⊢;unfold ZB at d;rw [wR] at d;exact (wS _ aF).bind (Gv.pure _)
  ·refine Gv.aN (decide_eq_true (by have:=fun h=>f (l.1 h);omega)) (Gv.bind (r:=lm (x - y)) (.of (n+2) fun N g=>ZY ad aF ad) ?_);have e:sg p x+sg (!p) y=sg p (x - y):=by cases p<;>simp [sg]<;>omega
   rw [e] at d ⊢;unfold ZB at d;rw [wR] at d;exact (wS _ aF).bind (Gv.pure _)
theorem IB.opp (b:IB a n):IB ⟨!a.fG,a.fL⟩ n:=⟨b.U,b.len⟩
theorem Qx (b:IB a n) (c:SM n):Gv (fun N=>BL N a) (zv a).sign:=by
 refine (GC b c).bind ?_;have d:zv a=sg a.fG (zv a).natAbs:=by rw [q8];rfl
 generalize (zv a).natAbs=x at *
 rw [d];generalize a.fG=p
 by_cases h:x=0
 ·subst h;refine Gv.aN (by rw [lr];rfl) ((Gv.pure _).eq ?_);cases p<;>rfl
 ·refine Gv.a9 ?_ ?_
  ·have:=rV.2 h;simp;exact fun h'=>by rw [h'] at this;simp at this
  ·cases p with
   | true=>exact Gv.aN rfl ((Gv.pure _).eq (by simp only [sg,cond_true];rw [Int.sign_eq_neg_one_of_neg];omega))
   | false=>exact Gv.a9 rfl ((Gv.pure _).eq (by simp only [sg,cond_false];rw [Int.sign_eq_one_of_pos];omega))
theorem aox {z:Int} (a:-9223372036854775808<=z) (b:z<=9223372036854775807):Gv (fun N=>Kz N z) (Hb z):=by
 have c:ZB z 4:=ZB.word a b;unfold ZB at c;unfold Kz
 by_cases h:z < 0
 ·refine Gv.aN (decide_eq_true h) (Gv.bind (r:=lm z.natAbs) (.of 5 fun N d=>?_) ?_)
  ·have e:IntKind.u64.wrap (0 - IntKind.u64.wrap z)=((z.natAbs:Nat):Int):=by rw [wrap64,wrap64];omega
   rw [e];exact LF ad ad
  ·refine (wS true aF).bind ((Gv.pure _).eq ?_);have:sg true z.natAbs=z:=by simp [sg];omega
   rw [this]
 ·refine Gv.a9 (decide_eq_false h) (Gv.bind (r:=lm z.natAbs) (.of 5 fun N d=>?_) ?_)
  ·have e:IntKind.u64.wrap z=((z.natAbs:Nat):Int):=by rw [wrap64];omega
   rw [e];exact LF ad ad
  ·refine (wS false aF).bind ((Gv.pure _).eq ?_);have:sg false z.natAbs=z:=by simp [sg];omega
   rw [this]
theorem asM {z:Int} (b:-9223372036854775808<=z) (c:z<=9223372036854775807):Gv (fun N=>VC N z) (Hb z):=by
 unfold VC
 by_cases h:z < 0
 ·refine Gv.aN (decide_eq_true h) (Gv.bind (r:=lm z.natAbs) (.of 5 fun N a=>?_) ?_)
  ·have e:IntKind.u64.wrap ((IntKind.u64.wrap ((av (0 - (av (z+1))))))+1)=((z.natAbs:Nat):Int):=by rw [bD (n:=z+1) ad ad,bD ad ad,wrap64,wrap64];omega
   rw [e];exact Z6 ad ad
  ·refine (Gv.pure _).eq ?_;unfold Hb;rw [decide_eq_true h]
 ·refine Gv.a9 (decide_eq_false h) (Gv.bind (r:=lm z.natAbs) (.of 5 fun N a=>?_) ?_)
  ·have e:IntKind.u64.wrap z=((z.natAbs:Nat):Int):=by rw [wrap64];omega
   rw [e];exact Z6 ad ad
  ·refine (Gv.pure _).eq ?_;unfold Hb;rw [decide_eq_false h]
end
theorem afZ {N:Nat} (K:List Int->List Int->Option (List Int)) (a:4 < N):∀ (y x fuel:Nat),y < fuel->x < 18446744073709551616->y < 18446744073709551616->qp N K fuel (x:Int) (y:Int)=some (lm (Nat.gcd x y)):=by
 intro y
 induction y using Nat.strongRecOn with
 | _ y b =>
  intro x fuel i c d;obtain ⟨g,rfl⟩:=bb fuel;rw [qp]
  by_cases h:y=0
  ·subst h;rw [decide_eq_false ay,cond_false,LF a c,db,Nat.gcd_zero_right]
  ·rw [decide_eq_true ad,cond_true,if_pos ad,Int.tmod_eq_emod_of_nonneg ad];have e:((x:Int) % (y:Int))=((x % y:Nat):Int):=aD;have f:=Nat.mod_lt x (Nat.pos_of_ne_zero h);rw [e,b (x % y) f y g ad d ad,Nat.gcd_comm x y,Nat.gcd_rec y x,Nat.gcd_comm]
theorem af0 {N:Nat} {k:Nat} (i:SM (2 * k+2)) (m:2 * k+20 < N):∀ (y x fuel:Nat),y < fuel->y < N->(lm x).length<=k->(lm y).length<=k->n8 N fuel (lm x) (lm y)=some (lm (Nat.gcd x y)):=by
 intro y;simp only [SM] at i
 induction y using Nat.strongRecOn with
 | _ y j =>
  intro x fuel n b o f;obtain ⟨g,rfl⟩:=bb fuel;rw [n8]
  by_cases h:y=0
  ·subst h;rw [lr,Nat.gcd_zero_right];rfl
  ·have p:=rV.2 h;rw [decide_eq_true ad,cond_true,aen ad aF,db,aen ad aF,db]
   by_cases a:(lm x).length<=4/\(lm y).length<=4
   ·rw [if_pos a.1,if_pos a.2];have q:=nj.1 a.1;have r:=nj.1 a.2;have s:pw 4=18446744073709551616:=ay;exact afZ _ ad y x N b ad ad
   ·have e:cond (if (lm x).length<=4 then ((x:Int),true) else (0,false)).2 (if (lm y).length<=4 then ((y:Int),true) else (0,false)).2 false=false:=by
     by_cases c:(lm x).length<=4
     ·have d:¬ (lm y).length<=4:=fun d=>a ⟨c,d⟩;rw [if_pos c,if_neg d];rfl
     ·rw [if_neg c];rfl
    rw [e,cond_false,O5 h aF ad,db];have l:=Nat.mod_lt x (Nat.pos_of_ne_zero h);rw [j (x % y) l y g ad ad f (gf (lF ad) f),Nat.gcd_comm x y,Nat.gcd_rec y x,Nat.gcd_comm]
theorem af1 {x y k:Nat} (a:(lm x).length<=k) (b:(lm y).length<=k) (c:SM (2 * k+2)):Gv (fun N=>FG N (lm x) (lm y)) (lm (Nat.gcd x y)) :=
 .of (2 * k+21+y) fun N d=>af0 c ad y x N ad ad a b
def dv (x:ab):Int:=if zv x.fD=0 then 1 else zv x.fD
def qv (x:ab):Rat:=Rat.divInt (zv x.fN) (dv x)
def bg (q:Rat):ab:=⟨Hb q.num,Hb (q.den:Int)⟩
structure RB (q:Rat) (n:Nat):Prop where
 num:ZB q.num n
 den:ZB (q.den:Int) n
structure IR (x:ab) (n:Nat):Prop where
 num:IB x.fN n
 den:IB x.fD n
theorem C8 (x:ab):dv x≠0:=by unfold dv;split<;>omega
theorem RB.le {q:Rat} {m n:Nat} (h:RB q m) (a:m<=n):RB q n:=⟨h.num.le a,h.den.le a⟩
theorem IR.le {x:ab} {m n:Nat} (h:IR x m) (a:m<=n):IR x n:=⟨h.num.le a,h.den.le a⟩
theorem RB.ir {q:Rat} {n:Nat} (h:RB q n):IR (bg q) n:=⟨h.num.ib,h.den.ib⟩
theorem aql (q:Rat):dv (bg q)=q.den:=by
 unfold dv bg;simp only [wb];rw [if_neg];have:=q.den_nz;omega
theorem me (q:Rat):qv (bg q)=q:=by
 unfold qv;rw [aql];simp only [bg,wb];exact Rat.num_divInt_den q
theorem Tv (a:Int) (b:Nat) (hb:b≠0):(a / (b:Int)).natAbs<=a.natAbs:=Int.natAbs_ediv_le_natAbs a b
theorem JC {a b:Int} {n:Nat} (d:ZB a n) (hb:ZB b n) (c:b≠0):RB (Rat.divInt a b) n:=by
 have e:Int.gcd b a≠0:=fun h=>c (Int.gcd_eq_zero_iff.1 h).1;constructor
 ·rw [Rat.num_divInt];refine d.of_le (gf (Tv _ _ e) ?_);rw [Int.natAbs_mul,Int.natAbs_sign_of_ne_zero c];omega
 ·rw [Rat.den_divInt,if_neg c];refine hb.of_le ?_;rw [Int.natAbs_natCast];exact Nat.div_le_self _ _
theorem IR.rb {x:ab} {n:Nat} (h:IR x n) (a:1<=n):RB (qv x) n:=by
 refine JC h.num.zb ?_ (C8 x);unfold dv;split
 ·exact (ZB.small ay).le a
 ·exact h.den.zb
theorem RB.int {z:Int} {n:Nat} (h:ZB z n) (a:1<=n):RB (z:Rat) n:=⟨h,(ZB.small (x:=1) ay).le a⟩
theorem RB.neg {q:Rat} {n:Nat} (h:RB q n):RB (-q) n:=⟨by rw [Rat.neg_num];exact h.num.neg,by rw [Rat.neg_den];exact h.den⟩
theorem sM (q:Rat):q=Rat.divInt q.num q.den:=(Rat.num_divInt_den q).symm
theorem wc (q:Rat):(q.den:Int)≠0:=by have:=q.den_nz;omega
theorem RB.add {p q:Rat} {m n:Nat} (a:RB p m) (b:RB q n):RB (p+q) (m+n+1):=by
 rw [sM p,sM q,Rat.divInt_add_divInt _ _ (wc p) (wc q)];refine JC ((a.num.mul b.den).add ((b.num.mul a.den).le ad)) ((a.den.mul b.den).le ad) ?_;exact Int.mul_ne_zero (wc p) (wc q)
theorem RB.sub {p q:Rat} {m n:Nat} (a:RB p m) (b:RB q n):RB (p - q) (m+n+1):=by rw [Rat.sub_eq_add_neg];exact a.add b.neg
theorem RB.mul {p q:Rat} {m n:Nat} (a:RB p m) (b:RB q n):RB (p * q) (m+n):=by
 rw [sM p,sM q,Rat.divInt_mul_divInt];exact JC (a.num.mul b.num) (a.den.mul b.den) (Int.mul_ne_zero (wc p) (wc q))
theorem C9 {a b c d:Int} (hb:b≠0) (e:d≠0):Rat.divInt a b / Rat.divInt c d=Rat.divInt (a * d) (b * c):=by
 rw [Rat.div_def,Rat.inv_divInt,Rat.divInt_mul_divInt]
theorem aqm {q:Rat} (h:q≠0):q.num≠0:=fun h'=>h (Rat.num_eq_zero.1 h')
theorem RB.div {p q:Rat} {m n:Nat} (a:RB p m) (b:RB q n) (c:q≠0):RB (p / q) (m+n):=by
 rw [sM p,sM q,C9 (wc p) (wc q)];exact JC (a.num.mul b.den) (a.den.mul b.num) (Int.mul_ne_zero (wc p) (aqm c))
section
variable {a b:cj} {x y:ab} {m n:Nat}
theorem wT (k:IB a n) (hb:IB b n) (p:zv b≠0) (q:SM (2 * n+2)):Gv (fun N=>nL N a b) (bg (Rat.divInt (zv a) (zv b))):=by
 simp only [SM] at q;have f:=k.zb;have e:=hb.zb;unfold ZB at f e;refine (GC k aF).bind ((GC hb aF).bind ?_);have s:zv a=sg a.fG (zv a).natAbs:=by rw [q8];rfl
 have t:zv b=sg b.fG (zv b).natAbs:=by rw [q8];rfl
 generalize g:(zv a).natAbs=x at *
 generalize d:(zv b).natAbs=y at *
 have w:y≠0:=ad;have z:0 < Nat.gcd x y:=Nat.gcd_pos_of_pos_right _ ad;refine (af1 f e aF).bind ?_;have A:=rV.2 (show Nat.gcd x y≠0 by omega);have B:(lm (Nat.gcd x y)).length<=n:=gf (lF (Nat.gcd_le_right _ ad)) e;have fin:∀ u v:Nat,u=x / Nat.gcd x y->v=y / Nat.gcd x y->Gv (fun N=>sj N a b (lm u) (lm v)) (bg (Rat.divInt (zv a) (zv b))):=by
  intro u v l m;have C:(lm u).length<=n:=gf (lF (by rw [l];exact Nat.div_le_self _ _)) f;have D:(lm v).length<=n:=gf (lF (by rw [m];exact Nat.div_le_self _ _)) e;refine (wS _ aF).bind ((wS false aF).bind ((Gv.pure _).eq ?_));have h:Int.gcd (zv b) (zv a)=Nat.gcd x y:=by unfold Int.gcd;rw [g,d,Nat.gcd_comm]
  unfold bg;rw [Rat.num_divInt,Rat.den_divInt,if_neg p,h,d];have E:(Nat.gcd x y) ∣ x:=Nat.gcd_dvd_left _ _;have o:(zv b).sign * zv a / ((Nat.gcd x y:Nat):Int)=sg (!(a.fG == b.fG)) u:=by
   have c:(x:Int)=(Nat.gcd x y:Nat) * (u:Int):=by
    have:x=Nat.gcd x y * u:=by rw [l,Nat.mul_div_cancel' E]
    exact_mod_cast this
   have F:(zv b).sign * zv a=(Nat.gcd x y:Nat) * sg (!(a.fG == b.fG)) u:=by
    rw [s,t];cases a.fG<;>cases b.fG<;>simp only [sg,cond_true,cond_false,Bool.not_true,Bool.not_false,BEq.rfl,show (true == false)=false from rfl,show (false == true)=false from rfl]
    ·rw [Int.sign_eq_one_of_pos ad,Int.one_mul,<- c]
    ·rw [Int.sign_eq_neg_one_of_neg ad,Int.mul_neg,<- c];omega
    ·rw [Int.sign_eq_one_of_pos ad,Int.one_mul,Int.mul_neg,<- c]
    ·rw [Int.sign_eq_neg_one_of_neg ad,<- c];omega
   rw [F,Int.mul_ediv_cancel_left _ ad]
  rw [o,<- m];rfl
 have G:(lm (Nat.gcd x y)).getD 0 0=((Nat.gcd x y % 65536:Nat):Int):=by rw [x5 ad];rfl
 refine Gv.if (fun _=>⟨ad,ad⟩) ?_;rw [G]
 by_cases i:Nat.gcd x y=1
 ·refine Gv.a9 ?_ (fin x y (by rw [i,Nat.div_one]) (by rw [i,Nat.div_one]));rw [i,x5 ay];simp [lr]
 ·refine Gv.aN ?_ ?_
  ·by_cases H:(lm (Nat.gcd x y)).length=1
   ·have:=nj.1 (show (lm (Nat.gcd x y)).length<=1 by omega);have o:pw 1=65536:=ay;rw [H];have j:(((Nat.gcd x y % 65536:Nat):Int) != 1)=true:=by simp;omega
    rw [j];rfl
   ·have j:((((lm (Nat.gcd x y)).length:Nat):Int) != 1)=true:=by simp;omega
    rw [j];rfl
  ·refine Gv.bind (r:=(lm (x / Nat.gcd x y),lm (x % Nat.gcd x y))) (.of (2 * n+20) fun N I=>O5 ad aF ad) ?_;refine Gv.bind (r:=(lm (y / Nat.gcd x y),lm (y % Nat.gcd x y))) (.of (2 * n+20) fun N I=>O5 ad aF ad) ?_;exact fin _ _ rfl rfl
def Nf (x:ab):cj:=if zv x.fD=0 then ⟨false,[1]⟩ else x.fD
theorem acU:zv ⟨false,[1]⟩=1:=ay
theorem oY (x:ab):zv (Nf x)=dv x:=by unfold Nf dv;split<;>simp [acU]
theorem ajY {n:Nat} (a:1<=n):IB ⟨false,[1]⟩ n:=⟨U.one ay ay,a⟩
theorem IR.Nf (h:IR x n) (a:1<=n):IB (Nf x) n:=by
 unfold Go.Den.Nf;split
 ·exact ajY a
 ·exact h.den
theorem x6 (a:IR x n) (b:SM n):Gv (fun N=>pH N x) (Nf x):=by
 refine (Qx a.den b).bind ?_;unfold Nf
 by_cases h:zv x.fD=0
 ·rw [if_pos h];exact Gv.aN (by rw [h];rfl) (Gv.pure _)
 ·rw [if_neg h];exact Gv.a9 (by simp;exact h) (Gv.pure _)
theorem O6 (a:IR x n) (c:1<=n) (b:SM (2 * n+2)):Gv (fun N=>qq N x) (bg (qv x)):=by
 have d:=b;simp only [SM] at d;refine (x6 a aF).bind ?_;refine (wT a.num (a.Nf c) (by rw [oY];exact C8 x) b).bind ((Gv.pure _).eq ?_);rw [oY];rfl
theorem JD (a:IR x n) (b:SM n):Gv (fun N=>jv N x) (decide (qv x=0)):=by
 refine (Qx a.num b).bind ((Gv.pure _).eq ?_);unfold qv
 by_cases h:zv x.fN=0
 ·rw [h,Rat.zero_divInt];rfl
 ·have:Rat.divInt (zv x.fN) (dv x)≠0:=by
   rw [<- Rat.zero_divInt 1,ne_eq,Rat.divInt_eq_divInt_iff (C8 x) ay];simpa using h
  rw [decide_eq_false this];simp;exact h
theorem JE (c:IR x m) (d:IR y n) (hm:1<=m) (e:1<=n) (j:SM (2 * (m+n+1)+2)):Gv (fun N=>bG N x y) (bg (qv x+qv y)):=by
 simp only [SM] at j;refine (JD c aF).bind ?_
 by_cases f:qv x=0
 ·refine Gv.aN (decide_eq_true f) ((O6 d e aF).bind ((Gv.pure _).eq ?_));rw [f,Rat.zero_add]
 ·refine Gv.a9 (decide_eq_false f) ((JD d aF).bind ?_)
  by_cases g:qv y=0
  ·refine Gv.aN (decide_eq_true g) ((O6 c hm aF).bind ((Gv.pure _).eq ?_));rw [g,Rat.add_zero]
  ·refine Gv.a9 (decide_eq_false g) ((x6 c aF).bind ((x6 d aF).bind ?_));refine (I0 c.num (d.Nf e) aF).bind ((I0 d.num (c.Nf hm) aF).bind ?_);have z1:=c.num.zb.mul (d.Nf e).zb;have h:=d.num.zb.mul (c.Nf hm).zb;have i:=(c.Nf hm).zb.mul (d.Nf e).zb;rw [oY] at z1 h;rw [oY,oY] at i;refine Gv.bind (r:=Hb (zv x.fN * dv y+zv y.fN * dv x)) ?_ ?_
   ·have:=ajX (n:=m+n) (a:=Hb (zv x.fN * zv (Nf y))) (b:=Hb (zv y.fN * zv (Nf x))) (by rw [oY];exact z1.ib) (by rw [oY];exact (h.le ad).ib) aF;rw [wb,wb,oY,oY] at this;rw [oY,oY];exact this
   ·refine Gv.bind (r:=Hb (dv x * dv y)) ?_ ?_
    ·have:=I0 (c.Nf hm) (d.Nf e) aF;rwa [oY,oY] at this
    ·have k:dv x * dv y≠0:=Int.mul_ne_zero (C8 x) (C8 y);refine (wT (n:=m+n+1) (z1.add (h.le ad)).ib (i.le ad).ib (by rw [wb];exact k) aF).bind ((Gv.pure _).eq ?_);rw [wb,wb];unfold qv;rw [Rat.divInt_add_divInt _ _ (C8 x) (C8 y)]
theorem wU (a:IR x n) (c:1<=n) (b:SM (2 * n+2)):Gv (fun N=>ke N x) (bg (-qv x)):=by
 have d:=b;simp only [SM] at d;refine (aab x.fN).bind ((x6 a aF).bind ?_);refine (wT a.num.opp (a.Nf c) (by rw [oY];exact C8 x) b).bind ((Gv.pure _).eq ?_);rw [aac,oY];unfold qv;rw [Rat.neg_divInt]
theorem JF (d:IR x m) (b:IR y n) (hm:1<=m) (a:1<=n) (c:SM (2 * (m+n+1)+2)):Gv (fun N=>gr N x y) (bg (qv x - qv y)):=by
 have e:=c;simp only [SM] at e;refine (wU b a aF).bind ?_;refine (JE d (b.rb a).neg.ir hm a c).bind ((Gv.pure _).eq ?_);rw [me,Rat.sub_eq_add_neg]
theorem VW (a:IR x m) (b:IR y n) (hm:1<=m) (c:1<=n) (d:SM (2 * (m+n)+2)):Gv (fun N=>bR N x y) (bg (qv x * qv y)):=by
 simp only [SM] at d;refine (I0 a.num b.num aF).bind ((x6 a aF).bind ((x6 b aF).bind ?_));refine (I0 (a.Nf hm) (b.Nf c) aF).bind ?_;have z1:=a.num.zb.mul b.num.zb;have e:=(a.Nf hm).zb.mul (b.Nf c).zb;have f:dv x * dv y≠0:=Int.mul_ne_zero (C8 x) (C8 y);refine (wT (n:=m+n) z1.ib e.ib (by rw [wb,oY,oY];exact f) aF).bind ((Gv.pure _).eq ?_);rw [wb,wb,oY,oY];unfold qv;rw [Rat.divInt_mul_divInt]
theorem aeq (a:IR x m) (b:IR y n) (hm:1<=m) (e:1<=n) (c:qv y≠0) (f:SM (2 * (m+n)+2)):Gv (fun N=>xt N x y) (bg (qv x / qv y)):=by
 simp only [SM] at f;refine (x6 b aF).bind ((I0 a.num (b.Nf e) aF).bind ((x6 a aF).bind ((I0 (a.Nf hm) b.num aF).bind ?_)));have z1:=a.num.zb.mul (b.Nf e).zb;have g:=(a.Nf hm).zb.mul b.num.zb;have d:zv y.fN≠0:=fun h=>c (by unfold qv;rw [h,Rat.zero_divInt]);have c:dv x * zv y.fN≠0:=Int.mul_ne_zero (C8 x) d;refine (wT (n:=m+n) z1.ib g.ib (by rw [wb,oY];exact c) aF).bind ((Gv.pure _).eq ?_);rw [wb,wb,oY,oY];unfold qv;rw [C9 (C8 x) (C8 y)]
def oE (q:Rat):Int:=q.num.sign
theorem aad {a b:Int} (hb:b≠0):(Rat.divInt a b).num.sign=a.sign * b.sign:=by
 rw [Rat.num_divInt];have i:Int.gcd b a≠0:=fun h=>hb (Int.gcd_eq_zero_iff.1 h).1;obtain ⟨c,f⟩:((Int.gcd b a:Nat):Int) ∣ a:=Int.gcd_dvd_right ..;have e:b.sign * a / ((Int.gcd b a:Nat):Int)=b.sign * c:=by
  have d:b.sign * a=((Int.gcd b a:Nat):Int) * (b.sign * c):=by rw [Int.mul_left_comm,<- f]
  rw [d,Int.mul_ediv_cancel_left _ ad]
 rw [e,Int.sign_mul,Int.sign_sign];have g:a.sign=c.sign:=by
  have d:=congrArg Int.sign f;rw [Int.sign_mul,Int.sign_eq_one_of_pos (show 0 < ((Int.gcd b a:Nat):Int) by omega),Int.one_mul] at d;exact d
 rw [g,kM]
theorem Px (z:Int):z.sign=0\/z.sign=1\/z.sign = -1:=by
 rcases Int.lt_trichotomy z 0 with h | h | h
 ·right;right;exact Int.sign_eq_neg_one_of_neg h
 ·left;rw [h];rfl
 ·right;left;exact Int.sign_eq_one_of_pos h
theorem JG (a:IR x n) (c:1<=n) (b:SM n):Gv (fun N=>l8 N x) (oE (qv x)):=by
 refine (Qx a.num b).bind ((x6 a b).bind ((Qx (a.Nf c) b).bind ((Gv.pure _).eq ?_)));rw [oY];unfold oE qv;rw [aad (C8 x)];rcases Px (zv x.fN) with h | h | h<;>rcases Px (dv x) with h' | h' | h'<;>rw [h,h']<;>rfl
theorem af2 (a:IR x m) (b:IR y n) (hm:1<=m) (c:1<=n) (d:SM (2 * (m+n+1)+2)):Gv (fun N=>iQ N x y) (oE (qv x - qv y)):=by
 have e:=d;simp only [SM] at e;refine (JF a b hm c d).bind ?_;refine (JG ((a.rb hm).sub (b.rb c)).ir ad aF).bind ((Gv.pure _).eq ?_);rw [me]
theorem Tw (z:Int):Rat.divInt z 1=(z:Rat):=by
 apply Rat.ext
 ·rw [Rat.num_divInt];simp
 ·rw [Rat.den_divInt];simp
theorem aae (b:IB a n) (c:1<=n) (d:SM (2 * n+2)):Gv (fun N=>yD N a) (bg (zv a:Rat)):=by
 refine (wT b (ajY c) (by rw [acU];decide) d).bind ((Gv.pure _).eq ?_);rw [acU,Tw]
theorem oC {z:Int} (a:-9223372036854775808<=z) (b:z<=9223372036854775807):Gv (fun N=>fc N z) (bg (z:Rat)):=by
 refine (aox a b).bind ((aae (n:=4) (ZB.word a b).ib ay aD).bind ((Gv.pure _).eq ?_));rw [wb]
theorem Hx {z:Int} (a:-9223372036854775808<=z) (b:z<=9223372036854775807):Gv (fun N=>sm N z) (bg (z:Rat)) :=
 (asM a b).bind ((asM ay ay).bind ((Gv.pure _).eq rfl))
theorem af3 (d:IR x m) (a:IR y n) (hm:1<=m) (e:1<=n) (b:qv y≠0) (c:SM (2 * (m+n)+2)):Gv (fun N=>BS N x y) (bg (qv x / qv y),0):=by
 have f:=c;simp only [SM] at f;refine (JD a aF).bind (Gv.a9 (decide_eq_false b) ((aeq d a hm e b c).bind (Gv.pure _)))
end
theorem qK {q:Rat}:oE q < 0↔q < 0:=by
 unfold oE;rw [Rat.lt_iff];simp
theorem vt {q:Rat}:oE q=0↔q=0:=by
 unfold oE;rw [Int.sign_eq_zero_iff_zero];exact Rat.num_eq_zero
theorem MR {q:Rat}:0 < oE q↔0 < q:=by
 unfold oE;rw [Rat.lt_iff];simp
def aq {α:Type} (f:Nat->Nat->Option α) (r:α):Prop:=∃ a,∀ N fuel,a<=N->a<=fuel->f N fuel=some r
theorem aq.diag {α:Type} {f:Nat->Nat->Option α} {r:α} (h:aq f r):Gv (fun N=>f N N) r:=let ⟨b,c⟩:=h;⟨b,fun N a=>c N N a a⟩
theorem aq.step {α:Type} {f:Nat->Nat->Option α} {r:α} (a:Nat) (h:∀ N g,a<=N->a<=g->f N (g+1)=some r):aq f r :=
 ⟨a+1,fun N fuel b c=>by obtain ⟨g,rfl⟩:=bb fuel;exact h N g ad ad⟩
def cs (c:cO) (i:Nat):Int:=c.ah.getD i 0
def cq (c:cO) (i:Nat):Rat:=qv (c.aA.getD i ab.d)
structure CB (c:cO) (n:Nat):Prop where
 one:1<=n
 len:c.ah.length<=1000
 UO:c.aA.length<=1000
 ir:∀ i,IR (c.aA.getD i ab.d) n
def oD (c:cO) (i:Nat):Option Int :=
 cond (cond (cond (decide (cs c i < -10000000)) true (decide (cs c i > 10000000))) true (decide (oE (cq c i) < 0))) (some 2) (cond (cond (decide (0 < i)) (decide (cs c i<=cs c (i - 1))) false) (some 10) none)
def nm (c:cO):Int :=
 cond (decide ((c.ah.length:Int) > 40)) 8 (cond ((c.aA.length:Int) != (c.ah.length:Int)) 11 (scan (oD c) 0 c.ah.length 0))
theorem Ke {c:cO} {n:Nat} (h:CB c n) (a:SM n) (j:c.aA.length=c.ah.length):∀ k i,i+k=c.ah.length->aq (fun N fuel=>jQ N c fuel (i:Int)) (scan (oD c) 0 k i)
 | 0,i,hi=>.step 0 fun N g _ _=>by
  have:i=c.ah.length:=ad;subst this;rw [jQ,hT];rfl
 | k+1,i,hi=>by
  have b:=h.len;obtain ⟨l,d⟩:=JG (h.ir i) h.one a;obtain ⟨m,e⟩:=Ke h a j k (i+1) ad;dsimp only at d e;refine .step (l+m) fun N g t u=>?_;rw [jQ,dec_lt ad,cond_true,if_pos (k6 ad),if_pos (fun _=>k6 ad),ai,aX ad,e N g ad ad];have o:l8 N (⟨((c.aA.getD i ab.d).fN),((c.aA.getD i ab.d).fD)⟩:ab)=some (oE (cq c i)):=d N ad;rw [o];have p:decide ((i:Int) > 0)=decide (0 < i):=aD;rw [p];have f:decide (0 < i)=true->av ((i:Int) - 1)=((i - 1:Nat):Int):=fun h=>by have:=nH h;rw [bD ad ad];omega
  rw [if_pos (fun h=>by rw [f h];exact k6 ad)];rw [scan];generalize scan (oD c) 0 k (i+1)=S;unfold oD;have q:cond (decide (0 < i)) (decide (c.ah.getD i 0<=c.ah.getD (av ((i:Int) - 1)).toNat 0)) false=cond (decide (0 < i)) (decide (cs c i<=cs c (i - 1))) false:=by
   cases r:decide (0 < i) with
   | false=>rfl
   | true=>rw [f r];rfl
  rw [q];show (cond (!(cond (decide (cs c i < -10000000)) true (decide (cs c i > 10000000)))) (some (oE (cq c i))) (some 0)).bind (fun s=>cond (cond (cond (decide (cs c i < -10000000)) true (decide (cs c i > 10000000))) true (decide (s < 0))) (some 2) (cond (cond (decide (0 < i)) (decide (cs c i<=cs c (i - 1))) false) (some 10) (some S)))=_;cases cond (decide (cs c i < -10000000)) true (decide (cs c i > 10000000)) with
  | true=>rfl
  | false =>
   rw [Bool.not_false,cond_true,db];cases decide (oE (cq c i) < 0)<;>cases cond (decide (0 < i)) (decide (cs c i<=cs c (i - 1))) false<;>rfl
theorem zf {c:cO} {n:Nat} (h:CB c n) (a:SM n):Gv (fun N=>mD N c) (nm c):=by
 unfold mD nm;cases d:decide ((c.ah.length:Int) > 40) with
 | true=>exact Gv.aN rfl (Gv.pure _)
 | false =>
  refine Gv.a9 rfl ?_;cases b:((c.aA.length:Int) != (c.ah.length:Int)) with
  | true=>exact Gv.aN rfl (Gv.pure _)
  | false =>
   have:c.aA.length=c.ah.length:=by simp at b;omega
   exact Gv.a9 rfl (Ke h a this c.ah.length 0 ad).diag
structure uJ (c:cO):Prop where
 len:c.ah.length<=40
 UO:c.aA.length=c.ah.length
 lo:∀ i,i < c.ah.length->-10000000<=cs c i
 hi:∀ i,i < c.ah.length->cs c i<=10000000
 nn:∀ i,i < c.ah.length->0<=cq c i
 lt:∀ i,i+1 < c.ah.length->cs c i < cs c (i+1)
theorem af4 {f:Nat->Option Int} (a:∀ i,f i≠some 0):∀ (k m:Nat),scan f 0 k m=0->∀ i,m<=i->i < m+k->f i=none:=by
 intro k m h;rcases ZU (f:=f) (z:=0) k m with ⟨i,r,_,_,b,_,c⟩ | ⟨d,_⟩
 ·rw [c] at h;subst h;exact absurd b (a i)
 ·exact d
theorem Fc {c:cO} (h:nm c=0):uJ c:=by
 unfold nm at h;cases b:decide ((c.ah.length:Int) > 40) with
 | true=>rw [b] at h;cases h
 | false =>
  rw [b,cond_false] at h;cases g:((c.aA.length:Int) != (c.ah.length:Int)) with
  | true=>rw [g] at h;cases h
  | false =>
   rw [g,cond_false] at h;have j:=af4 (f:=oD c) (fun i hi=>by
    unfold oD at hi;revert hi;cases cond (cond (decide (cs c i < -10000000)) true (decide (cs c i > 10000000))) true (decide (oE (cq c i) < 0))<;>cases cond (decide (0 < i)) (decide (cs c i<=cs c (i - 1))) false<;>decide) _ _ h
   have one:∀ i,i < c.ah.length->(-10000000<=cs c i/\cs c i<=10000000/\0<=cq c i)/\(0 < i->cs c (i - 1) < cs c i):=by
    intro i hi;have:=j i (Nat.zero_le _) ad;unfold oD at this;cases a:cond (cond (decide (cs c i < -10000000)) true (decide (cs c i > 10000000))) true (decide (oE (cq c i) < 0)) with
    | true=>rw [a] at this;cases this
    | false =>
     rw [a,cond_false] at this;cases hb:cond (decide (0 < i)) (decide (cs c i<=cs c (i - 1))) false with
     | true=>rw [hb] at this;cases this
     | false =>
      cases d:decide (cs c i < -10000000) with
      | true=>rw [d] at a;cases a
      | false =>
       rw [d,cond_false] at a;cases e:decide (cs c i > 10000000) with
       | true=>rw [e] at a;cases a
       | false =>
        rw [e,cond_false] at a;have d:=o7 d;have e:=o7 e;have a:=o7 a;refine ⟨⟨ad,ad,?_⟩,fun k=>?_⟩
        ·rw [qK] at a;exact Rat.not_lt.1 a
        ·rw [decide_eq_true k,cond_true] at hb;have:=o7 hb;omega
   have b:=o7 b;refine ⟨ad,by simp at g;omega,fun i hi=>(one i hi).1.1,fun i hi=>(one i hi).1.2.1,fun i hi=>(one i hi).1.2.2,fun i hi=>?_⟩;have:=(one (i+1) hi).2 ad;rwa [Nat.add_sub_cancel] at this
def Kf (R:Rat->Rat->Rat->Rat) (c:cO) (y:Rat):Nat->Nat->Rat->Rat->Rat
 | 0,_,_,acc=>acc
 | k+1,i,before,acc=>if y - (cs c i:Rat) < 0 then acc else Kf R c y k (i+1) (cq c i) (R (cq c i - before) (y - (cs c i:Rat)) acc)
structure ana (RD:Nat->ab->ab->ab->Option ab) (R:Rat->Rat->Rat->Rat) (A B C:Nat):Prop where
 run:∀ (ch fr acc:Rat) (m:Nat),RB ch A->RB fr B->RB acc m->1<=m->m<=1000000000000->Gv (fun N=>RD N (bg ch) (bg fr) (bg acc)) (bg (R ch fr acc))
 bnd:∀ (ch fr acc:Rat) (m:Nat),RB ch A->RB fr B->RB acc m->RB (R ch fr acc) (m+C)
theorem aj0 {c:cO} (a:uJ c) {i:Nat} (hi:i < c.ah.length):RB (cs c i:Rat) 4:=by
 have:=a.lo i hi;have:=a.hi i hi;exact RB.int (ZB.word ad ad) ay
theorem aaf {RD:Nat->ab->ab->ab->Option ab} {R:Rat->Rat->Rat->Rat} {c:cO} {y:ab} {n p C:Nat} (q:ana RD R (2 * n+1) (p+5) C) (h:CB c n) (d:uJ c) (r:IR y p) (s:1<=p) (H:n<=1000000) (I:p<=10000000000) (J:C<=20000000000) :
  ∀ (k i m:Nat) (before acc:Rat) (b:ab),i+k=c.ah.length->RB acc m->1<=m->m+k * C<=1000000000000->IR b n->qv b=before->aq (fun N fuel=>lg N (RD N) c y fuel (bg acc) b (i:Int)) (bg (Kf R c (qv y) k i before acc))
 | 0,i,m,before,acc,b,hi,_,_,_,_,_=>.step 0 fun N g _ _=>by
  have:i=c.ah.length:=ad;subst this;rw [lg,hT];rfl
 | k+1,i,m,before,acc,b,hi,hm,K,L,hb,e=>by
  have D:=h.len;have f:i < c.ah.length:=ad;have M:=d.lo i f;have O:=d.hi i f;have j:=aj0 d f;have Y:(k+1) * C=k * C+C:=Nat.succ_mul _ _;obtain ⟨P,E⟩:=oC (z:=cs c i) ad ad;obtain ⟨Q,t⟩:=JF (x:=y) (y:=bg (cs c i:Rat)) r j.ir s ay aF;rw [me] at t;have a:RB (qv y - (cs c i:Rat)) (p+5):=(r.rb s).sub j;obtain ⟨S,u⟩:=JG a.ir ad aF;rw [me] at u;obtain ⟨T,v⟩:=JF (x:=c.aA.getD i ab.d) (y:=b) (h.ir i) hb h.one h.one aF;rw [e] at v;have l:RB (cq c i - before) (2 * n+1):=by
   have:=((h.ir i).rb h.one).sub (hb.rb h.one);rw [e] at this;exact this.le ad
  obtain ⟨U,F⟩:=q.run (cq c i - before) (qv y - (cs c i:Rat)) acc m l a hm K ad;have w:=q.bnd (cq c i - before) (qv y - (cs c i:Rat)) acc m l a hm;obtain ⟨V,G⟩:=aaf q h d r s H I J k (i+1) (m+C) (cq c i) (R (cq c i - before) (qv y - (cs c i:Rat)) acc) (c.aA.getD i ab.d) ad w ad ad (h.ir i) rfl;dsimp only at E t u v F G;refine .step (P+Q+S+T+U+V) fun N g Z hg=>?_;have W:=d.UO;rw [lg,dec_lt f,cond_true,if_pos (k6 f),ai];have X:fc N (c.ah.getD i 0)=some (bg (cs c i:Rat)):=E N ad;rw [X,db,t N ad,db,u N ad,db,if_pos (fun _=>k6 ad),aX ad];have A:gr N (⟨((c.aA.getD i ab.d).fN),((c.aA.getD i ab.d).fD)⟩:ab) b=some (bg (cq c i - before)):=v N ad;unfold Kf
  by_cases o:qv y - (cs c i:Rat) < 0
  ·have B:decide (oE (qv y - (cs c i:Rat)) < 0)=true:=decide_eq_true (qK.2 o);rw [B,if_pos o];rfl
  ·have B:decide (oE (qv y - (cs c i:Rat)) < 0)=false:=decide_eq_false fun h=>o (qK.1 h);rw [B,if_neg o,Bool.not_false,cond_true,A,db,cond_true,F N ad,db,cond_false,Bool.not_true,cond_false,if_pos (k6 ad)];exact G N g ad ad
theorem aag {RD:Nat->ab->ab->ab->Option ab} {R:Rat->Rat->Rat->Rat} {c:cO} {y:ab} {n p C:Nat} (e:ana RD R (2 * n+1) (p+5) C) (h:CB c n) (a:uJ c) (f:IR y p) (g:1<=p) (i:n<=1000000) (j:p<=10000000000) (b:C<=20000000000) :
  Gv (fun N=>zC N (RD N) (bg 0) c y) (bg (Kf R c (qv y) c.ah.length 0 0 0)):=by
 have d:RB 0 1:=RB.int (z:=0) (ZB.small ay) ay;have k:=a.len;have l:c.ah.length * C<=40 * 20000000000:=Nat.mul_le_mul k b;refine (oC (z:=0) ay ay).bind ?_;exact (aaf e h a f g i j b c.ah.length 0 1 0 0 (bg 0) ad d ay ad (d.ir.le h.one) (me 0)).diag
def aj1 (ch fr acc:Rat):Rat:=acc+ch * fr
def aj2 (ch _ acc:Rat):Rat:=acc+ch
theorem asO {A B:Nat} (d:1<=A) (e:1<=B) (f:A<=10000000) (g:B<=20000000000):ana zD aj1 A B (A+B+1) where
 run:=fun ch fr acc m a b c hm h=>by
  refine (VW a.ir b.ir d e aF).bind ?_;rw [me,me];refine (JE c.ir (a.mul b).ir hm ad aF).bind ((Gv.pure _).eq ?_);rw [me,me];rfl
 bnd:=fun ch fr acc m a b c=>(c.add (a.mul b)).le ad
theorem asP {A B:Nat} (c:1<=A) (e:A<=10000000):ana zE aj2 A B (A+1) where
 run:=fun ch fr acc m a d b hm f=>by
  refine (JE b.ir a.ir hm c aF).bind ((Gv.pure _).eq ?_);rw [me,me];rfl
 bnd:=fun ch fr acc m a d b=>(b.add a).le ad
section
variable {c:cO} {y:ab} {n p:Nat}
def aah (R:Rat->Rat->Rat->Rat) (c:cO) (y:Rat):Rat:=Kf R c y c.ah.length 0 0 0
theorem aj3 (h:CB c n) (a:nm c=0) (b:IR y p) (d:1<=p) (e:n<=100000) (f:p<=9000000000):Gv (fun N=>Es N c y) (bg (aah aj1 c (qv y)),0):=by
 refine (zf h aF).bind (Gv.a9 (by rw [a];rfl) ?_);refine (oC (z:=0) ay ay).bind (Gv.bind (Gv.pure (c,y)) ?_);exact (aag (asO (A:=2 * n+1) (B:=p+5) ad ad ad ad) h (Fc a) b d ad ad ad).bind (Gv.pure _)
theorem aj4 (h:CB c n) (a:nm c=0) (b:IR y p) (d:1<=p) (e:n<=100000) (f:p<=9000000000):Gv (fun N=>Et N c y) (bg (aah aj2 c (qv y)),0):=by
 refine (zf h aF).bind (Gv.a9 (by rw [a];rfl) ?_);refine (oC (z:=0) ay ay).bind (Gv.bind (Gv.pure (c,y)) ?_);exact (aag (asP (A:=2 * n+1) (B:=p+5) ad ad) h (Fc a) b d ad ad ad).bind (Gv.pure _)
end
theorem Tx {a:cj} (b:SM a.fL.length):∀ k i,i+k=a.fL.length->aq (fun N fuel=>mF N a a fuel (i:Int)) true
 | 0,i,hi=>.step 0 fun N g _ _=>by
  have:i=a.fL.length:=ad;subst this;rw [mF,hT];rfl
 | k+1,i,hi=>by
  simp only [SM] at b;obtain ⟨d,c⟩:=Tx (a:=a) b k (i+1) ad;dsimp only at c;refine .step d fun N g f h=>?_;rw [mF,dec_lt ad,cond_true,if_pos (k6 ad),if_pos (k6 ad),aX ad];have e:(a.fL.getD ((i:Int)).toNat 0 != a.fL.getD ((i:Int)).toNat 0)=false:=aD;rw [e,cond_false];exact c N g f h
theorem Ty (a:cj) (b:SM a.fL.length):Gv (fun N=>wz N a a) true:=by
 unfold wz;refine Gv.a9 ?_ (Tx b a.fL.length 0 ad).diag;cases a.fG<;>simp
theorem acV (x:ab) (a:SM x.fN.fL.length) (b:SM x.fD.fL.length):Gv (fun N=>zF N x x) true :=
 (Ty _ a).bind (Gv.bind (Gv.aN rfl (Ty _ b)) (Gv.pure _))
theorem aj5 {q:Rat} {n:Nat} (h:RB q n) (c:SM n):Gv (fun N=>zF N (bg q) (bg q)) true:=by
 have a:=h.num;have b:=h.den;unfold ZB at a b;exact acV _ (by simp only [SM,bg,Hb] at *;omega) (by simp only [SM,bg,Hb] at *;omega)
theorem Yl {k:Nat} (h:k < 65536):RB (((k:Int):Rat)) 1:=RB.int (ZB.small ad) ay
structure RQ (x:ab) (p:Rat) (n:Nat):Prop where
 ir:IR x n
 v:qv x=p
 pos:1<=n
structure ZI (a:cj) (z:Int) (n:Nat):Prop where
 ib:IB a n
 v:zv a=z
theorem RQ.rb {x:ab} {p:Rat} {n:Nat} (h:RQ x p n):RB p n:=h.v ▸ h.ir.rb h.pos
theorem RB.rq {p:Rat} {n:Nat} (h:RB p n) (a:1<=n):RQ (bg p) p n:=⟨h.ir,me p,a⟩
theorem RQ.le {x:ab} {p:Rat} {m n:Nat} (h:RQ x p m) (a:m<=n):RQ x p n:=⟨h.ir.le a,h.v,gf h.pos a⟩
theorem ZI.zb {a:cj} {z:Int} {n:Nat} (h:ZI a z n):ZB z n:=h.v ▸ h.ib.zb
theorem ZB.zi {z:Int} {n:Nat} (h:ZB z n):ZI (Hb z) z n:=⟨h.ib,wb z⟩
theorem ZI.le {a:cj} {z:Int} {m n:Nat} (h:ZI a z m) (b:m<=n):ZI a z n:=⟨h.ib.le b,h.v⟩
theorem IB.aoy {a:cj} (h:cj.wf a) {n:Nat} (b:a.fL.length<=n):IB a n :=
 ⟨fun x c=>by
  have:=h.2.2 x c;unfold wK at this;have d:IntKind.u16.min=0:=ay;have e:IntKind.u16.max=65535:=ay;omega,b⟩
section
variable {a b:cj} {x y:ab} {m n:Nat} {p q:Rat} {z w:Int}
theorem RQ.add (a:RQ x p m) (b:RQ y q n) (c:SM (2 * (m+n+1)+2)):Gv (fun N=>bG N x y) (bg (p+q)):=by
 have:=JE a.ir b.ir a.pos b.pos c;rwa [a.v,b.v] at this
theorem RQ.sub (a:RQ x p m) (b:RQ y q n) (c:SM (2 * (m+n+1)+2)):Gv (fun N=>gr N x y) (bg (p - q)):=by
 have:=JF a.ir b.ir a.pos b.pos c;rwa [a.v,b.v] at this
theorem RQ.mul (a:RQ x p m) (b:RQ y q n) (c:SM (2 * (m+n)+2)):Gv (fun N=>bR N x y) (bg (p * q)):=by
 have:=VW a.ir b.ir a.pos b.pos c;rwa [a.v,b.v] at this
theorem RQ.div (b:RQ x p m) (a:RQ y q n) (c:q≠0) (d:SM (2 * (m+n)+2)):Gv (fun N=>BS N x y) (bg (p / q),0):=by
 have:=af3 b.ir a.ir b.pos a.pos (by rw [a.v];exact c) d;rwa [b.v,a.v] at this
theorem RQ.anb (b:RQ x p m) (a:RQ y q n) (c:q≠0) (d:SM (2 * (m+n)+2)):Gv (fun N=>xt N x y) (bg (p / q)):=by
 have:=aeq b.ir a.ir b.pos a.pos (by rw [a.v];exact c) d;rwa [b.v,a.v] at this
theorem RQ.cmp (a:RQ x p m) (b:RQ y q n) (c:SM (2 * (m+n+1)+2)):Gv (fun N=>iQ N x y) (oE (p - q)):=by
 have:=af2 a.ir b.ir a.pos b.pos c;rwa [a.v,b.v] at this
theorem RQ.oE (a:RQ x p m) (b:SM m):Gv (fun N=>l8 N x) (oE p):=by
 have:=JG a.ir a.pos b;rwa [a.v] at this
theorem RQ.low (a:RQ x p m) (b:SM (2 * m+2)):Gv (fun N=>qq N x) (bg p):=by
 have:=O6 a.ir a.pos b;rwa [a.v] at this
theorem RQ.zero (a:RQ x p m) (b:SM m):Gv (fun N=>jv N x) (decide (p=0)):=by
 have:=JD a.ir b;rwa [a.v] at this
theorem ZI.whole (b:ZI a z n) (c:1<=n) (d:SM (2 * n+2)):Gv (fun N=>yD N a) (bg (z:Rat)):=by
 have:=aae b.ib c d;rwa [b.v] at this
theorem ZI.add (c:ZI a z n) (hb:ZI b w n) (d:SM (n+1)):Gv (fun N=>Mf N a b) (Hb (z+w)):=by
 have:=ajX c.ib hb.ib d;rwa [c.v,hb.v] at this
theorem ZI.mul (c:ZI a z m) (hb:ZI b w n) (d:SM (m+n)):Gv (fun N=>xq N a b) (Hb (z * w)):=by
 have:=I0 c.ib hb.ib d;rwa [c.v,hb.v] at this
end
theorem af5 (p:Rat):p - p=0:=by grind
theorem aai {N:Nat} {a:List Int} (i:U a) (j:SM a.length):∀ (n fuel:Nat),n<=a.length->n < fuel->de (a.take n)=de a->oa N a fuel (n:Int)=some (lm (de a).toNat)
 | 0,fuel,_,k,c=>by
  obtain ⟨g,rfl⟩:=bb fuel;rw [oa,if_pos (fun h=>by cases h)];have e:de a=0:=by rw [<- c];simp [de]
  rw [e];have d:cond (decide (((0:Nat):Int) > 0)) (a.getD (av (((0:Nat):Int) - 1)).toNat 0 == 0) false=false:=rfl;rw [d,cond_false,if_pos ⟨aD,aD⟩,if_pos aD,if_pos aD];simp [lr]
 | n+1,fuel,l,k,c=>by
  obtain ⟨g,rfl⟩:=bb fuel;simp only [SM] at j;have d:av (((n+1:Nat):Int) - 1)=(n:Int):=a0
  have o:=fE a n ad;rw [oa,d,if_pos (fun _=>k6 ad),decide_eq_true ad,cond_true,ai];cases f:(a.getD n 0 == 0) with
  | true =>
   have b:a.getD n 0=0:=eq_of_beq f;rw [cond_true];exact aai i j n g ad ad (by rw [o,b] at c;omega)
  | false =>
   have b:a.getD n 0≠0:=fun h=>by rw [h] at f;cases f
   rw [cond_false,ai,if_pos ⟨Nat.zero_le _,l⟩,if_pos ad,if_pos ad,List.nil_append,List.drop_zero,<- c];congr 1;refine (aeg (i.take _) fun m x he=>?_).symm;have p:m.length=n:=by have:=congrArg List.length he;rw [ud] at this;simp at this;omega
   have:(a.take (n+1)).getD n 0=x:=by rw [he,<- p];simp [List.getD]
   rw [lH,List.getElem?_take_of_lt ad,<- lH] at this;rw [<- this];exact b
theorem Cl {N:Nat} {a:List Int} (b:U a) (c:SM a.length) (d:a.length < N):rP N a=some (lm (de a).toNat) :=
 aai b c a.length N (aH _) d (by rw [List.take_length])
theorem aer {N:Nat} {a:List Int} (b:U a) (c:SM a.length) (d:a.length < N):∀ (k i fuel:Nat),i+k=a.length->k < fuel->oc N a fuel (a.take i) (i:Int)=some (lm (de a).toNat)
 | 0,i,fuel,hi,f=>by
  obtain ⟨g,rfl⟩:=bb fuel;have:i=a.length:=ad;subst this;rw [oc,hT,cond_false,List.take_length,Cl b c d,db]
 | k+1,i,fuel,hi,f=>by
  obtain ⟨g,rfl⟩:=bb fuel;simp only [SM] at c;have h:=b.getD i;rw [oc,dec_lt ad,cond_true,if_pos (k6 ad),if_pos (by rw [ud];omega),ai,bD ad ad,aX ad];have e:a.take i ++ [a.getD i 0]=a.take (i+1):=by rw [List.take_add_one];simp [List.getD,show i < a.length by omega]
  rw [e];exact aer b aF d k (i+1) g ad ad
theorem aqo {N:Nat} {a:List Int} (c:U a) (d:SM a.length) (b:a.length < N):mb N a=some (lm (de a).toNat):=by
 have:=aer c d b a.length 0 N ad b;unfold mb;simpa using this
theorem aes {N:Nat} {neg:Bool} {a:List Int} (b:U a) (c:SM a.length):∀ (k i fuel:Nat),i+k=a.length->k < fuel->oe N neg a fuel (a.take i) (i:Int)=some ⟨cond neg (decide ((a.length:Int) > 0)) false,a⟩
 | 0,i,fuel,hi,d=>by
  obtain ⟨g,rfl⟩:=bb fuel;have:i=a.length:=ad;subst this;rw [oe,hT,cond_false,List.take_length]
 | k+1,i,fuel,hi,d=>by
  obtain ⟨g,rfl⟩:=bb fuel;simp only [SM] at c;have f:=b.getD i;rw [oe,dec_lt ad,cond_true,if_pos (k6 ad),if_pos (by rw [ud];omega),ai,uC ad ad,aX ad];have e:a.take i ++ [a.getD i 0]=a.take (i+1):=by rw [List.take_add_one];simp [List.getD,show i < a.length by omega]
  rw [e];exact aes b aF k (i+1) g ad ad
theorem anc (neg:Bool) {k:Nat} (a:SM (lm k).length):Gv (fun N=>jP N neg (lm k)) (Hb (sg neg k)) :=
 .of ((lm k).length+1) fun N b=>by
  have:=aes (N:=N) (neg:=neg) (zZ k) a (lm k).length 0 N ad ad;rw [List.take_zero] at this;unfold jP;rw [show ((0:Nat):Int)=0 from rfl] at this;rw [this]
  by_cases h:k=0
  ·subst h;rw [lr,aep];cases neg<;>rfl
  ·rw [ajU _ _ h];have:=rV.2 h;rw [decide_eq_true ad];cases neg<;>rfl
theorem JH (N:Nat) (a:List Int) (i:Nat):rD N a (i:Int)=some (a.getD i 0):=by
 unfold rD
 by_cases h:i < a.length
 ·rw [dec_lt h,cond_true,if_pos (k6 h),ai]
 ·rw [decide_eq_false ad,cond_false,C7 ad]
theorem vu (a:List Int) (i:Nat):de (a.take (i+1))=de (a.take i)+a.getD i 0 * pw i:=by
 by_cases h:i < a.length
 ·exact fE a i h
 ·rw [mU ad,mU ad,C7 ad];simp
theorem aj6 {N:Nat} {a b:List Int} (t:U a) (hb:U b) (u:SM (a.length+b.length+2)) (B:a.length+b.length+2 < N):∀ (k i fuel:Nat) (out:List Int) (c:Int),a.length+b.length+1<=i+k->k < fuel->out.length=i->i<=a.length+b.length+1->U out->0<=c->c<=1 ->
  (a.length < i/\b.length < i->c=0)->de out+pw i * c=de (a.take i)+de (b.take i)->og N a b fuel out c (i:Int)=some (lm (de a+de b).toNat):=by
 intro k;simp only [SM] at u
 induction k with
 | zero =>
  intro i fuel out c hi v m o l w x p d;obtain ⟨g,rfl⟩:=bb fuel;have q:=p ⟨ad,ad⟩;subst q;rw [og,decide_eq_false ad,decide_eq_false ad,decide_eq_false ay];simp only [cond_false];rw [Cl l aF ad,db];rw [mU ad,mU ad] at d;rw [show de out=de a+de b by omega]
 | succ k y =>
  intro i fuel out c hi v m o l w x p d;obtain ⟨g,rfl⟩:=bb fuel;rw [og]
  by_cases f:i < a.length\/i < b.length\/0 < c
  ·have e:cond (cond (decide ((i:Int) < (a.length:Int))) true (decide ((i:Int) < (b.length:Int)))) true (decide (c > 0))=true:=by
    rcases f with h | h | h
    ·rw [dec_lt h];rfl
    ·rw [dec_lt h];cases decide ((i:Int) < (a.length:Int))<;>rfl
    ·rw [decide_eq_true (show c > 0 by omega)];cases cond (decide ((i:Int) < (a.length:Int))) true (decide ((i:Int) < (b.length:Int)))<;>rfl
   have C:=t.getD i;have D:=hb.getD i;have z:i<=a.length+b.length:=by
    rcases f with h | h | h
    ·omega
    ·omega
    ·have:¬ (a.length < i/\b.length < i):=fun h'=>by have:=p h';omega
     omega
   rw [e,cond_true,JH,db,JH,db,if_pos ad,bD (n:=a.getD i 0+b.getD i 0) ad ad,bD (n:=a.getD i 0+b.getD i 0+c) ad ad,aX ad];generalize r:a.getD i 0+b.getD i 0+c=s;have j:0<=s:=ad;rw [Int.tmod_eq_emod_of_nonneg j,Int.tdiv_eq_ediv_of_nonneg j,bD (n:=s / 65536) ad ad];refine y (i+1) g _ _ ad ad (by simp [m]) ad (l.append (U.one ad ad)) ad ad (fun h=>?_) ?_
   ·have E:=C7 (show a.length<=i by omega);have F:=C7 (show b.length<=i by omega);omega
   ·rw [qA,zd,m,vu a,vu b,kQ];have A:s=s % 65536+65536 * (s / 65536):=ad;have G:pw i * s=pw i * (s % 65536)+pw i * (65536 * (s / 65536)):=by rw [<- lM,<- A]
    have H:pw i * s=a.getD i 0 * pw i+b.getD i 0 * pw i+pw i * c:=by rw [<- r,lM,lM,kM (pw i) (a.getD i 0),kM (pw i) (b.getD i 0)]
    have I:65536 * pw i * (s / 65536)=pw i * (65536 * (s / 65536)):=by rw [kM 65536,pM]
    omega
  ·have e:cond (cond (decide ((i:Int) < (a.length:Int))) true (decide ((i:Int) < (b.length:Int)))) true (decide (c > 0))=false:=by
    rw [decide_eq_false ad,decide_eq_false ad,decide_eq_false ad];rfl
   have q:c=0:=ad;subst q;rw [e,cond_false,Cl l aF ad,db];rw [mU ad,mU ad] at d;rw [show de out=de a+de b by omega]
theorem aj7 {N a b:Nat} (c:SM ((lm a).length+(lm b).length+2)) (d:(lm a).length+(lm b).length+3 < N):FO N (lm a) (lm b)=some (lm (a+b)):=by
 have:=aj6 (N:=N) (zZ a) (zZ b) c ad ((lm a).length+(lm b).length+1) 0 N [] 0 ad ad rfl ad U.nil ad ad (fun _=>rfl) (by simp [de]);rw [lK,lK] at this;exact this
theorem Py {N:Nat} {a b:List Int} (c:U a) (hb:U b) (d:a.length=b.length) (f:SM a.length):∀ (k fuel:Nat),k<=a.length->k < fuel->kI N a b fuel ((k:Int) - 1)=some (acT a b k)
 | 0,fuel,_,h=>by
  obtain ⟨g,rfl⟩:=bb fuel;rw [kI];rfl
 | k+1,fuel,i,h=>by
  obtain ⟨g,rfl⟩:=bb fuel;simp only [SM] at f;have e:(((k+1:Nat):Int) - 1)=(k:Int):=ad;have j:=c.getD k;have l:=hb.getD k;rw [e,kI,decide_eq_true ad,cond_true,if_pos (k6 ad),if_pos (k6 ad),ai,bD (n:=a.getD k 0 - b.getD k 0) ad ad,bD (n:=(k:Int) - 1) ad ad,Py c hb d aF k g ad ad];rw [acT];cases (a.getD k 0 != b.getD k 0)<;>rfl
theorem MT {N a b:Nat} (d:(lm a).length < N) (c:SM (lm a).length) (hb:SM (lm b).length):sH N (lm a) (lm b)=some (UM a b):=by
 unfold sH UM;simp only [SM] at c hb;cases e:((((lm a).length:Nat):Int) != (((lm b).length:Nat):Int)) with
 | true=>rw [cond_true,cond_true,bD ad ad]
 | false =>
  have heq:(lm a).length=(lm b).length:=by simp at e;omega
  rw [cond_false,cond_false,bD ad ad];exact Py (zZ a) (zZ b) heq c _ N (aH _) d
theorem VX {N:Nat} {a b:List Int} (o:U a) (hb:U b) (p:b.length<=a.length) (j:de b<=de a) (u:SM a.length) (v:a.length+1 < N):∀ (k x fuel:Nat) (out:List Int) (c:Int),x+k=a.length->k < fuel->out.length=x->U out->0<=c->c<=1 ->
  de out - pw x * c=de (a.take x) - de (b.take x)->kb N a b fuel out c (x:Int)=some (lm (de a - de b).toNat)
 | 0,x,fuel,out,c,w,y,e,f,z,A,d=>by
  obtain ⟨g,rfl⟩:=bb fuel;have B:x=a.length:=ad;subst B;rw [kb,hT,cond_false,Cl f (by simp only [SM] at *;omega) ad,db];rw [List.take_length,mU p] at d;have r:=f.lt;rw [e] at r;have C:c=0:=by
   rcases Int.lt_or_le 0 c with h | h
   ·have:c=1:=ad;subst this;omega
   ·omega
  subst C;rw [show de out=de a - de b by omega]
 | k+1,x,fuel,out,c,w,y,e,f,z,A,d=>by
  obtain ⟨g,rfl⟩:=bb fuel;simp only [SM] at u;have t:x < a.length:=ad;have r:=o.getD x;have G:=hb.getD x;rw [kb,dec_lt t,cond_true,if_pos (k6 t),JH,db,ai,bD (n:=a.getD x 0 - b.getD x 0) ad ad,bD (n:=a.getD x 0 - b.getD x 0 - c) ad ad];have fin:∀ q s:Int,0<=q->q<=1->s=a.getD x 0 - b.getD x 0 - c+q * 65536->0<=s->s < 65536->qS N a b out (x:Int) (kb N a b g) q s=some (lm (de a - de b).toNat):=by
   intro q s D E l m F;unfold qS;rw [if_pos ad,aX ad];refine VX o hb p j aF v k (x+1) g _ _ ad ad (by simp [e]) (f.append (U.one m F)) D E ?_;rw [qA,zd,e,vu a,vu b,kQ];have H:pw x * s=a.getD x 0 * pw x - b.getD x 0 * pw x - pw x * c+65536 * pw x * q:=by rw [l];grind
   omega
  cases i:decide (a.getD x 0 - b.getD x 0 - c < 0) with
  | true =>
   have i:=nH i;rw [cond_true,bD ad ad];exact fin 1 _ ad ad ad ad ad
  | false =>
   have i:=o7 i;rw [cond_false];exact fin 0 _ ad ad ad ad ad
theorem O7 {N a b:Nat} (c:b<=a) (d:SM (lm a).length) (e:(lm a).length+1 < N):wA N (lm a) (lm b)=some (lm (a - b)):=by
 have:=VX (N:=N) (zZ a) (zZ b) (lF c) (by rw [lK,lK];omega) d e (lm a).length 0 N [] 0 ad ad rfl U.nil ad ad (by simp [de]);rw [lK,lK] at this;rw [show (lm (a - b))=lm ((a:Int) - (b:Int)).toNat by congr 1;omega];exact this
theorem af6 {N:Nat} {a b:List Int} {i:Nat} (A:U a) (hb:U b) (hi:i < a.length) (B:SM (a.length+b.length+1)) (K:List Int->Int->Option (List Int)) (R:Option (List Int))
  (v:∀ out,out.length=a.length+b.length+1->U out->(∀ j,i+1+b.length<=j->out.getD j 0=0)->de out=de (a.take (i+1)) * de b->K out ((i+1:Nat):Int)=R) :
  ∀ (k x fuel:Nat) (out:List Int) (c:Int),x+k=b.length+1->k < fuel->out.length=a.length+b.length+1->U out->0<=c->c < 65536->(x=b.length+1->c=0)->(∀ j,i+b.length<=j->x<=b.length->out.getD j 0=0)->(∀ j,i+1+b.length<=j->out.getD j 0=0) ->
   de out+pw (i+x) * c=de (a.take i) * de b+a.getD i 0 * pw i * de (b.take x)->mH N a b (i:Int) K fuel out c (x:Int)=R:=by
 intro k;simp only [SM] at B
 induction k with
 | zero =>
  intro x fuel out c C D p m E F w q f d;obtain ⟨g,rfl⟩:=bb fuel;have G:x=b.length+1:=ad;subst G;have r:=w rfl;subst r;rw [mH,decide_eq_false ad,decide_eq_false ay];simp only [cond_false];rw [aX ad];refine v out p m f ?_;rw [show b.take (b.length+1)=b from mU ad] at d;rw [fE a i hi,jb];omega
 | succ k H =>
  intro x fuel out c C D p m E F w q f d;obtain ⟨g,rfl⟩:=bb fuel;rw [mH];have y:=A.getD i;have z:=hb.getD x;have Q:=m.getD (i+x)
  by_cases t:x < b.length\/0 < c
  ·have e:cond (decide ((x:Int) < (b.length:Int))) true (decide (c > 0))=true:=by
    rcases t with h | h
    ·rw [dec_lt h];rfl
    ·rw [decide_eq_true (show c > 0 by omega)];cases decide ((x:Int) < (b.length:Int))<;>rfl
   have I:av ((i:Int)+(x:Int))=((i+x:Nat):Int):=a0
   have S:=Tn y.1 y.2 z.1 z.2;rw [e,cond_true,I,if_pos (k6 ad),if_pos (k6 hi),JH,db];simp only [ai];rw [bD (n:=a.getD i 0 * b.getD x 0) ad ad,bD (n:=out.getD (i+x) 0+a.getD i 0 * b.getD x 0) ad ad,bD (n:=out.getD (i+x) 0+a.getD i 0 * b.getD x 0+c) ad ad,aX ad];generalize l:out.getD (i+x) 0+a.getD i 0 * b.getD x 0+c=s;have o:0<=s:=ad;rw [Int.tmod_eq_emod_of_nonneg o,Int.tdiv_eq_ediv_of_nonneg o,bD (n:=s / 65536) ad ad];refine H (x+1) g _ _ ad ad (by simp [p]) (m.set _ ad ad) ad ad (fun h=>?_) (fun j u J=>?_) (fun j u=>?_) ?_
   ·have L:=C7 (show b.length<=x by omega);have M:=q (i+x) ad ad;rw [L,M] at l;simp at l;omega
   ·rw [getD_set_ne _ _ ad];exact q j u ad
   ·rw [getD_set_ne _ _ ad];exact f j u
   ·rw [tl _ _ _ ad,vu b,show i+(x+1)=(i+x)+1 by omega,kQ];have O:s=s % 65536+65536 * (s / 65536):=ad;have T:pw (i+x) * s=pw (i+x) * (s % 65536)+pw (i+x) * (65536 * (s / 65536)):=by rw [<- lM,<- O]
    have V:pw (i+x) * s=pw (i+x) * c+pw (i+x) * (a.getD i 0 * b.getD x 0)+pw (i+x) * out.getD (i+x) 0:=by rw [<- l,lM,lM];omega
    have W:65536 * pw (i+x) * (s / 65536)=pw (i+x) * (65536 * (s / 65536)):=by rw [kM 65536,pM]
    have X:(s % 65536 - out.getD (i+x) 0) * pw (i+x)=pw (i+x) * (s % 65536) - pw (i+x) * out.getD (i+x) 0:=by rw [Int.sub_mul,kM,kM (out.getD (i+x) 0)]
    have P:a.getD i 0 * pw i * (de (b.take x)+b.getD x 0 * pw x)=a.getD i 0 * pw i * de (b.take x)+pw (i+x) * (a.getD i 0 * b.getD x 0):=by
     rw [Tl];grind
    omega
  ·have e:cond (decide ((x:Int) < (b.length:Int))) true (decide (c > 0))=false:=by
    rw [decide_eq_false ad,decide_eq_false ad];rfl
   have r:c=0:=ad;subst r;rw [e,cond_false,aX ad];refine v out p m f ?_;rw [show b.take x=b from mU ad] at d;rw [fE a i hi,jb];omega
theorem VY {N:Nat} {a b:List Int} (f:U a) (hb:U b) (i:SM (a.length+b.length+1)) (o:a.length+b.length+2 < N):∀ (k x fuel:Nat) (out:List Int),x+k=a.length->k < fuel->out.length=a.length+b.length+1->U out ->
  (∀ j,x+b.length<=j->out.getD j 0=0)->de out=de (a.take x) * de b->mI N a b fuel out (x:Int)=some (lm (de a * de b).toNat)
 | 0,x,fuel,out,p,q,l,d,e,c=>by
  obtain ⟨g,rfl⟩:=bb fuel;have r:x=a.length:=ad;subst r;rw [mI,hT,cond_false,Cl d (by simp only [SM] at *;omega) ad,db,c,List.take_length]
 | k+1,x,fuel,out,p,q,l,d,e,c=>by
  obtain ⟨g,rfl⟩:=bb fuel;have m:x < a.length:=ad;rw [mI,dec_lt m,cond_true];refine af6 f hb m i _ _ (fun s t u v w=>?_) (b.length+1) 0 N out 0 ad ad l d ad ad (fun h=>ad) (fun j n _=>e j n) (fun j n=>e j ad) (by rw [c];simp [de]);exact VY f hb i o k (x+1) g s ad ad t u v w
theorem aaj {N:Nat} {a b:List Int} (d:U a) (hb:U b) (c:SM (a.length+b.length+1)) (f:a.length+b.length+2 < N):qf N a b=some (lm (de a * de b).toNat):=by
 unfold qf;have g:=c;simp only [SM] at g;have e:av (av ((a.length:Int)+(b.length:Int))+1)=((a.length+b.length+1:Nat):Int):=by rw [bD (n:=(a.length:Int)+(b.length:Int)) ad ad,bD ad ad];omega
 rw [e,if_pos ad];exact VY d hb c f a.length 0 N _ ad ad (by simp;omega) (U.replicate _) (fun j _=>lu _ j) (by rw [ou];simp [de])
theorem af7 {N a b:Nat} (c:SM ((lm a).length+(lm b).length+1)) (d:(lm a).length+(lm b).length+2 < N):qf N (lm a) (lm b)=some (lm (a * b)):=by
 rw [aaj (zZ a) (zZ b) c d,lK,lK,DU]
theorem ane {N:Nat} {a q:List Int} {b i X:Nat} (hb:0 < b) (E:X < 65536 * b) (hq:i < q.length) (z:SM ((lm b).length+(lm X).length+3)) (hi:SM i) (F:(lm b).length+(lm X).length+65546 < N) (K:List Int->List Int->Int->Option (List Int×List Int)) :
  ∀ (d lo hi fuel:Nat),hi - lo<=d->lo<=hi->hi < 65536->d < fuel->lo * b<=X->X < (hi+1) * b->mj N a (lm b) q (i:Int) (lm X) K fuel (lo:Int) (hi:Int)=K (lm (X % b)) (q.set i ((X / b:Nat):Int)) ((i:Int) - 1):=by
 intro d;simp only [SM] at z hi;have one:∀ m:Nat,m < 65536->qf N (lm b) [(m:Int)]=some (lm (b * m)):=fun m hm=>by
  rw [aaj (zZ b) (U.one ad ad) (by simp only [SM,List.length_singleton];omega) (by simp only [List.length_singleton];omega),lK,zd,DU]
 have s:∀ m:Nat,m < 65536->(lm (b * m)).length<=(lm b).length+1:=fun m hm=>by
  rw [nj,kQ];have:=(nj (n:=b) (k:=(lm b).length)).1 (aH _);have l:=Nat.mul_le_mul_left b (show m<=65535 by omega);have:=qz (lm b).length;omega
 induction d with
 | zero =>
  intro lo e fuel A o f B r l;obtain ⟨g,rfl⟩:=bb fuel;have t:e=lo:=ad;subst t;have hdiv:X / b=e:=by
   have w:X=e * b+(X - e * b):=ad;have x:X - e * b < b:=by rw [eS,Nat.one_mul] at l;omega
   exact (Pw w x).1
  have p:X % b=X - b * e:=by
   have:=Nat.div_add_mod X b;rw [hdiv] at this;omega
  rw [mj,decide_eq_false ad,cond_false,if_pos (k6 hq)];have u:b * e<=X:=by rw [rK];exact r
  by_cases G:0 < e
  ·rw [decide_eq_true ad,cond_true,one e f,db,O7 u aF ad,db];unfold sI;rw [ai,bD ad ad,hdiv,p]
  ·have:e=0:=ad;subst this;rw [decide_eq_false ay,cond_false];unfold sI;rw [ai,bD ad ad,hdiv,p];simp
 | succ d v =>
  intro lo e fuel A o f B r l;obtain ⟨g,rfl⟩:=bb fuel
  by_cases H:lo < e
  ·rw [mj,decide_eq_true ad,cond_true,bD (n:=(lo:Int)+(e:Int)) ad ad,bD (n:=(lo:Int)+(e:Int)+1) ad ad];have em:((lo:Int)+(e:Int)+1).tdiv 2=(((lo+e+1) / 2:Nat):Int):=by rw [Int.tdiv_eq_ediv_of_nonneg ad];omega
   rw [em,bD (n:=(((lo+e+1) / 2:Nat):Int)) ad ad];generalize hm:(lo+e+1) / 2=m;have C:=s m ad;rw [one m ad,db,MT ad aF aF,db];have y:UM (b * m) X<=0↔b * m<=X:=by
    obtain ⟨c,_,w,x,u⟩:=Gz (N:=(lm (b * m)).length+1) (a:=b * m) (b:=X) ad aF aF;rw [<- u];omega
   by_cases j:b * m<=X
   ·rw [decide_eq_true (y.2 j),cond_true];exact v m e g ad ad f ad (by rw [rK];exact j) l
   ·rw [decide_eq_false (fun h=>j (y.1 h)),cond_false,bD ad ad];have D:((m:Int) - 1)=((m - 1:Nat):Int):=ad;rw [D];refine v lo (m - 1) g ad ad ad ad r ?_;rw [show m - 1+1=m by omega,rK];omega
  ·have:=v lo e (g+1) ad o f ad r l;exact this
theorem aet {N:Nat} {A b:Nat} (hb:0 < b) (p:SM (2 * (lm A).length+2 * (lm b).length+10)) (w:(lm A).length+2 * (lm b).length+65560 < N):∀ (k fuel:Nat) (q:List Int) (r:Nat),k<=(lm A).length->k < fuel->q.length=(lm A).length->U q->r < b ->
  (∀ j,j < k->q.getD j 0=0)->pw k * de ((lm A).drop k)=de q * b+r * pw k->ml N (lm A) (lm b) fuel (lm r) q ((k:Int) - 1)=some (lm (A / b),lm (A % b))
 | 0,fuel,q,r,y,z,hq,d,s,f,c=>by
  obtain ⟨g,rfl⟩:=bb fuel;have e:decide ((((0:Nat):Int) - 1)>=0)=false:=rfl;rw [ml,e,cond_false,Cl d (by simp only [SM] at *;omega) ad,db];rw [JA,List.drop_zero,lK] at c;have B:=d.wa;obtain ⟨Q,C⟩:=Int.eq_ofNat_of_zero_le B;rw [C] at c ⊢;have E:A=Q * b+r:=by
   have F:(A:Int)=Q * b+r:=ad
   exact_mod_cast F
  obtain ⟨G,H⟩:=Pw E s;rw [G,H];rfl
 | k+1,fuel,q,r,y,z,hq,d,s,f,c=>by
  obtain ⟨g,rfl⟩:=bb fuel;have I:=p;simp only [SM] at I;have e:(((k+1:Nat):Int) - 1)=(k:Int):=ad;have h:=(zZ A).getD k;have J:(lm r).length<=(lm b).length:=lF ad;rw [e,ml,decide_eq_true ad,cond_true,if_pos (k6 ad),if_pos ad,ai];obtain ⟨D,t⟩:=Int.eq_ofNat_of_zero_le h.1;have K:lm (de ([(lm A).getD k 0] ++ lm r)).toNat=lm (D+65536 * r):=by
   have L:de ([(lm A).getD k 0] ++ lm r)=((D+65536 * r:Nat):Int):=by rw [qA,zd,lK,t];simp [pw]
   rw [L,Int.toNat_natCast]
  have M:D < 65536:=ad;rw [Cl ((U.one h.1 h.2).append (zZ r)) (by simp only [SM,rI,List.length_singleton];omega) (by simp only [rI,List.length_singleton];omega),db,K];have l:D+65536 * r < 65536 * b:=ad;have O:(lm (D+65536 * r)).length<=(lm b).length+1:=by
   rw [nj,kQ];have:=(nj (n:=b) (k:=(lm b).length)).1 (aH _);omega
  have:=ane (N:=N) (a:=lm A) (q:=q) (b:=b) (i:=k) (X:=D+65536 * r) hb l ad aF aF ad (ml N (lm A) (lm b) g) 65535 0 65535 N ad ad ad ad ad ad;rw [show ((0:Nat):Int)=0 from rfl,show ((65535:Nat):Int)=65535 from rfl] at this;rw [this];have P:(D+65536 * r) / b < 65536:=Nat.div_lt_of_lt_mul ad;have m:=Nat.mod_lt (D+65536 * r) hb;have o:=Nat.div_add_mod (D+65536 * r) b;generalize (D+65536 * r) / b=u at *
  generalize (D+65536 * r) % b=v at *
  refine aet hb p w k g _ _ ad ad (by simp [hq]) (d.set _ ad ad) m (fun j S=>by rw [getD_set_ne _ _ ad];exact f j ad) ?_;rw [tl _ _ _ ad,f k ad,Int.sub_zero,tZ _ k ad,t];rw [kQ] at c;have R:(D:Int)+65536 * r=b * u+v:=by
   have:=congrArg (fun x:Nat=>(x:Int)) o;simp only [Int.natCast_add,Int.natCast_mul] at this;omega
  have T:pw k * ((D:Int)+65536 * r)=pw k * (b * u+v):=by rw [R]
  grind
theorem aeu {N A b:Nat} (hb:b≠0) (a:SM (2 * (lm A).length+2 * (lm b).length+10)) (c:(lm A).length+2 * (lm b).length+65560 < N):tP N (lm A) (lm b)=some (lm (A / b),lm (A % b)):=by
 have d:=a;simp only [SM] at d;unfold tP;rw [if_pos ad,bD ad ad];have:=aet (N:=N) (A:=A) (b:=b) ad a c (lm A).length N (List.replicate (lm A).length 0) 0 (aH _) ad aD (U.replicate _) ad (fun j _=>lu _ j) (by rw [List.drop_length,ou];simp [de]);rw [lr] at this;exact this
abbrev LM (n:Nat):Prop:=n < 1000000000000
theorem aL {p:Prop} (h:p:=by simp only [LM];omega):p:=h
section
variable {a b:cj} {x y:ab} {m n:Nat} {p q:Rat} {z w:Int}
theorem ZI.read (b:ZI a z n) (c:LM n):Gv (fun N=>mb N a.fL) (lm z.natAbs) :=
 .of (n+1) fun N d=>by
  have:=aqo (N:=N) b.ib.U (by have:=b.ib.len;simp only [SM,LM] at *;omega) (by have:=b.ib.len;omega);rwa [<- q8,b.v] at this
theorem ZI.Ym (b:ZI a z n):z=sg a.fG z.natAbs:=by
 have c:=q8 a;have:zv a=sg a.fG (zv a).natAbs:=by rw [c];rfl
 rwa [b.v] at this
theorem vv {neg:Bool} {k:Nat} (a:ZB (sg neg k) n) (b:LM n):Gv (fun N=>jP N neg (lm k)) (Hb (sg neg k)):=by
 unfold ZB at a;rw [wR] at a;exact anc neg (by simp only [SM,LM] at *;omega)
theorem aj8 {N:Nat} {z:Int}:∀ (fuel n:Nat) (out:List Int) (r:Option cj),(lm n).length < fuel->out.length+(lm n).length < 1000->n < 18446744073709551616->((jP N (decide (z < 0)) (out ++ lm n)).bind fun r=>some r)=r->qe N z fuel out (n:Int)=r
 | 0,n,out,r,h,_,_,_=>ad
 | fuel+1,n,out,r,h,c,g,a=>by
  rw [qe]
  by_cases b:n=0
  ·subst b;rw [lr,List.append_nil] at a;exact a
  ·have e:decide ((n:Int) > 0)=true:=by simp;omega
   rw [x5 b] at h c;simp only [Fp] at h c;have d:((n:Int) / 65536)=((n / 65536:Nat):Int):=ad;have f:((n:Int) % 65536)=((n % 65536:Nat):Int):=ad;rw [e,cond_true,if_pos ad,Int.tmod_eq_emod_of_nonneg ad,Int.tdiv_eq_ediv_of_nonneg ad,d,f,lz ad ad,bD ad ad];refine aj8 fuel (n / 65536) _ r ad (by simp;omega) ad ?_;rw [<- a,x5 b,AX];rfl
theorem rOf (b:-9223372036854775808<=z) (c:z<=9223372036854775807):Gv (fun N=>Ey N z) (Hb z):=by
 have a:ZB z 4:=ZB.word b c;have key:Gv (fun N=>qe N z N [] ((z.natAbs:Nat):Int)) (Hb z):=by
  have hm:Gv (fun N=>(jP N (decide (z < 0)) (lm z.natAbs)).bind fun r=>some r) (Hb z):=by
   by_cases h:z < 0
   ·have e:sg true z.natAbs=z:=by simp [sg];omega
    have:=vv (neg:=true) (k:=z.natAbs) (n:=4) (by rw [e];exact a) ay;rw [e] at this;rw [decide_eq_true h];exact this.bind (Gv.pure _)
   ·have e:sg false z.natAbs=z:=by simp [sg];omega
    have:=vv (neg:=false) (k:=z.natAbs) (n:=4) (by rw [e];exact a) ay;rw [e] at this;rw [decide_eq_false h];exact this.bind (Gv.pure _)
  obtain ⟨d,hm⟩:=hm;refine .of (d+5) fun N f=>?_;unfold ZB at a;exact aj8 N z.natAbs [] _ ad (by simp;omega) ad (by have:=hm N ad;simpa using this)
 unfold Ey
 by_cases h:z < 0
 ·have e:IntKind.u64.wrap (0 - IntKind.u64.wrap z)=((z.natAbs:Nat):Int):=by rw [wrap64,wrap64];omega
  refine Gv.aN (decide_eq_true h) ?_;rw [e];exact key
 ·have e:IntKind.u64.wrap z=((z.natAbs:Nat):Int):=by rw [wrap64];omega
  refine Gv.a9 (decide_eq_false h) ?_;rw [e];exact key
theorem ZI.aj9 (b:ZI a z n) (c:LM n):Gv (fun N=>Jy N a) (Hb (-z)):=by
 refine (b.read c).bind ?_;have e:sg (!a.fG) z.natAbs = -z:=by
  have:=b.Ym;generalize z.natAbs=k at *
  subst this;cases a.fG<;>simp [sg]
 refine Gv.bind (r:=Hb (-z)) ?_ (Gv.pure _);rw [<- e];exact vv (n:=n) (by rw [e];exact b.zb.neg) c
theorem ZI.anf (f:ZI a z n) (hb:ZI b w n) (k:LM (n+1)):Gv (fun N=>Jz N a b) (Hb (z+w)):=by
 simp only [LM] at k;have d:=f.zb.add hb.zb;have l:=f.zb;have m:=hb.zb;unfold ZB at l m;refine (f.read aL).bind ((hb.read aL).bind ?_);have o:=f.Ym;have s:=hb.Ym;clear f hb;generalize z.natAbs=x at *
 generalize w.natAbs=y at *
 rw [o,s] at d ⊢;generalize a.fG=p at *
 generalize b.fG=q at *
 cases c:(p == q) with
 | true =>
  have c:p=q:=by simpa using c
  subst c;have e:sg p x+sg p y=sg p (x+y):=by cases p<;>simp [sg]<;>omega
  rw [e] at d ⊢;refine Gv.aN rfl (Gv.bind (r:=lm (x+y)) (.of (2 * n+4) fun N i=>aj7 aF ad) ?_);exact (vv d aL).bind (Gv.pure _)
 | false =>
  have c:q=!p:=by cases p<;>cases q<;>simp_all
  subst c;refine Gv.a9 rfl ?_;refine Gv.bind (r:=UM x y) (.of (n+2) fun N i=>MT ad aF aF) ?_;have j:=aei (a:=x) (b:=y) aF aF
  by_cases g:x < y
  ·refine Gv.a9 (decide_eq_false (by have:=j.2 g;omega)) (Gv.bind (r:=lm (y - x)) (.of (n+2) fun N i=>O7 ad aF ad) ?_);have e:sg p x+sg (!p) y=sg (!p) (y - x):=by cases p<;>simp [sg]<;>omega
   rw [e] at d ⊢;exact (vv d aL).bind (Gv.pure _)
  ·refine Gv.aN (decide_eq_true (by have:=fun h=>g (j.1 h);omega)) (Gv.bind (r:=lm (x - y)) (.of (n+2) fun N i=>O7 ad aF ad) ?_);have e:sg p x+sg (!p) y=sg p (x - y):=by cases p<;>simp [sg]<;>omega
   rw [e] at d ⊢;exact (vv d aL).bind (Gv.pure _)
theorem ZI.dL (b:ZI a z n) (c:LM n):Gv (fun N=>FP N a) z.sign:=by
 refine (b.read c).bind ?_;have d:=b.Ym;clear b;generalize z.natAbs=x at *
 rw [d];generalize a.fG=p
 by_cases h:x=0
 ·subst h;refine Gv.aN (by rw [lr];rfl) ((Gv.pure _).eq ?_);cases p<;>rfl
 ·refine Gv.a9 ?_ ?_
  ·have:=rV.2 h;simp;exact fun h'=>by rw [h'] at this;simp at this
  ·cases p with
   | true=>exact Gv.aN rfl ((Gv.pure _).eq (by simp only [sg,cond_true];rw [Int.sign_eq_neg_one_of_neg];omega))
   | false=>exact Gv.a9 rfl ((Gv.pure _).eq (by simp only [sg,cond_false];rw [Int.sign_eq_one_of_pos];omega))
theorem ZI.aak (c:ZI a z m) (hb:ZI b w n) (d:LM (m+n)):Gv (fun N=>wC N a b) (Hb (z * w)):=by
 simp only [LM] at d;have f:=c.zb.mul hb.zb;have g:=c.zb;have h:=hb.zb;unfold ZB at g h;refine (c.read aL).bind ((hb.read aL).bind ?_);refine Gv.bind (r:=lm (z.natAbs * w.natAbs)) (.of (m+n+3) fun N i=>af7 aF ad) ?_;have e:sg (!(a.fG == b.fG)) (z.natAbs * w.natAbs)=z * w:=by rw [sign_eq,<- c.Ym,<- hb.Ym]
 have:=vv (neg:=!(a.fG == b.fG)) (k:=z.natAbs * w.natAbs) (n:=m+n) (by rw [e];exact f) d;rw [e] at this;exact this.bind (Gv.pure _)
theorem aal {A B:Nat} (b:(lm A).length<=m) (hb:(lm B).length<=n) (a:B≠0) (c:LM (m+n+10)):Gv (fun N=>tP N (lm A) (lm B)) (lm (A / B),lm (A % B)) :=
 .of (m+2 * n+65561) fun N d=>aeu a (by simp only [SM,LM] at *;omega) ad
end
section
variable {a b:cj} {x y:ab} {m n:Nat} {p q:Rat} {z w:Int}
theorem ang {N k:Nat} (b:LM (4 * k+30)) (e:3 * k+65570 < N):∀ (y x fuel:Nat),y < fuel->(lm x).length<=k->(lm y).length<=k->rQ N fuel (lm x) (lm y)=some (lm (Nat.gcd x y)):=by
 intro y;simp only [LM] at b
 induction y using Nat.strongRecOn with
 | _ y c =>
  intro x fuel f i a;obtain ⟨g,rfl⟩:=bb fuel;rw [rQ]
  by_cases h:y=0
  ·subst h;rw [lr,Nat.gcd_zero_right];rfl
  ·have j:=rV.2 h;rw [decide_eq_true ad,cond_true,aeu h aF ad,db];have d:=Nat.mod_lt x (Nat.pos_of_ne_zero h);rw [c (x % y) d y g ad a (gf (lF ad) a),Nat.gcd_comm x y,Nat.gcd_rec y x,Nat.gcd_comm]
theorem anh {x y k:Nat} (a:(lm x).length<=k) (b:(lm y).length<=k) (c:LM (4 * k+30)):Gv (fun N=>Jx N (lm x) (lm y)) (lm (Nat.gcd x y)) :=
 .of (3 * k+65571+y) fun N d=>ang c ad y x N ad a b
theorem ZI.jC (g:ZI a z n) (hb:ZI b w n) (r:w≠0) (s:LM (4 * n+30)):Gv (fun N=>vS N a b) (bg (Rat.divInt z w)):=by
 simp only [LM] at s;have h:=g.zb;have d:=hb.zb;unfold ZB at h d;refine (g.read aL).bind ((hb.read aL).bind ?_);have t:=g.Ym;have A:=hb.Ym;clear g hb;generalize i:z.natAbs=x at *
 generalize e:w.natAbs=y at *
 have j:y≠0:=ad;have B:0 < Nat.gcd x y:=Nat.gcd_pos_of_pos_right _ ad;refine Gv.a9 (by have:=rV.2 j;simp;exact fun h'=>by rw [h'] at this;simp at this) ?_;refine (anh h d aL).bind ?_;have f:(lm (Nat.gcd x y)).length<=n:=gf (lF (Nat.gcd_le_right _ ad)) d;refine (aal h f ad aL).bind ((aal d f ad aL).bind ?_);generalize p:x / Nat.gcd x y=u;generalize q:y / Nat.gcd x y=v;have l:(lm u).length<=n:=gf (lF (by rw [<- p];exact Nat.div_le_self _ _)) h;have m:(lm v).length<=n:=gf (lF (by rw [<- q];exact Nat.div_le_self _ _)) d;refine (vv (neg:=!(a.fG == b.fG)) (k:=u) (n:=n) (by unfold ZB;rw [wR];exact l) aL).bind ((vv (neg:=false) (k:=v) (n:=n) (by unfold ZB;rw [wR];exact m) aL).bind ((Gv.pure _).eq ?_));have o:Int.gcd w z=Nat.gcd x y:=by unfold Int.gcd;rw [i,e,Nat.gcd_comm]
 unfold bg;rw [Rat.num_divInt,Rat.den_divInt,if_neg r,o,e,q];have C:(Nat.gcd x y) ∣ x:=Nat.gcd_dvd_left _ _;have D:w.sign * z / ((Nat.gcd x y:Nat):Int)=sg (!(a.fG == b.fG)) u:=by
  have c:(x:Int)=(Nat.gcd x y:Nat) * (u:Int):=by
   have:x=Nat.gcd x y * u:=by rw [<- p,Nat.mul_div_cancel' C]
   exact_mod_cast this
  have E:w.sign * z=(Nat.gcd x y:Nat) * sg (!(a.fG == b.fG)) u:=by
   rw [t,A];cases a.fG<;>cases b.fG<;>simp only [sg,cond_true,cond_false,Bool.not_true,Bool.not_false,BEq.rfl,show (true == false)=false from rfl,show (false == true)=false from rfl]
   ·rw [Int.sign_eq_one_of_pos ad,Int.one_mul,<- c]
   ·rw [Int.sign_eq_neg_one_of_neg ad,Int.mul_neg,<- c];omega
   ·rw [Int.sign_eq_one_of_pos ad,Int.one_mul,Int.mul_neg,<- c]
   ·rw [Int.sign_eq_neg_one_of_neg ad,<- c];omega
  rw [E,Int.mul_ediv_cancel_left _ ad]
 rw [D];rfl
theorem av6:Gv (fun N=>Ey N 1) (Hb 1):=rOf ay ay
theorem ZI.aqp (c:ZI a z n) (hb:ZI b w n) (d:w=0) (f:LM (4 * n+30)):Gv (fun N=>vS N a b) (bg (z:Rat)):=by
 simp only [LM] at f;refine (c.read aL).bind ((hb.read aL).bind ?_);refine Gv.aN (by rw [d];show (((lm 0).length:Nat):Int) == 0;rw [lr];rfl) ?_;have e:=c.Ym;have:=vv (neg:=a.fG) (k:=z.natAbs) (n:=n) (by rw [<- e];exact c.zb) aL;rw [<- e] at this;exact this.bind (av6.bind (Gv.pure _))
theorem RQ.parts (h:RQ x p n):∃ z w,ZI x.fN z n/\ZI x.fD w n/\p=Rat.divInt z (if w=0 then 1 else w) :=
 ⟨zv x.fN,zv x.fD,⟨h.ir.num,rfl⟩,⟨h.ir.den,rfl⟩,h.v.symm⟩
theorem RQ.VZ (h:RQ x p n) (b:LM (4 * n+30)):Gv (fun N=>mm N x) (bg p):=by
 obtain ⟨z,w,c,hw,e⟩:=h.parts
 by_cases a:w=0
 ·rw [if_pos a] at e;refine (c.aqp hw a b).bind ((Gv.pure _).eq ?_);rw [e,Tw]
 ·rw [if_neg a] at e;refine (c.jC hw a b).bind ((Gv.pure _).eq ?_);rw [e]
theorem RQ.asR (h:RQ x p n) (a:LM (4 * n+30)):Gv (fun N=>sK N x) (Go.Den.oE p) :=
 (h.VZ a).bind ((h.rb.num.zi.dL (by simp only [LM] at *;omega)).bind (Gv.pure _))
theorem af8 (p q:Rat):Rat.divInt (p.num * q.den+q.num * p.den) (p.den * q.den)=p+q:=by
 conv=>rhs;rw [sM p,sM q]
 rw [Rat.divInt_add_divInt _ _ (wc p) (wc q)]
theorem RQ.anf (c:RQ x p m) (d:RQ y q n) (g:LM (4 * (m+n+1)+30)):Gv (fun N=>xD N x y) (bg (p+q)):=by
 simp only [LM] at g;have b:=c.rb;have a:=d.rb;refine (c.VZ aL).bind ((d.VZ aL).bind ?_);refine (b.num.zi.aak a.den.zi aL).bind ((a.num.zi.aak b.den.zi aL).bind ?_);have e:=(b.num.mul a.den).le (show m+n<=m+n by omega);have f:=(a.num.mul b.den).le (show n+m<=m+n by omega);refine (e.zi.anf f.zi aL).bind ((b.den.zi.aak a.den.zi aL).bind ?_);refine ((e.add f).zi.jC ((b.den.mul a.den).le (show m+n<=m+n+1 by omega)).zi (Int.mul_ne_zero (wc p) (wc q)) aL).bind ((Gv.pure _).eq ?_);rw [af8]
theorem RQ.aj9 (a:RQ x p n) (b:LM (4 * n+30)):Gv (fun N=>uz N x) (bg (-p)):=by
 refine (a.VZ b).bind ((a.rb.num.zi.aj9 (by simp only [LM] at *;omega)).bind ((Gv.pure _).eq ?_));unfold bg;rw [Rat.neg_num,Rat.neg_den]
theorem RQ.ani (b:RQ x p m) (a:RQ y q n) (c:LM (4 * (m+n+1)+30)):Gv (fun N=>rR N x y) (bg (p - q)):=by
 refine (a.aj9 (by simp only [LM] at *;omega)).bind ((b.anf (a.rb.neg.rq a.pos) c).bind ((Gv.pure _).eq ?_));rw [Rat.sub_eq_add_neg]
theorem RQ.aak (c:RQ x p m) (d:RQ y q n) (e:LM (4 * (m+n+1)+30)):Gv (fun N=>xF N x y) (bg (p * q)):=by
 simp only [LM] at e;have b:=c.rb;have a:=d.rb;refine (c.VZ aL).bind ((d.VZ aL).bind ?_);refine (b.num.zi.aak a.num.zi aL).bind ((b.den.zi.aak a.den.zi aL).bind ?_);refine ((b.num.mul a.num).zi.jC (b.den.mul a.den).zi (Int.mul_ne_zero (wc p) (wc q)) aL).bind ((Gv.pure _).eq ?_)
 conv=>rhs;rw [sM p,sM q]
 rw [Rat.divInt_mul_divInt]
theorem RQ.anj (a:RQ x p m) (b:RQ y q n) (c:LM (4 * (m+n+1)+30)):Gv (fun N=>rS N x y) (Go.Den.oE (p - q)) :=
 (a.ani b c).bind ((((a.rb.sub b.rb).rq ad).asR c).bind (Gv.pure _))
end
section
variable (t s:Nat->Rat) (n:Nat)
def Fe (i:Nat) (y:Rat):Rat:=if i+1 < n/\t (i+1) < y then t (i+1) else y
def pc (i:Nat) (y:Rat):Rat:=if Fe t n i y<=t i then 0 else Fe t n i y - t i
def vs:Nat->Nat->Rat->Rat
 | 0,_,_=>0
 | k+1,i,y=>s i * pc t n i y+vs k (i+1) y
def fs:Nat->Rat
 | 0=>0
 | i+1=>fs i+s i * (t (i+1) - t i)
def ps (x:Rat):Rat:=if x < 0 then 0 else x
def Up:Prop:=∀ i,i+1 < n->t i < t (i+1)
end
section
variable {t s:Nat->Rat} {n:Nat} (up:Up t n)
include up
theorem Qy {i:Nat} {y:Rat} (h:y<=t i):pc t n i y=0:=by
 unfold pc;rw [if_pos];unfold Fe;split
 case isTrue h1=>have:=up i h1.1;grind
 case isFalse=>exact h
theorem JI {i:Nat} {y:Rat} (hi:i+1 < n) (h:t (i+1)<=y):pc t n i y=t (i+1) - t i:=by
 have:=up i hi;have e:Fe t n i y=t (i+1):=by unfold Fe;split<;>grind
 unfold pc;rw [e,if_neg (by grind)]
theorem MU {i:Nat} {y:Rat} (h:t i<=y) (a:i+1 < n->y<=t (i+1)):pc t n i y=y - t i:=by
 have _hu:=up;have e:Fe t n i y=y:=by
  unfold Fe;split
  case isTrue h3=>have:=a h3.1;grind
  case isFalse=>rfl
 unfold pc;rw [e];split<;>grind
omit up in
theorem aoz {i:Nat} {y:Rat}:0<=pc t n i y:=by
 unfold pc;split<;>grind
theorem Yn:∀ (k i:Nat) {y:Rat},i+k=n->(0 < k->y<=t i)->vs t s n k i y=0
 | 0,_,_,_,_=>rfl
 | k+1,i,y,hi,h=>by
  have a:=h ad;rw [vs,Qy up a,Yn k (i+1) ad (fun b=>by have:=up i ad;grind)];grind
theorem aev:∀ (i:Nat) {y:Rat},i < n->t i<=y->vs t s n n 0 y=fs t s i+vs t s n (n - i) i y
 | 0,y,hi,h=>by rw [fs,Nat.sub_zero];grind
 | i+1,y,hi,h=>by
  have a:=up i hi;rw [aev i ad (by grind),show n - i=(n - (i+1))+1 by omega,vs,JI up hi h,fs];grind
theorem aoA {i:Nat} {y:Rat} (hi:i < n) (h:t i<=y) (a:i+1 < n->y<=t (i+1)):vs t s n n 0 y=fs t s i+s i * (y - t i):=by
 rw [aev up i hi h,show n - i=(n - (i+1))+1 by omega,vs,MU up h a,Yn up (n - (i+1)) (i+1) ad (fun b=>a ad)];grind
theorem aoB {i:Nat} (hi:i < n):vs t s n n 0 (t i)=fs t s i:=by
 rw [aoA up hi (by grind) (fun h=>by have:=up i h;grind)];grind
theorem ank {i:Nat} {y z:Rat} (h:y<=z):pc t n i y<=pc t n i z:=by
 by_cases b:y<=t i
 ·rw [Qy up b];exact aoz
 ·by_cases a:i+1 < n
  ·have e:=up i a
   by_cases c:t (i+1)<=y
   ·rw [JI up a c,JI up a (by grind)];grind
   ·rw [MU up (by grind) (fun _=>by grind)]
    by_cases d:t (i+1)<=z
    ·rw [JI up a d];grind
    ·rw [MU up (by grind) (fun _=>by grind)];grind
  ·rw [MU up (by grind) (fun h=>absurd h a),MU up (by grind) (fun h=>absurd h a)];grind
theorem aew {y z:Rat} (h:y<=z):∀ (k i:Nat),(∀ j,i<=j->j < i+k->0<=s j)->vs t s n k i y<=vs t s n k i z
 | 0,_,_=>by rw [vs,vs];exact Rat.le_refl
 | k+1,i,a=>by
  rw [vs,vs];have b:=aew h k (i+1) (fun j c d=>a j ad ad);have e:=Rat.mul_le_mul_of_nonneg_left (ank up (i:=i) h) (a i ad ad);grind
end
theorem aq.succ {α:Type} {f f':Nat->Nat->Option α} {r:α} (e:∀ N g,f N (g+1)=f' N g) (h:aq f' r):aq f r :=
 let ⟨a,b⟩:=h;.step a fun N g c d=>(e N g).trans (b N g c d)
theorem aq.bind {α β:Type} {f:Nat->Option α} {k:Nat->Nat->α->Option β} {r:α} {s:β} (h:Gv f r) (a:aq (fun N g=>k N g r) s):aq (fun N g=>(f N).bind (k N g)) s:=by
 obtain ⟨b,h⟩:=h;obtain ⟨c,a⟩:=a;exact ⟨b+c,fun N g d e=>by dsimp only;rw [h N ad];exact a N g ad ad⟩
theorem aq.aN {α:Type} {f g:Nat->Nat->Option α} {r:α} {q:Bool} (hq:q=true) (h:aq f r):aq (fun N n=>cond q (f N n) (g N n)) r:=by subst hq;exact h
theorem aq.a9 {α:Type} {f g:Nat->Nat->Option α} {r:α} {q:Bool} (hq:q=false) (h:aq g r):aq (fun N n=>cond q (f N n) (g N n)) r:=by subst hq;exact h
theorem aq.if {α:Type} {f:Nat->Nat->Option α} {r:α} {p:Prop} [Decidable p] (a:p) (h:aq f r):aq (fun N n=>if p then f N n else none) r:=by
 obtain ⟨b,h⟩:=h;exact ⟨b,fun N g c d=>by dsimp only;rw [if_pos a];exact h N g c d⟩
theorem aq.one {α:Type} {f:Nat->Option α} {r:α} (h:Gv f r):aq (fun N _=>f N) r:=let ⟨a,h⟩:=h;⟨a,fun N _ b _=>h N b⟩
theorem aq.eq {α:Type} {f:Nat->Nat->Option α} {r s:α} (h:aq f r) (e:r=s):aq f s:=e ▸ h
def ct (c:cO) (i:Nat):Rat:=(cs c i:Rat)
abbrev cn (c:cO):Nat:=c.ah.length
def Vc (c:cO) (y:Rat):Rat:=vs (ct c) (cq c) (cn c) (cn c) 0 y
theorem uJ.up {c:cO} (h:uJ c):Up (ct c) (cn c):=fun i hi=>by
 have:=h.lt i hi;unfold ct;exact Rat.intCast_lt_intCast.2 this
theorem V2 {c:cO} (up:Up (ct c) (cn c)) {y:Rat}:∀ (k i:Nat) (b acc:Rat),i+k=cn c->Kf aj1 c y k i b acc=acc - (if k=0 then 0 else b * ps (y - ct c i))+vs (ct c) (cq c) (cn c) k i y
 | 0,i,b,acc,_=>by rw [Kf,vs,if_pos rfl];grind
 | k+1,i,b,acc,hi=>by
  rw [Kf,vs,if_neg (Nat.succ_ne_zero k)];have e:(cs c i:Rat)=ct c i:=rfl;rw [e]
  by_cases h:y - ct c i < 0
  ·rw [if_pos h,Qy up (by grind),Yn up k (i+1) ad (fun a=>by have:=up i ad;grind)];unfold ps;rw [if_pos h];grind
  ·rw [if_neg h,V2 up k (i+1) _ _ ad];have d:ps (y - ct c i)=y - ct c i:=by unfold ps;rw [if_neg h]
   rw [d];unfold aj1
   by_cases a:k=0
   ·subst a;rw [if_pos rfl,MU up (by grind) (fun h=>ad),vs];grind
   ·rw [if_neg a];have g:=up i ad
    by_cases f:ct c (i+1)<=y
    ·rw [JI up ad f];have:ps (y - ct c (i+1))=y - ct c (i+1):=by unfold ps;rw [if_neg (by grind)]
     rw [this];grind
    ·rw [MU up (by grind) (fun _=>by grind)];have:ps (y - ct c (i+1))=0:=by unfold ps;rw [if_pos (by grind)]
     rw [this];grind
theorem af9 {c:cO} (h:uJ c) (y:Rat):aah aj1 c y=Vc c y:=by
 unfold aah;rw [V2 h.up _ 0 0 0 (Nat.zero_add _)];unfold Vc;split<;>grind
def rr (t s:Nat->Rat) (n:Nat) (v:Rat):Nat->Nat->Option Rat
 | 0,_=>none
 | k+1,i=>if s i=0 then rr t s n v k (i+1) else if i+1=n\/(v - fs t s i) / s i<=t (i+1) - t i then some (t i+(v - fs t s i) / s i) else rr t s n v k (i+1)
def x7:ab:=⟨⟨false,[]⟩,⟨false,[]⟩⟩
theorem RB.zero:RB 0 1:=RB.int (z:=0) (ZB.small ay) ay
section
variable {c:cO} {y:ab} {p:Rat} {n m:Nat}
theorem CB.rq (h:CB c n) (i:Nat):RQ (c.aA.getD i ab.d) (cq c i) n:=⟨h.ir i,rfl,h.one⟩
theorem uJ.bnd (a:uJ c) {i:Nat} (hi:i < cn c):-10000000<=cs c i/\cs c i<=10000000:=⟨a.lo i hi,a.hi i hi⟩
theorem uJ.rq (a:uJ c) {i:Nat} (hi:i < cn c):RQ (bg (ct c i)) (ct c i) 4:=(aj0 a hi).rq ay
theorem uJ.gap (a:uJ c) {i:Nat} (hi:i+1 < cn c):Gv (fun N=>fc N (av (c.ah.getD (i+1) 0 - c.ah.getD i 0))) (bg (ct c (i+1) - ct c i)):=by
 have b:=a.bnd (i:=i) ad;have d:=a.bnd hi;have e:av (c.ah.getD (i+1) 0 - c.ah.getD i 0)=cs c (i+1) - cs c i:=by
  unfold cs at *;rw [bD ad ad]
 rw [e];have:=oC (z:=cs c (i+1) - cs c i) ad ad;rw [Rat.intCast_sub] at this;exact this
theorem uJ.asS (a:uJ c) {i:Nat} (hi:i+1 < cn c):RB (ct c (i+1) - ct c i) 4:=by
 have b:=a.bnd (i:=i) ad;have d:=a.bnd hi;have:=RB.int (z:=cs c (i+1) - cs c i) (n:=4) (ZB.word ad ad) ay;rw [Rat.intCast_sub] at this;exact this
theorem lG {q:Rat}:decide (oE q < 0)=decide (q < 0):=decide_eq_decide.2 qK
theorem mO {q:Rat}:decide (oE q > 0)=decide (0 < q):=decide_eq_decide.2 MR
theorem LG {q:Rat}:decide (oE q<=0)=decide (q<=0):=decide_eq_decide.2 (by
 constructor
 ·intro h;exact Rat.not_lt.1 fun a=>by have:=MR.2 a;omega
 ·intro h;exact Int.not_lt.1 fun a=>by have:=MR.1 a;grind)
theorem Cm {q:Rat}:decide (oE q>=0)=decide (0<=q):=decide_eq_decide.2 (by
 constructor
 ·intro h;exact Rat.not_lt.1 fun a=>by have:=qK.2 a;omega
 ·intro h;exact Int.not_lt.1 fun a=>by have:=qK.1 a;grind)
theorem I1 (h:CB c n) (a:LM (4 * n+30)) (j:c.aA.length=c.ah.length):∀ k i,i+k=c.ah.length->aq (fun N fuel=>jl N c fuel (i:Int)) (scan (oD c) 0 k i)
 | 0,i,hi=>.step 0 fun N g _ _=>by
  have:i=c.ah.length:=ad;subst this;rw [jl,hT];rfl
 | k+1,i,hi=>by
  have b:=h.len;obtain ⟨l,d⟩:=(h.rq i).asR a;obtain ⟨m,e⟩:=I1 h a j k (i+1) ad;dsimp only at d e;refine .step (l+m) fun N g t u=>?_;rw [jl,dec_lt ad,cond_true,if_pos (k6 ad),if_pos (fun _=>k6 ad),if_pos (fun _=>k6 ad),ai,aX ad,e N g ad ad];have o:sK N (⟨((c.aA.getD i ab.d).fN),((c.aA.getD i ab.d).fD)⟩:ab)=some (oE (cq c i)):=d N ad;rw [o];have p:decide ((i:Int) > 0)=decide (0 < i):=aD;rw [p];have f:decide (0 < i)=true->av ((i:Int) - 1)=((i - 1:Nat):Int):=fun h=>by have:=nH h;rw [bD ad ad];omega
  rw [if_pos (fun _=>k6 ad),if_pos (fun h=>by rw [f h];exact k6 ad)];rw [scan];generalize scan (oD c) 0 k (i+1)=S;unfold oD;have q:cond (decide (0 < i)) (decide (c.ah.getD i 0<=c.ah.getD (av ((i:Int) - 1)).toNat 0)) false=cond (decide (0 < i)) (decide (cs c i<=cs c (i - 1))) false:=by
   cases r:decide (0 < i) with
   | false=>rfl
   | true=>rw [f r];rfl
  rw [q];show (cond (!(cond (decide (cs c i < -10000000)) true (decide (cs c i > 10000000)))) (some (oE (cq c i))) (some 0)).bind (fun s=>cond (cond (cond (decide (cs c i < -10000000)) true (decide (cs c i > 10000000))) true (decide (s < 0))) (some 2) (cond (cond (decide (0 < i)) (decide (cs c i<=cs c (i - 1))) false) (some 10) (some S)))=_;cases cond (decide (cs c i < -10000000)) true (decide (cs c i > 10000000)) with
  | true=>rfl
  | false =>
   rw [Bool.not_false,cond_true,db];cases decide (oE (cq c i) < 0)<;>cases cond (decide (0 < i)) (decide (cs c i<=cs c (i - 1))) false<;>rfl
theorem Tz (h:CB c n) (a:LM (4 * n+30)):Gv (fun N=>qT N c) (nm c):=by
 unfold qT nm;cases d:decide ((c.ah.length:Int) > 40) with
 | true=>exact Gv.aN rfl (Gv.pure _)
 | false =>
  refine Gv.a9 rfl ?_;cases b:((c.aA.length:Int) != (c.ah.length:Int)) with
  | true=>exact Gv.aN rfl (Gv.pure _)
  | false =>
   have:c.aA.length=c.ah.length:=by simp at b;omega
   exact Gv.a9 rfl (I1 h a this c.ah.length 0 ad).diag
theorem asT (a:uJ c) {i:Nat} (hi:i < cn c) (b:RB p m):RB (pc (ct c) (cn c) i p) (m+9):=by
 unfold pc;split
 ·exact RB.zero.le ad
 ·unfold Fe;split
  case isTrue h=>exact (a.asS h.1).le ad
  case isFalse h=>exact (b.sub (a.rq hi).rb).le ad
theorem akb (h:CB c n) (a:uJ c) (b:RB p m):∀ (k i:Nat),i+k=cn c->RB (vs (ct c) (cq c) (cn c) k i p) (1+k * (n+m+20))
 | 0,i,_=>RB.zero.le ad
 | k+1,i,hi=>by
  rw [vs];have d:(k+1) * (n+m+20)=k * (n+m+20)+(n+m+20):=Nat.succ_mul _ _;have:=((h.rq i).rb.mul (asT a (show i < cn c by omega) b)).add (akb h a b k (i+1) ad);exact this.le ad
theorem asU (h:CB c n) (b:uJ c) (d:RB p m):RB (Vc c p) (1+40 * (n+m+20)):=by
 have a:cn c<=40:=b.len;have e:=b.len;have:=dU (n+m+20) a;exact (akb h b d (cn c) 0 (Nat.zero_add _)).le ad
theorem anl (h:CB c n) (b:nm c=0) (a:RQ y p m) (d:n<=100000) (e:m<=9000000000):Gv (fun N=>Es N c y) (bg (Vc c p),0):=by
 have:=aj3 h b a.ir a.pos d e;rwa [a.v,af9 (Fc b)] at this
end
theorem MV {l:List ab} {i:Nat} (h:l.length<=i):l.getD i ab.d=ab.d:=by
 simp [List.getD,List.getElem?_eq_none_iff.2 h]
abbrev MS:Nat:=1000000000000
def Ev (p:Nat->Nat->Prop):Prop:=∃ a,∀ N g,a<=N->a<=g->p N g
theorem Gv.ev {α:Type} {f:Nat->Option α} {r:α} (h:Gv f r):Ev fun N _=>f N=some r:=let ⟨a,b⟩:=h;⟨a,fun N _ c _=>b N c⟩
theorem Ev.and {p q:Nat->Nat->Prop} (h:Ev p) (k:Ev q):Ev fun N g=>p N g/\q N g:=by
 obtain ⟨a,c⟩:=h;obtain ⟨b,hb⟩:=k;exact ⟨a+b,fun N g d e=>⟨c N g ad ad,hb N g ad ad⟩⟩
theorem Ev.mono {p q:Nat->Nat->Prop} (h:Ev p) (k:∀ N g,p N g->q N g):Ev q:=let ⟨a,b⟩:=h;⟨a,fun N g c d=>k N g (b N g c d)⟩
theorem Ev.succ {p:Nat->Nat->Prop} (h:Ev fun N g=>p N (g+1)):Ev p:=by
 obtain ⟨a,b⟩:=h;refine ⟨a+1,fun N g d e=>?_⟩;obtain ⟨g,rfl⟩:=bb g;exact b N g ad ad
def ent (A:List (List ab)) (i j:Nat):ab:=(A.getD i []).getD j ab.d
structure azx (A:List (List ab)) (n w:Nat) (M:Nat->Nat->Rat):Prop where
 len:A.length=n
 row:∀ i,i < n->(A.getD i []).length=w
 ent:∀ i j,i < n->j < w->RQ (ent A i j) (M i j) MS
def upd (M:Nat->Nat->Rat) (i j:Nat) (v:Rat):Nat->Nat->Rat:=fun a b=>if a=i/\b=j then v else M a b
theorem yY {α:Type} (l:List α) (i:Nat) (x d:α) (h:i < l.length):(l.set i x).getD i d=x:=by
 simp [lH,List.getElem?_set_self h]
theorem sP {α:Type} (l:List α) {i j:Nat} (x d:α) (h:i≠j):(l.set i x).getD j d=l.getD j d:=by
 simp [lH,List.getElem?_set_ne h]
structure Prl (M R:Nat->Nat->Rat) (n w c:Nat) (l:Nat->Rat):Prop where
 ne:∀ i,i < n->l i≠0
 eq:∀ i j,i < n->j < w->R i j=l i * M i j
 one:∀ i j,i < n->j < c->M i j=if i=j then 1 else 0
theorem YX {a:Nat} (h:a<=MS+MS+1):SM (2 * a+2):=by simp only [SM,MS] at *;omega
theorem inl {m n k:Nat} (h:m < n) (e:k=n):0<=(m:Int)/\(m:Int) < ((k:Nat):Int):=⟨ad,ad⟩
theorem dlt {m n k:Nat} (h:m < n) (e:k=n):decide ((m:Int) < ((k:Nat):Int))=true:=by simp;omega
theorem dnl {m n k:Nat} (h:n<=m) (e:k=n):decide ((m:Int) < ((k:Nat):Int))=false:=by simp;omega
section
variable {A:List (List ab)} {n w c:Nat} {M:Nat->Nat->Rat}
end
def aV:Nat->(Nat->Rat)->Rat
 | 0,_=>0
 | n+1,f=>aV n f+f n
theorem bc {n:Nat} {f g:Nat->Rat} (h:∀ i,i < n->f i=g i):aV n f=aV n g:=by
 induction n with
 | zero=>rfl
 | succ n a=>rw [aV,aV,a fun i hi=>h i ad,h n ad]
theorem mP (n:Nat) (f g:Nat->Rat):aV n (fun i=>f i+g i)=aV n f+aV n g:=by
 induction n with
 | zero=>show (0:Rat)=0+0;grind
 | succ n a=>rw [aV,aV,aV,a];grind
theorem ia (n:Nat) (c:Rat) (f:Nat->Rat):aV n (fun i=>c * f i)=c * aV n f:=by
 induction n with
 | zero=>show (0:Rat)=c * 0;grind
 | succ n a=>rw [aV,aV,a];grind
theorem kL (n:Nat):aV n (fun _=>0)=0:=by
 induction n with
 | zero=>rfl
 | succ n a=>rw [aV,a];grind
theorem mQ {n j:Nat} (c:j < n) (f:Nat->Rat) (h:∀ i,i < n->i≠j->f i=0):aV n f=f j:=by
 induction n with
 | zero=>omega
 | succ n a =>
  rw [aV]
  by_cases e:j=n
  ·subst e;rw [bc (g:=fun _=>0) fun i hi=>h i ad ad,kL];grind
  ·rw [a ad fun i hi b=>h i ad b,h n ad ad];grind
theorem qB {n j:Nat} (a:j < n) (f:Nat->Rat):aV n f=f j+aV n (fun i=>if i=j then 0 else f i):=by
 have e:aV n f=aV n (fun i=>(if i=j then f j else 0)+(if i=j then 0 else f i)):=bc fun i _=>by
  split
  ·rename_i h;subst h;grind
  ·grind
 rw [e,mP,mQ a (fun i=>if i=j then f j else 0) fun i _ h=>if_neg h,if_pos rfl]
structure cE where
 k7:Nat->Nat
 fr:Nat->Nat
 a:Nat->Nat->Rat
 b:Nat->Rat
 g:Nat->Rat
 v:Rat
namespace cE
def row (D:cE) (k:Nat) (x:Nat->Rat) (i:Nat):Rat:=D.b i+aV k fun j=>D.a i j * x (D.fr j)
def Yo (D:cE) (m k:Nat) (x:Nat->Rat):Prop:=∀ i,i < m->x (D.k7 i)=D.row k x i
def gv (D:cE) (k:Nat) (x:Nat->Rat):Rat:=D.v+aV k fun j=>D.g j * x (D.fr j)
structure WF (D:cE) (m k:Nat):Prop where
 bi:∀ i i',i < m->i' < m->D.k7 i=D.k7 i'->i=i'
 fi:∀ j j',j < k->j' < k->D.fr j=D.fr j'->j=j'
 bf:∀ i j,i < m->j < k->D.k7 i≠D.fr j
 bl:∀ i,i < m->D.k7 i < m+k
 fl:∀ j,j < k->D.fr j < m+k
 al:∀ u,u < m+k->(∃ i,i < m/\D.k7 i=u)\/∃ j,j < k/\D.fr j=u
def uV (D:cE) (i j k:Nat):Rat:=if k=j then 1 / D.a i j else -(D.a i k / D.a i j)
def pb (D:cE) (i j:Nat):Rat:=-(D.b i / D.a i j)
def nG (D:cE) (i j:Nat):cE where
 k7:=fun r=>if r=i then D.fr j else D.k7 r
 fr:=fun c=>if c=j then D.k7 i else D.fr c
 a:=fun r c=>if r=i then D.uV i j c else if c=j then D.a r j * D.uV i j c else D.a r c+D.a r j * D.uV i j c
 b:=fun r=>if r=i then D.pb i j else D.b r+D.a r j * D.pb i j
 g:=fun c=>if c=j then D.g j * D.uV i j c else D.g c+D.g j * D.uV i j c
 v:=D.v+D.g j * D.pb i j
theorem WF.nG {D:cE} {m k i j:Nat} (h:D.WF m k) (hi:i < m) (d:j < k):(D.nG i j).WF m k:=by
 refine ⟨fun r p a f e=>?_,fun c s b g e=>?_,fun r c a b e=>?_,fun r a=>?_,fun c b=>?_,fun u o=>?_⟩
 ·simp only [cE.nG] at e;split at e<;>split at e
  ·omega
  ·exact absurd e.symm (h.bf _ _ f d)
  ·exact absurd e (h.bf _ _ a d)
  ·exact h.bi _ _ a f e
 ·simp only [cE.nG] at e;split at e<;>split at e
  ·omega
  ·exact absurd e (h.bf _ _ hi g)
  ·exact absurd e.symm (h.bf _ _ hi b)
  ·exact h.fi _ _ b g e
 ·simp only [cE.nG] at e;split at e<;>split at e
  ·exact h.bf _ _ hi d e.symm
  ·rename_i l n;exact n (h.fi _ _ b d e.symm)
  ·rename_i l n;exact l (h.bi _ _ a hi e)
  ·exact h.bf _ _ a b e
 ·simp only [cE.nG];split
  ·exact h.fl j d
  ·exact h.bl r a
 ·simp only [cE.nG];split
  ·exact h.bl i hi
  ·exact h.fl c b
 ·rcases h.al u o with ⟨r,a,e⟩ | ⟨c,b,e⟩
  ·by_cases q:r=i
   ·subst q;exact .inr ⟨j,d,by simp only [cE.nG,if_pos];exact e⟩
   ·exact .inl ⟨r,a,by simp only [cE.nG,if_neg q];exact e⟩
  ·by_cases q:c=j
   ·subst q;exact .inl ⟨i,hi,by simp only [cE.nG,if_pos];exact e⟩
   ·exact .inr ⟨c,b,by simp only [cE.nG,if_neg q];exact e⟩
theorem Yp {D:cE} {k i j:Nat} (b:j < k) (e:D.a i j≠0) {x:Nat->Rat} (a:x (D.k7 i)=D.row k x i\/x (D.fr j)=(D.nG i j).row k x i) :
  x (D.fr j)=D.pb i j+aV k fun c=>D.uV i j c * x ((D.nG i j).fr c):=by
 rcases a with a | a
 ·rw [qB b];have d:(fun c=>if c=j then (0:Rat) else D.uV i j c * x ((D.nG i j).fr c))=fun c=>(-(1 / D.a i j)) * (if c=j then 0 else D.a i c * x (D.fr c)):=by
   funext c
   by_cases q:c=j
   ·simp only [q,if_true];grind
   ·simp only [cE.uV,cE.nG,q,if_false];grind
  rw [d,ia];unfold cE.row at a;rw [qB b] at a;simp only [cE.uV,cE.nG,if_true,cE.pb];rw [a];grind
 ·rw [a];simp only [cE.row,cE.nG,if_true]
theorem aam {D:cE} {k i j:Nat} (a:j < k) (f:Nat->Rat) {x:Nat->Rat} {p:Rat} (b:x (D.fr j)=p+aV k fun c=>D.uV i j c * x ((D.nG i j).fr c)) :
  (f j * p+aV k fun c=>(if c=j then f j * D.uV i j c else f c+f j * D.uV i j c) * x ((D.nG i j).fr c))=aV k fun c=>f c * x (D.fr c):=by
 have d:aV k (fun c=>(if c=j then f j * D.uV i j c else f c+f j * D.uV i j c) * x ((D.nG i j).fr c))=aV k (fun c=>(if c=j then 0 else f c * x (D.fr c))+f j * (D.uV i j c * x ((D.nG i j).fr c))):=bc fun c _=>by
  by_cases q:c=j
  ·simp only [q,if_true];grind
  ·simp only [q,if_false,cE.nG];grind
 rw [d,mP,ia,qB a (fun c=>f c * x (D.fr c)),b];grind
theorem Yo.nG {D:cE} {m k i j:Nat} (hi:i < m) (b:j < k) (f:D.a i j≠0) {x:Nat->Rat}:(D.nG i j).Yo m k x↔D.Yo m k x:=by
 have key:∀ r,r≠i->x (D.fr j)=D.pb i j+aV k (fun c=>D.uV i j c * x ((D.nG i j).fr c))->(D.nG i j).row k x r=D.row k x r:=fun r d a=>by
  have e:=aam b (fun c=>D.a r c) a;simp only [cE.row];rw [<- e];simp only [cE.nG,d,if_false];grind
 constructor
 ·intro h r d;have l:=h i hi;have n:x (D.fr j)=(D.nG i j).row k x i:=by rw [<- l];simp [cE.nG]
  have a:=Yp b f (.inr n)
  by_cases q:r=i
  ·subst q
   -- solve for the basic variable
   have e:=a;rw [qB b] at e;have o:(fun c=>if c=j then (0:Rat) else D.uV r j c * x ((D.nG r j).fr c))=fun c=>(-(1 / D.a r j)) * (if c=j then 0 else D.a r c * x (D.fr c)):=by
    funext c
    by_cases q:c=j
    ·simp only [q,if_true];grind
    ·simp only [cE.uV,cE.nG,q,if_false];grind
   rw [o,ia] at e;simp only [cE.uV,cE.nG,if_true,cE.pb] at e;unfold cE.row;rw [qB b];grind
  ·have g:=h r d;rw [key r q a] at g;rw [<- g];simp [cE.nG,q]
 ·intro h r d;have a:=Yp b f (.inl (h i hi))
  by_cases q:r=i
  ·subst q;simp only [cE.row,cE.nG,if_true];exact a
  ·rw [key r q a,<- h r d];simp [cE.nG,q]
theorem aqq {D:cE} {m k i j:Nat} (hi:i < m) (a:j < k) (b:D.a i j≠0) {x:Nat->Rat} (c:D.Yo m k x):(D.nG i j).gv k x=D.gv k x:=by
 have d:=Yp a b (.inl (c i hi));have e:=aam a D.g d;simp only [cE.gv];rw [<- e];simp only [cE.nG];grind
def rix (D:cE):Nat->Nat->Option Nat
 | 0,_=>none
 | m+1,u=>if D.k7 m=u then some m else rix D m u
theorem JJ {D:cE}:∀ {m i:Nat},(∀ i i',i < m->i' < m->D.k7 i=D.k7 i'->i=i')->i < m->D.rix m (D.k7 i)=some i
 | 0,i,_,hi=>ad
 | m+1,i,h,hi=>by
  rw [rix]
  by_cases e:D.k7 m=D.k7 i
  ·rw [if_pos e,h m i ad hi e]
  ·rw [if_neg e];exact JJ (fun i i' a b=>h i i' ad ad) (Nat.lt_of_le_of_ne ad fun q=>e (by rw [q]))
theorem Ff {D:cE} {u:Nat}:∀ {m:Nat},(∀ i,i < m->D.k7 i≠u)->D.rix m u=none
 | 0,_=>rfl
 | m+1,h=>by rw [rix,if_neg (h m ad)];exact Ff fun i hi=>h i ad
def ext (D:cE) (m k:Nat) (y:Nat->Rat) (u:Nat):Rat:=match D.rix m u with
 | some i=>D.row k y i
 | none=>y u
theorem Da {D:cE} {m k i:Nat} (h:D.WF m k) (hi:i < m) (y:Nat->Rat):D.ext m k y (D.k7 i)=D.row k y i:=by unfold ext;rw [JJ h.bi hi]
theorem DW {D:cE} {m k j:Nat} (h:D.WF m k) (a:j < k) (y:Nat->Rat):D.ext m k y (D.fr j)=y (D.fr j):=by
 unfold ext;rw [Ff fun i hi=>h.bf i j hi a]
theorem zg {D:cE} {m k:Nat} (h:D.WF m k) (y:Nat->Rat):D.Yo m k (D.ext m k y):=fun i hi=>by
 rw [Da h hi];unfold cE.row;congr 1;exact bc fun j a=>by rw [DW h a]
theorem TA {D:cE} {m k:Nat} (h:D.WF m k) (y:Nat->Rat):D.gv k (D.ext m k y)=D.gv k y:=by
 unfold cE.gv;congr 1;exact bc fun j a=>by rw [DW h a]
def one (u:Nat):Nat->Rat:=fun w=>if w=u then 1 else 0
def Cn:Nat->Rat:=fun _=>0
theorem Bm (D:cE) (k i:Nat):D.row k Cn i=D.b i:=by
 unfold row Cn;rw [bc (g:=fun _=>0) fun j _=>by grind,kL];grind
theorem row_one {D:cE} {m k j:Nat} (h:D.WF m k) (a:j < k) (i:Nat):D.row k (one (D.fr j)) i=D.b i+D.a i j:=by
 unfold row one;rw [mQ a _ fun c b d=>by rw [if_neg fun e=>d (h.fi _ _ b a e)];grind];rw [if_pos rfl];grind
theorem Yq (D:cE) (k:Nat):D.gv k Cn=D.v:=by
 unfold gv Cn;rw [bc (g:=fun _=>0) fun j _=>by grind,kL];grind
theorem acX {D:cE} {m k j:Nat} (h:D.WF m k) (a:j < k):D.gv k (one (D.fr j))=D.v+D.g j:=by
 unfold gv one;rw [mQ a _ fun c b d=>by rw [if_neg fun e=>d (h.fi _ _ b a e)];grind];rw [if_pos rfl];grind
structure LU (m k:Nat) (D D':cE):Prop where
 sol:∀ x,D.Yo m k x↔D'.Yo m k x
 gv:∀ x,D.Yo m k x->D.gv k x=D'.gv k x
theorem LU.refl (m k:Nat) (D:cE):LU m k D D:=⟨fun _=>Iff.rfl,fun _ _=>rfl⟩
theorem LU.symm {m k:Nat} {D D':cE} (h:LU m k D D'):LU m k D' D:=⟨fun x=>(h.sol x).symm,fun x a=>(h.gv x ((h.sol x).2 a)).symm⟩
theorem LU.trans {m k:Nat} {D D' a:cE} (h:LU m k D D') (h':LU m k D' a):LU m k D a :=
 ⟨fun x=>(h.sol x).trans (h'.sol x),fun x b=>(h.gv x b).trans (h'.gv x ((h.sol x).1 b))⟩
theorem LU.nG {m k i j:Nat} {D:cE} (hi:i < m) (a:j < k) (b:D.a i j≠0):LU m k D (D.nG i j) :=
 ⟨fun _=>(Yo.nG hi a b).symm,fun _ c=>(aqq hi a b c).symm⟩
def J1 (D:cE) (m u:Nat):Prop:=∃ i,i < m/\D.k7 i=u
theorem MW {D:cE} {m k:Nat} (h:D.WF m k) {u:Nat} (a:u < m+k) (b:¬ D.J1 m u):∃ j,j < k/\D.fr j=u:=(h.al u a).resolve_left b
theorem I2 {D:cE} {m k:Nat} {x y:Nat->Rat} (a:D.Yo m k x) (b:∀ j,j < k->x (D.fr j)=y (D.fr j)) {i:Nat} (hi:i < m):x (D.k7 i)=D.row k y i:=by
 rw [a i hi];unfold row;congr 1;exact bc fun j c=>by rw [b j c]
theorem uniq {D D':cE} {m k:Nat} (h:D.WF m k) (h':D'.WF m k) (e:LU m k D D') (hb:∀ u,D.J1 m u->D'.J1 m u) :
  (∀ i i',i < m->i' < m->D.k7 i=D'.k7 i'->D.b i=D'.b i')/\(∀ i j i' j',i < m->i' < m->j < k->j' < k->D.k7 i=D'.k7 i'->D.fr j=D'.fr j'->D.a i j=D'.a i' j') /\
   (∀ j j',j < k->j' < k->D.fr j=D'.fr j'->D.g j=D'.g j')/\D.v=D'.v:=by
 have o:∀ j',j' < k->∃ j,j < k/\D.fr j=D'.fr j':=fun j' a=>MW h (h'.fl j' a) fun q=>by
  obtain ⟨i,hi,e⟩:=hb _ q;exact h'.bf i j' hi a e
 have key:∀ y,(∀ i i',i < m->i' < m->D.k7 i=D'.k7 i'->D.row k y i=D'.row k y i')/\D.gv k y=D'.gv k y:=fun y=>by
  have g:=zg h y;have p:=(e.sol _).1 g;have d:∀ j',j' < k->D.ext m k y (D'.fr j')=y (D'.fr j'):=fun j' a=>by
   obtain ⟨j,b,q⟩:=o j' a;rw [<- q,DW h b]
  refine ⟨fun i i' hi c q=>?_,?_⟩
  ·rw [<- Da h hi y,q];exact I2 p d c
  ·rw [<- TA h y,e.gv _ g];unfold gv;congr 1;exact bc fun j b=>by rw [d j b]
 have f:∀ i i',i < m->i' < m->D.k7 i=D'.k7 i'->D.b i=D'.b i':=fun i i' hi c q=>by
  have:=(key Cn).1 i i' hi c q;rwa [Bm,Bm] at this
 have l:D.v=D'.v:=by have:=(key Cn).2;rwa [Yq,Yq] at this
 refine ⟨f,fun i j i' j' hi c b a n r=>?_,fun j j' b a q=>?_,l⟩
 ·have:=(key (one (D.fr j))).1 i i' hi c n;rw [row_one h b,r,row_one h' a,f i i' hi c n] at this;grind
 ·have:=(key (one (D.fr j))).2;rw [acX h b,q,acX h' a,l] at this;grind
end cE
namespace cE
structure Qz (D:cE) (k j:Nat):Prop where
 lt:j < k
 pos:0 < D.g j
 min:∀ j',j' < k->0 < D.g j'->D.fr j<=D.fr j'
def ratio (D:cE) (j i:Nat):Rat:=D.b i / -(D.a i j)
structure MY (D:cE) (m j i:Nat):Prop where
 lt:i < m
 neg:D.a i j < 0
 min:∀ i',i' < m->D.a i' j < 0->D.ratio j i < D.ratio j i'\/D.ratio j i=D.ratio j i'/\D.k7 i<=D.k7 i'
def Fea (D:cE) (m:Nat):Prop:=∀ i,i < m->0<=D.b i
def Step (m k:Nat) (D D':cE):Prop:=∃ j i,D.Qz k j/\D.MY m j i/\D'=D.nG i j
theorem acY {x y a:Rat} (b:0 < a) (h:x<=y / a):x * a<=y:=by
 have e:y / a * a=y:=by grind
 have:=Rat.mul_le_mul_of_nonneg_right h (Rat.le_of_lt b);rwa [e] at this
theorem TC {x a:Rat} (b:0 < a) (h:0<=x):0<=x / a:=by
 rw [Rat.div_def];exact Rat.mul_nonneg h (Rat.le_of_lt (Rat.inv_pos.2 b))
theorem aao (D:cE) (i j:Nat):D.pb i j=D.ratio j i:=by
 unfold pb ratio
 by_cases h:D.a i j=0
 ·rw [h];simp [Rat.div_def]
 ·have:-(D.a i j)≠0:=by grind
  grind
theorem Fea.ratio {D:cE} {m i j:Nat} (h:D.Fea m) (hi:i < m) (a:D.a i j < 0):0<=D.ratio j i:=TC (by grind) (h i hi)
theorem MY.le {D:cE} {m j i r:Nat} (h:D.MY m j i) (b:r < m) (c:D.a r j < 0):D.ratio j i<=D.ratio j r:=by
 rcases h.min r b c with a | ⟨a,_⟩
 ·exact Rat.le_of_lt a
 ·rw [a];exact Rat.le_refl
theorem Fea.nG {D:cE} {m i j:Nat} (h:D.Fea m) (b:D.MY m j i):(D.nG i j).Fea m:=fun r c=>by
 have d:=h.ratio b.lt b.neg;simp only [cE.nG,aao];split
 ·exact d
 ·by_cases e:D.a r j < 0
  ·have f:=acY (a:=-(D.a r j)) (by grind) (b.le c e);have:=h r c;grind
  ·have f:=Rat.mul_nonneg (Rat.not_lt.1 e) d;have:=h r c;grind
theorem Yr {D:cE} {m k i j u:Nat} (h:D.WF m k) (hi:i < m):(D.nG i j).J1 m u↔(D.J1 m u/\u≠D.k7 i)\/u=D.fr j:=by
 constructor
 ·rintro ⟨r,a,e⟩;simp only [cE.nG] at e;split at e
  ·exact .inr e.symm
  ·rename_i b;exact .inl ⟨⟨r,a,e⟩,fun q=>b (h.bi _ _ a hi (e.trans q))⟩
 ·rintro (⟨⟨r,a,e⟩,b⟩ | e)
  ·exact ⟨r,a,by simp only [cE.nG];rw [if_neg fun q=>b (by rw [<- e,q])];exact e⟩
  ·exact ⟨i,hi,by simp only [cE.nG,if_pos];exact e.symm⟩
theorem Ys:∀ (M:Nat) (f:Nat->Nat),(∀ i,f i < M)->∃ i j,i < j/\f i=f j
 | 0,f,h=>absurd (h 0) (iq _)
 | M+1,f,h=>by
  by_cases a:∃ N,∀ i,N<=i->f i≠M
  ·obtain ⟨N,d⟩:=a;obtain ⟨i,j,b,c⟩:=Ys M (fun i=>f (i+N)) fun i=>by
    have:=h (i+N);have:=d (i+N) ad;omega
   exact ⟨i+N,j+N,ad,c⟩
  ·have a:∀ N,∃ i,N<=i/\f i=M:=fun N=>qF fun q=>a ⟨N,fun i hi e=>q ⟨i,hi,e⟩⟩;obtain ⟨i,_,b⟩:=a 0;obtain ⟨j,c,g⟩:=a (i+1);exact ⟨i,j,ad,b.trans g.symm⟩
open Classical in
noncomputable def enc (p:Nat->Prop):Nat->Nat
 | 0=>0
 | n+1=>2 * enc p n+if p n then 1 else 0
theorem TD (p:Nat->Prop):∀ n,enc p n < 2 ^ n
 | 0=>by simp [enc]
 | n+1=>by
  have:=TD p n;rw [enc,Nat.pow_succ];split<;>omega
theorem JK {p q:Nat->Prop}:∀ {n:Nat},enc p n=enc q n->∀ u,u < n->(p u↔q u)
 | 0,_,u,a=>ad
 | n+1,h,u,a=>by
  rw [enc,enc] at h
  by_cases e:u=n
  ·subst e
   by_cases b:p u<;>by_cases c:q u<;>simp only [b,c,if_true,if_false] at h ⊢<;>omega
  ·refine JK (n:=n) ?_ u ad;split at h<;>split at h<;>omega
theorem akc {f:Nat->Nat} {a:Nat}:∀ n,∃ x,a<=x/\x<=a+n/\∀ y,a<=y->y<=a+n->f y<=f x
 | 0=>⟨a,aH _,aH _,fun y c g=>by rw [show y=a by omega];exact aH _⟩
 | n+1=>by
  obtain ⟨x,c,g,d⟩:=akc (f:=f) (a:=a) n
  by_cases h:f x<=f (a+(n+1))
  ·refine ⟨a+(n+1),ad,aH _,fun y b i=>?_⟩
   by_cases e:y=a+(n+1)
   ·rw [e];exact aH _
   ·exact gf (d y b ad) h
  ·refine ⟨x,c,ad,fun y b i=>?_⟩
   by_cases e:y=a+(n+1)
   ·rw [e];omega
   ·exact d y b ad
theorem MZ:∀ {n:Nat} {f:Nat->Rat},0 < aV n f->∃ j,j < n/\0 < f j
 | 0,f,h=>by simp only [aV] at h;exact absurd h ay
 | n+1,f,h=>by
  by_cases a:0 < f n
  ·exact ⟨n,ad,a⟩
  ·rw [aV] at h;obtain ⟨j,c,b⟩:=MZ (n:=n) (f:=f) (by grind);exact ⟨j,ad,b⟩
theorem acZ {m k:Nat} {s:Nat->cE} (hw:(s 0).WF m k) (hf:(s 0).Fea m) (hs:∀ n,Step m k (s n) (s (n+1))):False:=by
 obtain ⟨J,hJ⟩:=Classical.axiomOfChoice hs;obtain ⟨I,st⟩:=Classical.axiomOfChoice hJ;clear hJ hs;have h0:∀ n,(s n).a (I n) (J n)≠0:=fun n=>by have:=(st n).2.1.neg;grind
 have g:∀ n,(s n).WF m k:=fun n=>by
  induction n with
  | zero=>exact hw
  | succ n l=>rw [(st n).2.2];exact l.nG (st n).2.1.lt (st n).1.lt
 have hfe:∀ n,(s n).Fea m:=fun n=>by
  induction n with
  | zero=>exact hf
  | succ n l=>rw [(st n).2.2];exact l.nG (st n).2.1
 have he:∀ n,LU m k (s 0) (s n):=fun n=>by
  induction n with
  | zero=>exact .refl _ _ _
  | succ n l=>rw [(st n).2.2];exact l.trans (.nG (st n).2.1.lt (st n).1.lt (h0 n))
 have D:∀ a b,LU m k (s a) (s b):=fun a b=>(he a).symm.trans (he b);have hB:∀ n u,(s (n+1)).J1 m u↔((s n).J1 m u/\u≠(s n).k7 (I n))\/u=(s n).fr (J n):=fun n u=>by
  rw [(st n).2.2];exact Yr (g n) (st n).2.1.lt
 have N:∀ n j,j < k->¬ (s n).J1 m ((s n).fr j):=fun n j w ⟨i,hi,e⟩=>(g n).bf i j hi w e
 -- a basis comes again
 obtain ⟨A,B,hAB,O⟩:=Ys (2 ^ (m+k)) (fun n=>enc (fun u=>(s n).J1 m u) (m+k)) fun n=>TD _ _;have P:∀ u,(s A).J1 m u->(s B).J1 m u:=fun u Q=>by
  obtain ⟨i,hi,e⟩:=id Q;exact (JK O u (e ▸ (g A).bl i hi)).1 Q
 have av7:∀ u,(s B).J1 m u->(s A).J1 m u:=fun u Q=>by
  obtain ⟨i,hi,e⟩:=id Q;exact (JK O u (e ▸ (g B).bl i hi)).2 Q
 have hv:(s A).v=(s B).v:=(uniq (g A) (g B) (D A B) P).2.2.2;have R:∀ n,0<=(s n).ratio (J n) (I n):=fun n=>(hfe n).ratio (st n).2.1.lt (st n).2.1.neg;have S:∀ n,(s (n+1)).v=(s n).v+(s n).g (J n) * (s n).ratio (J n) (I n):=fun n=>by rw [(st n).2.2,<- aao];rfl
 have asX:∀ n,(s n).v<=(s (n+1)).v:=fun n=>by
  have:=Rat.mul_nonneg (Rat.le_of_lt (st n).1.pos) (R n);have:=S n;grind
 have T:∀ a d,(s a).v<=(s (a+d)).v:=fun a d=>by
  induction d with
  | zero=>exact Rat.le_refl
  | succ d l=>exact Rat.le_trans l (asX _)
 have U:∀ n,A<=n->n < B->(s n).ratio (J n) (I n)=0:=fun n v o=>by
  have G:=T A (n - A);have H:=T (n+1) (B - (n+1));rw [show A+(n - A)=n by omega] at G;rw [show n+1+(B - (n+1))=B by omega] at H;have e3:=S n;have e4:=R n;have e5:=(st n).1.pos;have e6:(s n).g (J n) * (s n).ratio (J n) (I n)=0:=by
   have:=Rat.mul_nonneg (Rat.le_of_lt e5) e4;grind
  rcases Rat.mul_eq_zero.1 e6 with h | h
  ·rw [h] at e5;exact absurd e5 ay
  ·exact h
 have hbi:∀ n,A<=n->n < B->(s n).b (I n)=0:=fun n v o=>by
  have e:=U n v o;have hn:=(st n).2.1.neg;unfold ratio at e;have:(s n).b (I n) / -((s n).a (I n) (J n)) * -((s n).a (I n) (J n))=(s n).b (I n):=by grind
  rw [e] at this;grind
 -- one point for all
 let V:=(s A).ext m k Cn
 have W:∀ n,(s n).Yo m k V:=fun n=>((D A n).sol _).1 (zg (g A) Cn);have E:∀ d,A+d<=B->∀ j,j < k->V ((s (A+d)).fr j)=0:=fun d=>by
  induction d with
  | zero=>intro _ j w;exact DW (g A) w Cn
  | succ d l =>
   intro hd j w;have l:=l ad;show V ((s (A+d+1)).fr j)=0;rw [(st (A+d)).2.2];simp only [cE.nG];split
   ·rw [I2 (y:=Cn) (W (A+d)) l (st (A+d)).2.1.lt,Bm];exact hbi _ ad ad
   ·exact l j w
 have E:∀ n,A<=n->n<=B->∀ j,j < k->V ((s n).fr j)=0:=fun n v o=>by
  have:=E (n - A) ad;rwa [show A+(n - A)=n by omega] at this
 have hxb:∀ n,A<=n->n<=B->∀ i,i < m->(s n).b i=V ((s n).k7 i):=fun n v o i hi=>by
  rw [I2 (y:=Cn) (W n) (E n v o) hi,Bm]
 -- what stays out, what stays in
 have out:∀ a d u,¬ (s a).J1 m u->(∀ n,a<=n->n < a+d->(s n).fr (J n)≠u)->¬ (s (a+d)).J1 m u:=fun a d u v=>by
  induction d with
  | zero=>intro _;exact v
  | succ d l =>
   intro o h3;rcases (hB (a+d) u).1 h3 with ⟨X,_⟩ | X
   ·exact l (fun n x F=>o n x ad) X
   ·exact o (a+d) ad ad X.symm
 have inn:∀ a d u,(s a).J1 m u->(∀ n,a<=n->n < a+d->(s n).k7 (I n)≠u)->(s (a+d)).J1 m u:=fun a d u v=>by
  induction d with
  | zero=>intro _;exact v
  | succ d l =>
   intro o;exact (hB (a+d) u).2 (.inl ⟨l (fun n x F=>o n x ad),fun q=>o (a+d) ad ad q.symm⟩)
 -- the greatest one that comes in
 obtain ⟨q,Q7,dP,Y⟩:=akc (f:=fun n=>(s n).fr (J n)) (a:=A) (B - A - 1);have dP:q < B:=ad;have Y:∀ n,A<=n->n < B->(s n).fr (J n)<=(s q).fr (J q):=fun n v o=>Y n v ad;generalize ht:(s q).fr (J q)=t at Y;have htq:¬ (s q).J1 m t:=ht ▸ N q _ (st q).1.lt;have enters:∀ u p,A<=p->p < B->(s p).J1 m u->¬ (s q).J1 m u->∃ n,A<=n/\n < B/\(s n).fr (J n)=u:=fun u p v o h3 X=>qF fun C=>by
  have C:∀ n,A<=n->n < B->(s n).fr (J n)≠u:=fun n x F e=>C ⟨n,x,F,e⟩;have G:=out q (B - q) u X fun n x F=>C n ad ad;rw [show q+(B - q)=B by omega] at G;have H:=out A (p - A) u (fun h=>G (P u h)) fun n x F=>C n ad ad;rw [show A+(p - A)=p by omega] at H;exact H h3
 obtain ⟨p,Cr,Fl,K⟩:∃ p,A<=p/\p < B/\(s p).k7 (I p)=t:=qF fun C=>by
  have C:∀ n,A<=n->n < B->(s n).k7 (I n)≠t:=fun n x F e=>C ⟨n,x,F,e⟩;have e0:(s (q+1)).J1 m t:=(hB q t).2 (.inr ht.symm);have G:=inn (q+1) (B - (q+1)) t e0 fun n x F=>C n ad ad;rw [show q+1+(B - (q+1))=B by omega] at G;have H:=inn A (q - A) t (av7 t G) fun n x F=>C n ad ad;rw [show A+(q - A)=q by omega] at H;exact htq H
 -- the direction of the step in which it goes out
 have L:=(st p).1.lt;have y1:=zg (g p) (one ((s p).fr (J p)));have y0:=zg (g p) Cn;have g1:(s p).v+(s p).g (J p)=(s q).gv k ((s p).ext m k (one ((s p).fr (J p)))):=by
  rw [<- (D p q).gv _ y1,TA (g p),acX (g p) L]
 have g0:(s p).v=(s q).gv k ((s p).ext m k Cn):=by rw [<- (D p q).gv _ y0,TA (g p),Yq]
 let d:Nat->Rat:=fun u=>(s p).ext m k (one ((s p).fr (J p))) u - (s p).ext m k Cn u
 have hd:(s p).g (J p)=aV k fun j=>(s q).g j * d ((s q).fr j):=by
  have e:aV k (fun j=>(s q).g j * (s p).ext m k (one ((s p).fr (J p))) ((s q).fr j))=aV k (fun j=>(s q).g j * d ((s q).fr j)+(s q).g j * (s p).ext m k Cn ((s q).fr j)):=bc fun j _=>by
   show _=_ * (_ - _)+_;grind
  rw [mP] at e;unfold gv at g1 g0;rw [e] at g1;rw [g0] at g1;grind
 obtain ⟨j,w,z⟩:=MZ (by rw [<- hd];exact (st p).1.pos);generalize Z:(s q).fr j=r at z;have hrq:¬ (s q).J1 m r:=Z ▸ N q j w;have hru:r < m+k:=Z ▸ (g q).fl j w
 -- Bland's choice at q
 have blq:t<=r\/(s q).g j<=0:=by
  by_cases h:0 < (s q).g j
  ·exact .inl (by rw [<- ht,<- Z];exact (st q).1.min j w h)
  ·exact .inr (Rat.not_lt.1 h)
 have av9:∀ i,i < m->(s p).k7 i=t->(s p).a i (J p) < 0:=fun i hi e=>by
  rw [(g p).bi i (I p) hi (st p).2.1.lt (e.trans K.symm)];exact (st p).2.1.neg
 rcases (g p).al r hru with ⟨i,hi,e⟩ | ⟨c,hc,e⟩
 ·have M:d r=(s p).a i (J p):=by
   show (s p).ext m k _ r - (s p).ext m k Cn r=_;rw [<- e,Da (g p) hi,Da (g p) hi,row_one (g p) L,Bm];grind
  rw [M] at z;obtain ⟨n,n1,n2,n3⟩:=enters r p Cr Fl ⟨i,hi,e⟩ hrq;have hrt:r<=t:=n3 ▸ Y n n1 n2
  by_cases asZ:r=t
  ·have v:=av9 i hi (e.trans asZ);have o:0 < (s q).g j:=by
    rw [(g q).fi j (J q) w (st q).1.lt (Z.trans (asZ.trans ht.symm))];exact (st q).1.pos
   have:=Rat.mul_pos o (show 0 < -((s p).a i (J p)) by grind);grind
  ·have hg:(s q).g j<=0:=blq.resolve_left ad;have ha:(s p).a i (J p) < 0:=Rat.not_le.1 fun h=>by
    have:=Rat.mul_nonneg (show 0<=-((s q).g j) by grind) h;grind
   have hbr:(s p).b i=0:=by
    rw [hxb p Cr ad i hi,e,<- Z];exact E q Q7 ad j w
   have hz:(s p).ratio (J p) i=0:=by unfold ratio;rw [hbr];grind
   rcases (st p).2.1.min i hi ha with h | ⟨_,h⟩
   ·rw [U p Cr Fl,hz] at h;exact absurd h ay
   ·rw [K,e] at h;omega
 ·have M:d r=one ((s p).fr (J p)) r:=by
   show (s p).ext m k _ r - (s p).ext m k Cn r=_;rw [<- e,DW (g p) hc,DW (g p) hc];unfold Cn;grind
  rw [M] at z;unfold one at z;split at z
  ·rename_i hrs;have hle:r<=t:=hrs ▸ Y p Cr Fl;have C:r≠t:=fun h=>(g p).bf (I p) (J p) (st p).2.1.lt L (by rw [K,<- hrs,h]);have hg:(s q).g j<=0:=blq.resolve_left ad;grind
  ·grind
theorem ake {m k:Nat} {D:cE} (hw:D.WF m k) (d:D.Fea m):Acc (fun a b=>Step m k b a) D:=qF fun e=>by
 have c:∀ x:{ x:cE // ¬ Acc (fun a b=>Step m k b a) x },∃ y:{ x:cE // ¬ Acc (fun a b=>Step m k b a) x },Step m k x.1 y.1:=fun x=>qF fun q=>x.2 (.intro _ fun y f=>qF fun g=>q ⟨⟨y,g⟩,f⟩)
 let s:Nat->{ x:cE // ¬ Acc (fun a b=>Step m k b a) x }:=fun n=>Nat.rec ⟨D,e⟩ (fun _ x=>Classical.choose (c x)) n
 exact acZ (s:=fun n=>(s n).1) hw d fun n=>Classical.choose_spec (c (s n))
end cE
namespace cE
structure Ng (D:cE) (m k s:Nat):Prop where
 a:∀ i j,i < m->j < k->RB (D.a i j) s
 b:∀ i,i < m->RB (D.b i) s
 g:∀ j,j < k->RB (D.g j) s
 v:RB D.v s
theorem RB1:RB 1 1:=RB.int (z:=1) (ZB.small ay) ay
theorem Ng.uV {D:cE} {m k s i j:Nat} (h:D.Ng m k s) (e:1<=s) (hi:i < m) (a:j < k) (b:D.a i j≠0) {c:Nat} (d:c < k):RB (D.uV i j c) (2 * s):=by
 unfold cE.uV;split
 ·exact (RB1.div (h.a i j hi a) b).le ad
 ·exact ((h.a i c hi d).div (h.a i j hi a) b).neg.le ad
theorem Ng.nG {D:cE} {m k s i j:Nat} (h:D.Ng m k s) (g:1<=s) (hi:i < m) (a:j < k) (e:D.a i j≠0):(D.nG i j).Ng m k (5 * s):=by
 have f:RB (D.pb i j) (2 * s):=((h.b i hi).div (h.a i j hi a) e).neg.le ad;refine ⟨fun r c b d=>?_,fun r b=>?_,fun c d=>?_,((h.v).add ((h.g j a).mul f)).le ad⟩
 ·have hw:=h.uV g hi a e d;simp only [cE.nG];split
  ·exact hw.le ad
  ·split
   ·exact ((h.a r j b a).mul hw).le ad
   ·exact ((h.a r c b d).add ((h.a r j b a).mul hw)).le ad
 ·simp only [cE.nG];split
  ·exact f.le ad
  ·exact ((h.b r b).add ((h.a r j b a).mul f)).le ad
 ·have hw:=h.uV g hi a e d;simp only [cE.nG];split
  ·exact ((h.g j a).mul hw).le ad
  ·exact ((h.g c d).add ((h.g j a).mul hw)).le ad
open Classical in
noncomputable def ua (p:Nat->Prop):Nat->Nat
 | 0=>0
 | n+1=>ua p n+if p n then 1 else 0
theorem aey {p:Nat->Prop}:∀ n,ua p n<=n
 | 0=>aH _
 | n+1=>by have:=aey (p:=p) n;rw [ua];split<;>omega
theorem I3 {p q:Nat->Prop}:∀ {n:Nat},(∀ i,i < n->q i->p i)->ua q n<=ua p n
 | 0,_=>aH _
 | n+1,h=>by
  have:=I3 (p:=p) (q:=q) (n:=n) fun i hi=>h i ad;have b:=h n ad;rw [ua,ua]
  by_cases a:q n
  ·simp only [a,b a,if_true];omega
  ·simp only [a,if_false];omega
theorem akf {p q:Nat->Prop}:∀ {n i:Nat},(∀ i,i < n->q i->p i)->i < n->p i->¬ q i->ua q n < ua p n
 | 0,i,_,hi,_,_=>ad
 | n+1,i,h,hi,b,c=>by
  have d:=h n ad;rw [ua,ua]
  by_cases e:i=n
  ·subst e;have:=I3 (p:=p) (q:=q) (n:=i) fun i hi=>h i ad;simp only [b,c,if_true,if_false];omega
  ·have:=akf (p:=p) (q:=q) (n:=n) (i:=i) (fun i hi=>h i ad) ad b c
   by_cases a:q n
   ·simp only [a,d a,if_true];omega
   ·simp only [a,if_false];omega
theorem aap {p:Nat->Prop}:∀ {n:Nat},ua p n=0->∀ i,i < n->¬ p i
 | 0,_,i,hi=>ad
 | n+1,h,i,hi=>by
  rw [ua] at h
  by_cases e:i=n
  ·subst e;intro a;simp only [a,if_true] at h;omega
  ·exact aap (n:=n) ad i ad
def dir (D:cE) (m k j:Nat) (u:Nat):Rat:=D.ext m k (one (D.fr j)) u - D.ext m k Cn u
theorem anm {D:cE} {m k i j:Nat} (h:D.WF m k) (hi:i < m) (a:j < k):D.dir m k j (D.k7 i)=D.a i j:=by
 unfold dir;rw [Da h hi,Da h hi,row_one h a,Bm];grind
theorem Yt {D:cE} {m k c j:Nat} (h:D.WF m k) (a:c < k) (b:j < k):D.dir m k j (D.fr c)=if c=j then 1 else 0:=by
 unfold dir;rw [DW h a,DW h a];unfold one Cn
 by_cases e:c=j
 ·subst e;rw [if_pos rfl,if_pos rfl];grind
 ·rw [if_neg e,if_neg fun q=>e (h.fi _ _ a b q)];grind
theorem aaq {D D':cE} {m k j:Nat} (h':D'.WF m k) (e:LU m k D' D) (a:∀ c,c < k->D'.dir m k j (D.fr c)=0) {i:Nat} (hi:i < m):D'.dir m k j (D.k7 i)=0:=by
 have b:=(e.sol _).1 (zg h' (one (D'.fr j)));have d:=(e.sol _).1 (zg h' Cn);unfold dir;rw [I2 b (y:=D'.ext m k Cn) (fun c f=>by have:=a c f;unfold dir at this;grind) hi,I2 d (y:=D'.ext m k Cn) (fun _ _=>rfl) hi];grind
theorem V3 {D D':cE} {m k:Nat} (h:D.WF m k) (h':D'.WF m k) (e:LU m k D D') (hb:∀ u,D.J1 m u->D'.J1 m u) {j:Nat} (a:j < k):∃ j',j' < k/\D'.fr j'=D.fr j:=by
 refine MW h' (h.fl j a) fun ⟨i',f,q⟩=>?_;have:=aaq (D:=D') (D':=D) (j:=j) h e (fun c b=>?_) f
 ·rw [q,Yt h a a,if_pos rfl] at this;exact absurd this ay
 ·obtain ⟨s,l,g⟩:=MW h (h'.fl c b) fun ⟨i,hi,n⟩=>by
   obtain ⟨o,d,p⟩:=hb _ ⟨i,hi,n⟩;exact h'.bf o c d b p
  rw [<- g,Yt h l a,if_neg fun r=>h'.bf i' c f b (by rw [q,<- g,r])]
theorem aar {m k:Nat} {D:cE} (h:D.WF m k):∀ (n:Nat) {D':cE} {s:Nat},D'.WF m k->LU m k D' D->D'.Ng m k s->1<=s->ua (fun i=>¬ D'.J1 m (D.k7 i)) m<=n->D.Ng m k (5 ^ n * s)
 | n,D',s,h',e,g,C,t=>by
  by_cases B:ua (fun i=>¬ D'.J1 m (D.k7 i)) m=0
  ·have hb:∀ u,D.J1 m u->D'.J1 m u:=fun u ⟨i,hi,q⟩=>q ▸ Classical.not_not.1 (aap B i hi);obtain ⟨E,F,G,H⟩:=uniq h h' e.symm hb;have v:s<=5 ^ n * s:=Nat.le_mul_of_pos_left _ (Nat.pow_pos ay);refine ⟨fun i j hi l=>?_,fun i hi=>?_,fun j l=>?_,by rw [H];exact g.v.le v⟩
   ·obtain ⟨i',f,q⟩:=hb _ ⟨i,hi,rfl⟩;obtain ⟨j',a,b⟩:=V3 h h' e.symm hb l;rw [F i j i' j' hi f l a q.symm b.symm];exact (g.a _ _ f a).le v
   ·obtain ⟨i',f,q⟩:=hb _ ⟨i,hi,rfl⟩;rw [E i i' hi f q.symm];exact (g.b _ f).le v
   ·obtain ⟨j',a,b⟩:=V3 h h' e.symm hb l;rw [G j j' l a b.symm];exact (g.g _ a).le v
  ·obtain ⟨i,hi,o⟩:∃ i,i < m/\¬ D'.J1 m (D.k7 i):=qF fun q=>B (by
    have:ua (fun i=>¬ D'.J1 m (D.k7 i)) m<=ua (fun _=>False) m:=I3 fun i hi p=>q ⟨i,hi,p⟩;have w:∀ n,ua (fun _=>False) n=0:=fun n=>by
     induction n with
     | zero=>rfl
     | succ n I=>rw [ua,I];simp
    rw [w] at this;omega)
   obtain ⟨j',a,x⟩:=MW h' (h.bl i hi) o;obtain ⟨r,d,w,y⟩:∃ r,r < m/\D'.a r j'≠0/\¬ D.J1 m (D'.k7 r):=qF fun q=>by
    have:=aaq (D:=D) (D':=D') (j:=j') h' e (fun c t=>?_) hi
    ·rw [<- x,Yt h' a a,if_pos rfl] at this;exact absurd this ay
    ·rcases h'.al _ (h.fl c t) with ⟨r,d,b⟩ | ⟨M,J,b⟩
     ·rw [<- b,anm h' d a];refine qF fun z=>q ⟨r,d,z,fun ⟨K,A,L⟩=>h.bf K c A t (L.trans b)⟩
     ·rw [<- b,Yt h' J a,if_neg fun z=>h.bf i c hi t (by rw [<- x,<- b,z])]
   have N:ua (fun i=>¬ (D'.nG r j').J1 m (D.k7 i)) m < ua (fun i=>¬ D'.J1 m (D.k7 i)) m:=by
    refine akf (i:=i) (fun i' f p hq=>p ((Yr h' d).2 (.inl ⟨hq,fun q=>y ⟨i',f,q⟩⟩))) hi o fun p=>p ((Yr h' d).2 (.inr x.symm))
   obtain ⟨n,rfl⟩:=bb n;have:=aar h n (h'.nG d a) ((LU.nG d a w).symm.trans e) (g.nG C d a w) ad ad;rwa [<- Nat.mul_assoc,<- Nat.pow_succ] at this
theorem size {m k s:Nat} {D D':cE} (h:D.WF m k) (h':D'.WF m k) (e:LU m k D' D) (a:D'.Ng m k s) (b:1<=s):D.Ng m k (5 ^ m * s):=aar h m h' e a b (aey m)
theorem aez {p:Nat->Prop} (a:Nat):∀ n,ua p n<=ua (fun i=>p i/\i≠a) n+1
 | 0=>by rw [ua];omega
 | n+1=>by
  have e:=aez (p:=p) a n;rw [ua,ua]
  by_cases b:p n
  ·by_cases c:n=a
   ·have:ua p n<=ua (fun i=>p i/\i≠a) n:=I3 fun i hi d=>⟨d,ad⟩;rw [if_pos b,if_neg fun q=>q.2 c];omega
   ·rw [if_pos b,if_pos (⟨b,c⟩:p n/\n≠a)];omega
  ·rw [if_neg b,if_neg fun q=>b q.1];omega
theorem Yu:∀ (k:Nat) {p:Nat->Prop} {n:Nat} (f:Nat->Nat),(∀ i,i < n->p i->f i < k)->(∀ i i',i < n->i' < n->p i->p i'->f i=f i'->i=i')->ua p n<=k
 | 0,p,n,f,h,_=>by
  have:ua p n<=ua (fun _=>False) n:=I3 fun i hi g=>absurd (h i hi g) (iq _);have m:∀ n,ua (fun _=>False) n=0:=fun n=>by
   induction n with
   | zero=>rfl
   | succ n o=>rw [ua,o];simp
  rw [m] at this;exact this
 | k+1,p,n,f,h,hi=>by
  by_cases e:∃ i,i < n/\p i/\f i=k
  ·obtain ⟨l,r,s,t⟩:=e;have q:=Yu k (p:=fun i=>p i/\i≠l) (n:=n) f (fun i j ⟨g,u⟩=>by
    have:=h i j g;have v:f i≠k:=fun q=>u (hi i l j r g s (q.trans t.symm));omega) fun i i' a b c d=>hi i i' a b c.1 d.1
   have:=aez (p:=p) l n;omega
  ·have:=Yu k f (p:=p) (n:=n) (fun i j g=>by
    have:=h i j g;have v:f i≠k:=fun q=>e ⟨i,j,g,q⟩;omega) hi
   omega
end cE
namespace Sie
def dg (b N u:Nat):Nat:=N / b ^ u % b
theorem akg {b:Nat}:∀ (n:Nat) {N N':Nat},N < b ^ n->N' < b ^ n->(∀ u,u < n->dg b N u=dg b N' u)->N=N'
 | 0,N,N',h,h',_=>by rw [Nat.pow_zero] at h h';omega
 | n+1,N,N',h,h',e=>by
  rw [Nat.pow_succ'] at h h';have c:=akg n (N:=N / b) (N':=N' / b) (Nat.div_lt_of_lt_mul h) (Nat.div_lt_of_lt_mul h') fun u f=>by
   have:=e (u+1) ad;unfold dg at *
   rwa [Nat.pow_succ',<- Nat.div_div_eq_div_mul,<- Nat.div_div_eq_div_mul] at this
  have a:=e 0 ad;unfold dg at a;rw [Nat.pow_zero,Nat.div_one,Nat.div_one] at a;have d:=Nat.div_add_mod N b;have g:=Nat.div_add_mod N' b;rw [c,a] at d;omega
def enc (W:Nat):Nat->(Nat->Nat)->Nat
 | 0,_=>0
 | K+1,d=>d 0+W * enc W K fun c=>d (c+1)
theorem TD {W:Nat}:∀ (K:Nat) {d:Nat->Nat},(∀ c,c < K->d c < W)->enc W K d < W ^ K
 | 0,_,_=>by rw [enc,Nat.pow_zero];decide
 | K+1,d,h=>by
  have b:=h 0 ad;have a:=TD K (d:=fun c=>d (c+1)) fun c e=>h (c+1) ad;have:=Nat.mul_le_mul_left W (Nat.succ_le_of_lt a);rw [enc,Nat.pow_succ'];rw [Nat.mul_succ] at this;omega
theorem JK {W:Nat}:∀ (K:Nat) {d a:Nat->Nat},(∀ c,c < K->d c < W)->(∀ c,c < K->a c < W)->enc W K d=enc W K a->∀ c,c < K->d c=a c
 | 0,_,_,_,_,_,c,b=>ad
 | K+1,d,a,h,h',e,c,b=>by
  rw [enc,enc] at e;have g:=h 0 ad;have f:=h' 0 ad;have m1:=congrArg (· % W) e;simp only [Nat.add_mul_mod_self_left,Nat.mod_eq_of_lt g,Nat.mod_eq_of_lt f] at m1;have i:enc W K (fun c=>d (c+1))=enc W K (fun c=>a (c+1)):=Nat.eq_of_mul_eq_mul_left (show 0 < W by omega) ad;have j:=JK K (fun c b=>h (c+1) ad) (fun c b=>h' (c+1) ad) i;rcases c with _ | c
  ·exact m1
  ·exact j c ad
theorem Ys {N M:Nat} {f:Nat->Nat} (a:∀ i,i < N->f i < M) (h:M < N):∃ i j,i < N/\j < N/\i≠j/\f i=f j:=qF fun q=>by
 have b:∀ n,cE.ua (fun _=>True) n=n:=fun n=>by
  induction n with
  | zero=>rfl
  | succ n c=>rw [cE.ua,c,if_pos trivial]
 have:=cE.Yu M (p:=fun _=>True) (n:=N) f (fun i hi _=>a i hi) fun i j hi d _ _ e=>qF fun ne=>q ⟨i,j,hi,d,ne,e⟩;rw [b] at this;omega
def GD:Nat->(Nat->Int)->Int
 | 0,_=>0
 | n+1,f=>GD n f+f n
theorem aas (f g:Nat->Int):∀ n,GD n (fun u=>f u - g u)=GD n f - GD n g
 | 0=>rfl
 | n+1=>by rw [GD,GD,GD,aas f g n];omega
theorem TG {f g:Nat->Int}:∀ {n:Nat},(∀ u,u < n->f u=g u)->GD n f=GD n g
 | 0,_=>rfl
 | n+1,h=>by rw [GD,GD,TG fun u a=>h u ad,h n ad]
theorem aeA {f:Nat->Int} {T:Nat}:∀ {n:Nat},(∀ u,u < n->(f u).natAbs<=T)->(GD n f).natAbs<=n * T
 | 0,_=>by rw [GD];simp
 | n+1,h=>by
  have:=aeA (f:=f) (T:=T) (n:=n) fun u a=>h u ad;have:=h n ad;rw [GD,Nat.succ_mul];omega
theorem ann {K A:Nat} (l:1<=A) (e:Nat->Nat->Int) (he:∀ c u,c < K->u < K+1->(e c u).natAbs<=A) :
  ∃ z:Nat->Int,(∃ u,u < K+1/\z u≠0)/\(∀ u,(z u).natAbs<=(2 * (K+1) * A) ^ K)/\∀ c,c < K->GD (K+1) (fun u=>e c u * z u)=0:=by
 generalize m:(2 * (K+1) * A) ^ K=B;have b:∀ N u,dg (B+1) N u<=B:=fun N u=>Nat.le_of_lt_succ (Nat.mod_lt _ (Nat.succ_pos B));have h:∀ c N,c < K->(GD (K+1) fun u=>e c u * (dg (B+1) N u:Int)).natAbs<=(K+1) * (A * B):=fun c N a=>aeA fun u i=>by
  rw [Int.natAbs_mul];exact Nat.mul_le_mul (he c u a i) (b N u)
 let d:=fun N c=>((GD (K+1) fun u=>e c u * (dg (B+1) N u:Int))+((K+1) * (A * B):Nat)).toNat
 have j:∀ N c,c < K->d N c < 2 * (K+1) * A * B+1:=fun N c a=>by
  have:=h c N a;have v:2 * (K+1) * A * B=2 * ((K+1) * (A * B)):=by rw [Nat.mul_assoc,Nat.mul_assoc]
  simp only [d];omega
 have n:(2 * (K+1) * A * B+1) ^ K < (B+1) ^ (K+1):=by
  have k:2 * (K+1) * A * B+1<=2 * (K+1) * A * (B+1):=Nat.mul_succ (2 * (K+1) * A) B ▸ Nat.add_le_add_left (Nat.mul_le_mul (show 1<=2 * (K+1) by omega) l) _;refine Nat.lt_of_le_of_lt (Nat.pow_le_pow_left k K) ?_;rw [Nat.mul_pow,m,Nat.pow_succ'];exact Nat.mul_lt_mul_of_pos_right (Nat.lt_succ_self B) (Nat.pow_pos (Nat.succ_pos B))
 obtain ⟨N,N',k,o,p,r⟩:=Ys (N:=(B+1) ^ (K+1)) (f:=fun N=>enc (2 * (K+1) * A * B+1) K (d N)) (fun N _=>TD K (j N)) n;have s:=JK K (j N) (j N') r;refine ⟨fun u=>(dg (B+1) N u:Int) - dg (B+1) N' u,qF fun q=>p (akg (K+1) k o fun u i=>qF fun ne=>q ⟨u,i,by show (dg (B+1) N u:Int) - dg (B+1) N' u≠0;omega⟩),fun u=>by have:=b N u;have:=b N' u;show ((dg (B+1) N u:Int) - dg (B+1) N' u).natAbs<=B;omega,fun c a=>?_⟩;have t:=s c a;have w:=h c N a;have x:=h c N' a;rw [TG (g:=fun u=>e c u * (dg (B+1) N u:Int) - e c u * (dg (B+1) N' u:Int)) fun u _=>Int.mul_sub ..,aas];simp only [d] at t;omega
theorem aat (f:Nat->Int):∀ n,((GD n f:Int):Rat)=aV n fun u=>(f u:Rat)
 | 0=>rfl
 | n+1=>by rw [GD,aV,Rat.intCast_add,aat f n]
theorem aeB (q:Rat):q * (q.den:Rat)=q.num:=by
 have h:(q.den:Rat)≠0:=by have:=q.den_nz;exact_mod_cast this
 conv=>lhs;lhs;rw [<- Rat.num_divInt_den q]
 rw [Rat.divInt_eq_div];exact Rat.div_mul_cancel h
theorem clear {s:Nat} {E:Nat->Rat}:∀ {n:Nat},(∀ u,u < n->RB (E u) s)->∃ D:Nat,0 < D/\D<=65536 ^ (n * s)/\∀ u,u < n->∃ z:Int,E u * (D:Rat)=(z:Rat)/\z.natAbs<=65536 ^ ((n+1) * s)
 | 0,_=>⟨1,ay,by rw [Nat.zero_mul];decide,fun u b=>ad⟩
 | n+1,h=>by
  obtain ⟨D,g,c,i⟩:=clear (E:=E) (n:=n) fun u b=>h u ad;have d:=h n ad;have j:=Nat.le_of_lt (Hc.1 d.den);have hm:=Nat.le_of_lt (Hc.1 d.num);have f:65536 ^ (n * s) * 65536 ^ s=65536 ^ ((n+1) * s):=by rw [<- Nat.pow_add,Nat.succ_mul]
  have k:65536 ^ ((n+1) * s) * 65536 ^ s=65536 ^ ((n+1+1) * s):=by rw [<- Nat.pow_add,Nat.succ_mul (n+1)]
  have a:(E n).den<=65536 ^ s:=by simpa using j
  refine ⟨D * (E n).den,Nat.mul_pos g (E n).den_pos,f ▸ Nat.mul_le_mul c a,fun u b=>?_⟩
  by_cases e:u=n
  ·subst e;refine ⟨(E u).num * D,?_,?_⟩
   ·have q:=aeB (E u);rw [Rat.natCast_mul,Rat.intCast_mul,<- q,Rat.intCast_natCast];generalize ((E u).den:Rat)=y at *
    grind
   ·rw [Int.natAbs_mul];have:65536 ^ s * 65536 ^ (u * s)<=65536 ^ ((u+1+1) * s):=by rw [rK,f];exact Nat.pow_le_pow_right ay (dU s ad)
    exact gf (Nat.mul_le_mul hm c) this
  ·obtain ⟨z,l,m⟩:=i u ad;refine ⟨z * (E n).den,?_,?_⟩
   ·rw [Rat.natCast_mul,Rat.intCast_mul,<- l,Rat.intCast_natCast,Rat.mul_assoc]
   ·rw [Int.natAbs_mul];exact gf (Nat.mul_le_mul m a) (Nat.le_of_eq k)
abbrev SZ (K s:Nat):Nat:=K * ((K+2) * s+1)+1
theorem aqs {K s:Nat} {E:Nat->Nat->Rat} (x:K < 30000) (l:∀ c u,c < K->u < K+1->RB (E c u) s) :
  ∃ z:Nat->Rat,(∃ u,u < K+1/\z u≠0)/\(∀ u,RB (z u) (SZ K s))/\∀ c,c < K->aV (K+1) (fun u=>E c u * z u)=0:=by
 have m:∀ c,∃ D:Nat,c < K->0 < D/\∀ u,u < K+1->∃ z:Int,E c u * (D:Rat)=(z:Rat)/\z.natAbs<=65536 ^ ((K+2) * s):=fun c=>by
  by_cases h:c < K
  ·obtain ⟨D,o,_,d⟩:=clear (E:=E c) (n:=K+1) fun u g=>l c u h g;exact ⟨D,fun _=>⟨o,d⟩⟩
  ·exact ⟨0,fun q=>absurd q h⟩
 obtain ⟨D,k⟩:=Classical.axiomOfChoice m;have he:∀ p:Nat×Nat,∃ z:Int,p.1 < K->p.2 < K+1->E p.1 p.2 * (D p.1:Rat)=(z:Rat)/\z.natAbs<=65536 ^ ((K+2) * s):=fun p=>by
  by_cases h:p.1 < K/\p.2 < K+1
  ·obtain ⟨z,q⟩:=(k p.1 h.1).2 p.2 h.2;exact ⟨z,fun _ _=>q⟩
  ·exact ⟨0,fun a b=>absurd ⟨a,b⟩ h⟩
 obtain ⟨e,he⟩:=Classical.axiomOfChoice he;obtain ⟨z,z1,r,t⟩:=ann (K:=K) (A:=65536 ^ ((K+2) * s)) (Nat.pow_pos ay) (fun c u=>e (c,u)) fun c u i d=>(he (c,u) i d).2;refine ⟨fun u=>(z u:Rat),?_,fun u=>RB.int (Hc.2 ?_) (Nat.le_add_left 1 (K * ((K+2) * s+1))),fun c f=>?_⟩
 ·obtain ⟨u,g,q⟩:=z1;exact ⟨u,g,fun j=>q (by have j:((z u:Int):Rat)=0:=j;exact_mod_cast j)⟩
 ·have i:2 * (K+1) * 65536 ^ ((K+2) * s)<=65536 ^ ((K+2) * s+1):=by
   rw [Nat.pow_succ',rK 65536];rw [rK _ 65536];exact dU _ ad
  have d:=Nat.pow_le_pow_left i K;rw [<- Nat.pow_mul,rK _ K] at d;refine Nat.lt_of_le_of_lt (gf (r u) d) (Nat.pow_lt_pow_right ay (Nat.lt_succ_self _))
 ·have i:=t c f;have d:=aat (fun u=>e (c,u) * z u) (K+1);rw [i] at d;have v:aV (K+1) (fun u=>((e (c,u) * z u:Int):Rat))=(D c:Rat) * aV (K+1) fun u=>E c u * (z u:Rat):=by
   rw [<- ia];exact bc fun u g=>by rw [Rat.intCast_mul,<- (he (c,u) f g).1];grind
  rw [v] at d;have w:(D c:Rat)≠0:=fun q=>by
   have:=(k c f).1;have:D c=0:=by exact_mod_cast q
   omega
  exact (Rat.mul_eq_zero.1 d.symm).resolve_left w
end Sie
namespace cE
open Sie
variable {D D':cE} {m k s:Nat}
def co (D:cE) (m k u c:Nat):Rat:=match D.rix m u with
 | some i=>if c < k then D.a i c else D.b i
 | none=>if c < k/\D.fr c=u then 1 else 0
theorem akh (h:D.WF m k) (a:D.Ng m k s) (b:1<=s) (u c:Nat) (d:u < m+k) (_:c < k+1):RB (D.co m k u c) s:=by
 unfold co;rcases h.al u d with ⟨i,hi,rfl⟩ | ⟨j,e,rfl⟩
 ·rw [JJ h.bi hi];show RB (if c < k then D.a i c else D.b i) s;split
  ·exact a.a i c hi (by assumption)
  ·exact a.b i hi
 ·rw [Ff fun i hi=>h.bf i j hi e];show RB (if c < k/\D.fr c=D.fr j then 1 else 0) s;split
  ·exact RB1.le b
  ·exact RB.zero.le b
def X (D:cE) (m k:Nat) (z:Nat->Rat) (u:Nat):Rat:=aV (k+1) fun c=>D.co m k u c * z c
theorem aqt (h:D.WF m k) (z:Nat->Rat) {j:Nat} (a:j < k):D.X m k z (D.fr j)=z j:=by
 unfold X co;rw [Ff fun i hi=>h.bf i j hi a];show aV (k+1) (fun c=>(if c < k/\D.fr c=D.fr j then 1 else 0) * z c)=z j;rw [mQ (j:=j) ad,if_pos ⟨a,rfl⟩]
 ·grind
 ·intro c d b;rw [if_neg fun q=>b (h.fi _ _ q.1 a q.2)];grind
theorem as0 (h:D.WF m k) (z:Nat->Rat) {i:Nat} (hi:i < m):D.X m k z (D.k7 i)=D.b i * z k+aV k fun j=>D.a i j * D.X m k z (D.fr j):=by
 have e:aV k (fun j=>D.a i j * D.X m k z (D.fr j))=aV k fun j=>(if j < k then D.a i j else D.b i) * z j:=bc fun j a=>by rw [aqt h z a,if_pos a]
 rw [e];unfold X co;rw [JJ h.bi hi];show aV (k+1) (fun c=>(if c < k then D.a i c else D.b i) * z c)=_;rw [aV,if_neg (y3 k)];grind
def ano (D:cE) (m k:Nat) (t:Rat) (x:Nat->Rat):Prop:=∀ i,i < m->x (D.k7 i)=D.b i * t+aV k fun j=>D.a i j * x (D.fr j)
theorem aki (h':D'.WF m k) (e:LU m k D' D) {t:Rat} {x:Nat->Rat} (g:D'.ano m k t x):D.ano m k t x/\D.v * t+aV k (fun j=>D.g j * x (D.fr j))=D'.v * t+aV k fun j=>D'.g j * x (D'.fr j):=by
 have a:=zg h' Cn;generalize D'.ext m k Cn=y at a;have b:D'.Yo m k fun u=>x u+(1 - t) * y u:=fun i hi=>by
  show x (D'.k7 i)+(1 - t) * y (D'.k7 i)=D'.row k (fun u=>x u+(1 - t) * y u) i;have q:aV k (fun j=>D'.a i j * (x (D'.fr j)+(1 - t) * y (D'.fr j)))=aV k (fun j=>D'.a i j * x (D'.fr j))+(1 - t) * aV k (fun j=>D'.a i j * y (D'.fr j)):=by
   rw [<- ia,<- mP];exact bc fun j _=>by grind
  have c:=a i hi;unfold row at c ⊢;rw [g i hi,c,q];grind
 have t0:=(e.sol _).1 a;have h:=(e.sol _).1 b;have g0:=e.gv _ a;have d:=e.gv _ b;refine ⟨fun i hi=>?_,?_⟩
 ·have l:=t0 i hi;have f:=h i hi;have q:aV k (fun j=>D.a i j * (x (D.fr j)+(1 - t) * y (D.fr j)))=aV k (fun j=>D.a i j * x (D.fr j))+(1 - t) * aV k (fun j=>D.a i j * y (D.fr j)):=by
   rw [<- ia,<- mP];exact bc fun j _=>by grind
  unfold row at l f;rw [q] at f;grind
 ·have q:∀ D:cE,aV k (fun j=>D.g j * (x (D.fr j)+(1 - t) * y (D.fr j)))=aV k (fun j=>D.g j * x (D.fr j))+(1 - t) * aV k (fun j=>D.g j * y (D.fr j)):=fun D=>by
   rw [<- ia,<- mP];exact bc fun j _=>by grind
  unfold gv at g0 d;rw [q,q] at d;grind
theorem V4 (h:D.WF m k) {x:Nat->Rat} {t:Rat} (c:D.ano m k t x) (d:t=0) (b:∀ j,j < k->x (D.fr j)=0) {u:Nat} (e:u < m+k):x u=0:=by
 rcases h.al u e with ⟨i,hi,rfl⟩ | ⟨j,a,rfl⟩
 ·rw [c i hi,d,bc (g:=fun _=>0) fun j a=>by rw [b j a];grind,kL];grind
 ·exact b j a
theorem we {f:Nat->Rat} {p:Nat}:∀ {n:Nat},(∀ u,u < n->RB (f u) p)->RB (aV n f) (n * (p+1)+1)
 | 0,_=>RB.zero.le ad
 | n+1,h=>by
  have:=Nat.succ_mul n (p+1);rw [this];exact ((we fun u a=>h u ad).add (h n ad)).le ad
abbrev QS (k s:Nat):Nat:=2 * ((k+1) * (s+SZ k s+1)+1)
theorem as1 (J:k < 30000) (h:D.WF m k) (h':D'.WF m k) (e:LU m k D' D) (w:D'.Ng m k s) (y:1<=s):D.Ng m k (QS k s):=by
 have goal:∀ {q:Nat} (z:Nat->Rat),(∀ u,RB (z u) q)->RB (D'.v * z k+aV k fun j=>D'.g j * D'.X m k z (D'.fr j)) ((k+1) * (s+q+1)+1):=fun {q} z H=>by
  have e:D'.v * z k+aV k (fun j=>D'.g j * D'.X m k z (D'.fr j))=aV (k+1) fun c=>if c < k then D'.g c * z c else D'.v * z c:=by
   rw [aV,if_neg (y3 k),bc (f:=fun c=>if c < k then D'.g c * z c else D'.v * z c) (g:=fun j=>D'.g j * D'.X m k z (D'.fr j)) fun j b=>by rw [if_pos b,aqt h' z b]];grind
  rw [e];exact we fun u _=>by
   split
   ·exact (w.g u (by assumption)).mul (H u)
   ·exact w.v.mul (H u)
 have p:∀ {q:Nat} (z:Nat->Rat),(∀ u,RB (z u) q)->∀ u,u < m+k->RB (D'.X m k z u) ((k+1) * (s+q+1)+1):=fun z H u l=>we fun c a=>(akh h' w y u c l a).mul (H c)
 -- a small solution for a row of k conditions
 have key:∀ (E:Nat->Nat->Rat),(∀ c u,c < k->u < k+1->RB (E c u) s)->∃ z:Nat->Rat,(∃ u,u < k+1/\z u≠0)/\(∀ u,RB (z u) (SZ k s))/\(∀ c,c < k->aV (k+1) (fun u=>E c u * z u)=0) /\
   D.ano m k (z k) (D'.X m k z)/\D.v * z k+aV k (fun j=>D.g j * D'.X m k z (D.fr j))=D'.v * z k+aV k fun j=>D'.g j * D'.X m k z (D'.fr j):=fun E K=>by
  obtain ⟨z,z1,n,v⟩:=aqs J K;obtain ⟨r,p2⟩:=aki h' e (t:=z k) (x:=D'.X m k z) fun i hi=>as0 h' z hi;exact ⟨z,z1,n,v,r,p2⟩
 have A:∀ {z:Nat->Rat},(∃ u,u < k+1/\z u≠0)->z k=0->¬ ∀ u,u < m+k->D'.X m k z u=0:=fun {z} ⟨u,l,o⟩ d q=>by
  by_cases I:u=k
  ·subst I;exact o d
  ·exact o (aqt h' z (show u < k by omega) ▸ q _ (h'.fl u ad))
 have col:∀ j,j < k->(∀ i,i < m->RB (D.a i j) (QS k s))/\RB (D.g j) (QS k s):=fun j b=>by
  obtain ⟨z,z1,n,v,r,p2⟩:=key (fun c u=>if c=j then (if u=k then 1 else 0) else D'.co m k (D.fr c) u) fun c u a l=>by
   show RB (if c=j then (if u=k then 1 else 0) else D'.co m k (D.fr c) u) s;split
   ·split
    ·exact RB1.le y
    ·exact RB.zero.le y
   ·exact akh h' w y _ _ (h.fl c a) l
  have d:z k=0:=by
   have:=v j b;rw [bc (g:=fun u=>if u=k then z k else 0) fun u _=>by
    rw [if_pos rfl];split
    ·rename_i q;subst q;grind
    ·grind,mQ (j:=k) ad _ fun u _ q=>if_neg q,if_pos rfl] at this
   exact this
  have a:∀ c,c < k->c≠j->D'.X m k z (D.fr c)=0:=fun c a o=>by
   have:=v c a;rw [bc (g:=fun u=>D'.co m k (D.fr c) u * z u) fun u _=>by rw [if_neg o]] at this;exact this
  have hw:D'.X m k z (D.fr j)≠0:=fun q=>A z1 d fun u l=>V4 h r d (fun c B=>by
   by_cases I:c=j
   ·subst I;exact q
   ·exact a c B I) l
  have C:=p z n _ (h.fl j b);refine ⟨fun i hi=>?_,?_⟩
  ·have q:=r i hi;rw [d,mQ b _ fun c B o=>by rw [a c B o];grind] at q;have:D.a i j=D'.X m k z (D.k7 i) / D'.X m k z (D.fr j):=by rw [q];grind
   rw [this];exact ((p z n _ (h.bl i hi)).div C hw).le (by unfold QS;omega)
  ·have F:=goal z n;rw [<- p2,d,mQ b _ fun c B o=>by rw [a c B o];grind] at F;have:D.g j=(D.v * 0+D.g j * D'.X m k z (D.fr j)) / D'.X m k z (D.fr j):=by grind
   rw [this];exact (F.div C hw).le (by unfold QS;omega)
 obtain ⟨z,z1,n,v,r,p2⟩:=key (fun c u=>D'.co m k (D.fr c) u) fun c u a l=>akh h' w y _ _ (h.fl c a) l;have a:∀ c,c < k->D'.X m k z (D.fr c)=0:=v;have hw:z k≠0:=fun q=>A z1 q fun u l=>V4 h r q a l;have G:∀ f:Nat->Rat,aV k (fun j=>f j * D'.X m k z (D.fr j))=0:=fun f=>by rw [bc (g:=fun _=>0) fun j b=>by rw [a j b];grind,kL]
 refine ⟨fun i j hi b=>(col j b).1 i hi,fun i hi=>?_,fun j b=>(col j b).2,?_⟩
 ·have q:=r i hi;rw [G (D.a i)] at q;have:D.b i=D'.X m k z (D.k7 i) / z k:=by rw [q];grind
  rw [this];exact ((p z n _ (h.bl i hi)).div (n k) hw).le (by
   have:=dU (s+SZ k s+1) (show 1<=k+1 by omega);unfold QS;omega)
 ·have F:=goal z n;rw [<- p2,G] at F;have:D.v=(D.v * z k+0) / z k:=by grind
  rw [this];exact (F.div (n k) hw).le (by
   have:=dU (s+SZ k s+1) (show 1<=k+1 by omega);unfold QS;omega)
abbrev Ok5 (k s e5:Nat):Prop:=k < 30000/\QS k s<=5 ^ e5 * s
theorem aau {e5:Nat} (a:Ok5 k s e5) (h:D.WF m k) (h':D'.WF m k) (e:LU m k D' D) (c:D'.Ng m k s) (d:1<=s):D.Ng m k (5 ^ e5 * s) :=
 let r:=as1 a.1 h h' e c d
 ⟨fun i j hi b=>(r.a i j hi b).le a.2,fun i hi=>(r.b i hi).le a.2,fun j b=>(r.g j b).le a.2,r.v.le a.2⟩
end cE
theorem V5 (m n:Nat) (f:Nat->Nat->Rat):aV m (fun i=>aV n fun j=>f i j)=aV n fun j=>aV m fun i=>f i j:=by
 induction m with
 | zero=>show (0:Rat)=_;rw [show (fun j=>aV 0 fun i=>f i j)=fun _=>(0:Rat) from rfl,kL]
 | succ m a=>simp only [aV];rw [a,<- mP]
theorem Pz (m n:Nat) (f:Nat->Rat):aV (m+n) f=aV m f+aV n fun i=>f (m+i):=by
 induction n with
 | zero=>show aV m f=aV m f+0;grind
 | succ n a=>rw [show m+(n+1)=m+n+1 by omega,aV,aV,a];grind
theorem akj (n:Nat) (f g:Nat->Rat):aV n (fun i=>f i - g i)=aV n f - aV n g:=by
 have e:(fun i=>f i - g i)=fun i=>f i+(-1) * g i:=by funext i;grind
 rw [e,mP,ia];grind
namespace cE
def sc (t:Rat) (u:Nat):Nat->Rat:=fun w=>if w=u then t else 0
theorem aqu {D:cE} {m k j:Nat} (h:D.WF m k) (a:j < k) (t:Rat) (i:Nat):D.row k (sc t (D.fr j)) i=D.b i+D.a i j * t:=by
 unfold row sc;rw [mQ a _ fun c b d=>by rw [if_neg fun e=>d (h.fi _ _ b a e)];grind];rw [if_pos rfl]
theorem as2 {D:cE} {m k j:Nat} (h:D.WF m k) (a:j < k) (t:Rat):D.gv k (sc t (D.fr j))=D.v+D.g j * t:=by
 unfold gv sc;rw [mQ a _ fun c b d=>by rw [if_neg fun e=>d (h.fi _ _ b a e)];grind];rw [if_pos rfl]
def gc (D:cE) (k u:Nat):Rat:=aV k fun j=>if D.fr j=u then D.g j else 0
theorem akk {D:cE} {m k j:Nat} (h:D.WF m k) (a:j < k):D.gc k (D.fr j)=D.g j:=by
 unfold gc;rw [mQ a _ fun c b d=>if_neg fun e=>d (h.fi _ _ b a e),if_pos rfl]
theorem Yv {D:cE} {k u:Nat} (h:∀ j,j < k->D.fr j≠u):D.gc k u=0:=by
 unfold gc;rw [bc (g:=fun _=>0) fun j a=>if_neg (h j a),kL]
theorem aqv {D:cE} {m k:Nat} (h:D.WF m k) (x:Nat->Rat):D.gv k x=D.v+aV (m+k) fun u=>D.gc k u * x u:=by
 unfold gv;congr 1;have e:(fun u=>D.gc k u * x u)=fun u=>aV k fun j=>x u * (if D.fr j=u then D.g j else 0):=by
  funext u;rw [ia];unfold gc;grind
 rw [e,V5];refine bc fun j a=>?_;rw [mQ (h.fl j a) _ fun u _ b=>by rw [if_neg fun q=>b q.symm];grind];rw [if_pos rfl];grind
section
variable (n m:Nat) (C:Nat->Nat->Rat) (B:Nat->Rat)
def fst (z:Rat):cE where
 k7:=fun i=>2 * n+i
 fr:=fun j=>if j < 2 * n then j else 2 * n+m
 a:=fun i j=>if j < n then -(C i j) else if j < 2 * n then C i (j - n) else 1
 b:=B
 g:=fun j=>if j < 2 * n then 0 else z
 v:=0
theorem TH (z:Rat):(fst n m C B z).WF m (2 * n+1):=by
 refine ⟨fun i i' _ _ e=>?_,fun j j' a c e=>?_,fun i j hi a e=>?_,fun i hi=>?_,fun j a=>?_,fun u d=>?_⟩
 ·simp only [fst] at e;omega
 ·simp only [fst] at e;split at e<;>split at e<;>omega
 ·simp only [fst] at e;split at e<;>omega
 ·simp only [fst];omega
 ·simp only [fst];split<;>omega
 ·by_cases h:u < 2 * n
  ·exact .inr ⟨u,ad,by simp only [fst];rw [if_pos h]⟩
  ·by_cases b:u=2 * n+m
   ·exact .inr ⟨2 * n,ad,by simp only [fst];rw [if_neg ad];exact b.symm⟩
   ·exact .inl ⟨u - 2 * n,ad,by simp only [fst];omega⟩
def Fg (p:Nat->Rat) (i:Nat):Rat:=aV n fun j=>C i j * p j
theorem aeC (z:Rat) (x:Nat->Rat) (i:Nat):(fst n m C B z).row (2 * n+1) x i=B i - Fg n C (fun j=>x j - x (n+j)) i+x (2 * n+m):=by
 unfold row Fg;have b:aV (2 * n) (fun j=>(fst n m C B z).a i j * x ((fst n m C B z).fr j)) = - aV n fun j=>C i j * (x j - x (n+j)):=by
  rw [show 2 * n=n+n by omega,Pz];have c:aV n (fun j=>(fst n m C B z).a i j * x ((fst n m C B z).fr j))=aV n fun j=>(-1) * (C i j * x j):=bc fun j a=>by
   simp only [fst];rw [if_pos a,if_pos ad];grind
  have d:aV n (fun j=>(fst n m C B z).a i (n+j) * x ((fst n m C B z).fr (n+j)))=aV n fun j=>C i j * x (n+j):=bc fun j a=>by
   simp only [fst];rw [if_neg ad,if_pos ad,if_pos ad,show n+j - n=j by omega]
  rw [c,d,ia,show (fun j=>C i j * (x j - x (n+j)))=fun j=>C i j * x j - C i j * x (n+j) by funext j;grind,akj];grind
 rw [aV,b];have e5:(fst n m C B z).a i (2 * n)=1:=by simp only [fst];rw [if_neg ad,if_neg ad]
 have e:(fst n m C B z).fr (2 * n)=2 * n+m:=by simp only [fst];rw [if_neg ad]
 have f:(fst n m C B z).b i=B i:=rfl;rw [e5,e,f];grind
theorem akl (z:Rat) (x:Nat->Rat):(fst n m C B z).gv (2 * n+1) x=z * x (2 * n+m):=by
 unfold gv;rw [mQ (j:=2 * n) ad _ fun j c d=>by simp only [fst];rw [if_pos ad];grind];have e5:(fst n m C B z).g (2 * n)=z:=by simp only [fst];rw [if_neg ad]
 have a:(fst n m C B z).fr (2 * n)=2 * n+m:=by simp only [fst];rw [if_neg ad]
 have b:(fst n m C B z).v=0:=rfl;rw [e5,a,b];grind
theorem QA (z:Rat) (x:Nat->Rat):(fst n m C B z).Yo m (2 * n+1) x↔∀ i,i < m->x (2 * n+i)=B i - Fg n C (fun j=>x j - x (n+j)) i+x (2 * n+m):=by
 unfold Yo;constructor
 ·intro h i hi;rw [<- aeC n m C B z];exact h i hi
 ·intro h i hi;rw [aeC];exact h i hi
theorem aav (z:Rat) (D:cE) (x:Nat->Rat) (h:LU m (2 * n+1) (fst n m C B z) D):D.Yo m (2 * n+1) x↔(fst n m C B 0).Yo m (2 * n+1) x:=by
 rw [<- h.sol,QA,QA]
def I4 (y:Nat->Rat) (u:Nat):Rat:=if 2 * n<=u/\u < 2 * n+m then B (u - 2 * n) - Fg n C (fun j=>y j - y (n+j)) (u - 2 * n)+y (2 * n+m) else y u
theorem TJ (z:Rat) (y:Nat->Rat):(fst n m C B z).Yo m (2 * n+1) (I4 n m C B y):=(QA n m C B z _).2 fun i hi=>by
 have a:I4 n m C B y (2 * n+i)=B i - Fg n C (fun j=>y j - y (n+j)) i+y (2 * n+m):=by
  unfold I4;rw [if_pos ⟨ad,ad⟩,show 2 * n+i - 2 * n=i by omega]
 have b:I4 n m C B y (2 * n+m)=y (2 * n+m):=by unfold I4;rw [if_neg ad]
 have c:Fg n C (fun j=>I4 n m C B y j - I4 n m C B y (n+j)) i=Fg n C (fun j=>y j - y (n+j)) i:=by
  unfold Fg;refine bc fun j d=>?_;show C i j * (I4 n m C B y j - I4 n m C B y (n+j))=C i j * (y j - y (n+j));unfold I4;rw [if_neg ad,if_neg ad]
 rw [a,b,c]
theorem agb {low:Nat} (d:low < m) (e:B low < 0) (a:∀ r,r < m->B low<=B r):((fst n m C B (-1)).nG low (2 * n)).Fea m:=fun r b=>by
 have e5:∀ r,(fst n m C B (-1)).a r (2 * n)=1:=fun r=>by simp only [fst];rw [if_neg ad,if_neg ad]
 have c:∀ r,(fst n m C B (-1)).b r=B r:=fun _=>rfl;simp only [cE.nG,pb,e5,c];have:=a r b;split<;>grind
variable {n m C B} {D:cE} (hw:D.WF m (2 * n+1)) (he:LU m (2 * n+1) (fst n m C B (-1)) D)
include hw he in
theorem ac0 {x:Nat->Rat} (a:D.Yo m (2 * n+1) x):D.gv (2 * n+1) x = -(x (2 * n+m)):=by
 have:=hw;rw [<- he.gv x ((he.sol x).2 a),akl];grind
theorem TK {m k:Nat} (hw:D.WF m k) {y:Nat->Rat} (a:∀ i,i < m->0<=D.row k y i) (b:∀ u,0<=y u) (u:Nat) (c:u < m+k):0<=D.ext m k y u:=by
 rcases hw.al u c with ⟨i,hi,e⟩ | ⟨j,d,e⟩
 ·rw [<- e,Da hw hi];exact a i hi
 ·rw [<- e,DW hw d];exact b _
theorem O8 {m k:Nat} (hw:D.WF m k) (a:D.Fea m) (u:Nat) (b:u < m+k):0<=D.ext m k Cn u :=
 TK hw (y:=Cn) (fun i hi=>by rw [Bm];exact a i hi) (fun _=>Rat.le_refl) u b
include hw he in
theorem TL:D.v = -(D.ext m (2 * n+1) Cn (2 * n+m)):=by
 rw [<- ac0 hw he (zg hw Cn),TA hw,Yq]
include hw he in
theorem anq (c:D.Fea m) (a:(∀ j,j < 2 * n+1->D.g j<=0)\/∃ j,D.Qz (2 * n+1) j/\∀ i,i < m->0<=D.a i j):∀ j,j < 2 * n+1->D.g j<=0:=by
 rcases a with h | ⟨j,b,e⟩
 ·exact h
 ·exfalso;have o:D.v<=0:=by rw [TL hw he];have:=O8 hw c (2 * n+m) ad;grind
  have f:=b.pos;have g:0<=(1 - D.v) / D.g j:=TC f (by grind);have k:=zg hw (sc ((1 - D.v) / D.g j) (D.fr j));have d:=ac0 hw he k;rw [TA hw,as2 hw b.lt] at d;have p:=TK hw (y:=sc ((1 - D.v) / D.g j) (D.fr j)) (fun i hi=>by
   rw [aqu hw b.lt];have:=Rat.mul_nonneg (e i hi) g;have:=c i hi;grind) (fun u=>by unfold sc;split<;>grind) (2 * n+m) ad
  have l:D.g j * ((1 - D.v) / D.g j)=1 - D.v:=by grind
  rw [l] at d;grind
include hw he in
theorem as4 (r:∀ j,j < 2 * n+1->D.g j<=0):(∀ u,D.gc (2 * n+1) u<=0)/\(∀ j,j < n->aV m (fun i=>-(D.gc (2 * n+1) (2 * n+i)) * C i j)=0)/\aV m (fun i=>-(D.gc (2 * n+1) (2 * n+i)) * B i)=D.v:=by
 have a:∀ u,D.gc (2 * n+1) u<=0:=fun u=>by
  by_cases h:∃ j,j < 2 * n+1/\D.fr j=u
  ·obtain ⟨j,b,rfl⟩:=h;rw [akk hw b];exact r j b
  ·rw [Yv fun j b e=>h ⟨j,b,e⟩];exact Rat.le_refl
 generalize t:D.gc (2 * n+1)=G at a ⊢;have key:∀ y:Nat->Rat,-(y (2 * n+m))=D.v+(aV (2 * n) (fun u=>G u * y u)+aV m (fun i=>G (2 * n+i) * (B i - Fg n C (fun j=>y j - y (n+j)) i+y (2 * n+m)))+G (2 * n+m) * y (2 * n+m)):=fun y=>by
  have o:=ac0 hw he ((he.sol _).1 (TJ n m C B (-1) y));rw [aqv hw,t,show m+(2 * n+1)=(2 * n+m)+1 by omega,aV,Pz] at o;have v:∀ u,u < 2 * n->I4 n m C B y u=y u:=fun u k=>by unfold I4;rw [if_neg ad]
  have x:I4 n m C B y (2 * n+m)=y (2 * n+m):=by unfold I4;rw [if_neg ad]
  have z:∀ i,i < m->I4 n m C B y (2 * n+i)=B i - Fg n C (fun j=>y j - y (n+j)) i+y (2 * n+m):=fun i hi=>by
   unfold I4;rw [if_pos ⟨ad,ad⟩,show 2 * n+i - 2 * n=i by omega]
  rw [bc (n:=2 * n) (g:=fun u=>G u * y u) fun u k=>by rw [v u k],bc (n:=m) (g:=fun i=>G (2 * n+i) * (B i - Fg n C (fun j=>y j - y (n+j)) i+y (2 * n+m))) fun i hi=>by rw [z i hi],x] at o;exact o.symm
 have d:=key Cn;have A:∀ i,Fg n C (fun j=>Cn j - Cn (n+j)) i=0:=fun i=>by
  unfold Fg Cn;rw [bc (g:=fun _=>0) fun j _=>by grind,kL]
 have z0:aV m (fun i=>G (2 * n+i) * (B i - Fg n C (fun j=>Cn j - Cn (n+j)) i+Cn (2 * n+m)))=aV m fun i=>G (2 * n+i) * B i:=bc fun i _=>by
  rw [A];unfold Cn;grind
 rw [z0,bc (n:=2 * n) (g:=fun _=>0) fun u _=>by unfold Cn;grind,kL] at d;have d:aV m (fun i=>G (2 * n+i) * B i) = -D.v:=by unfold Cn at d;grind
 have un:∀ (u:Nat) (s:Rat),u < 2 * n->(∀ i,i < m->Fg n C (fun j=>one u j - one u (n+j)) i=s * C i (if u < n then u else u - n))->G u=s * aV m fun i=>G (2 * n+i) * C i (if u < n then u else u - n):=fun u s k E=>by
  have p:=key (one u);have z1:one u (2 * n+m)=0:=if_neg ad;rw [z1,mQ k (fun w=>G w * one u w) fun w _ l=>by unfold one;rw [if_neg l];grind] at p;rw [bc (n:=m) (g:=fun i=>G (2 * n+i) * B i+(-s) * (G (2 * n+i) * C i (if u < n then u else u - n))) fun i hi=>by rw [E i hi];grind,mP,ia,d] at p;have:one u u=1:=if_pos rfl;rw [this] at p;grind
 have q:∀ f:Nat->Rat,aV m (fun i=>-(G (2 * n+i)) * f i) = -(aV m fun i=>G (2 * n+i) * f i):=fun f=>by
  rw [show (fun i=>-(G (2 * n+i)) * f i)=fun i=>(-1) * (G (2 * n+i) * f i) by funext i;grind,ia];grind
 refine ⟨a,fun j b=>?_,by rw [q,d];grind⟩;have F:=un j 1 ad fun i hi=>by
  unfold Fg;rw [mQ b _ fun c H l=>by show C i c * (one j c - one j (n+c))=0;unfold one;rw [if_neg l,if_neg ad];grind];show C i j * (one j j - one j (n+j))=_;unfold one;rw [if_pos rfl,if_neg ad,if_pos b];grind
 have I:=un (n+j) (-1) ad fun i hi=>by
  unfold Fg;rw [mQ b _ fun c H l=>by show C i c * (one (n+j) c - one (n+j) (n+c))=0;unfold one;rw [if_neg ad,if_neg ad];grind];show C i j * (one (n+j) j - one (n+j) (n+j))=_;unfold one;rw [if_pos rfl,if_neg ad,if_neg ad,show n+j - n=j by omega];grind
 rw [if_pos b] at F;rw [if_neg ad,show n+j - n=j by omega] at I;have J:=a j;have K:=a (n+j);rw [q];grind
include hw he in
include hw he in
theorem ac1 {i:Nat} (hi:i < m) (hb:D.k7 i=2 * n+m):∃ j,j < 2 * n+1/\D.a i j≠0:=qF fun c=>by
 have d:∀ j,j < 2 * n+1->D.a i j=0:=fun j a=>qF fun q=>c ⟨j,a,q⟩;have b:∀ x,D.Yo m (2 * n+1) x->x (2 * n+m)=D.b i:=fun x e=>by
  rw [<- hb,e i hi];unfold row;rw [bc (g:=fun _=>0) fun j a=>by rw [d j a];grind,kL];grind
 have c0:=b _ ((he.sol _).1 (TJ n m C B (-1) Cn));have c1:=b _ ((he.sol _).1 (TJ n m C B (-1) (one (2 * n+m))));have:=hw;unfold I4 at c0 c1;rw [if_neg ad] at c0 c1;unfold Cn at c0;unfold one at c1;rw [if_pos rfl] at c1;rw [<- c0] at c1;exact absurd c1 ay
theorem akm {m i j:Nat} (a:D.Fea m) (b:D.b i=0):(D.nG i j).Fea m:=fun r c=>by
 have d:D.pb i j=0:=by unfold pb;rw [b,Rat.div_def,Rat.zero_mul];rfl
 simp only [cE.nG,d];have:=a r c;split
 ·exact Rat.le_refl
 ·grind
end
end cE
section
variable {α:Type}
def I5 (f:Nat->α) (n:Nat):List α:=(List.range n).map f
theorem rY (f:Nat->α) (n:Nat):(I5 f n).length=n:=by simp [I5]
theorem Db (f:Nat->α) {n i:Nat} (d:α) (h:i < n):(I5 f n).getD i d=f i:=by simp [I5,h]
theorem q9 {f g:Nat->α} {n:Nat} (h:∀ i,i < n->f i=g i):I5 f n=I5 g n:=by
 unfold I5;exact List.map_congr_left fun i hi=>h i (List.mem_range.1 hi)
theorem O9 {l:List α} {f:Nat->α} {n:Nat} (d:α) (a:l.length=n) (h:∀ i,i < n->l.getD i d=f i):l=I5 f n:=by
 refine List.ext_getElem (by rw [a,rY]) fun i b c=>?_;have:=h i ad;rw [lH,w9 b,Option.getD_some] at this;rw [this];simp [I5]
theorem Bn (f:Nat->α) (n i:Nat) (v:α):(I5 f n).set i v=I5 (fun a=>if a=i then v else f a) n:=by
 refine List.ext_getElem (by simp [I5]) fun a b c=>?_;rw [List.getElem_set]
 by_cases e:i=a
 ·subst e;simp [I5]
 ·rw [if_neg e];simp [I5];intro q;exact absurd q.symm e
end
def LQ (f:Nat->Rat) (n:Nat):List ab:=I5 (fun i=>bg (f i)) n
def LN (f:Nat->Nat) (n:Nat):List Int:=I5 (fun i=>(f i:Int)) n
def LA (a:Nat->Nat->Rat) (m k:Nat):List (List ab):=I5 (fun i=>LQ (a i) k) m
theorem cM (f:Nat->Rat) (n:Nat):(LQ f n).length=n:=rY _ _
theorem jy (f:Nat->Nat) (n:Nat):(LN f n).length=n:=rY _ _
theorem qC (a:Nat->Nat->Rat) (m k:Nat):(LA a m k).length=m:=rY _ _
theorem lL (f:Nat->Rat) {n i:Nat} (d:ab) (h:i < n):(LQ f n).getD i d=bg (f i):=Db _ _ h
theorem AO (f:Nat->Nat) {n i:Nat} (d:Int) (h:i < n):(LN f n).getD i d=(f i:Int):=Db _ _ h
theorem GF (a:Nat->Nat->Rat) {m k i:Nat} (d:List ab) (h:i < m):(LA a m k).getD i d=LQ (a i) k:=Db _ _ h
theorem x8 {f g:Nat->Rat} {n:Nat} (h:∀ i,i < n->f i=g i):LQ f n=LQ g n:=q9 fun i hi=>by rw [h i hi]
theorem akn {a b:Nat->Nat->Rat} {m k:Nat} (h:∀ i j,i < m->j < k->a i j=b i j):LA a m k=LA b m k:=q9 fun i hi=>x8 fun j c=>h i j hi c
theorem LH (f:Nat->Rat) (n i:Nat) (q:Rat):(LQ f n).set i (bg q)=LQ (fun a=>if a=i then q else f a) n:=by
 unfold LQ;rw [Bn];exact q9 fun a _=>by by_cases e:a=i<;>simp [e]
theorem aqw (f:Nat->Nat) (n i q:Nat):(LN f n).set i (q:Int)=LN (fun a=>if a=i then q else f a) n:=by
 unfold LN;rw [Bn];exact q9 fun a _=>by by_cases e:a=i<;>simp [e]
theorem ako (a:Nat->Nat->Rat) (m k i:Nat) (r:Nat->Rat):(LA a m k).set i (LQ r k)=LA (fun x=>if x=i then r else a x) m k:=by
 unfold LA;rw [Bn];exact q9 fun a _=>by by_cases e:a=i<;>simp [e]
theorem RB.q {p:Rat} {s:Nat} (h:RB p s) (a:s<=MS):RQ (bg p) p MS:=(h.le a).rq ay
section
variable {k j s:Nat} {f:Rat} {F R:Nat->Rat}
theorem Yw (u:k<=1000) (v:5 * s<=MS) (w:1<=s) (o:RB f s) (t:∀ c,c < k->RB (F c) s) (i:∀ c,c < k->RB (R c) (2 * s)) {c0:List ab} (p:c0.length=k):∀ (d x:Nat) (G:Nat->Rat),x+d=k ->
  (∀ c,c < k->G c=if c < x then if c=j then f * R j else F c+f * R c else F c) ->
  aq (fun N g=>fB N (j:Int) (bg f) c0 (LQ R k) g (LQ G k) (x:Int)) (LQ (fun c=>if c=j then f * R j else F c+f * R c) k)
 | 0,x,G,y,l=>aq.succ (fun N g=>fB.eq_2 ..) (aq.a9 (dnl (m:=x) (n:=k) ad p) ((aq.one (Gv.pure _)).eq (x8 fun c h=>by rw [l c h,if_pos ad])))
 | d+1,x,G,y,l=>by
  have a:x < k:=ad;have hm:RB (f * R x) (3 * s):=(o.mul (i x a)).le ad;have r:=(o.q ad).mul ((i x a).q ad) (YX ay);have A:G x=F x:=by rw [l x a,if_neg (y3 x)]
  refine aq.succ (fun N g=>fB.eq_2 ..) (aq.aN (dlt (n:=k) a p) ?_);simp only [ai,lL _ _ a,A,aX (show x < 9223372036854775807 by omega),jW,LH]
  by_cases e:x=j
  ·refine aq.aN (by simp [e]) (aq.if (inl a (cM _ _)) (aq.bind r (aq.if (inl a (cM _ _)) ?_)));simp only [LH];refine Yw u v w o t i p d (x+1) _ ad fun c h=>?_
   by_cases q:c=x
   ·rw [if_pos q,if_pos ad,if_pos (q.trans e),e]
   ·rw [if_neg q,l c h]
    by_cases b:c < x
    ·simp only [b,show c < x+1 by omega,if_true]
    ·rw [if_neg b,if_neg ad]
  ·refine aq.a9 (by simp;omega) (aq.if (inl a (cM _ _)) (aq.bind (((i x a).q ad).zero ay) ?_))
   by_cases z:R x=0
   ·refine aq.a9 (by simp [z]) (Yw u v w o t i p d (x+1) _ ad fun c h=>?_);rw [l c h]
    by_cases b:c < x
    ·simp only [b,show c < x+1 by omega,if_true]
    ·rw [if_neg b]
     by_cases q:c=x
     ·rw [if_pos ad,if_neg ad,q,z];grind
     ·rw [if_neg ad]
   ·refine aq.aN (by simp [z]) (aq.if (inl a (cM _ _)) (aq.bind r (aq.bind (((t x a).q ad).add (hm.q ad) (YX ay)) ?_)));simp only [LH];refine Yw u v w o t i p d (x+1) _ ad fun c h=>?_
    by_cases q:c=x
    ·rw [if_pos q,if_pos ad,if_neg ad,q]
    ·rw [if_neg q,l c h]
     by_cases b:c < x
     ·simp only [b,show c < x+1 by omega,if_true]
     ·rw [if_neg b,if_neg ad]
theorem akp (a:k<=1000) (b:5 * s<=MS) (d:1<=s) (e:RB f s) (g:∀ c,c < k->RB (F c) s) (h:∀ c,c < k->RB (R c) (2 * s)) :
  Gv (fun N=>l9 N (j:Int) (bg f) (LQ F k) (LQ R k)) (LQ (fun c=>if c=j then f * R j else F c+f * R c) k) :=
 (Yw a b d e g h (cM F k) k 0 F ad fun c _=>(if_neg (iq c)).symm).diag
end
def RT (n m k h:Nat) (D:cE):re×List Int×List Int×List (List ab)×List ab×List ab :=
 (⟨n,m,LN D.k7 m,LN D.fr k,LA D.a m k,LQ D.b m,LQ D.g k,bg D.v,h⟩,LN D.k7 m,LN D.fr k,LA D.a m k,LQ D.b m,LQ D.g k)
section
variable {n m k h i j s:Nat} {D:cE}
theorem aaw (hi:i < m) (d:j < k) {A:Nat->Nat->Rat} {b:Nat->Rat} (e:∀ r c,r < m->c < k->r≠i->A r c=(D.nG i j).a r c) (hb:∀ r,r < m->b r=(D.nG i j).b r) {G:Nat->Rat} (f:∀ c,c < k->G c=(D.nG i j).g c) {v:Rat} (g:v=(D.nG i j).v) (N:Nat) :
  kF N (i:Int) (j:Int) (n:Int) (m:Int) (h:Int) (LN D.k7 m) (LN D.fr k) (LA A m k) (LQ (D.uV i j) k) (LQ b m) (LQ G k) (bg v).fN.fG (bg v).fN.fL (bg v).fD.fG (bg v).fD.fL=some (RT n m k h (D.nG i j)):=by
 unfold kF;rw [if_pos (inl d (jy _ _)),if_pos (inl hi (jy _ _))];simp only [ai,AO _ _ hi,AO _ _ d,aqw,ako];have l:=akn (a:=fun x=>if x=i then D.uV i j else A x) (b:=(D.nG i j).a) (m:=m) (k:=k) fun r c o p=>by
  by_cases q:r=i
  ·simp only [q,if_true,cE.nG]
  ·simp only [q,if_false];exact e r c o p q
 rw [l,x8 hb,x8 f,g];rfl
theorem M0 (hm:m<=1000) (B:k<=1000) (hi:i < m) (a:j < k) (C:5 * s<=MS) (u:1<=s) (f:D.Ng m k s) (v:D.a i j≠0):∀ (d x:Nat) (A:Nat->Nat->Rat) (b:Nat->Rat),x+d=m ->
  (∀ r c,r < m->c < k->A r c=if r < x/\r≠i then (D.nG i j).a r c else D.a r c)->(∀ r,r < m->b r=if r=i\/r < x then (D.nG i j).b r else D.b r) ->
  aq (fun N g=>dX N (i:Int) (j:Int) (n:Int) (m:Int) (bg D.v).fN.fG (bg D.v).fN.fL (bg D.v).fD.fG (bg D.v).fD.fL (h:Int) (LN D.k7 m) (LN D.fr k) (LA D.a m k) (LQ D.g k)
   g (LA A m k) (LQ (D.uV i j) k) (LQ b m) (x:Int)) (RT n m k h (D.nG i j))
 | 0,x,A,b,L,y,hb=>by
  have E:RB (D.pb i j) (2 * s):=((f.b i hi).div (f.a i j hi a) v).neg.le ad;have w:b i=D.pb i j:=by rw [hb i hi,if_pos (.inl rfl)];simp [cE.nG]
  have F:∀ r c,r < m->c < k->r≠i->A r c=(D.nG i j).a r c:=fun r c o l q=>by rw [y r c o l,if_pos ⟨ad,q⟩]
  have J:∀ r,r < m->b r=(D.nG i j).b r:=fun r o=>by rw [hb r o,if_pos (.inr ad)]
  refine aq.succ (fun N g=>dX.eq_2 ..) (aq.a9 (dnl (m:=x) (n:=m) ad (qC _ _ _)) ?_);simp only [ai,lL _ _ a,lL _ _ hi,w];refine aq.if (inl a (cM _ _)) (aq.bind (((f.g j a).q ad).zero ay) ?_)
  by_cases z:D.g j=0
  ·refine aq.a9 (by simp [z]) (aq.if (by rw [qC];exact hi) (aq.one ⟨0,fun N _=>aaw hi a F J (fun c _=>?_) ?_ N⟩))
   ·simp only [cE.nG,z]
    by_cases q:c=j
    ·rw [if_pos q,q,z];grind
    ·rw [if_neg q];grind
   ·simp only [cE.nG,z];grind
  ·refine aq.aN (by simp [z]) (aq.if (inl hi (cM _ _)) (aq.bind (((f.g j a).q ad).mul (E.q ad) (YX ay)) (aq.bind ((f.v.q ad).add ((((f.g j a).mul E).le (aH _)).q ad) (YX ay))
    (aq.bind (akp B C u (f.g j a) (fun c l=>f.g c l) (fun c l=>f.uV u hi a v l)) (aq.if (by rw [cM,cM]) (aq.if (by rw [qC];exact hi) (aq.one ⟨0,fun N _=>aaw hi a F J (fun c _=>?_) rfl N⟩)))))))
   simp only [cE.nG]
   by_cases q:c=j
   ·rw [if_pos q,if_pos q,q]
   ·rw [if_neg q,if_neg q]
 | d+1,x,A,b,L,y,hb=>by
  have p:x < m:=ad;have E:RB (D.pb i j) (2 * s):=((f.b i hi).div (f.a i j hi a) v).neg.le ad;have w:b i=D.pb i j:=by rw [hb i hi,if_pos (.inl rfl)];simp [cE.nG]
  refine aq.succ (fun N g=>dX.eq_2 ..) (aq.aN (dlt (n:=m) p (qC _ _ _)) ?_)
  by_cases e:x=i
  ·simp only [ai,aX (show x < 9223372036854775807 by omega),gM];refine aq.aN (by simp [e]) (aq.if (inl p (qC _ _ _)) (aq.if (inl a (cM _ _)) (aq.bind (Gv.a9 (by simp [e]) (Gv.pure false)) (aq.a9 (by simp [e]) (M0 hm B hi a C u f v d (x+1) A b ad (fun r c o l=>?_) fun r o=>?_)))))
   ·rw [y r c o l]
    by_cases q:r < x/\r≠i
    ·rw [if_pos q,if_pos ⟨ad,q.2⟩]
    ·rw [if_neg q,if_neg ad]
   ·rw [hb r o]
    by_cases q:r=i\/r < x
    ·rw [if_pos q,if_pos ad]
    ·rw [if_neg q,if_neg ad]
  ·have H:LQ (A x) k=LQ (D.a x) k:=x8 fun c l=>by rw [y x c p l,if_neg ad]
   have I:b x=D.b x:=by rw [hb x p,if_neg ad]
   simp only [ai,aX (show x < 9223372036854775807 by omega),gM,GF _ _ p,H,lL _ _ p,lL _ _ hi,w,I,lL _ _ a];have K:((x:Int) != (i:Int))=true:=by simp;omega
   refine aq.a9 (by simp;omega) (aq.if (by rw [qC];exact p) (aq.if (inl p (qC _ _ _)) (aq.if (inl a (cM _ _)) (aq.bind (Gv.aN K (((f.a x j p a).q ad).zero ay)) ?_))))
   by_cases z:D.a x j=0
   ·refine aq.a9 (by simp [z]) (M0 hm B hi a C u f v d (x+1) A b ad (fun r c o l=>?_) fun r o=>?_)
    ·rw [y r c o l]
     by_cases q:r < x/\r≠i
     ·rw [if_pos q,if_pos ⟨ad,q.2⟩]
     ·rw [if_neg q]
      by_cases t:r=x
      ·rw [if_pos ⟨ad,ad⟩,t];simp only [cE.nG,if_neg e,z];split
       ·rename_i G;rw [G,z];grind
       ·grind
      ·rw [if_neg ad]
    ·rw [hb r o]
     by_cases q:r=i\/r < x
     ·rw [if_pos q,if_pos ad]
     ·rw [if_neg q]
      by_cases t:r=x
      ·rw [if_pos ad,t];simp only [cE.nG,if_neg e,z];grind
      ·rw [if_neg ad]
   ·refine aq.aN (by rw [K];simp [z]) (aq.if (inl p (cM _ _)) (aq.if (inl hi (cM _ _)) (aq.bind (((f.a x j p a).q ad).mul (E.q ad) (YX ay))
     (aq.bind (((f.b x p).q ad).add ((((f.a x j p a).mul E).le (aH _)).q ad) (YX ay))
     (aq.bind (akp B C u (f.a x j p a) (fun c l=>f.a x c p l) (fun c l=>f.uV u hi a v l)) (aq.if (by rw [cM,cM]) ?_))))))
    simp only [ako,LH];refine M0 hm B hi a C u f v d (x+1) _ _ ad (fun r c o l=>?_) fun r o=>?_
    ·by_cases t:r=x
     ·have M:x < x+1/\x≠i:=⟨ad,e⟩;simp only [t,M,if_true,if_false,cE.nG,and_self,ne_eq,not_false_eq_true]
      by_cases G:c=j
      ·simp only [G,if_true]
      ·simp only [G,if_false]
     ·simp only [t,if_false];rw [y r c o l]
      by_cases q:r < x/\r≠i
      ·rw [if_pos q,if_pos ⟨ad,q.2⟩]
      ·rw [if_neg q,if_neg ad]
    ·by_cases t:r=x
     ·rw [if_pos t,if_pos ad,t];simp only [cE.nG,if_neg e]
     ·rw [if_neg t,hb r o]
      by_cases q:r=i\/r < x
      ·rw [if_pos q,if_pos ad]
      ·rw [if_neg q,if_neg ad]
theorem TM (hm:m<=1000) (v:k<=1000) (hi:i < m) (l:j < k) (w:5 * s<=MS) (y:1<=s) (b:D.Ng m k s) (p:D.a i j≠0):∀ (d x:Nat) (R:Nat->Rat),x+d=k->(∀ c,c < k->R c=if c < x/\c≠j then D.uV i j c else D.a i c) ->
  aq (fun N g=>gN N (i:Int) (j:Int) (n:Int) (m:Int) (bg D.v).fN.fG (bg D.v).fN.fL (bg D.v).fD.fG (bg D.v).fD.fL (h:Int) (LN D.k7 m) (LN D.fr k) (LA D.a m k) (LQ D.b m) (LQ D.g k)
   g (LQ R k) (x:Int)) (RT n m k h (D.nG i j))
 | 0,x,R,B,u=>by
  have C:RB (D.b i / D.a i j) (2 * s):=((b.b i hi).div (b.a i j hi l) p).le ad;have o:=(b.a i j hi l).q (show s<=MS by omega);refine aq.succ (fun N g=>gN.eq_2 ..) (aq.a9 (dnl (m:=x) (n:=k) ad (by simp only [ai,GF _ _ hi,cM])) ?_);simp only [ai,GF _ _ hi,lL _ _ hi,lL _ _ l];refine aq.bind (oC (z:=1) ay ay) (aq.bind ((cE.RB1.q ay).anb o p (YX ay)) (aq.if (inl l (cM _ _)) (aq.if (inl hi (cM _ _))
   (aq.bind (((b.b i hi).q ad).anb o p (YX ay)) (aq.bind (by have:=wU (C.q (show 2 * s<=MS by omega)).ir ay (YX ay);rwa [me] at this) ?_)))))
  simp only [LH];have E:=x8 (f:=fun a=>if a=j then (1:Rat) / D.a i j else R a) (g:=D.uV i j) (n:=k) fun c o=>by
   by_cases q:c=j
   ·rw [if_pos q];unfold cE.uV;rw [if_pos q]
   ·rw [if_neg q,u c o,if_pos ⟨ad,q⟩]
  have:=(M0 hm v hi l w y b p m 0 D.a (fun a=>if a=i then -(D.b i / D.a i j) else D.b a) ad (fun r c _ _=>by rw [if_neg ad]) (fun r G=>by
   by_cases q:r=i
   ·rw [if_pos q,if_pos (.inl q)];simp only [cE.nG,if_pos q];rfl
   ·rw [if_neg q,if_neg ad]) (n:=n) (h:=h)).diag
  rw [<- E] at this;exact aq.one this
 | d+1,x,R,B,u=>by
  have t:x < k:=ad;have o:=(b.a i j hi l).q (show s<=MS by omega);have F:RB (D.a i x / D.a i j) (2 * s):=((b.a i x hi t).div (b.a i j hi l) p).le ad;have ex:R x=D.a i x:=by rw [u x t,if_neg ad]
  refine aq.succ (fun N g=>gN.eq_2 ..) (aq.aN (dlt (n:=k) t (by simp only [ai,GF _ _ hi,cM])) ?_);simp only [ai,GF _ _ hi,lL _ _ t,ex,lL _ _ l,aX (show x < 9223372036854775807 by omega),mA]
  by_cases e:x=j
  ·refine aq.a9 (by simp;omega) (TM hm v hi l w y b p d (x+1) R ad fun c o=>?_);rw [u c o]
   by_cases q:c < x/\c≠j
   ·rw [if_pos q,if_pos ⟨ad,q.2⟩]
   ·rw [if_neg q,if_neg ad]
  ·refine aq.aN (by simp;omega) (aq.if (inl t (cM _ _)) (aq.bind (((b.a i x hi t).q ad).anb o p (YX ay)) (aq.bind (by have:=wU (F.q (show 2 * s<=MS by omega)).ir ay (YX ay);rwa [me] at this) ?_)));simp only [LH];refine TM hm v hi l w y b p d (x+1) _ ad fun c o=>?_
   by_cases A:c=x
   ·rw [if_pos A,if_pos ⟨ad,ad⟩,A];unfold cE.uV;rw [if_neg e]
   ·rw [if_neg A,u c o]
    by_cases q:c < x/\c≠j
    ·rw [if_pos q,if_pos ⟨ad,q.2⟩]
    ·rw [if_neg q,if_neg ad]
theorem TN (hm:m<=1000) (b:k<=1000) (hi:i < m) (a:j < k) (d:5 * s<=MS) (e:1<=s) (f:D.Ng m k s) (g:D.a i j≠0) :
  Gv (fun N=>mY N (i:Int) (j:Int) (n:Int) (m:Int) (bg D.v).fN.fG (bg D.v).fN.fL (bg D.v).fD.fG (bg D.v).fD.fL (h:Int) (LN D.k7 m) (LN D.fr k) (LA D.a m k) (LQ D.b m) (LQ D.g k)) (RT n m k h (D.nG i j)):=by
 have:=(TM hm b hi a d e f g k 0 (D.a i) ad (fun c _=>by rw [if_neg ad]) (n:=n) (h:=h)).diag;refine Gv.if (by rw [qC];exact hi) (Gv.if (inl hi (qC _ _ _)) (Gv.if (inl a (by simp only [ai,GF _ _ hi,cM])) ?_));simp only [ai,GF _ _ hi];exact this
end
section
variable {n m k h j s:Nat} {D:cE}
def agc (D:cE) (x:Nat) (a:Int):Prop:=(a = -1/\∀ j,j < x->D.g j<=0)\/∃ b:Nat,a=b/\b < x/\0 < D.g b/\∀ j',j' < x->0 < D.g j'->D.fr b<=D.fr j'
theorem akq (B:k<=1000) (z:s<=MS) (A:D.Ng m k s):∀ (d x:Nat) (a:Int),x+d=k->agc D x a ->
  ∃ r,aq (fun N g=>dj N (n:Int) (m:Int) (bg D.v).fN.fG (bg D.v).fN.fL (bg D.v).fD.fG (bg D.v).fD.fL (h:Int) (LN D.k7 m) (LN D.fr k) (LA D.a m k) (LQ D.b m) (LQ D.g k) g a (x:Int)) r/\agc D k r
 | 0,x,a,C,o=>⟨a,aq.succ (fun N g=>dj.eq_2 ..) (aq.a9 (dnl (m:=x) (n:=k) ad (jy _ _)) (aq.one (Gv.pure _))),by rw [show k=x by omega];exact o⟩
 | d+1,x,a,C,o=>by
  have i:x < k:=ad;have v:=((A.g x i).q z).oE ay;have E:∀ z6:Int,agc D (x+1) z6->(cond (cond (decide (oE (D.g x) > 0)) (cond (decide (a < 0)) true (decide ((LN D.fr k).getD x 0 < (LN D.fr k).getD a.toNat 0))) false) (x:Int) a)=z6 ->
    ∃ r,aq (fun N g=>dj N (n:Int) (m:Int) (bg D.v).fN.fG (bg D.v).fN.fL (bg D.v).fD.fG (bg D.v).fD.fL (h:Int) (LN D.k7 m) (LN D.fr k) (LA D.a m k) (LQ D.b m) (LQ D.g k) (g+1) a (x:Int)) r/\agc D k r:=fun z6 f c=>by
   obtain ⟨r,t,w⟩:=akq B z A d (x+1) z6 ad f;refine ⟨r,?_,w⟩;have hb:0<=a->a < ((k:Nat):Int):=fun F=>by
    rcases o with ⟨e,_⟩ | ⟨b,e,hb,_⟩<;>omega
   have:aq (fun N g=>dj N (n:Int) (m:Int) (bg D.v).fN.fG (bg D.v).fN.fL (bg D.v).fD.fG (bg D.v).fD.fL (h:Int) (LN D.k7 m) (LN D.fr k) (LA D.a m k) (LQ D.b m) (LQ D.g k) (g+1) a (x:Int)) r:=by
    simp only [dj];refine aq.aN (dlt (n:=k) i (jy _ _)) (aq.if (inl i (cM _ _)) ?_);simp only [ai,lL _ _ i,kG,aX (show x < 9223372036854775807 by omega)];refine aq.bind v (aq.if (fun _=>inl i (jy _ _)) (aq.if (fun q=>?_) ?_))
    ·simp at q;rw [jy];exact ⟨ad,hb ad⟩
    ·revert c;cases (cond (decide (oE (D.g x) > 0)) (cond (decide (a < 0)) true (decide ((LN D.fr k).getD x 0 < (LN D.fr k).getD a.toNat 0))) false) with
     | true=>intro c;refine aq.aN rfl ?_;simp only [cond_true] at c;rw [c];exact t
     | false=>intro c;refine aq.a9 rfl ?_;simp only [cond_false] at c;rw [c];exact t
   exact this
  have fin:∀ {z6:Int},agc D (x+1) z6->(cond (cond (decide (oE (D.g x) > 0)) (cond (decide (a < 0)) true (decide ((LN D.fr k).getD x 0 < (LN D.fr k).getD a.toNat 0))) false) (x:Int) a)=z6 ->
    ∃ r,aq (fun N g=>dj N (n:Int) (m:Int) (bg D.v).fN.fG (bg D.v).fN.fL (bg D.v).fD.fG (bg D.v).fD.fL (h:Int) (LN D.k7 m) (LN D.fr k) (LA D.a m k) (LQ D.b m) (LQ D.g k) g a (x:Int)) r/\agc D k r:=fun f c=>by
   obtain ⟨r,t,w⟩:=E _ f c;exact ⟨r,aq.succ (fun _ _=>rfl) t,w⟩
  by_cases j:0 < D.g x
  ·have p:decide (oE (D.g x) > 0)=true:=decide_eq_true (MR.2 j);rcases o with ⟨rfl,hb⟩ | ⟨b,rfl,hb,y,u⟩
   ·refine fin (z6:=x) (.inr ⟨x,rfl,ad,j,fun j' f c=>?_⟩) (by rw [p];rfl)
    by_cases e:j'=x
    ·rw [e];exact aH _
    ·exact absurd c (Rat.not_lt.2 (hb j' ad))
   ·have l:decide (((b:Nat):Int) < 0)=false:=aD
    by_cases G:D.fr x < D.fr b
    ·refine fin (z6:=x) (.inr ⟨x,rfl,ad,j,fun j' f c=>?_⟩) (by
      rw [p,l,AO _ _ i,ai,AO _ _ (show b < k by omega),decide_eq_true (show ((D.fr x:Nat):Int) < ((D.fr b:Nat):Int) by omega)];rfl)
     by_cases e:j'=x
     ·rw [e];exact aH _
     ·have:=u j' ad c;omega
    ·refine fin (z6:=b) (.inr ⟨b,rfl,ad,y,fun j' f c=>?_⟩) (by
      rw [p,l,AO _ _ i,ai,AO _ _ (show b < k by omega),decide_eq_false (show ¬ ((D.fr x:Nat):Int) < ((D.fr b:Nat):Int) by omega)];rfl)
     by_cases e:j'=x
     ·rw [e];omega
     ·exact u j' ad c
  ·have p:decide (oE (D.g x) > 0)=false:=decide_eq_false fun q=>j (MR.1 q);refine fin (z6:=a) ?_ (by rw [p];rfl);rcases o with ⟨e,hb⟩ | ⟨b,e,hb,y,u⟩
   ·refine .inl ⟨e,fun j' f=>?_⟩
    by_cases l:j'=x
    ·rw [l];exact Rat.not_lt.1 j
    ·exact hb j' ad
   ·refine .inr ⟨b,e,ad,y,fun j' f c=>?_⟩
    by_cases l:j'=x
    ·rw [l] at c;exact absurd c j
    ·exact u j' ad c
theorem aqx (a:k<=1000) (c:s<=MS) (d:D.Ng m k s):∃ r,Gv (fun N=>pY N (n:Int) (m:Int) (bg D.v).fN.fG (bg D.v).fN.fL (bg D.v).fD.fG (bg D.v).fD.fL (h:Int) (LN D.k7 m) (LN D.fr k) (LA D.a m k) (LQ D.b m) (LQ D.g k)) r /\
  ((r = -1/\∀ j,j < k->D.g j<=0)\/∃ j:Nat,r=j/\D.Qz k j):=by
 obtain ⟨r,f,g⟩:=akq a c d k 0 (-1) ad (.inl ⟨rfl,fun j i=>absurd i (iq _)⟩) (n:=n) (h:=h);refine ⟨r,f.diag,?_⟩;rcases g with h | ⟨b,e,l,o,p⟩
 ·exact .inl h
 ·exact .inr ⟨b,e,l,o,p⟩
def anr (D:cE) (j x:Nat) (c:Int) (a:ab):Prop:=(c = -1/\∀ i,i < x->0<=D.a i j)\/∃ b:Nat,c=b/\b < x/\D.a b j < 0/\a=bg (D.ratio j b) /\
 ∀ i',i' < x->D.a i' j < 0->D.ratio j b < D.ratio j i'\/D.ratio j b=D.ratio j i'/\D.k7 b<=D.k7 i'
theorem akr (hm:m<=1000) (A:j < k) (S:2 * s<=MS) (z:D.Ng m k s):∀ (d x:Nat) (f:Int) (a:ab),x+d=m->anr D j x f a ->
  ∃ r l,aq (fun N g=>dw N (j:Int) (n:Int) (m:Int) (bg D.v).fN.fG (bg D.v).fN.fL (bg D.v).fD.fG (bg D.v).fD.fL (h:Int) (LN D.k7 m) (LN D.fr k) (LA D.a m k) (LQ D.b m) (LQ D.g k) g f a (x:Int)) r/\anr D j m r l
 | 0,x,f,a,Y,J=>⟨f,a,aq.succ (fun N g=>dw.eq_2 ..) (aq.a9 (dnl (m:=x) (n:=m) ad (jy _ _)) (aq.one (Gv.pure _))),by rw [show m=x by omega];exact J⟩
 | d+1,x,f,a,Y,J=>by
  have i:x < m:=ad;have W:=(z.a x j i A).q (show s<=MS by omega);have T:=W.oE ay;have Z:Gv (fun N=>ke N (bg (D.a x j))) (bg (-(D.a x j))):=by have:=wU W.ir ay (YX ay);rwa [me] at this
  have F:∀ (z6:Int) (K:ab),anr D j (x+1) z6 K->(0<=D.a x j->z6=f/\K=a) ->
    (D.a x j < 0->∀ c:Int,(f < 0/\c = -1\/∃ b:Nat,f=b/\b < m/\c=oE (D.ratio j x - D.ratio j b)) ->
     cond (cond (decide (c < 0)) true (cond (c == 0) (decide ((LN D.k7 m).getD x 0 < (LN D.k7 m).getD f.toNat 0)) false)) ((x:Int),bg (D.ratio j x)) (f,a)=(z6,K)) ->
    ∃ r l,aq (fun N g=>dw N (j:Int) (n:Int) (m:Int) (bg D.v).fN.fG (bg D.v).fN.fL (bg D.v).fD.fG (bg D.v).fD.fL (h:Int) (LN D.k7 m) (LN D.fr k) (LA D.a m k) (LQ D.b m) (LQ D.g k) g f a (x:Int)) r/\anr D j m r l:=fun z6 K L B h5=>by
   obtain ⟨r,l,C,h4⟩:=akr hm A S z d (x+1) z6 K ad L;refine ⟨r,l,aq.succ (fun N g=>dw.eq_2 ..) (aq.aN (dlt (n:=m) i (jy _ _)) ?_),h4⟩;simp only [ai,GF _ _ i,lL _ _ A,lL _ _ i,cM,qC,iR,aX (show x < 9223372036854775807 by omega)];refine aq.if i (aq.if (k6 i) (aq.if (k6 A) (aq.bind T ?_)))
   by_cases M:0<=D.a x j
   ·have e:decide (oE (D.a x j)>=0)=true:=decide_eq_true (Int.not_lt.1 fun q=>by have:=qK.1 q;grind);obtain ⟨G,t⟩:=B M;refine aq.aN e ?_;rw [G,t] at C;exact C
   ·have H:D.a x j < 0:=Rat.not_le.1 M;have e:decide (oE (D.a x j)>=0)=false:=decide_eq_false fun q=>by have:=qK.2 H;omega
    have X:-(D.a x j)≠0:=by grind
    have U:=((z.b x i).q (show s<=MS by omega)).anb (((z.a x j i A).neg).q (show s<=MS by omega)) X (YX ay);refine aq.a9 e (aq.if (k6 i) (aq.bind Z (aq.bind U ?_)));have O:∀ c:Int,(f < 0/\c = -1\/∃ b:Nat,f=b/\b < m/\c=oE (D.ratio j x - D.ratio j b))->aq (fun N g=>jE N (j:Int) (n:Int) (m:Int) (bg D.v).fN.fG (bg D.v).fN.fL (bg D.v).fD.fG (bg D.v).fD.fL (h:Int) (LN D.k7 m) (LN D.fr k) (LA D.a m k) (LQ D.b m) (LQ D.g k) f a (x:Int) (bg (D.b x / -(D.a x j)))
      (dw N (j:Int) (n:Int) (m:Int) (bg D.v).fN.fG (bg D.v).fN.fL (bg D.v).fD.fG (bg D.v).fD.fL (h:Int) (LN D.k7 m) (LN D.fr k) (LA D.a m k) (LQ D.b m) (LQ D.g k) g) c) r:=fun c o=>by
     have u:=h5 H c o;simp only [jE,iR,ai,aX (show x < 9223372036854775807 by omega)];refine aq.if (fun _=>inl i (jy _ _)) (aq.if (fun q=>?_) ?_)
     ·rw [jy];rcases o with ⟨_,e⟩ | ⟨b,e,hb,_⟩
      ·simp [e] at q
      ·omega
     ·revert u;cases (cond (decide (c < 0)) true (cond (c == 0) (decide ((LN D.k7 m).getD x 0 < (LN D.k7 m).getD f.toNat 0)) false)) with
      | true=>intro u;simp only [cond_true,bk] at u;refine aq.aN rfl ?_;rw [<- u.1,<- u.2] at C;exact C
      | false=>intro u;simp only [cond_false,bk] at u;refine aq.a9 rfl ?_;rw [<- u.1,<- u.2] at C;exact C
    rcases J with ⟨G,_⟩ | ⟨b,G,hb,hbn,t,_⟩
    ·exact aq.a9 (by simp [G]) (O (-1) (.inl ⟨ad,rfl⟩))
    ·have p:b < m:=ad;have P:RB (D.ratio j x) (2 * s):=by unfold cE.ratio;exact ((z.b x i).div (z.a x j i A).neg X).le ad
     have v:RB (D.ratio j b) (2 * s):=by unfold cE.ratio;exact ((z.b b p).div (z.a b j p A).neg (by grind)).le ad
     refine aq.aN (by simp [G]) (aq.bind (r:=oE (D.ratio j x - D.ratio j b)) ?_ (O _ (.inr ⟨b,G,p,rfl⟩)));rw [t];exact (P.q S).cmp (v.q S) (YX ay)
  by_cases M:0<=D.a x j
  ·refine F f a ?_ (fun _=>⟨rfl,rfl⟩) fun q=>by grind
   rcases J with ⟨e,hb⟩ | ⟨b,e,hb,R,e3,I⟩
   ·refine .inl ⟨e,fun j' L=>?_⟩
    by_cases t:j'=x
    ·rw [t];exact M
    ·exact hb j' ad
   ·refine .inr ⟨b,e,ad,R,e3,fun j' L B=>?_⟩
    by_cases t:j'=x
    ·rw [t] at B;grind
    ·exact I j' ad B
  ·have H:D.a x j < 0:=Rat.not_le.1 M;rcases J with ⟨rfl,hb⟩ | ⟨b,rfl,hb,R,rfl,I⟩
   ·refine F x (bg (D.ratio j x)) (.inr ⟨x,rfl,ad,H,rfl,fun j' L B=>?_⟩) (fun q=>by grind) fun _ c o=>?_
    ·by_cases e:j'=x
     ·rw [e];exact .inr ⟨rfl,aH _⟩
     ·have:=hb j' ad;grind
    ·rcases o with ⟨_,e⟩ | ⟨b,e,_⟩
     ·rw [e];rfl
     ·omega
   ·have w:∀ c:Int,(((b:Nat):Int) < 0/\c = -1\/∃ Q:Nat,((b:Nat):Int)=Q/\Q < m/\c=oE (D.ratio j x - D.ratio j Q))->c=oE (D.ratio j x - D.ratio j b):=fun c o=>by
     rcases o with ⟨e,_⟩ | ⟨Q,e,_,t⟩
     ·omega
     ·rw [t,show Q=b by omega]
    have p:b < m:=ad
    by_cases L:D.ratio j x < D.ratio j b
    ·refine F x (bg (D.ratio j x)) (.inr ⟨x,rfl,ad,H,rfl,fun j' P v=>?_⟩) (fun q=>by grind) fun _ c o=>?_
     ·by_cases e:j'=x
      ·rw [e];exact .inr ⟨rfl,aH _⟩
      ·rcases I j' ad v with V | ⟨V,_⟩
       ·exact .inl (by grind)
       ·exact .inl (by grind)
     ·rw [w c o,decide_eq_true (qK.2 (show D.ratio j x - D.ratio j b < 0 by grind))];rfl
    ·have E:decide (oE (D.ratio j x - D.ratio j b) < 0)=false:=decide_eq_false fun q=>by have:=qK.1 q;grind
     by_cases B:D.ratio j x=D.ratio j b
     ·have y:(oE (D.ratio j x - D.ratio j b) == 0)=true:=by rw [beq_iff_eq];exact vt.2 (by grind)
      by_cases C:D.k7 x < D.k7 b
      ·refine F x (bg (D.ratio j x)) (.inr ⟨x,rfl,ad,H,rfl,fun j' P v=>?_⟩) (fun q=>by grind) fun _ c o=>?_
       ·by_cases e:j'=x
        ·rw [e];exact .inr ⟨rfl,aH _⟩
        ·rcases I j' ad v with V | ⟨V,q4⟩
         ·exact .inl (by grind)
         ·exact .inr ⟨by grind,ad⟩
       ·rw [w c o,E,y,AO _ _ i,ai,AO _ _ p,decide_eq_true (show ((D.k7 x:Nat):Int) < ((D.k7 b:Nat):Int) by omega)];rfl
      ·refine F b (bg (D.ratio j b)) (.inr ⟨b,rfl,ad,R,rfl,fun j' P v=>?_⟩) (fun q=>by grind) fun _ c o=>?_
       ·by_cases e:j'=x
        ·rw [e];exact .inr ⟨B.symm,ad⟩
        ·exact I j' ad v
       ·rw [w c o,E,y,AO _ _ i,ai,AO _ _ p,decide_eq_false (show ¬ ((D.k7 x:Nat):Int) < ((D.k7 b:Nat):Int) by omega)];rfl
     ·have y:(oE (D.ratio j x - D.ratio j b) == 0)=false:=by
       rw [beq_eq_false_iff_ne];intro q;have:=vt.1 q;grind
      refine F b (bg (D.ratio j b)) (.inr ⟨b,rfl,ad,R,rfl,fun j' P v=>?_⟩) (fun q=>by grind) fun _ c o=>?_
      ·by_cases e:j'=x
       ·rw [e];exact .inl (by grind)
       ·exact I j' ad v
      ·rw [w c o,E,y];rfl
theorem aqy (hm:m<=1000) (a:j < k) (c:2 * s<=MS) (d:D.Ng m k s):∃ r,Gv (fun N=>qG N (j:Int) (n:Int) (m:Int) (bg D.v).fN.fG (bg D.v).fN.fL (bg D.v).fD.fG (bg D.v).fD.fL (h:Int) (LN D.k7 m) (LN D.fr k) (LA D.a m k) (LQ D.b m) (LQ D.g k)) r /\
  ((r = -1/\∀ i,i < m->0<=D.a i j)\/∃ i:Nat,r=i/\D.MY m j i):=by
 obtain ⟨r,l,f,g⟩:=akr hm a c d m 0 (-1) _ ad (.inl ⟨rfl,fun j a=>absurd a (iq _)⟩) (n:=n) (h:=h);refine ⟨r,f.diag,?_⟩;rcases g with h | ⟨b,e,o,p,_,q⟩
 ·exact .inl h
 ·exact .inr ⟨b,e,o,p,q⟩
def Stop (D:cE) (m k:Nat) (r:Int):Prop:=(r = -1/\∀ j,j < k->D.g j<=0)\/∃ j:Nat,r=j/\D.Qz k j/\∀ i,i < m->0<=D.a i j
theorem aks {e5:Nat} (q:cE.Ok5 k s e5) (hm:m<=1000) (f:k<=1000) {D0:cE} (t:D0.WF m k) (u:D0.Ng m k s) (l:1<=s) (v:5 * (5 ^ e5 * s)<=MS) (hw:D.WF m k) (c:D.Fea m) (he:cE.LU m k D0 D) :
  ∃ D' r,D'.WF m k/\D'.Fea m/\cE.LU m k D0 D'/\Stop D' m k r/\aq (fun N g=>gP N g (n:Int) (m:Int) (LN D.k7 m) (LN D.fr k) (LA D.a m k) (LQ D.b m) (LQ D.g k) (bg D.v).fN.fG (bg D.v).fN.fL (bg D.v).fD.fG (bg D.v).fD.fL (h:Int)) (r,RT n m k h D'):=by
 induction cE.ake hw c with
 | intro D _ w =>
  have d:=cE.aau q hw t he u l;have x:1<=5 ^ e5 * s:=gf l (Nat.le_mul_of_pos_left _ (Nat.pow_pos ay));obtain ⟨r,e,a⟩:=aqx f ad d (n:=n) (h:=h);rcases a with ⟨rfl,a⟩ | ⟨j,rfl,a⟩
  ·exact ⟨D,-1,hw,c,he,.inl ⟨rfl,a⟩,aq.succ (fun N g=>gP.eq_2 ..) (aq.bind e (aq.aN ay (aq.one (Gv.pure _))))⟩
  ·obtain ⟨r,o,b⟩:=aqy hm a.lt ad d (n:=n) (h:=h);rcases b with ⟨rfl,b⟩ | ⟨i,rfl,b⟩
   ·exact ⟨D,j,hw,c,he,.inr ⟨j,rfl,a,b⟩,aq.succ (fun N g=>gP.eq_2 ..) (aq.bind e (aq.a9 aD (aq.bind o (aq.aN ay (aq.one (Gv.pure _))))))⟩
   ·have p:D.a i j≠0:=by have:=b.neg;grind
    obtain ⟨D',r,y,z,A,B,C⟩:=w (D.nG i j) ⟨j,i,a,b,rfl⟩ (hw.nG b.lt a.lt) (c.nG b) (he.trans (.nG b.lt a.lt p));refine ⟨D',r,y,z,A,B,aq.succ (fun N g=>gP.eq_2 ..) (aq.bind e (aq.a9 aD (aq.bind o (aq.a9 aD (aq.bind (TN hm f b.lt a.lt v x d p) ?_)))))⟩;simp only [RT,jy,qC,cM];exact aq.if trivial (aq.if trivial (aq.if trivial (aq.if trivial (aq.if trivial C))))
end
theorem akt {f:Nat->Nat} {k v:Nat} (b:k<=1000):∀ d x,x+d=k->(∀ j,j < x->f j≠v)->∃ r,aq (fun N g=>ee N (LN f k) (v:Int) g (x:Int)) r/\((r = -1/\∀ j,j < k->f j≠v)\/∃ j:Nat,r=j/\j < k/\f j=v)
 | 0,x,c,h=>⟨-1,aq.succ (fun N g=>ee.eq_2 ..) (aq.a9 (dnl (m:=x) (n:=k) ad (jy _ _)) (aq.one (Gv.pure _))),.inl ⟨rfl,fun j i=>h j ad⟩⟩
 | d+1,x,c,h=>by
  have a:x < k:=ad
  by_cases e:f x=v
  ·refine ⟨x,aq.succ (fun N g=>ee.eq_2 ..) (aq.aN (dlt (n:=k) a (jy _ _)) (aq.if (inl a (jy _ _)) (aq.aN ?_ (aq.one (Gv.pure _))))),.inr ⟨x,rfl,a,e⟩⟩;rw [ai,AO _ _ a,e];simp
  ·obtain ⟨r,l,o⟩:=akt (f:=f) (v:=v) b d (x+1) ad fun j i=>by
    by_cases q:j=x
    ·rw [q];exact e
    ·exact h j ad
   refine ⟨r,aq.succ (fun N g=>ee.eq_2 ..) (aq.aN (dlt (n:=k) a (jy _ _)) (aq.if (inl a (jy _ _)) (aq.a9 ?_ ?_))),o⟩
   ·rw [ai,AO _ _ a];simp;omega
   ·rw [aX (show x < 9223372036854775807 by omega)];exact l
theorem Yx {f:Nat->Nat} {k v:Nat} (a:k<=1000):∃ r,Gv (fun N=>iS N (LN f k) (v:Int)) r/\((r = -1/\∀ j,j < k->f j≠v)\/∃ j:Nat,r=j/\j < k/\f j=v):=by
 obtain ⟨r,b,c⟩:=akt (f:=f) (v:=v) a k 0 ad fun j d=>absurd d (iq _);exact ⟨r,b.diag,c⟩
theorem aku {f:Nat->Rat} {k s:Nat} (l:k<=1000) (b:s<=MS) (c:∀ j,j < k->RB (f j) s):∀ d x,x+d=k->(∀ j,j < x->f j=0) ->
  ∃ r,aq (fun N g=>eh N (LQ f k) g (x:Int)) r/\((r = -1/\∀ j,j < k->f j=0)\/∃ j:Nat,r=j/\j < k/\f j≠0)
 | 0,x,o,h=>⟨-1,aq.succ (fun N g=>eh.eq_2 ..) (aq.a9 (dnl (m:=x) (n:=k) ad (cM _ _)) (aq.one (Gv.pure _))),.inl ⟨rfl,fun j p=>h j ad⟩⟩
 | d+1,x,o,h=>by
  have a:x < k:=ad;have i:Gv (fun N=>pZ N (bg (f x))) (!decide (f x=0)):=Gv.bind (((c x a).q b).zero ay) (Gv.pure _)
  by_cases e:f x=0
  ·obtain ⟨r,t,u⟩:=aku l b c d (x+1) ad fun j p=>by
    by_cases q:j=x
    ·rw [q];exact e
    ·exact h j ad
   refine ⟨r,aq.succ (fun N g=>eh.eq_2 ..) (aq.aN (dlt (n:=k) a (cM _ _)) (aq.if (inl a (cM _ _)) ?_)),u⟩;simp only [ai,lL _ _ a,aX (show x < 9223372036854775807 by omega)];exact aq.bind i (aq.a9 (by simp [e]) t)
  ·refine ⟨x,aq.succ (fun N g=>eh.eq_2 ..) (aq.aN (dlt (n:=k) a (cM _ _)) (aq.if (inl a (cM _ _)) ?_)),.inr ⟨x,rfl,a,e⟩⟩;simp only [ai,lL _ _ a];exact aq.bind i (aq.aN (by simp [e]) (aq.one (Gv.pure _)))
theorem aqz {f:Nat->Rat} {k s:Nat} (a:k<=1000) (b:s<=MS) (c:∀ j,j < k->RB (f j) s) :
  ∃ r,Gv (fun N=>nQ N (LQ f k)) r/\((r = -1/\∀ j,j < k->f j=0)\/∃ j:Nat,r=j/\j < k/\f j≠0):=by
 obtain ⟨r,d,e⟩:=aku a b c k 0 ad fun j g=>absurd g (iq _);exact ⟨r,d.diag,e⟩
def sk (c j:Nat):Nat:=if j < c then j else j+1
section
variable {α:Type}
theorem aeD (f:Nat->α) {k c:Nat} (e:c<=k):(wV (I5 f (k+1)) c (c+1)).take ((c - 0)+((I5 f (k+1)).length - (c+1)))=I5 (fun j=>f (sk c j)) k:=by
 refine List.ext_getElem? fun j=>?_;have d:((I5 f (k+1)).take c).length=c:=by rw [ud,rY];omega
 have a:∀ {n i:Nat} (g:Nat->α),(I5 g n)[i]?=if i < n then some (g i) else none:=fun {n i} g=>by
  unfold I5
  by_cases h:i < n<;>simp [h]
 rw [xa,rY,a];unfold wV
 by_cases h:j < c
 ·rw [if_pos ad,if_pos ad,AX,mg ad,xa,if_pos h,a,if_pos ad];unfold sk;rw [if_pos h]
 ·by_cases b:j < k
  ·have l:((I5 f (k+1)).drop (c+1)).length=k - c:=by rw [List.length_drop,rY];omega
   rw [if_pos ad,if_pos b,AX,o5 ad,d,mg ad,vz,a,if_pos ad];unfold sk;rw [if_neg h,show c+1+(j - c)=j+1 by omega]
  ·rw [if_neg ad,if_neg b]
theorem aeE (f:Nat->α) {k c:Nat} (a:c<=k):(wV (I5 f (k+1)) c (c+1)).length=k+1:=by
 rw [<- Qq ⟨ad,by rw [rY];omega⟩,rY]
end
theorem ans (f:Nat->Nat) {k c:Nat} (a:c<=k) (d:k<=1000):Gv (fun N=>mZ N (c:Int) (av ((c:Int)+1)) (LN f (k+1))) (LN (fun j=>f (sk c j)) k,LN (fun j=>f (sk c j)) k):=by
 rw [aX ad];have e:=aeE (fun i=>((f i:Nat):Int)) a;have b:=aeD (fun i=>((f i:Nat):Int)) a;refine Gv.if (by rw [jy];omega) (Gv.a9 (by simp;omega) ?_);simp only [ai];refine Gv.if (by rw [jy];omega) (Gv.if ad (Gv.if (by rw [jy];omega) (Gv.if ad (Gv.if (by rw [jy];omega) (Gv.if (by rw [jy];omega) (Gv.if ?_ (Gv.if ?_ ((Gv.pure _).eq ?_))))))))
 ·rw [jy];unfold LN;rw [e];omega
 ·rw [jy];unfold LN;rw [e];omega
 ·unfold LN;rw [b]
theorem ant (f:Nat->Rat) {k c:Nat} (a:c<=k) (d:k<=1000):Gv (fun N=>qH N (c:Int) (av ((c:Int)+1)) (LQ f (k+1))) (LQ (fun j=>f (sk c j)) k,LQ (fun j=>f (sk c j)) k):=by
 rw [aX ad];have e:=aeE (fun i=>bg (f i)) a;have b:=aeD (fun i=>bg (f i)) a;refine Gv.if (by rw [cM];omega) (Gv.a9 (by simp;omega) ?_);simp only [ai];refine Gv.if (by rw [cM];omega) (Gv.if ad (Gv.if (by rw [cM];omega) (Gv.if ad (Gv.if (by rw [cM];omega) (Gv.if (by rw [cM];omega) (Gv.if ?_ (Gv.if ?_ ((Gv.pure _).eq ?_))))))))
 ·rw [cM];unfold LQ;rw [e];omega
 ·rw [cM];unfold LQ;rw [e];omega
 ·unfold LQ;rw [b]
def cE.del (D:cE) (c:Nat):cE where
 k7:=D.k7
 fr:=fun j=>D.fr (sk c j)
 a:=fun i j=>D.a i (sk c j)
 b:=D.b
 g:=fun _=>0
 v:=0
def RS (ok:Bool) (n m k h:Nat) (D:cE):Bool×re×List Int×List Int×List (List ab)×List ab :=
 (ok,⟨n,m,LN D.k7 m,LN D.fr k,LA D.a m k,LQ D.b m,LQ D.g k,bg D.v,h⟩,LN D.k7 m,LN D.fr k,LA D.a m k,LQ D.b m)
section
variable {n m k h c s:Nat} {D:cE}
theorem aqA (z:Int) (a:-1000<=z) (b:z<=1000):Gv (fun N=>fc N z) (bg (z:Rat)):=oC ad ad
theorem Dc:Gv (fun N=>fc N 0) (bg 0):=oC (z:=0) ay ay
theorem akv (l:k<=1000) {v1 v3:Bool} {v2 v4:List Int}:∀ (d x:Nat) (L:List ab),x+d=k->L.length=k->(∀ j,j < x->L.getD j ab.d=bg 0) ->
  aq (fun N g=>ig N (n:Int) (m:Int) (LN D.k7 m) (LQ D.b m) v1 v2 v3 v4 (h:Int) (LN (fun j=>D.fr (sk c j)) k,LN (fun j=>D.fr (sk c j)) k) (LA (fun i j=>D.a i (sk c j)) m k) g L (x:Int)) (RS true n m k h (D.del c))
 | 0,x,L,o,a,b=>by
  refine aq.succ (fun N g=>ig.eq_2 ..) (aq.a9 (dnl (m:=x) (n:=k) ad (by rw [tx,jy])) (aq.bind Dc (aq.one ((Gv.pure _).eq ?_))));rw [show L=LQ (fun _=>0) k from O9 ab.d a fun j p=>b j ad];rfl
 | d+1,x,L,o,a,b=>by
  have f:x < k:=ad;refine aq.succ (fun N g=>ig.eq_2 ..) (aq.aN (dlt (n:=k) f (by rw [tx,jy])) (aq.bind Dc (aq.if (inl f a) ?_)));rw [aX (show x < 9223372036854775807 by omega)];refine akv l d (x+1) _ ad (by rw [List.length_set];exact a) fun j p=>?_;rw [ai]
  by_cases e:x=j
  ·subst e;exact yY _ _ _ _ ad
  ·rw [sP _ _ _ e];exact b j ad
theorem akw (hm:m<=1000) (f:k<=1000) (o:c<=k) {g0:List ab} {v1 v3:Bool} {v2 v4:List Int}:∀ (d x:Nat) (G:Nat->List ab),x+d=m->(∀ r,r < m->G r=if r < x then LQ (fun j=>D.a r (sk c j)) k else LQ (D.a r) (k+1)) ->
  aq (fun N g=>ij N (n:Int) (m:Int) (LN D.k7 m) (LA D.a m (k+1)) (LQ D.b m) g0 v1 v2 v3 v4 (h:Int) (c:Int) (LN (fun j=>D.fr (sk c j)) k,LN (fun j=>D.fr (sk c j)) k) g (I5 G m) (x:Int)) (RS true n m k h (D.del c))
 | 0,x,G,s,b=>by
  refine aq.succ (fun N g=>ij.eq_2 ..) (aq.a9 (dnl (m:=x) (n:=m) ad (qC _ _ _)) ?_);simp only [jy];refine aq.if ad ?_;rw [show I5 G m=LA (fun i j=>D.a i (sk c j)) m k from q9 fun r l=>by rw [b r l,if_pos ad]];have:=(akv f (n:=n) (m:=m) (h:=h) (c:=c) (D:=D) (v1:=v1) (v2:=v2) (v3:=v3) (v4:=v4) k 0 (List.replicate k ab.d) ad tx fun j t=>absurd t (iq _)).diag;exact aq.one this
 | d+1,x,G,s,b=>by
  have a:x < m:=ad;have e:G x=LQ (D.a x) (k+1):=by rw [b x a,if_neg ad]
  refine aq.succ (fun N g=>ij.eq_2 ..) (aq.aN (dlt (n:=m) a (qC _ _ _)) (aq.if (by rw [rY];exact a) (aq.if (inl a (rY _ _)) ?_)));simp only [ai,Db _ _ a,e];refine aq.bind (ant (D.a x) o f) ?_;rw [aX (show x < 9223372036854775807 by omega),Bn];refine akw hm f o d (x+1) _ ad fun r l=>?_
  by_cases q:r=x
  ·rw [if_pos q,if_pos ad,q]
  ·rw [if_neg q,b r l]
   by_cases p:r < x
   ·rw [if_pos p,if_pos ad]
   ·rw [if_neg p,if_neg ad]
theorem akx (hm:m<=1000) (i:k<=999) (hw:D.WF m (k+1)) (b:c < k+1) (d:D.fr c=h) :
  Gv (fun N=>lX N (n:Int) (m:Int) (LN D.k7 m) (LN D.fr (k+1)) (LA D.a m (k+1)) (LQ D.b m) (LQ D.g (k+1)) (bg D.v).fN.fG (bg D.v).fN.fL (bg D.v).fD.fG (bg D.v).fD.fL (h:Int)) (RS true n m k h (D.del c)):=by
 obtain ⟨r,e,a⟩:=Yx (f:=D.fr) (k:=k+1) (v:=h) ad;rcases a with ⟨_,a⟩ | ⟨j,rfl,g,a⟩
 ·exact absurd d (a c b)
 ·obtain rfl:j=c:=hw.fi j c g b (a.trans d.symm);refine Gv.bind e (Gv.bind (ans D.fr ad ad) ?_);have:=(akw hm (show k<=1000 by omega) (show j<=k by omega) (n:=n) (h:=h) (D:=D) (g0:=LQ D.g (k+1)) (v1:=(bg D.v).fN.fG) (v2:=(bg D.v).fN.fL) (v3:=(bg D.v).fD.fG) (v4:=(bg D.v).fD.fL) m 0 (fun r=>LQ (D.a r) (k+1)) ad fun r _=>by rw [if_neg (iq _)]).diag;exact this
structure M1 (n m:Nat) (C:Nat->Nat->Rat) (B:Nat->Rat) (D:cE) (c:Nat):Prop where
 wf:D.WF m (2 * n+1)
 fea:D.Fea m
 eqv:(∃ z,cE.LU m (2 * n+1) (cE.fst n m C B z) D)
 lt:c < 2 * n+1
 fr:D.fr c=2 * n+m
variable {C:Nat->Nat->Rat} {B:Nat->Rat}
theorem aky {e5:Nat} (y:cE.Ok5 (2 * n+1) s e5) (hm:m<=1000) (I:2 * n<=998) {z:Rat} (A:(cE.fst n m C B z).Ng m (2 * n+1) s) (p:1<=s) (E:5 * (5 ^ e5 * s)<=MS) (hw:D.WF m (2 * n+1)) (q:D.Fea m) (he:cE.LU m (2 * n+1) (cE.fst n m C B z) D)
  (h:∀ i,i < m->D.k7 i=2 * n+m->D.b i=0/\∃ j,j < 2 * n+1/\D.a i j≠0) :
  ∃ D' c,M1 n m C B D' c/\Gv (fun N=>jX N (n:Int) (m:Int) (LN D.k7 m) (LN D.fr (2 * n+1)) (LA D.a m (2 * n+1)) (LQ D.b m) (LQ D.g (2 * n+1)) (bg D.v).fN.fG (bg D.v).fN.fL (bg D.v).fD.fG (bg D.v).fD.fL ((2 * n+m:Nat):Int)) (RS true n m (2 * n) (2 * n+m) (D'.del c)):=by
 have t:=cE.aau y hw (cE.TH n m C B z) he A p;have F:1<=5 ^ e5 * s:=gf p (Nat.le_mul_of_pos_left _ (Nat.pow_pos ay));obtain ⟨r,w,b⟩:=Yx (f:=D.k7) (k:=m) (v:=2 * n+m) hm;rcases b with ⟨rfl,b⟩ | ⟨i,rfl,hi,b⟩
 ·obtain ⟨c,x,g⟩:=cE.MW hw (u:=2 * n+m) ad fun ⟨i,hi,e⟩=>b i hi e;exact ⟨D,c,⟨hw,q,⟨z,he⟩,x,g⟩,Gv.bind w (Gv.a9 ay (akx hm ad hw x g))⟩
 ·obtain ⟨hb,G,l,o⟩:=h i hi b;obtain ⟨r,H,d⟩:=aqz (f:=D.a i) (k:=2 * n+1) ad (show 5 ^ e5 * s<=MS by omega) fun j a=>t.a i j hi a;rcases d with ⟨_,d⟩ | ⟨j,rfl,a,d⟩
  ·exact absurd (d G l) o
  ·refine ⟨D.nG i j,j,⟨hw.nG hi a,cE.akm q hb,⟨z,he.trans (.nG hi a d)⟩,a,by simp only [cE.nG,if_true];exact b⟩,Gv.bind w (Gv.aN aD ?_)⟩;simp only [ai,GF _ _ hi];refine Gv.if (by rw [qC];exact hi) (Gv.if (inl hi (qC _ _ _)) (Gv.bind H (Gv.bind (TN hm ad hi a E F t d) ?_)));simp only [RT,jy,qC,cM];exact Gv.if trivial (Gv.if trivial (Gv.if trivial (Gv.if trivial (Gv.if trivial (akx hm ad (hw.nG hi a) a (by simp only [cE.nG,if_true];exact b))))))
def as5 (B:Nat->Rat) (x:Nat) (low:Int):Prop:=(low = -1/\∀ r,r < x->0<=B r)\/∃ l:Nat,low=l/\l < x/\B l < 0/\∀ r,r < x->B l<=B r
structure QB (n m:Nat) (C:Nat->Nat->Rat) (B:Nat->Rat) (D:cE):Prop where
 wf:D.WF m (2 * n+1)
 eqv:cE.LU m (2 * n+1) (cE.fst n m C B (-1)) D
 g:∀ j,j < 2 * n+1->D.g j<=0
 v:D.v < 0
theorem aeF (z:Rat) (b:RB z s) (a:(cE.fst n m C B 0).Ng m (2 * n+1) s):(cE.fst n m C B z).Ng m (2 * n+1) s:=by
 refine ⟨a.a,a.b,fun j c=>?_,a.v⟩;have:=a.g j c;simp only [cE.fst] at this ⊢;split
 ·rw [if_pos (by assumption)] at this;exact this
 ·exact b
theorem akz {e5:Nat} (F:cE.Ok5 (2 * n+1) s e5) (hm:m<=1000) (Q:2 * n<=998) (L:(cE.fst n m C B 0).Ng m (2 * n+1) s) (f:1<=s) (M:5 * (5 ^ e5 * s)<=MS):∀ (d x:Nat) (low:Int),x+d=m->as5 B x low ->
  ∃ r,aq (fun N g=>cQ N (n:Int) (m:Int) (bg 0).fN.fG (bg 0).fN.fL (bg 0).fD.fG (bg 0).fD.fL ((2 * n+m:Nat):Int) (LN (cE.fst n m C B 0).k7 m) (LN (cE.fst n m C B 0).fr (2 * n+1))
    (LA (cE.fst n m C B 0).a m (2 * n+1)) (LQ B m) (LQ (cE.fst n m C B 0).g (2 * n+1)) g low (x:Int)) r /\
   ((∃ D,QB n m C B D/\r=RS false n m (2 * n+1) (2 * n+m) D)\/∃ D c,M1 n m C B D c/\r=RS true n m (2 * n) (2 * n+m) (D.del c))
 | 0,x,low,hx,G=>by
  have u:x=m:=ad;subst u;have step:∀ {r},(∃ N0:Nat,True)->aq (fun N g=>cQ N (n:Int) (x:Int) (bg 0).fN.fG (bg 0).fN.fL (bg 0).fD.fG (bg 0).fD.fL ((2 * n+x:Nat):Int) (LN (cE.fst n x C B 0).k7 x) (LN (cE.fst n x C B 0).fr (2 * n+1))
    (LA (cE.fst n x C B 0).a x (2 * n+1)) (LQ B x) (LQ (cE.fst n x C B 0).g (2 * n+1)) (g+1) low (x:Int)) r->aq (fun N g=>cQ N (n:Int) (x:Int) (bg 0).fN.fG (bg 0).fN.fL (bg 0).fD.fG (bg 0).fD.fL ((2 * n+x:Nat):Int) (LN (cE.fst n x C B 0).k7 x) (LN (cE.fst n x C B 0).fr (2 * n+1))
    (LA (cE.fst n x C B 0).a x (2 * n+1)) (LQ B x) (LQ (cE.fst n x C B 0).g (2 * n+1)) g low (x:Int)) r:=fun _ h=>aq.succ (fun _ _=>rfl) h
  rcases G with ⟨rfl,O⟩ | ⟨l,rfl,z,DV,A⟩
  ·obtain ⟨D,c,a,k⟩:=aky (D:=cE.fst n x C B 0) F hm Q L f M (cE.TH n x C B 0) O (.refl _ _ _) fun i hi e=>by
    simp only [cE.fst] at e;omega
   refine ⟨_,step ⟨0,trivial⟩ ?_,.inr ⟨D,c,a,rfl⟩⟩;simp only [cQ];exact aq.a9 (dnl (m:=x) (n:=x) (aH _) (cM _ _)) (aq.a9 ay (aq.one k))
  ·have hw:=cE.TH n x C B (-1);have o:=aeF (-1) (cE.RB1.neg.le f) L;have ea:(cE.fst n x C B (-1)).a l (2 * n)=1:=by simp only [cE.fst];rw [if_neg ad,if_neg ad]
   have R:(cE.fst n x C B (-1)).a l (2 * n)≠0:=by rw [ea];decide
   have S:s<=5 ^ e5 * s:=Nat.le_mul_of_pos_left _ (Nat.pow_pos ay);have T:=TN (n:=n) (h:=2 * n+x) hm (show 2 * n+1<=1000 by omega) z (show 2 * n < 2 * n+1 by omega) (show 5 * s<=MS by omega) f o R;obtain ⟨D,r,a,k,v,q4,q5⟩:=aks (n:=n) (h:=2 * n+x) F hm (show 2 * n+1<=1000 by omega) hw o f M (hw.nG z (show 2 * n < 2 * n+1 by omega)) (cE.agb n x C B z DV A) (.nG z ad R);have U:=cE.anq a v k (by
    rcases q4 with ⟨_,h⟩ | ⟨j,_,h,h'⟩
    ·exact .inl h
    ·exact .inr ⟨j,h,h'⟩)
   have H:=cE.aau F a hw v o f;have eg:(LQ (cE.fst n x C B 0).g (2 * n+1)).set (2 * n) (bg ((-1:Int):Rat))=LQ (cE.fst n x C B (-1)).g (2 * n+1):=by
    rw [LH];refine x8 fun j hj=>?_;simp only [cE.fst]
    by_cases e:j=2 * n
    ·rw [if_pos e,if_neg ad];rfl
    ·rw [if_neg e,if_pos ad,if_pos ad]
   have V:av (((2 * n+1:Nat):Int) - 1)=((2 * n:Nat):Int):=a0
   have main:∀ {Z},Gv (fun N=>(jv N (bg D.v)).bind fun gy=>cond (!gy) (some (RS false n x (2 * n+1) (2 * n+x) D)) (jX N (n:Int) (x:Int) (LN D.k7 x) (LN D.fr (2 * n+1)) (LA D.a x (2 * n+1)) (LQ D.b x) (LQ D.g (2 * n+1)) (bg D.v).fN.fG (bg D.v).fN.fL (bg D.v).fD.fG (bg D.v).fD.fL ((2 * n+x:Nat):Int))) Z ->
     aq (fun N g=>cQ N (n:Int) (x:Int) (bg 0).fN.fG (bg 0).fN.fL (bg 0).fD.fG (bg 0).fD.fL ((2 * n+x:Nat):Int) (LN (cE.fst n x C B 0).k7 x) (LN (cE.fst n x C B 0).fr (2 * n+1))
      (LA (cE.fst n x C B 0).a x (2 * n+1)) (LQ B x) (LQ (cE.fst n x C B 0).g (2 * n+1)) g ((l:Nat):Int) (x:Int)) Z:=fun h=>by
    refine step ⟨0,trivial⟩ ?_;simp only [cQ,jy,V,ai];refine aq.a9 (dnl (m:=x) (n:=x) (aH _) (cM _ _)) (aq.aN aD (aq.bind (aqA (-1) ay ay) (aq.if (inl (show 2 * n < 2 * n+1 by omega) (cM _ _)) ?_)));rw [eg];refine aq.bind T ?_;simp only [RT,jy,qC,cM];refine aq.if trivial (aq.if trivial (aq.if trivial (aq.if trivial (aq.if trivial (aq.bind (q5.diag) ?_)))));simp only [RT,jy,qC,cM];exact aq.if trivial (aq.if trivial (aq.if trivial (aq.if trivial (aq.if trivial (aq.one h)))))
   by_cases hz:D.v=0
   ·have I:D.ext x (2 * n+1) cE.Cn (2 * n+x)=0:=by have:=cE.TL a v;grind
    obtain ⟨D',c,p1,p2⟩:=aky F hm Q o f M a k v fun i hi e=>⟨by
     rw [<- e,cE.Da a hi,cE.Bm] at I;exact I,cE.ac1 a v hi e⟩
    exact ⟨_,main (Gv.bind ((H.v.q ad).zero ay) (Gv.a9 (by simp [hz]) p2)),.inr ⟨D',c,p1,rfl⟩⟩
   ·refine ⟨_,main (Gv.bind ((H.v.q ad).zero ay) (Gv.aN (by simp [hz]) (Gv.pure _))),.inl ⟨D,⟨a,v,U,?_⟩,rfl⟩⟩;have E:=cE.TL a v;have w:=cE.O8 a k (2 * n+x) ad;grind
 | d+1,x,low,hx,G=>by
  have u:x < m:=ad;have S:s<=5 ^ e5 * s:=Nat.le_mul_of_pos_left _ (Nat.pow_pos ay);have O:∀ r,r < m->RB (B r) s:=L.b;have J:=(O x u).q (show s<=MS by omega);have Um:0<=low->low < ((m:Nat):Int):=fun R=>by
   rcases G with ⟨e,_⟩ | ⟨b,e,hb,_⟩<;>omega
  have P:∀ p:Int,as5 B (x+1) p->(∃ cmp:Int,(B x < 0->∀ l:Nat,low=l->cmp=oE (B x - B l))/\(¬ (B x < 0/\0<=low)->cmp=0)/\(cond (cond (decide (oE (B x) < 0)) (cond (decide (low < 0)) true (decide (cmp < 0))) false) (x:Int) low)=p) ->
    ∃ r,aq (fun N g=>cQ N (n:Int) (m:Int) (bg 0).fN.fG (bg 0).fN.fL (bg 0).fD.fG (bg 0).fD.fL ((2 * n+m:Nat):Int) (LN (cE.fst n m C B 0).k7 m) (LN (cE.fst n m C B 0).fr (2 * n+1))
      (LA (cE.fst n m C B 0).a m (2 * n+1)) (LQ B m) (LQ (cE.fst n m C B 0).g (2 * n+1)) g low (x:Int)) r /\
     ((∃ D,QB n m C B D/\r=RS false n m (2 * n+1) (2 * n+m) D)\/∃ D c,M1 n m C B D c/\r=RS true n m (2 * n) (2 * n+m) (D.del c)):=fun p g1 ⟨cmp,g2,g3,y⟩=>by
   obtain ⟨r,g5,g6⟩:=akz F hm Q L f M d (x+1) p ad g1;refine ⟨r,aq.succ (fun _ _=>rfl) ?_,g6⟩;have W:Gv (fun N=>cond ((decide (oE (B x) < 0)) && ((decide (oE (B x) < 0)) && (!(decide (low < 0))))) (iQ N (bg (B x)) ((LQ B m).getD low.toNat ab.d)) (some 0)) cmp:=by
    by_cases q:B x < 0/\0<=low
    ·obtain ⟨a,k⟩:=q;obtain ⟨l,rfl⟩:∃ l:Nat,low=l:=⟨low.toNat,ad⟩;have K:l < m:=by have:=Um k;omega
     rw [g2 a l rfl];refine Gv.aN (by simp [qK,a]) ?_;rw [ai,lL _ _ K];exact J.cmp ((O l K).q (show s<=MS by omega)) (YX ay)
    ·rw [g3 q];refine Gv.a9 ?_ (Gv.pure 0)
     by_cases a:B x < 0
     ·have:low < 0:=Int.not_le.1 fun k=>q ⟨a,k⟩;simp [this]
     ·simp [qK,a]
   have:aq (fun N g=>cQ N (n:Int) (m:Int) (bg 0).fN.fG (bg 0).fN.fL (bg 0).fD.fG (bg 0).fD.fL ((2 * n+m:Nat):Int) (LN (cE.fst n m C B 0).k7 m) (LN (cE.fst n m C B 0).fr (2 * n+1))
      (LA (cE.fst n m C B 0).a m (2 * n+1)) (LQ B m) (LQ (cE.fst n m C B 0).g (2 * n+1)) (g+1) low (x:Int)) r:=by
    simp only [cQ];refine aq.aN (dlt (n:=m) u (cM _ _)) (aq.if (inl u (cM _ _)) ?_);simp only [ai,lL _ _ u,lW,aX (show x < 9223372036854775807 by omega)];refine aq.bind (J.oE ay) (aq.if (fun _=>inl u (cM _ _)) (aq.if (fun q=>?_) (aq.bind W ?_)))
    ·simp at q;rw [cM];exact ⟨ad,Um ad⟩
    ·revert y;cases (cond (decide (oE (B x) < 0)) (cond (decide (low < 0)) true (decide (cmp < 0))) false) with
     | true=>intro y;refine aq.aN rfl ?_;simp only [cond_true] at y;rw [y];exact g5
     | false=>intro y;refine aq.a9 rfl ?_;simp only [cond_false] at y;rw [y];exact g5
   exact this
  by_cases t:B x < 0
  ·have E:decide (oE (B x) < 0)=true:=decide_eq_true (qK.2 t);rcases G with ⟨rfl,hb⟩ | ⟨l,rfl,z,X,A⟩
   ·refine P x (.inr ⟨x,rfl,ad,t,fun r LP=>?_⟩) ⟨0,fun _ l e=>ad,fun _=>rfl,by rw [E];rfl⟩
    by_cases e:r=x
    ·rw [e];exact Rat.le_refl
    ·have:=hb r ad;grind
   ·have w:decide (((l:Nat):Int) < 0)=false:=aD
    by_cases lA:B x < B l
    ·refine P x (.inr ⟨x,rfl,ad,t,fun r LP=>?_⟩) ⟨oE (B x - B l),fun _ Y e=>by rw [show Y=l by omega],fun q=>absurd ⟨t,ad⟩ q,by rw [E,w,decide_eq_true (qK.2 (show B x - B l < 0 by grind))];rfl⟩
     by_cases e:r=x
     ·rw [e];exact Rat.le_refl
     ·have:=A r ad;grind
    ·refine P l (.inr ⟨l,rfl,ad,X,fun r LP=>?_⟩) ⟨oE (B x - B l),fun _ Y e=>by rw [show Y=l by omega],fun q=>absurd ⟨t,ad⟩ q,by rw [E,w,decide_eq_false fun q=>by have:=qK.1 q;grind];rfl⟩
     by_cases e:r=x
     ·rw [e];grind
     ·exact A r ad
  ·have E:decide (oE (B x) < 0)=false:=decide_eq_false fun q=>t (qK.1 q);refine P low ?_ ⟨0,fun q=>absurd q t,fun _=>rfl,by rw [E];rfl⟩;rcases G with ⟨e,hb⟩ | ⟨l,e,z,X,A⟩
   ·refine .inl ⟨e,fun r f=>?_⟩
    by_cases w:r=x
    ·rw [w];exact Rat.not_lt.1 t
    ·exact hb r ad
   ·refine .inr ⟨l,e,ad,X,fun r f=>?_⟩
    by_cases w:r=x
    ·rw [w];grind
    ·exact A r ad
theorem agd {e5:Nat} (a:cE.Ok5 (2 * n+1) s e5) (hm:m<=1000) (b:2 * n<=998) (d:(cE.fst n m C B 0).Ng m (2 * n+1) s) (e:1<=s) (f:5 * (5 ^ e5 * s)<=MS) :
  ∃ r,Gv (fun N=>rN N (n:Int) (m:Int) (bg 0).fN.fG (bg 0).fN.fL (bg 0).fD.fG (bg 0).fD.fL ((2 * n+m:Nat):Int) (LN (cE.fst n m C B 0).k7 m) (LN (cE.fst n m C B 0).fr (2 * n+1))
    (LA (cE.fst n m C B 0).a m (2 * n+1)) (LQ B m) (LQ (cE.fst n m C B 0).g (2 * n+1))) r /\
   ((∃ D,QB n m C B D/\r=RS false n m (2 * n+1) (2 * n+m) D)\/∃ D c,M1 n m C B D c/\r=RS true n m (2 * n) (2 * n+m) (D.del c)):=by
 obtain ⟨r,g,h⟩:=akz a hm b d e f m 0 (-1) ad (.inl ⟨rfl,fun j i=>absurd i (iq _)⟩);exact ⟨r,g.diag,h⟩
end
end Go.Den
