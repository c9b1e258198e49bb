/- The plain law: the Lean function of the law returns true for every input, and what it needs. No conditions. -/
import Derived.Test.YtkejjbiabpdhjaaGreatTopCriticalPathDen
set_option linter.unusedVariables false
set_option linter.unusedSimpArgs false
namespace Go.Den
open Go.Ab
theorem ali (n:Int):aR n=if n % 18446744073709551616>=9223372036854775808 then n % 18446744073709551616 - 18446744073709551616 else n % 18446744073709551616:=by
 have e:aR n=(if (true && decide (n % 18446744073709551616>=9223372036854775808))=true then n % 18446744073709551616 - 18446744073709551616 else n % 18446744073709551616):=rfl;rw [e];simp
theorem bw {n:Int} (h1:-9223372036854775808<=n) (h2:n<=9223372036854775807):aR n=n:=by
 rw [ali];split<;>omega
theorem aw {m:Nat} (h:m < 9223372036854775807):aR ((m:Int)+1)=((m+1:Nat):Int):=by rw [bw ad ad];simp
theorem toList_inj {a b:ByteArray} (h:a.toList=b.toList):a=b:=by
 have e:∀ x:ByteArray,x.toList=x.data.toList:=fun x=>ByteArray.toList_eq x;rw [e,e] at h;cases a;cases b;simp_all [Array.toList_inj]
theorem vk {a b:ByteArray}:dZ a b=true↔a=b:=by
 unfold dZ;simp only [beq_iff_eq];exact ⟨toList_inj,fun h=>h ▸ rfl⟩
theorem R3 (a b:ByteArray):dZ a b=dZ b a:=by
 rw [Bool.eq_iff_iff,vk,vk];exact eq_comm
def scan {R:Type} (f:Nat->Option R) (z:R):Nat->Nat->R
 | 0,_=>z
 | k+1,m=>match f m with
  | some r=>r
  | none=>scan f z k (m+1)
theorem Ur {R:Type} {L:Nat->Int->Option R} (f:Nat->Option R) (z:R) {n:Nat}
  (a:∀ fuel m,m < n->L (fuel+1) (m:Int)=(match f m with | some r=>some r | none=>L fuel ((m+1:Nat):Int)))
  (b:∀ fuel,L (fuel+1) (n:Int)=some z):∀ k m fuel,m+k=n->k < fuel->L fuel (m:Int)=some (scan f z k m)
 | 0,m,fuel,h,c=>by
  obtain ⟨g,rfl⟩:∃ g,fuel=g+1:=⟨fuel - 1,ad⟩;have:m=n:=ad;subst this;exact b g
 | k+1,m,fuel,h,c=>by
  obtain ⟨g,rfl⟩:∃ g,fuel=g+1:=⟨fuel - 1,ad⟩;rw [a g m ad];unfold scan;cases d:f m with
  | some r=>rfl
  | none=>exact Ur f z a b k (m+1) g ad ad
theorem ER {R:Type} {L:Nat->Int->Option R} (f:Nat->Option R) (z:R) {n fuel:Nat} (a:n < fuel)
  (b:∀ fuel m,m < n->L (fuel+1) (m:Int)=(match f m with | some r=>some r | none=>L fuel ((m+1:Nat):Int)))
  (c:∀ fuel,L (fuel+1) (n:Int)=some z):L fuel 0=some (scan f z n 0) :=
 Ur f z b c n 0 fuel ad a
theorem Yk {R:Type} {f:Nat->Option R} {z:R}:∀ (k m:Nat),(∀ i,m<=i->i < m+k->f i=none)->scan f z k m=z
 | 0,_,_=>rfl
 | k+1,m,h=>by
  unfold scan;rw [h m ad ad];exact Yk k (m+1) fun i hi a=>h i ad ad
theorem R4 {R:Type} {f:Nat->Option R} {z:R}:∀ (k m:Nat),(∃ i r,m<=i/\i < m+k/\f i=some r/\(∀ j,m<=j->j < i->f j=none)/\scan f z k m=r)\/((∀ i,m<=i->i < m+k->f i=none)/\scan f z k m=z)
 | 0,m=>.inr ⟨fun i h1 h2=>ad,rfl⟩
 | k+1,m=>by
  cases hm:f m with
  | some r=>exact .inl ⟨m,r,aV _,ad,hm,fun j h1 h2=>ad,by unfold scan;rw [hm]⟩
  | none =>
   have e:scan f z (k+1) m=scan f z k (m+1):=by rw [scan,hm]
   rcases R4 (f:=f) (z:=z) k (m+1) with ⟨i,r,h1,h2,h3,h4,c⟩ | ⟨h1,h2⟩
   ·refine .inl ⟨i,r,ad,ad,h3,fun j d a=>?_,e.trans c⟩
    by_cases b:j=m
    ·subst b;exact hm
    ·exact h4 j ad a
   ·refine .inr ⟨fun i g h=>?_,e.trans h2⟩
    by_cases b:i=m
    ·subst b;exact hm
    ·exact h1 i ad ad
theorem R5 {R:Type} {L:Nat->Int->R} (f:Nat->Option R) (z:R) {n:Nat}
  (a:∀ fuel m,m < n->L (fuel+1) (m:Int)=(match f m with | some r=>r | none=>L fuel ((m+1:Nat):Int)))
  (b:∀ fuel,L (fuel+1) (n:Int)=z):∀ k m fuel,m+k=n->k < fuel->L fuel (m:Int)=scan f z k m
 | 0,m,fuel,h,c=>by
  obtain ⟨g,rfl⟩:∃ g,fuel=g+1:=⟨fuel - 1,ad⟩;have:m=n:=ad;subst this;exact b g
 | k+1,m,fuel,h,c=>by
  obtain ⟨g,rfl⟩:∃ g,fuel=g+1:=⟨fuel - 1,ad⟩;rw [a g m ad];unfold scan;cases d:f m with
  | some r=>rfl
  | none=>exact R5 f z a b k (m+1) g ad ad
theorem Yl {R:Type} {L:Nat->Int->R} (f:Nat->Option R) (z:R) {n fuel:Nat} (a:n < fuel)
  (b:∀ fuel m,m < n->L (fuel+1) (m:Int)=(match f m with | some r=>r | none=>L fuel ((m+1:Nat):Int)))
  (c:∀ fuel,L (fuel+1) (n:Int)=z):L fuel 0=scan f z n 0 :=
 R5 f z b c n 0 fuel ad a
theorem R6 {p:Nat->Bool}:∀ (n m:Nat),decide (scan (fun k=>cond (p k) (some (k:Int)) none) (-1) n m>=0)=scan (fun k=>cond (p k) (some true) none) false n m
 | 0,m=>rfl
 | n+1,m=>by
  unfold scan;cases p m with
  | true=>simp
  | false=>exact R6 n (m+1)
theorem aev {α:Type} (l:List α) (m k:Nat) (d:α) (h:k < m):((l.take m).drop 0).getD k d=l.getD k d:=by
 simp [List.getD,h]
theorem pU {α:Type} (l:List α) (m:Nat) (d:α) (h:m < l.length):l.getD m d∈l:=by
 simp [List.getD,h]
theorem ag (m:Nat):((m:Int)).toNat=m:=rfl
theorem jy {m n:Nat} (h:m < n):0<=(m:Int)/\(m:Int) < ((n:Nat):Int):=⟨ad,ad⟩
theorem dec_lt {m n:Nat} (h:m < n):decide ((m:Int) < ((n:Nat):Int))=true:=by simp;omega
theorem dG {n:Nat}:decide ((n:Int) < ((n:Nat):Int))=false:=ao
end Go.Den
namespace Go.Den
open Go.Ab
theorem yJ (n:Int):IntKind.u16.wrap n=n % 65536:=by
 have e:IntKind.u16.wrap n=(if (false && decide (n % 65536>=32768))=true then n % 65536 - 65536 else n % 65536):=rfl;rw [e];simp
theorem wrap32 (n:Int):IntKind.u32.wrap n=n % 4294967296:=by
 have e:IntKind.u32.wrap n=(if (false && decide (n % 4294967296>=2147483648))=true then n % 4294967296 - 4294967296 else n % 4294967296):=rfl;rw [e];simp
theorem wrap64 (n:Int):IntKind.u64.wrap n=n % 18446744073709551616:=by
 have e:IntKind.u64.wrap n=(if (false && decide (n % 18446744073709551616>=9223372036854775808))=true then n % 18446744073709551616 - 18446744073709551616 else n % 18446744073709551616):=rfl;rw [e];simp
theorem tc {n:Int} (h:0<=n) (h2:n < 65536):IntKind.u16.wrap n=n:=by rw [yJ];omega
theorem ef {n:Int} (h:0<=n) (h2:n < 4294967296):IntKind.u32.wrap n=n:=by rw [wrap32];omega
theorem kN {n:Int} (h:0<=n) (h2:n < 18446744073709551616):IntKind.u64.wrap n=n:=by rw [wrap64];omega
theorem K5 (n:Int):zY .u32 n 16=n / 65536:=by
 unfold zY;have:(2:Int) ^ (min (16:Int).toNat IntKind.u32.bits)=65536:=ak;rw [this,Int.fdiv_eq_ediv_of_nonneg _ ak]
theorem R7 (n:Int):zY .u64 n 16=n / 65536:=by
 unfold zY;have:(2:Int) ^ (min (16:Int).toNat IntKind.u64.bits)=65536:=ak;rw [this,Int.fdiv_eq_ediv_of_nonneg _ ak]
theorem aew (n:Int):zY .i64 n 16=n / 65536:=by
 unfold zY;have:(2:Int) ^ (min (16:Int).toNat IntKind.i64.bits)=65536:=ak;rw [this,Int.fdiv_eq_ediv_of_nonneg _ ak]
theorem R8 {n:Int} (h:0<=n) (h2:n < 65536):BP .u32 n 16=n * 65536:=by
 unfold BP;have:(2:Int) ^ (min (16:Int).toNat IntKind.u32.bits)=65536:=ak;rw [this,wrap32];omega
theorem R9 {n:Int} (h:0<=n) (h2:n < 281474976710656):BP .u64 n 16=n * 65536:=by
 unfold BP;have:(2:Int) ^ (min (16:Int).toNat IntKind.u64.bits)=65536:=ak;rw [this,wrap64];omega
theorem aiq {n:Nat} (a b:Nat) (c:a < 2 ^ n) (d:b < 2 ^ n):(BitVec.ofInt n (a:Int) ||| BitVec.ofInt n (b:Int)).toNat=a ||| b:=by
 rw [BitVec.ofInt_natCast,BitVec.ofInt_natCast,BitVec.toNat_or,BitVec.toNat_ofNat,BitVec.toNat_ofNat,Nat.mod_eq_of_lt c,Nat.mod_eq_of_lt d]
theorem bv_and {n:Nat} (a b:Nat) (c:a < 2 ^ n) (d:b < 2 ^ n):(BitVec.ofInt n (a:Int) &&& BitVec.ofInt n (b:Int)).toNat=a &&& b:=by
 rw [BitVec.ofInt_natCast,BitVec.ofInt_natCast,BitVec.toNat_and,BitVec.toNat_ofNat,BitVec.toNat_ofNat,Nat.mod_eq_of_lt c,Nat.mod_eq_of_lt d]
theorem JY (a b k:Nat) (c:b < 2 ^ k):(a * 2 ^ k) ||| b=a * 2 ^ k+b:=by
 have:=Nat.shiftLeft_add_eq_or_of_lt c a;rw [Nat.shiftLeft_eq] at this;exact this.symm
theorem acW {a b:Int} (c:0<=a) (d:a < 65536) (f:0<=b) (g:b < 65536):Tc .u32 (a * 65536) b=a * 65536+b:=by
 obtain ⟨a,rfl⟩:=Int.eq_ofNat_of_zero_le c;obtain ⟨b,rfl⟩:=Int.eq_ofNat_of_zero_le f;unfold Tc;have e:((a:Int) * 65536)=((a * 2 ^ 16:Nat):Int):=ao;rw [e,show IntKind.u32.bits=32 from rfl,aiq _ _ ad ad,JY _ _ 16 ad,wrap32];omega
theorem WC {a b:Int} (c:0<=a) (d:a < 281474976710656) (f:0<=b) (g:b < 65536):Tc .u64 (a * 65536) b=a * 65536+b:=by
 obtain ⟨a,rfl⟩:=Int.eq_ofNat_of_zero_le c;obtain ⟨b,rfl⟩:=Int.eq_ofNat_of_zero_le f;unfold Tc;have e:((a:Int) * 65536)=((a * 2 ^ 16:Nat):Int):=ao;rw [e,show IntKind.u64.bits=64 from rfl,aiq _ _ ad ad,JY _ _ 16 ad,wrap64];omega
theorem Ym {a:Int} (b:0<=a) (c:a < 18446744073709551616):XT .u64 a 65535=a % 65536:=by
 obtain ⟨a,rfl⟩:=Int.eq_ofNat_of_zero_le b;unfold XT;have e:(65535:Int)=((65535:Nat):Int):=rfl;rw [e,show IntKind.u64.bits=64 from rfl,bv_and _ _ ad ad,show (65535:Nat)=2 ^ 16 - 1 from rfl,Nat.and_two_pow_sub_one_eq_mod,wrap64];omega
def cg:List Int->Int
 | []=>0
 | x :: l=>x+65536 * cg l
def U (l:List Int):Prop:=∀ x,x∈l->0<=x/\x < 65536
def lm (n:Nat):List Int:=if h:n=0 then [] else ((n % 65536:Nat):Int) :: lm (n / 65536)
termination_by n
decreasing_by omega
def pw (k:Nat):Int:=65536 ^ k
theorem H8:pw 0=1:=rfl
theorem kc (k:Nat):pw (k+1)=65536 * pw k:=by unfold pw;rw [Int.pow_succ];omega
theorem pz (k:Nat):0 < pw k:=by
 induction k with
 | zero=>decide
 | succ k a=>rw [kc];omega
theorem Sa (j k:Nat):pw (j+k)=pw j * pw k:=Int.pow_add _ _ _
theorem U.nil:U []:=fun x h=>by simp at h
theorem U.cons {x:Int} {l:List Int} (h1:0<=x) (h2:x < 65536) (h:U l):U (x :: l):=fun y a=>by
 rcases kY.1 a with rfl | a
 ·exact ⟨h1,h2⟩
 ·exact h y a
theorem U.tail {x:Int} {l:List Int} (h:U (x :: l)):U l:=fun y a=>h y (List.mem_cons_of_mem _ a)
theorem U.head {x:Int} {l:List Int} (h:U (x :: l)):0<=x/\x < 65536:=h x ao
theorem U.append {l m:List Int} (h1:U l) (h2:U m):U (l ++ m):=fun y a=>by
 rcases List.mem_append.1 a with a | a
 ·exact h1 y a
 ·exact h2 y a
theorem U.left {l m:List Int} (h:U (l ++ m)):U l:=fun y a=>h y (List.mem_append_left _ a)
theorem U.right {l m:List Int} (h:U (l ++ m)):U m:=fun y a=>h y (List.mem_append_right _ a)
theorem U.one {x:Int} (h1:0<=x) (h2:x < 65536):U [x]:=U.cons h1 h2 U.nil
theorem U.take {l:List Int} (h:U l) (k:Nat):U (l.take k):=fun y a=>h y (List.mem_of_mem_take a)
theorem U.drop {l:List Int} (h:U l) (k:Nat):U (l.drop k):=fun y a=>h y (List.mem_of_mem_drop a)
theorem U.getD {l:List Int} (h:U l) (i:Nat):0<=l.getD i 0/\l.getD i 0 < 65536:=by
 by_cases hi:i < l.length
 ·exact h _ (pU l i 0 hi)
 ·rw [jP,uc ad];decide
theorem U.set {l:List Int} (h:U l) (i:Nat) {x:Int} (h1:0<=x) (h2:x < 65536):U (l.set i x):=fun y a=>by
 rcases List.mem_or_eq_of_mem_set a with a | rfl
 ·exact h y a
 ·exact ⟨h1,h2⟩
theorem U.replicate (n:Nat):U (List.replicate n 0):=fun y a=>by
 rw [(List.mem_replicate.1 a).2];decide
theorem pC (l m:List Int):cg (l ++ m)=cg l+pw l.length * cg m:=by
 induction l with
 | nil=>simp [cg,H8]
 | cons x l a =>
  simp only [List.cons_append,cg,a,xm,kc];rw [kZ,<- oE];omega
theorem xu (x:Int):cg [x]=x:=by simp [cg]
theorem nF (n:Nat):cg (List.replicate n 0)=0:=by
 induction n with
 | zero=>rfl
 | succ n a=>simp [List.replicate_succ,cg,a]
theorem U.uN:∀ {l:List Int},U l->0<=cg l
 | [],_=>by simp [cg]
 | x :: l,h=>by have:=U.uN h.tail;have:=h.head;simp only [cg];omega
theorem U.lt:∀ {l:List Int},U l->cg l < pw l.length
 | [],_=>by simp [cg,H8]
 | x :: l,h=>by have:=U.lt h.tail;have:=h.head;simp only [cg,xm,kc];omega
theorem rG:∀ (l:List Int) (i:Nat) (x:Int),i < l.length->cg (l.set i x)=cg l+(x - l.getD i 0) * pw i
 | [],i,x,h=>by simp at h
 | y :: l,0,x,h=>by simp [cg,H8];omega
 | y :: l,i+1,x,h=>by
  simp only [List.set_cons_succ,cg,rG l i x (by simpa using h),kc];rw [show (y :: l).getD (i+1) 0=l.getD i 0 from rfl,kZ,show (x - l.getD i 0) * (65536 * pw i)=65536 * ((x - l.getD i 0) * pw i) by rw [Int.mul_left_comm]];omega
theorem eu (l:List Int) (i:Nat) (h:i < l.length):cg (l.take (i+1))=cg (l.take i)+l.getD i 0 * pw i:=by
 have e:l.take (i+1)=l.take i ++ [l.getD i 0]:=by
  rw [List.take_add_one];simp [List.getD,h]
 rw [e,pC,xu,qg,Nat.min_eq_left ad,kb]
theorem sI (l:List Int) (i:Nat) (h:i < l.length):cg (l.drop i)=l.getD i 0+65536 * cg (l.drop (i+1)):=by
 rw [List.drop_eq_getElem_cons h];simp [cg,List.getD,h]
theorem xw (l:List Int) (i:Nat) (h:i<=l.length):cg l=cg (l.take i)+pw i * cg (l.drop i):=by
 have:=pC (l.take i) (l.drop i);rwa [List.take_append_drop,qg,Nat.min_eq_left h] at this
theorem kL:lm 0=[]:=by rw [lm];rfl
theorem wm {n:Nat} (h:n≠0):lm n=((n % 65536:Nat):Int) :: lm (n / 65536):=by rw [lm,dif_neg h]
theorem xY (n:Nat):U (lm n):=by
 induction n using Nat.strongRecOn with
 | _ n a =>
  by_cases h:n=0
  ·subst h;rw [kL];exact U.nil
  ·rw [wm h];exact U.cons ad ad (a _ ad)
theorem kX (n:Nat):cg (lm n)=n:=by
 induction n using Nat.strongRecOn with
 | _ n a =>
  by_cases h:n=0
  ·subst h;rw [kL];rfl
  ·rw [wm h,cg,a _ ad];omega
theorem abB {n:Nat}:lm n=[]↔n=0:=by
 constructor
 ·intro h;have:=kX n;rw [h] at this;simp [cg] at this;omega
 ·rintro rfl;exact kL
theorem qC {n:Nat}:0 < (lm n).length↔n≠0:=by
 rw [List.length_pos_iff,ne_eq,abB]
theorem mB {n k:Nat}:(lm n).length<=k↔(n:Int) < pw k:=by
 induction k generalizing n with
 | zero =>
  rw [H8];constructor
  ·intro h;have:lm n=[]:=List.length_eq_zero_iff.1 ad;rw [abB] at this;omega
  ·intro h;have:n=0:=ad;rw [abB.2 this];simp
 | succ k a =>
  by_cases h:n=0
  ·subst h;rw [kL];have:=pz (k+1);simp;omega
  ·rw [wm h,xm,kc];have:=a (n:=n / 65536);constructor
   ·intro h;have:=this.1 ad;omega
   ·intro h;have:=this.2 ad;omega
theorem alj {n:Nat} (h:n≠0):∃ l x,lm n=l ++ [x]/\x≠0/\U l/\0<=x/\x < 65536:=by
 induction n using Nat.strongRecOn with
 | _ n a =>
  rw [wm h]
  by_cases h2:n / 65536=0
  ·rw [h2,kL];exact ⟨[],_,rfl,ad,U.nil,ad,ad⟩
  ·obtain ⟨l,x,e,b,c,h3,h4⟩:=a _ ad h2;rw [e];exact ⟨_ :: l,x,rfl,b,U.cons ad ad c,h3,h4⟩
theorem acX:∀ {l:List Int},U l->(∀ m x,l=m ++ [x]->x≠0)->lm (cg l).toNat=l
 | [],_,_=>by simp [cg,kL]
 | x :: l,h,b=>by
  have h1:=h.head;have h2:=h.tail.uN;have e:cg (x :: l)=x+65536 * cg l:=rfl;have d:(cg (x :: l)).toNat≠0:=by
   rw [e];cases l with
   | nil=>have:=b [] x rfl;simp [cg];omega
   | cons y l =>
    have a:=acX (l:=y :: l) h.tail fun m z c=>b (x :: m) z (by rw [c];rfl);have:cg (y :: l)≠0:=fun f=>by rw [f] at a;simp [kL] at a
    omega
  rw [wm d];have a:=acX (l:=l) h.tail fun m z c=>b (x :: m) z (by rw [c];rfl);have g:(((cg (x :: l)).toNat % 65536:Nat):Int)=x:=by rw [e];omega
  have i:(cg (x :: l)).toNat / 65536=(cg l).toNat:=by rw [e];omega
  rw [g,i,a]
theorem acY {N:Nat}:∀ (fuel:Nat) (l:List Int),U l->l.length < fuel->l.length < 9223372036854775807->rR N fuel l=some (lm (cg l).toNat)
 | 0,l,_,h,_=>ad
 | fuel+1,l,c,h,d=>by
  rw [rR];rcases List.eq_nil_or_concat l with rfl | ⟨m,x,b⟩
  ·simp [cg,kL]
  ·rw [List.concat_eq_append] at b;subst b;have a:(m ++ [x]).length=m.length+1:=ao;have f:aR ((((m ++ [x]).length:Nat):Int) - 1)=(m.length:Int):=by rw [a,bw ad (by rw [a] at d;omega)];omega
   have g:(m ++ [x]).getD m.length 0=x:=by simp [List.getD]
   have i:decide ((((m ++ [x]).length:Nat):Int) > 0)=true:=ao;rw [f,i];rw [if_pos (fun _=>⟨ad,by rw [a];omega⟩),cond_true];simp only [ag,g];cases e:(x == 0) with
   | true =>
    have j:x=0:=by simpa using e
    subst j;rw [cond_true,if_pos ⟨Nat.zero_le _,by rw [a];omega⟩,if_pos ad];have k:((m ++ [(0:Int)]).take m.length).drop 0=m:=ao;rw [k,acY fuel m c.left (by rw [a] at h;omega) (by rw [a] at d;omega),pC,xu];simp
   | false =>
    rw [cond_false,acX c];intro n x' he;have:=(List.append_inj' he rfl).2;simp at this e;omega
theorem qD {N:Nat} {l:List Int} (a:U l) (b:l.length < N) (c:l.length < 9223372036854775807):ku N l=some (lm (cg l).toNat):=acY N l a b c
end Go.Den
namespace Go.Den
open Go.Ab
abbrev SM (n:Nat):Prop:=n < 10000000000000
def abC (a b:List Int):Nat->Int
 | 0=>0
 | k+1=>cond (a.getD k 0 != b.getD k 0) (a.getD k 0 - b.getD k 0) (abC a b k)
def Tt (a b:Nat):Int:=cond ((((lm a).length:Nat):Int) != (((lm b).length:Nat):Int)) ((((lm a).length:Nat):Int) - (((lm b).length:Nat):Int)) (abC (lm a) (lm b) (lm a).length)
theorem Sb {N:Nat} {a b:List Int} (d:U a) (f:U b) (q:a.length=b.length) (o:SM a.length):∀ (k fuel:Nat),k<=a.length->k < fuel ->
  ∃ c,lM N a b fuel ((k:Int) - 1)=some c/\(c < 0↔cg (a.take k) < cg (b.take k))/\(c=0↔cg (a.take k)=cg (b.take k))/\c=abC a b k
 | 0,fuel,_,r=>by
  obtain ⟨g,rfl⟩:∃ g,fuel=g+1:=⟨fuel - 1,ad⟩;exact ⟨0,by rw [lM];rfl,ao,ao,rfl⟩
 | k+1,fuel,z,r=>by
  obtain ⟨g,rfl⟩:∃ g,fuel=g+1:=⟨fuel - 1,ad⟩;have e:(((k+1:Nat):Int) - 1)=(k:Int):=ad;rw [e,lM];have i:=eu a k ad;have j:=eu b k ad;have h1:=d.getD k;have h2:=f.getD k;have m:=(d.take k).lt;have n:=(f.take k).lt;have s:=(d.take k).uN;have t:=(f.take k).uN;rw [qg,Nat.min_eq_left ad] at m n;have u:decide ((k:Int)>=0)=true:=ao;rw [u,cond_true,if_pos ⟨ad,ad⟩,if_pos ⟨ad,ad⟩];simp only [ag];cases l:(a.getD k 0 != b.getD k 0) with
  | true =>
   have p:a.getD k 0≠b.getD k 0:=by simpa using l
   refine ⟨a.getD k 0 - b.getD k 0,?_,?_,?_,by rw [abC,l];rfl⟩
   ·rw [cond_true];congr 1;rw [bw (by rw [bw ad ad,bw ad ad];omega) (by rw [bw ad ad,bw ad ad];omega),bw ad ad,bw ad ad]
   ·rw [i,j];generalize a.getD k 0=x at *
    generalize b.getD k 0=y at *
    rcases Int.lt_or_lt_of_ne p with h | h
    ·have:=oh (show x+1<=y by omega) (Int.le_of_lt (pz k));rw [hO] at this;constructor<;>intro<;>omega
    ·have:=oh (show y+1<=x by omega) (Int.le_of_lt (pz k));rw [hO] at this;constructor<;>intro<;>omega
   ·rw [i,j];generalize a.getD k 0=x at *
    generalize b.getD k 0=y at *
    rcases Int.lt_or_lt_of_ne p with h | h
    ·have:=oh (show x+1<=y by omega) (Int.le_of_lt (pz k));rw [hO] at this;constructor<;>intro<;>omega
    ·have:=oh (show y+1<=x by omega) (Int.le_of_lt (pz k));rw [hO] at this;constructor<;>intro<;>omega
  | false =>
   have heq:a.getD k 0=b.getD k 0:=by simpa using l
   obtain ⟨c,h3,h4,v,w⟩:=Sb d f q o k g ad ad;refine ⟨c,?_,?_,?_,by rw [abC,l];exact w⟩
   ·rw [cond_false,bw ad (by simp only [SM] at o;omega)];exact h3
   ·rw [i,j,heq,h4];omega
   ·rw [i,j,heq,v];omega
theorem H9 {a b:Nat} (h:(lm a).length < (lm b).length):a < b:=by
 have h1:=mB (n:=a) (k:=(lm a).length);have h2:=mB (n:=b) (k:=(lm a).length);have:=h1.1 (aV _);have:¬ (b:Int) < pw (lm a).length:=fun c=>by have:=h2.2 c;omega
 omega
theorem ES {N:Nat} {a b:Nat} (g:(lm a).length < N) (e:SM (lm a).length) (i:SM (lm b).length):∃ c,rS N (lm a) (lm b)=some c/\(c < 0↔a < b)/\(c=0↔a=b)/\c=Tt a b:=by
 unfold rS;simp only [SM] at e i;cases d:((((lm a).length:Nat):Int) != (((lm b).length:Nat):Int)) with
 | true =>
  have f:(lm a).length≠(lm b).length:=by intro h;rw [h] at d;simp at d
  refine ⟨_,cond_true _ _,?_,?_,by unfold Tt;rw [d,cond_true,bw ad ad]⟩
  ·rw [bw ad ad];rcases Nat.lt_or_gt_of_ne f with h | h
   ·have:=H9 h;omega
   ·have:=H9 h;omega
  ·rw [bw ad ad];rcases Nat.lt_or_gt_of_ne f with h | h
   ·have:=H9 h;omega
   ·have:=H9 h;omega
 | false =>
  have heq:(lm a).length=(lm b).length:=by simp at d;omega
  rw [cond_false,bw ad ad];obtain ⟨c,h1,h2,h3,h4⟩:=Sb (N:=N) (xY a) (xY b) heq e (lm a).length N (aV _) g;rw [List.take_length,heq,List.take_length,kX,kX] at h2 h3;exact ⟨c,h1,ad,ad,by unfold Tt;rw [d];exact h4⟩
theorem Yn {N a b:Nat} (d:(lm a).length < N) (e:SM (lm a).length) (f:SM (lm b).length):rS N (lm a) (lm b)=some (Tt a b):=by
 obtain ⟨c,h1,_,_,rfl⟩:=ES d e f;exact h1
theorem acZ {a b:Nat} (d:SM (lm a).length) (e:SM (lm b).length):Tt a b < 0↔a < b:=by
 obtain ⟨c,_,h,_,rfl⟩:=ES (N:=(lm a).length+1) ad d e;exact h
theorem ac0 {N:Nat} {a b:List Int} (r:U a) (t:U b) (u:b.length<=a.length) (j:SM a.length) (w:a.length+1 < N):∀ (k x fuel:Nat) (out:List Int) (c:Int),x+k=a.length->k < fuel->out.length=x->U out->0<=c->c<=1 ->
  cg out+pw x * c=cg (a.take x)+cg (b.take x)->nu N a b fuel out c (x:Int)=some (lm (cg a+cg b).toNat)
 | 0,x,fuel,out,c,y,z,i,l,m,A,d=>by
  obtain ⟨g,rfl⟩:∃ g,fuel=g+1:=⟨fuel - 1,ad⟩;have B:x=a.length:=ad;subst B;rw [nu];simp only [SM] at j;rw [dG,cond_false,if_pos ad,tc m ad];have o:U (out ++ [c]):=l.append (U.one m ad);have f:(out ++ [c]).length=a.length+1:=by simp [i]
  rw [qD o (by rw [f];omega) (by rw [f];omega),dc,pC,xu,i,d,List.take_length,mj u]
 | k+1,x,fuel,out,c,y,z,i,l,m,A,d=>by
  obtain ⟨g,rfl⟩:∃ g,fuel=g+1:=⟨fuel - 1,ad⟩;simp only [SM] at j;have p:x < a.length:=ad;have h1:=r.getD x;have h2:=t.getD x;rw [nu,dec_lt p,cond_true,if_pos (jy p)];simp only [ag];have C:=eu a x p;have D:cg (b.take (x+1))=cg (b.take x)+b.getD x 0 * pw x:=by
   by_cases h:x < b.length
   ·exact eu b x h
   ·rw [mj ad,mj ad,jP,uc ad];simp
  have step:∀ s:Int,s=c+a.getD x 0+b.getD x 0->(uV N a b out (x:Int) (nu N a b g) s)=some (lm (cg a+cg b).toNat):=by
   intro s q;unfold uV;rw [if_pos ad,yJ,K5,aw ad];refine ac0 r t u j w k (x+1) g _ _ ad ad (by simp [i]) (l.append (U.one ad ad)) ad ad ?_;rw [pC,xu,i,C,D,kc];have E:s=s % 65536+65536 * (s / 65536):=ad;have G:pw x * s=pw x * (s % 65536)+pw x * (65536 * (s / 65536)):=by rw [<- kZ,<- E]
   have H:pw x * s=pw x * c+a.getD x 0 * pw x+b.getD x 0 * pw x:=by rw [q,kZ,kZ,kb (pw x) (a.getD x 0),kb (pw x) (b.getD x 0)]
   have I:65536 * pw x * (s / 65536)=pw x * (65536 * (s / 65536)):=by rw [kb 65536,oE]
   omega
  by_cases v:x < b.length
  ·rw [dec_lt v,cond_true,if_pos (jy v)];refine step _ ?_;rw [ef (n:=a.getD x 0) ad ad,ef (n:=b.getD x 0) ad ad,ef (n:=c+a.getD x 0) ad ad,ef ad ad]
  ·have e:decide ((x:Int) < (b.length:Int))=false:=by simp;omega
   rw [e,cond_false];refine step _ ?_;have F:b.getD x 0=0:=by rw [jP,uc ad];rfl
   rw [ef (n:=a.getD x 0) ad ad,ef (n:=c+a.getD x 0) ad ad,F];omega
theorem ac1 {N:Nat} {a b:List Int} (d:U a) (e:U b) (f:b.length<=a.length) (c:SM a.length) (g:a.length+1 < N):uW N a b=some (lm (cg a+cg b).toNat):=by
 unfold uW;simp only [SM] at c;rw [if_pos (by rw [bw ad ad];omega)];exact ac0 d e f c g a.length 0 N _ 0 ad ad rfl (U.replicate 0) ad ad (by simp [cg])
theorem aoo {N:Nat} {a b:List Int} (e:U a) (f:U b) (g:SM a.length) (c:SM b.length) (i:a.length+1 < N) (d:b.length+1 < N):CP N a b=some (lm (cg a+cg b).toNat):=by
 unfold CP;cases h:decide ((a.length:Int) < (b.length:Int)) with
 | true =>
  simp at h;rw [cond_true,ac1 f e ad c d,Int.add_comm]
 | false =>
  simp at h;rw [cond_false,ac1 e f ad g i]
theorem alk {N a b:Nat} (e:SM (lm a).length) (c:SM (lm b).length) (f:(lm a).length+1 < N) (d:(lm b).length+1 < N):CP N (lm a) (lm b)=some (lm (a+b)):=by
 rw [aoo (xY a) (xY b) e c f d,kX,kX];congr 1
theorem Yo {N:Nat} {a b:List Int} (s:U a) (t:U b) (u:b.length<=a.length) (l:cg b<=cg a) (m:SM a.length) (w:a.length+1 < N):∀ (k x fuel:Nat) (out:List Int) (c:Int),x+k=a.length->k < fuel->out.length=a.length->U out->0<=c->c<=1 ->
  (∀ j,x<=j->out.getD j 0=0)->cg out - pw x * c=cg (a.take x) - cg (b.take x)->ky N a b fuel out c (x:Int)=some (lm (cg a - cg b).toNat)
 | 0,x,fuel,out,c,z,A,o,f,B,C,p,d=>by
  obtain ⟨g,rfl⟩:∃ g,fuel=g+1:=⟨fuel - 1,ad⟩;have D:x=a.length:=ad;subst D;simp only [SM] at m;rw [ky,dG,cond_false,qD f ad ad,dc];rw [List.take_length,mj u] at d;have h1:=f.lt;rw [o] at h1;have E:c=0:=by
   rcases Int.lt_or_le 0 c with h | h
   ·have:c=1:=ad;subst this;omega
   ·omega
  subst E;have:cg out=cg a - cg b:=ad;rw [this]
 | k+1,x,fuel,out,c,z,A,o,f,B,C,p,d=>by
  obtain ⟨g,rfl⟩:∃ g,fuel=g+1:=⟨fuel - 1,ad⟩;simp only [SM] at m;have r:x < a.length:=ad;have h1:=s.getD x;have h2:=t.getD x;rw [ky,dec_lt r,cond_true,if_pos (jy r)];simp only [ag];have F:=eu a x r;have G:cg (b.take (x+1))=cg (b.take x)+b.getD x 0 * pw x:=by
   by_cases h:x < b.length
   ·exact eu b x h
   ·rw [mj ad,mj ad,jP,uc ad];simp
  have step:∀ y:Int,y=c+b.getD x 0->(sU N a b out (x:Int) (ky N a b g) y)=some (lm (cg a - cg b).toNat):=by
   intro y H;unfold sU;have fin:∀ q:Int,0<=q->q<=1->0<=a.getD x 0+q * 65536 - y->a.getD x 0+q * 65536 - y < 65536->sS N a b out (x:Int) y (ky N a b g) q=some (lm (cg a - cg b).toNat):=by
    intro q I J K L;unfold sS;rw [if_pos ⟨ad,ad⟩,R8 ad ad,ag,ef (n:=a.getD x 0) ad ad,ef (n:=a.getD x 0+q * 65536) ad ad,ef ad ad,tc ad ad,aw ad];refine Yo s t u l m w k (x+1) g _ _ ad ad (by simp [o]) (f.set x ad ad) I J ?_ ?_
    ·intro j M;have:=p j ad;rw [jP] at this ⊢;rw [List.getElem?_set_ne ad];exact this
    ·rw [rG _ _ _ ad,p x (aV _),F,G,kc];have h3:(a.getD x 0+q * 65536 - y - 0) * pw x=a.getD x 0 * pw x+q * 65536 * pw x - y * pw x:=by rw [Int.sub_zero,Int.sub_mul,hO]
     have h4:y * pw x=c * pw x+b.getD x 0 * pw x:=by rw [H,hO]
     have O:q * 65536 * pw x=65536 * pw x * q:=by rw [kb q 65536,oE,oE,kb q]
     have P:c * pw x=pw x * c:=kb _ _;omega
   rw [ag,ef (n:=a.getD x 0) ad ad];cases i:decide (a.getD x 0 < y) with
   | true=>have i:=xl i;rw [cond_true];exact fin 1 ad ad ad ad
   | false=>have i:=yQ i;rw [cond_false];exact fin 0 ad ad ad ad
  by_cases v:x < b.length
  ·rw [dec_lt v,cond_true,if_pos (jy v)];refine step _ ?_;rw [ef (n:=b.getD x 0) ad ad,ef ad ad]
  ·have e:decide ((x:Int) < (b.length:Int))=false:=by simp;omega
   rw [e,cond_false];refine step _ ?_;have Q:b.getD x 0=0:=by rw [jP,uc ad];rfl
   omega
theorem kM (n j:Nat):(List.replicate n (0:Int)).getD j 0=0:=by
 rw [jP,List.getElem?_replicate];split<;>rfl
theorem alm {N:Nat} {a b:List Int} (e:U a) (f:U b) (g:b.length<=a.length) (c:cg b<=cg a) (d:SM a.length) (h:a.length+1 < N):wW N a b=some (lm (cg a - cg b).toNat):=by
 unfold wW;simp only [SM] at d;rw [if_pos ad];exact Yo e f g c d h a.length 0 N _ 0 ad ad ao (U.replicate _) ad ad (fun j _=>kM _ j) (by rw [nF];simp [cg])
theorem kT {a b:Nat} (h:a<=b):(lm a).length<=(lm b).length:=mB.2 (by have:=(mB (n:=b) (k:=(lm b).length)).1 (aV _);omega)
theorem Yp {N a b:Nat} (c:b<=a) (d:SM (lm a).length) (e:(lm a).length+1 < N):wW N (lm a) (lm b)=some (lm (a - b)):=by
 rw [alm (xY a) (xY b) (kT c) (by rw [kX,kX];omega) d e,kX,kX];congr 2;omega
end Go.Den
namespace Go.Den
open Go.Ab
theorem getD_set_ne (l:List Int) {i j:Nat} (x:Int) (h:i≠j):(l.set i x).getD j 0=l.getD j 0:=by
 rw [jP,List.getElem?_set_ne h,<- jP]
theorem Yq (l:List Int) {i:Nat} (x:Int) (h:i < l.length):(l.set i x).getD i 0=x:=by
 rw [jP,List.getElem?_set_self h];rfl
theorem BA {l:List Int} {i:Nat} (h:l.length<=i):l.getD i 0=0:=by
 rw [jP,uc h];rfl
theorem Sc {x y:Int} (h1:0<=x) (h2:x < 65536) (h3:0<=y) (h4:y < 65536):0<=x * y/\x * y<=4294836225:=by
 refine ⟨Int.mul_nonneg h1 h3,?_⟩;have:=Int.mul_le_mul (show x<=65535 by omega) (show y<=65535 by omega) h3 ad;omega
theorem Yr {N:Nat} {a b:List Int} {i:Nat} (t:U a) (u:U b) (hi:i < a.length) (l:SM (a.length+b.length)) (K:List Int->Int->Option (List Int)) (R:Option (List Int))
  (v:∀ out,out.length=a.length+b.length->U out->(∀ j,i+b.length < j->out.getD j 0=0)->cg out=cg (a.take (i+1)) * cg b->K out ((i+1:Nat):Int)=R) :
  ∀ (k x fuel:Nat) (out:List Int) (c:Int),x+k=b.length->k < fuel->out.length=a.length+b.length->U out->0<=c->c < 65536->(∀ j,i+b.length<=j->out.getD j 0=0) ->
   cg out+pw (i+x) * c=cg (a.take i) * cg b+a.getD i 0 * pw i * cg (b.take x)->oQ N a b (i:Int) K fuel out c (x:Int)=R
 | 0,x,fuel,out,c,y,z,m,f,o,p,h,d=>by
  obtain ⟨g,rfl⟩:∃ g,fuel=g+1:=⟨fuel - 1,ad⟩;have A:x=b.length:=ad;subst A;simp only [SM] at l;have e:aR ((i:Int)+(b.length:Int))=((i+b.length:Nat):Int):=by rw [bw ad ad];omega
  rw [oQ,dG,cond_false,e,if_pos (jy ad),ag,tc o p,aw ad];refine v _ (by simp [m]) (f.set _ o p) (fun j w=>?_) ?_
  ·rw [getD_set_ne _ _ ad];exact h j ad
  ·rw [rG _ _ _ ad,h _ (aV _),Int.sub_zero,eu a i hi,hO,kb c];rw [List.take_length] at d;exact d
 | k+1,x,fuel,out,c,y,z,m,f,o,p,h,d=>by
  obtain ⟨g,rfl⟩:∃ g,fuel=g+1:=⟨fuel - 1,ad⟩;simp only [SM] at l;have q:x < b.length:=ad;have h1:=t.getD i;have h2:=u.getD x;have h3:=f.getD (i+x);have e:aR ((i:Int)+(x:Int))=((i+x:Nat):Int):=by rw [bw ad ad];omega
  have h4:=Sc h1.1 h1.2 h2.1 h2.2;rw [oQ,dec_lt q,cond_true,if_pos (jy q),e,if_pos (jy ad)];simp only [ag];rw [ef (n:=a.getD i 0) ad ad,ef (n:=b.getD x 0) ad ad,ef (n:=out.getD (i+x) 0) ad ad,ef (n:=a.getD i 0 * b.getD x 0) ad ad,
   ef (n:=a.getD i 0 * b.getD x 0+out.getD (i+x) 0) ad ad,ef (n:=c+(a.getD i 0 * b.getD x 0+out.getD (i+x) 0)) ad ad,yJ,K5,aw ad]
  generalize r:c+(a.getD i 0 * b.getD x 0+out.getD (i+x) 0)=s;refine Yr t u hi l K R v k (x+1) g _ _ ad ad (by simp [m]) (f.set _ ad ad) ad ad (fun j w=>?_) ?_
  ·rw [getD_set_ne _ _ ad];exact h j w
  ·rw [rG _ _ _ ad,eu b x q,show i+(x+1)=(i+x)+1 by omega,kc];have B:s=s % 65536+65536 * (s / 65536):=ad;have D:pw (i+x) * s=pw (i+x) * (s % 65536)+pw (i+x) * (65536 * (s / 65536)):=by rw [<- kZ,<- B]
   have E:pw (i+x) * s=pw (i+x) * c+pw (i+x) * (a.getD i 0 * b.getD x 0)+pw (i+x) * out.getD (i+x) 0:=by rw [<- r,kZ,kZ];omega
   have F:65536 * pw (i+x) * (s / 65536)=pw (i+x) * (65536 * (s / 65536)):=by rw [kb 65536,oE]
   have G:(s % 65536 - out.getD (i+x) 0) * pw (i+x)=pw (i+x) * (s % 65536) - pw (i+x) * out.getD (i+x) 0:=by rw [Int.sub_mul,kb,kb (out.getD (i+x) 0)]
   have C:a.getD i 0 * pw i * (cg (b.take x)+b.getD x 0 * pw x)=a.getD i 0 * pw i * cg (b.take x)+pw (i+x) * (a.getD i 0 * b.getD x 0):=by
    rw [Sa];grind
   omega
theorem Ys {N:Nat} {a b:List Int} (h:U a) (i:U b) (d:SM (a.length+b.length)) (n:a.length+b.length < N):∀ (k x fuel:Nat) (out:List Int),x+k=a.length->k < fuel->out.length=a.length+b.length->U out ->
  (∀ j,x+b.length<=j->out.getD j 0=0)->cg out=cg (a.take x) * cg b->oS N a b fuel out (x:Int)=some (lm (cg a * cg b).toNat)
 | 0,x,fuel,out,o,p,l,e,m,c=>by
  obtain ⟨g,rfl⟩:∃ g,fuel=g+1:=⟨fuel - 1,ad⟩;have q:x=a.length:=ad;subst q;simp only [SM] at d;rw [oS,dG,cond_false,qD e ad ad,dc,c,List.take_length]
 | k+1,x,fuel,out,o,p,l,e,m,c=>by
  obtain ⟨g,rfl⟩:∃ g,fuel=g+1:=⟨fuel - 1,ad⟩;have f:x < a.length:=ad;rw [oS,dec_lt f,cond_true,if_pos (jy f)];refine Yr h i f d _ _ (fun r h1 h2 h3 h4=>?_) b.length 0 N out 0 ad ad l e ad ad m (by rw [c];simp [cg]);exact Ys h i d n k (x+1) g r ad ad h1 h2 (fun j s=>h3 j ad) h4
theorem aln {N:Nat} {a b:List Int} (d:U a) (f:U b) (c:SM (a.length+b.length)) (g:a.length+b.length < N):zP N a b=some (lm (cg a * cg b).toNat):=by
 unfold zP;have h:=c;simp only [SM] at h;have e:aR ((a.length:Int)+(b.length:Int))=((a.length+b.length:Nat):Int):=by rw [bw ad ad];omega
 rw [e,if_pos ad];exact Ys d f c g a.length 0 N _ ad ad (by simp;omega) (U.replicate _) (fun j _=>kM _ j) (by rw [nF];simp [cg])
theorem Cu (a b:Nat):((a:Int) * (b:Int)).toNat=a * b:=by rw [<- Int.natCast_mul];rfl
theorem air {N a b:Nat} (c:SM ((lm a).length+(lm b).length)) (d:(lm a).length+(lm b).length < N):zP N (lm a) (lm b)=some (lm (a * b)):=by
 rw [aln (xY a) (xY b) c d,kX,kX,Cu]
theorem Yt {N:Nat} {a:List Int} {d:Int} (t:U a) (f:0 < d) (m:d < 65536) (o:SM a.length) (x:a.length < N):∀ (k fuel:Nat) (q:List Int) (r:Int),k<=a.length->k < fuel->q.length=a.length->U q->0<=r->r < d ->
  (∀ j,j < k->q.getD j 0=0)->pw k * cg (a.drop k)=cg q * d+r * pw k->∃ Q R:Int,0<=Q/\0<=R/\R < d/\cg a=Q * d+R/\oJ N a d fuel q r ((k:Int) - 1)=some (lm Q.toNat,R)
 | 0,fuel,q,r,y,z,u,l,h,i,p,b=>by
  obtain ⟨g,rfl⟩:∃ g,fuel=g+1:=⟨fuel - 1,ad⟩;simp only [SM] at o;refine ⟨cg q,r,l.uN,h,i,by rw [H8] at b;simpa using b,?_⟩;rw [oJ];have e:decide ((((0:Nat):Int) - 1)>=0)=false:=rfl;rw [e,cond_false,qD l ad ad,dc,tc h ad]
 | k+1,fuel,q,r,y,z,u,l,h,i,p,b=>by
  obtain ⟨g,rfl⟩:∃ g,fuel=g+1:=⟨fuel - 1,ad⟩;simp only [SM] at o;have e:(((k+1:Nat):Int) - 1)=(k:Int):=ad;have h1:=t.getD k;have A:decide ((k:Int)>=0)=true:=ao;rw [e,oJ,A,cond_true,if_pos (jy ad),ef (n:=d) ad ad,if_pos ad,if_pos (jy ad)];simp only [ag];rw [ef (n:=a.getD k 0) ad ad,R8 h ad,acW h ad h1.1 h1.2,bw ad ad];have c:0<=r * 65536+a.getD k 0:=ad;have v:r * 65536+a.getD k 0 < d * 65536:=ad;generalize B:r * 65536+a.getD k 0=n at c v ⊢;rw [Int.tdiv_eq_ediv_of_nonneg c,Int.tmod_eq_emod_of_nonneg c];have w:n / d < 65536:=Int.ediv_lt_of_lt_mul f (by rw [kb];exact v);have s:0<=n / d:=Int.ediv_nonneg c ad;rw [ef s ad,tc s w];refine Yt t f m o x k g _ _ ad ad (by simp [u]) (l.set _ s w) (Int.emod_nonneg _ ad) (Int.emod_lt_of_pos _ f) (fun j C=>?_) ?_
  ·rw [getD_set_ne _ _ ad];exact p j ad
  ·rw [rG _ _ _ ad,p k ad,Int.sub_zero,sI a k ad];have h2:=Int.mul_ediv_add_emod n d;rw [kc] at b;have h3:pw k * n=pw k * (d * (n / d))+pw k * (n % d):=by rw [<- kZ,h2]
   have h4:pw k * n=pw k * (r * 65536)+pw k * a.getD k 0:=by rw [<- B,kZ]
   grind
theorem ais {N a d:Nat} (b:0 < d) (h:d < 65536) (c:SM (lm a).length) (e:(lm a).length < N):CL N (lm a) (d:Int)=some (lm (a / d),((a % d:Nat):Int)):=by
 unfold CL;have i:=c;simp only [SM] at i;rw [if_pos ad,bw ad ad];obtain ⟨Q,R,h1,h2,h3,h4,k⟩:=Yt (N:=N) (d:=(d:Int)) (xY a) ad ad c e (lm a).length N (List.replicate (lm a).length 0) 0 (aV _) e ao (U.replicate _) ad ad (fun j _=>kM _ j)
  (by rw [List.drop_length,nF];simp [cg])
 rw [k];rw [kX] at h4;obtain ⟨Q,rfl⟩:=Int.eq_ofNat_of_zero_le h1;obtain ⟨R,rfl⟩:=Int.eq_ofNat_of_zero_le h2;have f:a=Q * d+R:=by exact_mod_cast h4
 have g:R < d:=ad;have l:a / d=Q:=by rw [f,vF,Nat.mul_add_div b,Nat.div_eq_of_lt g];rfl
 have m:a % d=R:=by rw [f,vF,Nat.mul_add_mod,Nat.mod_eq_of_lt g]
 rw [l,m];rfl
theorem Se {N:Nat}:∀ (fuel n:Nat) (out:List Int),(lm n).length < fuel->out.length+(lm n).length < 1000->n < 18446744073709551616->nW N fuel (n:Int) out=some (out ++ lm n)
 | 0,n,out,h,_,_=>ad
 | fuel+1,n,out,h,h2,h3=>by
  rw [nW]
  by_cases a:n=0
  ·subst a;rw [kL];simp
  ·have e:decide ((n:Int) > 0)=true:=by simp;omega
   rw [wm a] at h h2;simp only [xm] at h h2;rw [e,cond_true,if_pos ad,R7,yJ];have b:((n:Int) / 65536)=((n / 65536:Nat):Int):=ad;have c:((n:Int) % 65536)=((n % 65536:Nat):Int):=ad;rw [b,c,Se fuel (n / 65536) _ ad (by simp;omega) ad,wm a,DR];rfl
theorem Yu {n:Nat} (h:n < 18446744073709551616):(lm n).length<=4:=mB.2 (by show (n:Int) < 65536 ^ 4;omega)
theorem JZ {N n:Nat} (a:4 < N) (h:n < 18446744073709551616):rQ N (n:Int)=some (lm n):=by
 unfold rQ;have:=Yu h;rw [Se N n [] ad (by simp;omega) h];rfl
theorem Yv {N:Nat}:∀ (fuel n:Nat) (out:List Int),(lm n).length < fuel->out.length+(lm n).length < 1000->n < 18446744073709551616->qn N fuel (n:Int) out=some (out ++ lm n)
 | 0,n,out,h,_,_=>ad
 | fuel+1,n,out,h,h2,h3=>by
  rw [qn]
  by_cases a:n=0
  ·subst a;rw [kL];simp
  ·have e:decide ((n:Int) > 0)=true:=by simp;omega
   rw [wm a] at h h2;simp only [xm] at h h2;rw [e,cond_true,if_pos ad,R7,Ym ad ad,yJ];have b:((n:Int) / 65536)=((n / 65536:Nat):Int):=ad;have c:((n:Int) % 65536 % 65536)=((n % 65536:Nat):Int):=ad;rw [b,c,Yv fuel (n / 65536) _ ad (by simp;omega) ad,wm a,DR];rfl
theorem Yw {N n:Nat} (a:4 < N) (h:n < 18446744073709551616):zR N (n:Int)=some (lm n):=by
 unfold zR;have:=Yu h;rw [Yv N n [] ad (by simp;omega) h];rfl
theorem ac2 {N:Nat} {a:List Int} (f:U a) (h:a.length<=4):∀ (k fuel:Nat) (r:Int),k<=a.length->k < fuel->0<=r->r < pw (4 - k)->cg (a.drop k)=r->p7 N a fuel r ((k:Int) - 1)=some (cg a,true)
 | 0,fuel,r,i,j,c,d,b=>by
  obtain ⟨g,rfl⟩:∃ g,fuel=g+1:=⟨fuel - 1,ad⟩;rw [p7];have e:decide ((((0:Nat):Int) - 1)>=0)=false:=rfl;rw [e,cond_false,<- b,List.drop_zero]
 | k+1,fuel,r,i,j,c,d,b=>by
  obtain ⟨g,rfl⟩:∃ g,fuel=g+1:=⟨fuel - 1,ad⟩;have e:(((k+1:Nat):Int) - 1)=(k:Int):=ad;have h1:=f.getD k;have l:decide ((k:Int)>=0)=true:=ao;have o:pw (4 - k)=65536 * pw (4 - (k+1)):=by rw [<- kc];congr 1;omega
  have m:pw (4 - (k+1))<=281474976710656:=by
   have:k=0\/k=1\/k=2\/k=3:=ad;rcases this with rfl | rfl | rfl | rfl<;>decide
  rw [e,p7,l,cond_true,if_pos (jy ad),ag,kN (n:=a.getD k 0) ad ad,R9 c ad,WC c ad h1.1 h1.2,bw ad ad];refine ac2 f h k g _ ad ad ad ad ?_;rw [sI a k ad,b];omega
theorem ac3 {N a:Nat} (b:5 < N) (c:SM (lm a).length):CK N (lm a)=some (if (lm a).length<=4 then ((a:Int),true) else (0,false)):=by
 unfold CK
 by_cases h:(lm a).length<=4
 ·rw [if_pos h];have e:decide ((((lm a).length:Nat):Int) > 4)=false:=by simp;omega
  rw [e,cond_false,bw ad ad,ac2 (xY a) h (lm a).length N 0 (aV _) ad ad (pz _) (by rw [List.drop_length];rfl),kX]
 ·rw [if_neg h];have e:decide ((((lm a).length:Nat):Int) > 4)=true:=by simp;omega
  rw [e];rfl
end Go.Den
namespace Go.Den
open Go.Ab
theorem ait:∀ x:Fin 256,(match dV 0 ((x.val:Nat):Int) 0 with | some L=>decide (0<=L/\L<=8/\(x.val≠0->1<=L/\2 ^ (L.toNat - 1)<=x.val/\x.val < 2 ^ L.toNat)) | none=>false)=true:=by decide +kernel
theorem aiu:∀ x:Fin 256,(match dV 0 ((x.val:Nat):Int) 8 with | some L=>decide (8<=L/\L<=16/\(x.val≠0->9<=L/\2 ^ (L.toNat - 1 - 8)<=x.val/\x.val < 2 ^ (L.toNat - 8))) | none=>false)=true:=by decide +kernel
theorem aiv {N x:Nat} (n:0 < x) (h1:x < 65536):∃ L:Nat,1<=L/\L<=16/\oK N (x:Int)=some (L:Int)/\2 ^ (L - 1)<=x/\x < 2 ^ L:=by
 unfold oK
 by_cases h:x < 256
 ·have e:decide ((x:Int)>=256)=false:=by simp;omega
  rw [e,cond_false];have:=ait ⟨x,h⟩;simp only at this;show ∃ L:Nat,1<=L/\L<=16/\dV 0 (x:Int) 0=some (L:Int)/\2 ^ (L - 1)<=x/\x < 2 ^ L;cases a:dV 0 (x:Int) 0 with
  | none=>rw [a] at this;cases this
  | some L =>
   rw [a] at this;obtain ⟨i,j,b⟩:=xl this;obtain ⟨k,c,d⟩:=b ad;obtain ⟨L,rfl⟩:=Int.eq_ofNat_of_zero_le i;exact ⟨L,ad,ad,rfl,c,d⟩
 ·have e:decide ((x:Int)>=256)=true:=by simp;omega
  rw [e,cond_true];have l:zY .u16 (x:Int) 8=((x / 256:Nat):Int):=by
   unfold zY;have:(2:Int) ^ (min (8:Int).toNat IntKind.u16.bits)=256:=ak;rw [this,Int.fdiv_eq_ediv_of_nonneg _ ak];omega
  rw [l];have:=aiu ⟨x / 256,ad⟩;simp only at this;have m:dV N ((x / 256:Nat):Int) 8=dV 0 ((x / 256:Nat):Int) 8:=rfl;rw [m];cases a:dV 0 ((x / 256:Nat):Int) 8 with
  | none=>rw [a] at this;cases this
  | some L =>
   rw [a] at this;obtain ⟨i,j,b⟩:=xl this;obtain ⟨k,c,d⟩:=b ad;obtain ⟨L,rfl⟩:=Int.eq_ofNat_of_zero_le (show 0<=L by omega);simp only [Int.toNat_natCast] at c d;refine ⟨L,ad,ad,rfl,?_,?_⟩
   ·have:2 ^ (L - 1 - 8+8)=2 ^ (L - 1 - 8) * 2 ^ 8:=Nat.pow_add _ _ _;have f:(2:Nat) ^ 8=256:=ak;have g:L - 1 - 8+8=L - 1:=ad;rw [f,g] at this;omega
   ·have:2 ^ (L - 8+8)=2 ^ (L - 8) * 2 ^ 8:=Nat.pow_add _ _ _;have f:(2:Nat) ^ 8=256:=ak;have g:L - 8+8=L:=ad;rw [f,g] at this;omega
theorem aqB {N x:Nat} (a:0 < x) (h1:x < 65536):∃ s:Nat,s<=15/\iK N (x:Int)=some (s:Int)/\32768<=x * 2 ^ s/\x * 2 ^ s < 65536:=by
 obtain ⟨L,h2,h3,h4,b,c⟩:=aiv (N:=N) a h1;refine ⟨16 - L,ad,?_,?_,?_⟩
 ·unfold iK;rw [h4,dc,bw ad ad];congr 1;omega
 ·have e:2 ^ (L - 1) * 2 ^ (16 - L)=32768:=by rw [<- Nat.pow_add,show L - 1+(16 - L)=15 by omega]
  have:=fy (2 ^ (16 - L)) b;omega
 ·have e:2 ^ L * 2 ^ (16 - L)=65536:=by rw [<- Nat.pow_add,show L+(16 - L)=16 by omega]
  have:=Nat.mul_lt_mul_of_pos_right c (Nat.two_pow_pos (16 - L));omega
theorem aop {n:Int} {s:Nat} (h:0<=n) (h2:n < 65536) (a:s<=15):BP .u32 n (s:Int)=n * 2 ^ s/\0<=n * 2 ^ s/\n * 2 ^ s < 65536 * 2 ^ s/\n * 2 ^ s < 2147483648:=by
 have b:(0:Int) < 2 ^ s:=Int.pow_pos ak;have c:(2:Int) ^ s<=32768:=by
  have:=Nat.pow_le_pow_right (n:=2) ak a;have e:((2 ^ s:Nat):Int)=(2:Int) ^ s:=ao;omega
 have h3:0<=n * 2 ^ s:=Int.mul_nonneg h ad;have h4:n * 2 ^ s < 65536 * 2 ^ s:=Int.mul_lt_mul_of_pos_right h2 b;refine ⟨?_,h3,h4,ad⟩;unfold BP;have:min ((s:Nat):Int).toNat IntKind.u32.bits=s:=by show min s 32=s;omega
 rw [this,ef h3 ad]
theorem aoq {c a:Int} {s:Nat} (d:s<=15) (f:0<=c) (j:c < 2 ^ s) (b:0<=a):Tc .u16 c (a * 2 ^ s % 65536)=c+a * 2 ^ s % 65536/\c+a * 2 ^ s % 65536 < 65536:=by
 obtain ⟨c,rfl⟩:=Int.eq_ofNat_of_zero_le f;obtain ⟨a,rfl⟩:=Int.eq_ofNat_of_zero_le b;have g:c < 2 ^ s:=by
  have e:((2 ^ s:Nat):Int)=(2:Int) ^ s:=ao;omega
 have k:2 ^ s<=32768:=Nat.pow_le_pow_right (n:=2) ak d;have h:(a:Int) * 2 ^ s % 65536=((a * 2 ^ s % 65536:Nat):Int):=ao;have i:a * 2 ^ s % 65536=a % 2 ^ (16 - s) * 2 ^ s:=by
  have:65536=2 ^ (16 - s) * 2 ^ s:=by rw [<- Nat.pow_add,show 16 - s+s=16 by omega]
  rw [this,Nat.mul_mod_mul_right]
 have l:a % 2 ^ (16 - s) * 2 ^ s+2 ^ s<=65536:=by
  have h1:a % 2 ^ (16 - s)+1<=2 ^ (16 - s):=Nat.mod_lt _ (Nat.two_pow_pos _);have h2:=fy (2 ^ s) h1;rw [<- Nat.pow_add,show 16 - s+s=16 by omega,dq] at h2;omega
 rw [h,i];generalize a % 2 ^ (16 - s)=m at *
 constructor
 ·unfold Tc;rw [show IntKind.u16.bits=16 from rfl,aiq _ _ ad ad,Nat.or_comm,JY _ _ s g,yJ];omega
 ·omega
theorem Sf {N:Nat} {a:List Int} {s:Nat} (q:U a) (d:s<=15) (r:SM a.length):∀ (k x fuel:Nat) (out:List Int),x+k=a.length->k < fuel->out.length=a.length+1->U out->out.getD x 0 < 2 ^ s->(∀ j,x < j->out.getD j 0=0) ->
  cg out=cg (a.take x) * 2 ^ s->∃ o,lN N a (s:Int) fuel out (x:Int)=some o/\o.length=a.length+1/\U o/\cg o=cg a * 2 ^ s/\o.getD a.length 0 < 2 ^ s
 | 0,x,fuel,out,t,u,e,c,f,h,b=>by
  obtain ⟨g,rfl⟩:∃ g,fuel=g+1:=⟨fuel - 1,ad⟩;have v:x=a.length:=ad;subst v;exact ⟨out,by rw [lN,dG,cond_false],e,c,by rw [b,List.take_length],f⟩
 | k+1,x,fuel,out,t,u,e,c,f,h,b=>by
  obtain ⟨g,rfl⟩:∃ g,fuel=g+1:=⟨fuel - 1,ad⟩;simp only [SM] at r;have i:x < a.length:=ad;have h1:=q.getD x;have h2:=c.getD x;obtain ⟨w1,w2,z,A⟩:=aop h1.1 h1.2 d;obtain ⟨o1,y⟩:=aoq d h2.1 f h1.1;rw [lN,dec_lt i,cond_true,if_pos (jy i),if_pos ad,if_pos (jy ad),aw ad];simp only [ag];rw [ef (n:=a.getD x 0) ad ad,w1,yJ,K5,yJ,o1];rw [if_pos ⟨ad,by simp;omega⟩];generalize hw:a.getD x 0 * 2 ^ s=w at *
  have l:w / 65536 < 2 ^ s:=ad;have m:w / 65536 % 65536=w / 65536:=ad;rw [m];have p:U (out.set x (out.getD x 0+w % 65536)):=c.set x ad y;refine Sf q d r k (x+1) g _ ad ad (by simp [e]) (p.set (x+1) ad ad) ?_ (fun j B=>?_) ?_
  ·rw [Yq _ _ (by simp;omega)];exact l
  ·rw [getD_set_ne _ _ ad,getD_set_ne _ _ ad];exact h j ad
  ·rw [rG _ _ _ (by simp;omega),getD_set_ne _ _ ad,h (x+1) ad,rG _ _ _ ad,eu a x i,b,kc,hO];have h3:w=w % 65536+65536 * (w / 65536):=ad;have h4:w * pw x=(w % 65536+65536 * (w / 65536)) * pw x:=by rw [<- h3]
   have C:a.getD x 0 * pw x * 2 ^ s=w * pw x:=by rw [<- hw];grind
   grind
theorem Sg {N:Nat} {a:List Int} {s:Nat} (d:U a) (f:s<=15) (c:SM a.length) (g:a.length < N):∃ o,uU N a (s:Int)=some o/\o.length=a.length+1/\U o/\cg o=cg a * 2 ^ s/\o.getD a.length 0 < 2 ^ s:=by
 unfold uU;have b:=c;simp only [SM] at b;have e:aR ((a.length:Int)+1)=((a.length+1:Nat):Int):=aw ad;rw [e,if_pos ad];exact Sf d f c a.length 0 N _ ad g ao (U.replicate _) (by rw [kM];exact Int.pow_pos ak) (fun j _=>kM _ j) (by rw [nF];simp [cg])
theorem xJ (p w:List Int) (i:Nat):(p ++ w).getD (da p.length i) 0=w.getD i 0:=by
 rw [fk,jP,og ad,jP];congr 2;omega
theorem WE (p w:List Int) (i:Nat) (x:Int):(p ++ w).set (da p.length i) x=p ++ w.set i x:=by
 rw [fk,List.set_append_right _ _ ad];congr 2;omega
theorem zT:∀ {l:List Int} (m:Nat),(∀ j,m<=j->l.getD j 0=0)->cg l=cg (l.take m)
 | [],m,_=>ao
 | x :: l,0,h=>by
  have a:x=0:=h 0 (aV _);have:=zT (l:=l) 0 fun j _=>h (j+1) ad;simp [cg] at this;simp [cg,a,this]
 | x :: l,m+1,h=>by
  have:=zT (l:=l) m fun j b=>h (j+1) ad;simp only [List.take_succ_cons,cg,this]
theorem Yx {l:List Int} (a:U l) (m:Nat) (h:∀ j,m<=j->l.getD j 0=0):cg l < pw m:=by
 rw [zT m h];have h1:=(a.take m).lt;rw [qg] at h1
 by_cases hm:m<=l.length
 ·rwa [Nat.min_eq_left hm] at h1
 ·rw [Nat.min_eq_right ad] at h1;have:pw m=pw l.length * pw (m - l.length):=by rw [<- Sa];congr 1;omega
  have h2:=pz (m - l.length);have h3:=yR (show 1<=pw (m - l.length) by omega) (Int.le_of_lt (pz l.length));omega
theorem Sh {l:List Int} (a:U l) (m:Nat) (h:cg l < pw m):∀ j,m<=j->l.getD j 0=0:=by
 intro j c
 by_cases b:j < l.length
 ·have h1:=xw l j ad;have h2:=sI l j b;have h3:=(a.take j).uN;have h4:=(a.drop (j+1)).uN;have d:=a.getD j;have e:pw m<=pw j:=by
   have:pw j=pw m * pw (j - m):=by rw [<- Sa];congr 1;omega
   have h2:=pz (j - m);have h3:=yR (show 1<=pw (j - m) by omega) (Int.le_of_lt (pz m));omega
  have f:¬ 0 < cg (l.drop j):=fun g=>by
   have:=yR (show 1<=cg (l.drop j) by omega) (Int.le_of_lt (pz j));omega
  omega
 ·exact BA ad
theorem Yy {N:Nat} {p v:List Int} {q:Int} (t:U v) (u:0<=q) (z:q < 65536) (o:SM v.length) (W:Int) :
  ∀ (k x fuel:Nat) (w:List Int) (c f:Int),x+k=v.length+1->k < fuel->v.length+1<=w.length->U w->0<=c->c < 65536->(x=v.length+1->c=0)->(f=0\/f = -1)->(∀ j,v.length+1<=j->w.getD j 0=0) ->
   cg w=W - q * cg (v.take x)+pw x * (c - f)->∃ (w':List Int) (a:Int),w'.length=w.length/\U w'/\(a=0\/a = -1)/\(∀ j,v.length+1<=j->w'.getD j 0=0)/\cg w'=W - q * cg v - pw (v.length+1) * a /\
    jK N p.length (v.length+1) v q fuel (p ++ w) c f (x:Int)=cond (decide (a < 0)) (ly N p.length (v.length+1) v q N (p ++ w') 0 0) (oL N (p ++ w') q)
 | 0,x,fuel,w,c,f,F,G,hw,m,A,B,C,i,r,b=>by
  obtain ⟨g,rfl⟩:∃ g,fuel=g+1:=⟨fuel - 1,ad⟩;have H:x=v.length+1:=ad;subst H;simp only [SM] at o;rw [C rfl] at b;refine ⟨w,f,rfl,m,i,r,?_,by rw [jK,aw ad,dG,cond_false]⟩;rw [b,mj ad,Int.zero_sub,Int.mul_neg];omega
 | k+1,x,fuel,w,c,f,F,G,hw,m,A,B,C,i,r,b=>by
  obtain ⟨g,rfl⟩:∃ g,fuel=g+1:=⟨fuel - 1,ad⟩;simp only [SM] at o;have D:x < v.length+1:=ad;have h1:=m.getD x;have E:(p ++ w).length=p.length+w.length:=oi;have step:∀ y:Int,0<=y->y < 4294967296->(x=v.length->y < 65536)->y=q * v.getD x 0+c ->
    ∃ (w':List Int) (a:Int),w'.length=w.length/\U w'/\(a=0\/a = -1)/\(∀ j,v.length+1<=j->w'.getD j 0=0)/\cg w'=W - q * cg v - pw (v.length+1) * a /\
    sQ N p.length (v.length+1) v q (p ++ w) f (x:Int) (jK N p.length (v.length+1) v q g) y=cond (decide (a < 0)) (ly N p.length (v.length+1) v q N (p ++ w') 0 0) (oL N (p ++ w') q):=by
   intro y s I J K;unfold sQ;rw [if_pos (jy D),if_pos ad];simp only [ag];rw [xJ,Ym s ad,bw (n:=w.getD x 0) ad ad,bw (n:=y % 65536) ad ad,bw (n:=w.getD x 0 - y % 65536) ad ad,
    bw (n:=w.getD x 0 - y % 65536+f) ad ad,yJ,R7,aew,aw ad,WE]
   generalize L:w.getD x 0 - y % 65536+f=d;have M:-65536<=d/\d < 65536:=ad;have:=Yy (N:=N) (p:=p) t u z o W k (x+1) g (w.set x (d % 65536)) (y / 65536) (d / 65536) ad ad (by simp;omega) (m.set _ ad ad) ad ad (fun h=>by have:=J ad;omega) ad (fun j O=>?_) ?_
   ·rwa [List.length_set] at this
   ·rw [getD_set_ne _ _ ad];exact r j O
   ·rw [rG _ _ _ ad,b,kc];have P:cg (v.take (x+1))=cg (v.take x)+v.getD x 0 * pw x:=by
     by_cases h:x < v.length
     ·exact eu v x h
     ·rw [mj ad,mj ad,BA ad];simp
    rw [P];have Q:d=d % 65536+65536 * (d / 65536):=ad;have R:y=y % 65536+65536 * (y / 65536):=ad;have T:d * pw x=(d % 65536) * pw x+65536 * (d / 65536) * pw x:=by rw [<- hO,<- Q]
    have V:y * pw x=(y % 65536) * pw x+65536 * (y / 65536) * pw x:=by rw [<- hO,<- R]
    have X:d * pw x=w.getD x 0 * pw x - (y % 65536) * pw x+f * pw x:=by rw [<- L,hO,Int.sub_mul]
    have S:y * pw x=q * (v.getD x 0 * pw x)+c * pw x:=by rw [K,hO,oE]
    grind
  rw [jK,aw ad,dec_lt D,cond_true]
  by_cases l:x < v.length
  ·have h2:=t.getD x;have h3:0<=q * v.getD x 0/\q * v.getD x 0<=4294836225:=Sc u z h2.1 h2.2;rw [dec_lt l,cond_true,if_pos (jy l),ag];refine step _ ?_ ?_ (fun h=>ad) ?_<;>rw [kN (n:=v.getD x 0) ad ad,kN (n:=q * v.getD x 0) ad ad,kN ad ad]<;>omega
  ·have e:decide ((x:Int) < (v.length:Int))=false:=by simp;omega
   rw [e,cond_false];refine step c A ad (fun _=>B) ?_;rw [BA (show v.length<=x by omega)];simp
theorem Yz {N:Nat} {p v:List Int} {q:Int} (u:U v) (z:0 < q) (A:q < 65536) (i:SM v.length) (W:Int) (l:0<=W - (q - 1) * cg v) (m:W - (q - 1) * cg v < pw v.length) :
  ∀ (k x fuel:Nat) (w:List Int) (c:Int),x+k=v.length->k < fuel->v.length+1<=w.length->U w->0<=c->c<=1->(∀ j,v.length+1<=j->w.getD j 0=0) ->
   cg w=W - q * cg v+pw (v.length+1)+cg (v.take x) - pw x * c->∃ w',ly N p.length (v.length+1) v q fuel (p ++ w) c (x:Int)=some (q - 1,p ++ w')/\w'.length=w.length/\U w'/\cg w'=W - (q - 1) * cg v
 | 0,x,fuel,w,c,B,C,hw,e,y,D,o,a=>by
  obtain ⟨g,rfl⟩:∃ g,fuel=g+1:=⟨fuel - 1,ad⟩;have E:x=v.length:=ad;subst E;simp only [SM] at i;have h1:=e.getD v.length;have f:(p ++ w).length=p.length+w.length:=oi;rw [List.take_length] at a;rw [ly,dG,cond_false,if_pos ad,if_pos ad,xJ,WE,tc y ad,yJ];unfold oL;rw [kN ad ad,tc ad ad];generalize r:w.getD v.length 0+c=d;have h:U (w.set v.length (d % 65536)):=e.set _ ad ad;refine ⟨_,rfl,ao,h,?_⟩;have h2:=rG w v.length (d % 65536) ad;have h3:d % 65536=d - 65536 * (d / 65536):=ad;have h4:cg (w.set v.length (d % 65536))=W - (q - 1) * cg v+(1 - d / 65536) * pw (v.length+1):=by
   rw [h2,a,kc,h3,<- r];grind
  have b:d / 65536=0\/d / 65536=1:=ad;rcases b with b | b
  ·have F:=Yx h (v.length+1) (fun j s=>by rw [getD_set_ne _ _ ad];exact o j s);rw [h4,b] at F;omega
  ·rw [h4,b];simp
 | k+1,x,fuel,w,c,B,C,hw,e,y,D,o,a=>by
  obtain ⟨g,rfl⟩:∃ g,fuel=g+1:=⟨fuel - 1,ad⟩;simp only [SM] at i;have t:x < v.length:=ad;have h1:=e.getD x;have h2:=u.getD x;have f:(p ++ w).length=p.length+w.length:=oi;rw [ly,dec_lt t,cond_true,if_pos (jy ad),if_pos ad,if_pos (jy t)];simp only [ag];rw [xJ,ef (n:=w.getD x 0) ad ad,ef (n:=v.getD x 0) ad ad,ef (n:=w.getD x 0+v.getD x 0) ad ad,ef (n:=c+(w.getD x 0+v.getD x 0)) ad ad,
   yJ,K5,aw ad,WE]
  generalize r:c+(w.getD x 0+v.getD x 0)=d;obtain ⟨w',G,H,I,J⟩:=Yz (N:=N) (p:=p) u z A i W l m k (x+1) g (w.set x (d % 65536)) (d / 65536) ad ad (by simp;omega) (e.set _ ad ad) ad ad
   (fun j s=>by rw [getD_set_ne _ _ ad];exact o j s) (by
    rw [rG _ _ _ ad,a,eu v x t,kc x];have b:d=d % 65536+65536 * (d / 65536):=ad;have K:d * pw x=(d % 65536) * pw x+65536 * (d / 65536) * pw x:=by rw [<- hO,<- b]
    have L:d * pw x=c * pw x+(w.getD x 0 * pw x+v.getD x 0 * pw x):=by rw [<- r,hO,hO]
    grind)
  exact ⟨w',G,by simpa using H,I,J⟩
end Go.Den
namespace Go.Den
open Go.Ab
structure Top (v1 v2 w0 w1 w2 A V W:Int):Prop where
 A0:0 < A
 v1a:32768<=v1
 v1b:v1 < 65536
 v2a:0<=v2
 v2b:v2 < 65536
 w0a:0<=w0
 w0b:w0 < 65536
 w1a:0<=w1
 w1b:w1 < 65536
 w2a:0<=w2
 w2b:w2 < 65536
 V0:(v1 * 65536+v2) * A<=V
 V1:V < (v1 * 65536+v2+1) * A
 W0:((w0 * 65536+w1) * 65536+w2) * A<=W
 W1:W < ((w0 * 65536+w1) * 65536+w2+1) * A
 WV:W < 65536 * V
section
variable {v1 v2 w0 w1 w2 A V W:Int}
theorem Top.aiw (t:Top v1 v2 w0 w1 w2 A V W):65536 * A<=V:=by
 have:=t.V0;have:=t.A0;have:=t.v1a;have:=t.v2a;have h:=oh (show (65536:Int)<=v1 * 65536+v2 by omega) (Int.le_of_lt t.A0);omega
theorem EU {x y A:Int} (a:0 < A) (h:x * A < y * A):x < y:=Int.lt_of_mul_lt_mul_right h (Int.le_of_lt a)
theorem Top.aud (t:Top v1 v2 w0 w1 w2 A V W):w0<=v1:=by
 have h1:((w0 * 65536+w1) * 65536+w2) * A < (65536 * (v1 * 65536+v2+1)) * A:=by
  rw [oE 65536];have:=t.W0;have:=t.WV;have:=t.V1;omega
 have h2:=EU t.A0 h1;have:=t.w1a;have:=t.w2a;have:=t.v2b;omega
theorem Top.aqC (t:Top v1 v2 w0 w1 w2 A V W) {q r Q:Int} (b:q * v1+r=w0 * 65536+w1) (h:q * v2 > r * 65536+w2) (c:0<=q) (d:Q * V<=W):Q < q:=by
 rcases Int.lt_or_le Q q with a | a
 ·exact a
 ·exfalso;have g:=t.aiw;have e:=t.A0;have h1:q * V<=W:=Int.le_trans (oh a ad) d;have h2:q * ((v1 * 65536+v2) * A)<=q * V:=yR t.V0 c;have h3:(q * (v1 * 65536+v2)) * A < ((w0 * 65536+w1) * 65536+w2+1) * A:=by
   rw [oE];have:=t.W1;omega
  have h4:=EU e h3;rw [<- b] at h4;have f:q * (v1 * 65536+v2)=q * v1 * 65536+q * v2:=by rw [kZ,<- oE]
  rw [f] at h4;have i:(q * v1+r) * 65536=q * v1 * 65536+r * 65536:=hO _ _ _;omega
theorem Top.aqD (t:Top v1 v2 w0 w1 w2 A V W) {q r:Int} (c:q * v1+r=w0 * 65536+w1) (d:0<=q) (f:0<=r) (h:65536<=r\/(q<=65535/\q * v2<=r * 65536+w2)):q<=65535/\q * V < W+V:=by
 have e:=t.A0;have a:q<=65535:=by
  rcases h with h | h
  ·rcases Int.lt_or_le 65535 q with b | b
   ·exfalso;have h1:=oh (show 65536<=q by omega) (show 0<=v1 by have:=t.v1a;omega);have:=t.aud;have:=t.w1b;omega
   ·exact b
  ·exact h.1
 refine ⟨a,?_⟩;have h2:q * v2<=r * 65536+w2:=by
  rcases h with h | h
  ·have h1:q * v2<=65535 * 65535:=Int.mul_le_mul a (by have:=t.v2b;omega) t.v2a ad;have:=t.w2a;omega
  ·exact h.2
 -- q V < (q (v1 B + v2) + q) A
 have h3:q * V<=q * ((v1 * 65536+v2+1) * A):=yR (Int.le_of_lt t.V1) d;have h4:q * ((v1 * 65536+v2+1) * A)=(q * v1 * 65536+q * v2+q) * A:=by
  rw [<- oE];congr 1;rw [kZ,kZ,Int.mul_one,<- oE]
 have g:(q * v1 * 65536+q * v2+q) * A<=(((w0 * 65536+w1) * 65536+w2)+65535) * A:=by
  refine oh ?_ (Int.le_of_lt e);rw [<- c];have:(q * v1+r) * 65536=q * v1 * 65536+r * 65536:=hO _ _ _;omega
 have i:(((w0 * 65536+w1) * 65536+w2)+65535) * A=((w0 * 65536+w1) * 65536+w2) * A+65535 * A:=hO _ _ _;have:=t.W0;have:=t.aiw;omega
theorem Top.first (t:Top v1 v2 w0 w1 w2 A V W) {Q:Int} (a:0<=Q) (b:Q * V<=W):Q<=(w0 * 65536+w1) / v1:=by
 rw [Int.le_ediv_iff_mul_le (by have:=t.v1a;omega)];have h1:Q * ((v1 * 65536+v2) * A)<=Q * V:=yR t.V0 a;have h2:(Q * (v1 * 65536+v2)) * A < ((w0 * 65536+w1) * 65536+w2+1) * A:=by rw [oE];have:=t.W1;omega
 have h3:=EU t.A0 h2;have h4:Q * (v1 * 65536+v2)=Q * v1 * 65536+Q * v2:=by rw [kZ,<- oE]
 have c:0<=Q * v2:=Int.mul_nonneg a t.v2a;have:=t.w2b;omega
end
theorem aix {N:Nat} {p v w:List Int} (x:U v) (hw:U w) (X:2<=v.length) (C:v.length+1<=w.length) (D:SM (p.length+w.length)) {A V W:Int}
  (t:Top (v.getD (v.length - 1) 0) (v.getD (v.length - 2) 0) (w.getD v.length 0) (w.getD (v.length - 1) 0) (w.getD (v.length - 2) 0) A V W) {Q:Int} (E:0<=Q) (j:Q * V<=W) (F:W < Q * V+V) :
  ∀ (k fuel:Nat) (q r:Int),k < fuel->65536<=r+32768 * (k:Int)->0<=r->r < 131072->0<=q->q < 4294967296->Q<=q->q * v.getD (v.length - 1) 0+r=w.getD v.length 0 * 65536+w.getD (v.length - 1) 0 ->
   ∃ i,Q<=i/\i<=Q+1/\i<=65535/\oM N p.length (v.length+1) v (p ++ w) fuel q r=jK N p.length (v.length+1) v i N (p ++ w) 0 0 0:=by
 intro k;simp only [SM] at D;have y:(p ++ w).length=p.length+w.length:=oi;have G:aR ((v.length:Int) - 2)=((v.length - 2:Nat):Int):=by rw [bw ad ad];omega
 have H:aR ((v.length:Int) - 1)=((v.length - 1:Nat):Int):=by rw [bw ad ad];omega
 have I:=x.getD (v.length - 1);have c:=x.getD (v.length - 2);have z:=hw.getD (v.length - 2)
 induction k with
 | zero =>
  intro fuel q r J B d l e K b a;obtain ⟨g,rfl⟩:∃ g,fuel=g+1:=⟨fuel - 1,ad⟩;have L:65536<=r:=by simpa using B
  obtain ⟨m,M⟩:=t.aqD a e d (.inl L);have o:q<=Q+1:=by
   rcases Int.lt_or_le (Q+1) q with h | h
   ·exfalso;have:=oh (show Q+2<=q by omega) (show 0<=V by have:=t.aiw;have:=t.A0;omega);rw [hO] at this;omega
   ·exact h
  have O:decide (r < 65536)=false:=by simp;omega
  refine ⟨q,b,o,m,?_⟩;rw [oM];simp only [O,Bool.false_and,cond_false];rw [if_pos (fun h=>by cases h),if_pos (fun h=>by cases h),if_pos (fun h=>by cases h)]
 | succ k P =>
  intro fuel q r J B d l e K b a;obtain ⟨g,rfl⟩:∃ g,fuel=g+1:=⟨fuel - 1,ad⟩;rw [oM,H,G,if_pos (fun _=>⟨ad,ad⟩),if_pos (fun _=>⟨ad,ad⟩),if_pos (fun _=>ad)];rw [ag,ag,xJ,if_pos ⟨ad,ad⟩,kN (n:=v.getD (v.length - 2) 0) ad ad,kN (n:=w.getD (v.length - 2) 0) ad ad,kN (n:=v.getD (v.length - 1) 0) ad ad];have R:0<=q * v.getD (v.length - 2) 0:=Int.mul_nonneg e c.1;have Y:q * v.getD (v.length - 2) 0<=4294967295 * 65535:=Int.mul_le_mul ad ad c.1 ad;rw [kN R ad,R9 d ad,WC d ad z.1 z.2];have Z:=t.aiw;have hA:=t.A0
  by_cases f:65536<=r\/(q<=65535/\q * v.getD (v.length - 2) 0<=r * 65536+w.getD (v.length - 2) 0)
  ·obtain ⟨m,M⟩:=t.aqD a e d f;have o:q<=Q+1:=by
    rcases Int.lt_or_le (Q+1) q with h | h
    ·exfalso;have:=oh (show Q+2<=q by omega) (show 0<=V by omega);rw [hO] at this;omega
    ·exact h
   have s:cond (decide (r < 65536)) (cond (decide (q > 65535)) true (decide (q * v.getD (v.length - 2) 0 > r * 65536+w.getD (v.length - 2) 0))) false=false:=by
    rcases f with h | ⟨h1,h2⟩
    ·rw [decide_eq_false (show ¬ r < 65536 by omega)];rfl
    ·rw [decide_eq_false (show ¬ q > 65535 by omega),cond_false,decide_eq_false (show ¬ q * v.getD (v.length - 2) 0 > r * 65536+w.getD (v.length - 2) 0 by omega)];cases decide (r < 65536)<;>rfl
   exact ⟨q,b,o,m,by rw [s,cond_false]⟩
  ·have S:r < 65536:=ad;have T:Q < q:=by
    by_cases u:65535 < q
    ·rcases Int.lt_or_le Q q with h | h
     ·exact h
     ·exfalso;have:=oh (show 65536<=Q by omega) (show 0<=V by omega);have:=t.WV;omega
    ·exact t.aqC a ad e j
   have s:cond (decide (r < 65536)) (cond (decide (q > 65535)) true (decide (q * v.getD (v.length - 2) 0 > r * 65536+w.getD (v.length - 2) 0))) false=true:=by
    rw [decide_eq_true S,cond_true]
    by_cases u:65535 < q
    ·rw [decide_eq_true (show q > 65535 by omega)];rfl
    ·rw [decide_eq_false (show ¬ q > 65535 by omega),cond_false,decide_eq_true];omega
   have S7:=t.v1a;rw [s,cond_true,kN (n:=q - 1) ad ad,kN ad ad];refine P g _ _ ad ad ad ad ad ad ad ?_;rw [Int.sub_mul];omega
theorem aiy {N:Nat} {p v w:List Int} (a:U v) (hw:U w) (P:2<=v.length) (i:v.length+1<=w.length) (E:SM (p.length+w.length)) (hN:v.length+3 < N) (x:32768<=v.getD (v.length - 1) 0) (F:∀ j,v.length+1<=j->w.getD j 0=0)
  (R:cg w < 65536 * cg v):∃ Q w',CM N p.length (v.length+1) v (p ++ w)=some (Q,p ++ w')/\w'.length=w.length/\U w'/\0<=Q/\Q < 65536/\cg w'=cg w - Q * cg v/\cg w' < cg v:=by
 have y:=E;simp only [SM] at y;have G:(p ++ w).length=p.length+w.length:=oi;have S:aR ((v.length:Int) - 1)=((v.length - 1:Nat):Int):=by rw [bw ad ad];omega
 obtain ⟨n,k⟩:∃ n,v.length=n+2:=⟨v.length - 2,ad⟩;have T:=pz n
 -- the top digits
 have H:cg v=cg (v.take n)+pw n * (v.getD n 0+65536 * v.getD (n+1) 0):=by
  rw [xw v n ad,sI v n ad,sI v (n+1) ad,List.drop_eq_nil_of_le ad];simp [cg]
 have m:cg w=cg (w.take n)+pw n * (w.getD n 0+65536 * (w.getD (n+1) 0+65536 * w.getD (n+2) 0)):=by
  have h3:cg (w.drop (n+3))=0:=by
   have:=zT (l:=w.drop (n+3)) 0 fun j _=>by
    have:=F (n+3+j) ad;rw [jP] at this ⊢;rw [ud];exact this
   simpa [cg] using this
  rw [xw w n ad,sI w n ad,sI w (n+1) ad,sI w (n+2) ad,h3];simp
 have z:=(a.take n).lt;have V:=(a.take n).uN;have A:=(hw.take n).lt;have W:=(hw.take n).uN;rw [qg,Nat.min_eq_left ad] at z A;have X:=a.getD (n+1);have I:=a.getD n;have J:=hw.getD (n+2);have u1:=hw.getD (n+1);have u2:=hw.getD n;have Y:32768<=v.getD (n+1) 0:=by rw [k] at x;exact x
 have t:Top (v.getD (v.length - 1) 0) (v.getD (v.length - 2) 0) (w.getD v.length 0) (w.getD (v.length - 1) 0) (w.getD (v.length - 2) 0) (pw n) (cg v) (cg w):=by
  have Z:v.length - 1=n+1:=ad;have x2:v.length - 2=n:=ad;rw [Z,x2,k];refine ⟨T,Y,X.2,I.1,I.2,J.1,J.2,u1.1,u1.2,u2.1,u2.2,?_,?_,?_,?_,R⟩
  ·rw [H];grind
  ·rw [H];grind
  ·rw [m];grind
  ·rw [m];grind
 have d:0 < cg v:=by have:=t.aiw;omega
 obtain ⟨Q,e⟩:∃ Q,Q=cg w / cg v:=⟨_,rfl⟩;have b:0<=Q:=by rw [e];exact Int.ediv_nonneg hw.uN ad
 have o:Q * cg v<=cg w:=by rw [e];exact Int.ediv_mul_le _ ad
 have B:cg w < Q * cg v+cg v:=by
  have:=Int.lt_ediv_add_one_mul_self (cg w) d;rw [e];rw [hO] at this;omega
 have C:Q < 65536:=by
  rcases Int.lt_or_le Q 65536 with h | h
  ·exact h
  ·exfalso;have:=oh h (Int.le_of_lt d);omega
 have axq:cg v < pw v.length:=a.lt;have hK:∀ q,Q<=q->q<=Q+1->q<=65535->∃ w',jK N p.length (v.length+1) v q N (p ++ w) 0 0 0=some (Q,p ++ w')/\w'.length=w.length/\U w'/\cg w'=cg w - Q * cg v:=by
  intro q O1 PV dI;obtain ⟨w',br,q1,s,q3,K,u,L⟩:=Yy (N:=N) (p:=p) a (show 0<=q by omega) (show q < 65536 by omega) (by simp only [SM];omega) (cg w) (v.length+1) 0 N w 0 0 ad ad i hw ad ad (fun h=>rfl) (.inl rfl) F
   (by rw [List.take_zero];simp [cg])
  have h1:=s.uN;have h2:=Yx s _ K;have hpv:pw (v.length+1)=65536 * pw v.length:=kc _;rw [show ((0:Nat):Int)=0 from rfl] at L;rw [L];rcases q3 with rfl | rfl
  ·have f:q=Q:=by
    rcases Int.lt_or_le Q q with h | h
    ·exfalso;have:=oh (show Q+1<=q by omega) (Int.le_of_lt d);rw [hO] at this;simp at u;omega
    ·omega
   subst f;refine ⟨w',?_,q1,s,by simpa using u⟩;rw [decide_eq_false ak,cond_false];unfold oL;rw [tc b ad]
  ·have f:q=Q+1:=by
    rcases Int.lt_or_le Q q with h | h
    ·omega
    ·exfalso;have:q=Q:=ad;subst this;rw [Int.mul_neg,Int.mul_one] at u;omega
   subst f;rw [decide_eq_true ak,cond_true];have g:(Q+1 - 1) * cg v=Q * cg v:=by rw [Int.add_sub_cancel]
   obtain ⟨w2,M,r2,r3,O⟩:=Yz (N:=N) (p:=p) a (show 0 < Q+1 by omega) (show Q+1 < 65536 by omega) (by simp only [SM];omega) (cg w) (by rw [g];omega) (by rw [g];omega) v.length 0 N w' 0 ad ad ad s ad ad K
    (by rw [u,List.take_zero];simp [cg])
   rw [g] at O;refine ⟨w2,?_,ad,r3,O⟩;rw [show ((0:Nat):Int)=0 from rfl] at M;rw [M,Int.add_sub_cancel]
 unfold CM;rw [S,if_pos ⟨ad,ad⟩,if_pos ad,if_pos ⟨ad,ad⟩,if_pos ⟨ad,ad⟩,ag];have b1:32768<=v.getD (v.length - 1) 0:=x;have b2:=a.getD (v.length - 1);have c1:=hw.getD v.length;have c2:=hw.getD (v.length - 1);rw [kN (n:=v.getD (v.length - 1) 0) ad ad,if_pos ad,xJ,xJ,kN (n:=w.getD v.length 0) ad ad,kN (n:=w.getD (v.length - 1) 0) ad ad,R9 ad ad,WC ad ad ad ad];have c:0<=w.getD v.length 0 * 65536+w.getD (v.length - 1) 0:=ad;have hT1:w.getD v.length 0 * 65536+w.getD (v.length - 1) 0 < 4294967296:=ad;rw [Int.tdiv_eq_ediv_of_nonneg c,Int.tmod_eq_emod_of_nonneg c];have td:=Int.emod_nonneg (w.getD v.length 0 * 65536+w.getD (v.length - 1) 0) (show v.getD (v.length - 1) 0≠0 by omega);have Xg:=Int.emod_lt_of_pos (w.getD v.length 0 * 65536+w.getD (v.length - 1) 0) (show 0 < v.getD (v.length - 1) 0 by omega);have r:=Int.ediv_nonneg c (show 0<=v.getD (v.length - 1) 0 by omega);have D:=Int.mul_ediv_add_emod (w.getD v.length 0 * 65536+w.getD (v.length - 1) 0) (v.getD (v.length - 1) 0);have hdl:(w.getD v.length 0 * 65536+w.getD (v.length - 1) 0) / v.getD (v.length - 1) 0<=w.getD v.length 0 * 65536+w.getD (v.length - 1) 0:=Int.ediv_le_self _ c;rw [kN r ad];obtain ⟨q,h1,h2,h3,h4⟩:=aix (N:=N) (p:=p) a hw P i E t b o B 2 N ((w.getD v.length 0 * 65536+w.getD (v.length - 1) 0) / v.getD (v.length - 1) 0) ((w.getD v.length 0 * 65536+w.getD (v.length - 1) 0) % v.getD (v.length - 1) 0)
  ad ad td ad r ad (t.first b o) (by rw [kb];exact D)
 rw [h4];obtain ⟨w',k1,k2,k3,k4⟩:=hK q h1 h2 h3;exact ⟨Q,w',k1,k2,k3,b,C,k4,ad⟩
end Go.Den
namespace Go.Den
open Go.Ab
theorem aiA {a b:Int} (d:0<=a) (c:a < 65536) (e:0<=b) (f:b < 65536):Tc .u32 b (a * 65536)=a * 65536+b:=by
 have h:=acW d c e f;unfold Tc at h ⊢;rw [BitVec.or_comm];exact h
theorem aor {n:Int} {s:Nat} (a:s<=15):zY .u32 n (s:Int)=n / 2 ^ s:=by
 unfold zY;have:min ((s:Nat):Int).toNat IntKind.u32.bits=s:=by show min s 32=s;omega
 rw [this,Int.fdiv_eq_ediv_of_nonneg _ (Int.le_of_lt (Int.pow_pos ak))]
theorem Us {N:Nat} {b q u:List Int} {s:Nat} (y:s<=15) (v:U u) (F:b.length+1<=u.length) (z:SM u.length) (A:u.getD b.length 0=0) (G:u.getD 0 0 % 2 ^ s=0) (B:U q) (l:q.length < N) (m:SM q.length) (H:b.length < N) :
  ∀ (k x fuel:Nat) (r:List Int),x+k=b.length->k < fuel->r.length=b.length->U r->(∀ j,x<=j->r.getD j 0=0)->2 ^ s * cg r=cg (u.take x)+u.getD x 0 % 2 ^ s * pw x ->
   ∃ R:List Int,nj N b (s:Int) q u fuel r (x:Int)=some (lm (cg q).toNat,lm (cg R).toNat)/\U R/\2 ^ s * cg R=cg (u.take b.length)
 | 0,x,fuel,r,I,J,C,h,i,e=>by
  obtain ⟨g,rfl⟩:∃ g,fuel=g+1:=⟨fuel - 1,ad⟩;have K:x=b.length:=ad;subst K;simp only [SM] at z m;have W:(2:Int) ^ s≠0:=Int.ne_of_gt (Int.pow_pos ak);refine ⟨r,?_,h,?_⟩
  ·rw [nj,Nat.sub_zero,dG,cond_false,qD B l ad,dc,qD h ad ad,dc]
  ·rw [e,A];simp
 | k+1,x,fuel,r,I,J,C,h,i,e=>by
  obtain ⟨g,rfl⟩:∃ g,fuel=g+1:=⟨fuel - 1,ad⟩;simp only [SM] at z;have L:x < b.length:=ad;have h1:=v.getD x;have h2:=v.getD (x+1);rw [nj,Nat.sub_zero,dec_lt L,cond_true,if_pos (jy ad),aw ad,if_pos (jy ad),if_pos ad,if_pos (jy ad)];simp only [ag];rw [ef (n:=u.getD x 0) ad ad,ef (n:=u.getD (x+1) 0) ad ad,R8 h2.1 h2.2,aiA h2.1 h2.2 h1.1 h1.2,aor y,yJ];generalize w:u.getD x 0=a at *
  generalize M:u.getD (x+1) 0=d at *
  -- 65536 = P c
  obtain ⟨P,o⟩:∃ P:Int,P=2 ^ s:=⟨_,rfl⟩;obtain ⟨c,D⟩:∃ c:Int,c=2 ^ (16 - s):=⟨_,rfl⟩;have f:(65536:Int)=P * c:=by rw [o,D,<- Int.pow_add,show s+(16 - s)=16 by omega];decide
  have p:0 < P:=by rw [o];exact Int.pow_pos ak
  have t:0 < c:=by rw [D];exact Int.pow_pos ak
  rw [<- o] at e ⊢;have O:(d * 65536+a) / P=d * c+a / P:=by
   rw [f,show d * (P * c)+a=a+(d * c) * P by rw [kb P c,<- oE];omega,Int.add_mul_ediv_right _ _ ad];omega
  have Q:d=P * (d / P)+d % P:=(Int.mul_ediv_add_emod d P).symm;have E:=Int.emod_nonneg d (show P≠0 by omega);have X:=Int.emod_lt_of_pos d p;have m0:0<=a / P:=Int.ediv_nonneg h1.1 ad;have m1:a / P < c:=Int.ediv_lt_of_lt_mul p (by rw [kb,<- f];exact h1.2);have S:(d * 65536+a) / P % 65536=d % P * c+a / P:=by
   rw [O];have h3:d * c=(d / P) * 65536+d % P * c:=by
    have:d * c=(P * (d / P)+d % P) * c:=by rw [<- Q]
    rw [this,hO,f];grind
   have h4:d % P * c+a / P < 65536:=by
    have:=oh (show d % P+1<=P by omega) (Int.le_of_lt t);rw [hO,<- f] at this;omega
   have T:0<=d % P * c:=Int.mul_nonneg E (Int.le_of_lt t);rw [h3];omega
  rw [S];have h4:d % P * c+a / P < 65536:=by
   have:=oh (show d % P+1<=P by omega) (Int.le_of_lt t);rw [hO,<- f] at this;omega
  have T:0<=d % P * c:=Int.mul_nonneg E (Int.le_of_lt t);have:=Us (N:=N) (s:=s) y v F (by simp only [SM];omega) A G B l m H k (x+1) g (r.set x (d % P * c+a / P)) ad ad (by simp [C]) (h.set _ ad h4) (fun j Y=>by rw [getD_set_ne _ _ ad];exact i j ad)
   (by
    rw [<- o,rG _ _ _ ad,i x (aV _),eu u x ad,Int.sub_zero,M,kc,kZ,e];have Z:a=P * (a / P)+a % P:=(Int.mul_ediv_add_emod a P).symm;rw [w];have V:P * ((d % P * c+a / P) * pw x)=d % P * (P * c) * pw x+P * (a / P) * pw x:=by grind
    rw [V,<- f];grind)
  rw [<- o] at this;exact this
theorem Si {l:List Int} (a:U l) (n:Nat) (h:cg l < pw n):cg (l.take n)=cg l:=(zT n (Sh a n h)).symm
theorem Ut {N:Nat} {b t:List Int} {s:Nat} (J:s<=15) {v:List Int} (K:v=(t.take b.length).drop 0) (f:U v) (a:v.length=b.length) (hn:2<=b.length) (L:32768<=v.getD (b.length - 1) 0) (M:b.length<=t.length)
  {Lu:Nat} (x:b.length+1<=Lu) (O:SM Lu) (hN:Lu+3 < N) {A B:Int} (hA:0<=A) (hB:0 < B) (y:cg v=B * 2 ^ s) :
  ∀ (k fuel:Nat) (q u:List Int),k<=Lu - b.length->k < fuel->u.length=Lu->U u->q.length=Lu - b.length->U q->(∀ j,j < k->q.getD j 0=0)->cg (u.drop k) < cg v->A * 2 ^ s=cg q * cg v+cg u ->
   np N b (s:Int) t fuel q u ((k:Int) - 1)=some (lm (A / B).toNat,lm (A % B).toNat)
 | 0,fuel,q,u,hk,hf,o,h,P,i,l,z,d=>by
  obtain ⟨g,rfl⟩:∃ g,fuel=g+1:=⟨fuel - 1,ad⟩;simp only [SM] at O;have e:decide ((((0:Nat):Int) - 1)>=0)=false:=rfl;rw [np,e,cond_false,Nat.sub_zero,if_pos ad];rw [List.drop_zero] at z;have r:(0:Int) < 2 ^ s:=Int.pow_pos ak;have C:cg v < pw b.length:=by rw [<- a];exact f.lt
  have S:=Sh h b.length ad
  -- nvl u is a multiple of 2^s
  have D:cg u=(A - cg q * B) * 2 ^ s:=by rw [Int.sub_mul,d,y];grind
  have T:u.getD 0 0 % 2 ^ s=0:=by
   have h1:=sI u 0 ad;rw [List.drop_zero] at h1;obtain ⟨c,hc⟩:∃ c:Int,c=2 ^ (16 - s):=⟨_,rfl⟩;have E:(65536:Int)=2 ^ s * c:=by rw [hc,<- Int.pow_add,show s+(16 - s)=16 by omega];decide
   have h2:u.getD 0 0=(A - cg q * B - c * cg (u.drop (0+1))) * 2 ^ s:=by
    have:u.getD 0 0=cg u - 65536 * cg (u.drop (0+1)):=ad;rw [this,D,E];grind
   rw [h2];exact Int.mul_emod_left _ _
  obtain ⟨R,V,r2,W⟩:=Us (N:=N) (b:=b) (q:=q) J h ad (by simp only [SM];omega) (S _ (aV _)) T i ad (by simp only [SM];omega) ad b.length 0 N (List.replicate b.length 0) ad ad ao (U.replicate _) (fun j _=>kM _ j)
   (by rw [nF,T];simp [cg])
  rw [show ((0:Nat):Int)=0 from rfl] at V;rw [V];rw [<- zT b.length S,D,kb] at W;have r4:cg R=A - cg q * B:=Int.eq_of_mul_eq_mul_right (Int.ne_of_gt r) W;have X:=r2.uN;have Y:cg R < B:=by
   refine EU r ?_;rw [r4,<- D,<- y];exact z
  have PV:A / B=cg q:=by
   rw [show A=cg R+cg q * B by omega,Int.add_mul_ediv_right _ _ ad,Int.ediv_eq_zero_of_lt X Y];omega
  have dI:A % B=cg R:=by
   rw [show A=cg R+cg q * B by omega,Int.add_mul_emod_self_right,Int.emod_eq_of_lt X Y]
  rw [PV,dI]
 | k+1,fuel,q,u,hk,hf,o,h,P,i,l,z,d=>by
  obtain ⟨g,rfl⟩:∃ g,fuel=g+1:=⟨fuel - 1,ad⟩;simp only [SM] at O;have e:(((k+1:Nat):Int) - 1)=(k:Int):=ad;have e0:decide ((k:Int)>=0)=true:=ao;have e1:aR ((aR ((k:Int)+(b.length:Int)))+1)=((k+b.length+1:Nat):Int):=by rw [bw (n:=(k:Int)+(b.length:Int)) ad ad,bw ad ad];omega
  rw [e,np,e0,cond_true,Nat.sub_zero,e1];simp only [ag];rw [if_pos ⟨ad,ad⟩,if_pos ad,if_pos ad,if_pos ⟨Nat.zero_le _,M⟩,<- K];have r:u.take k ++ u.drop k=u:=List.take_append_drop _ _;have F:(u.take k).length=k:=by rw [qg];omega
  have G:(u.drop k).length=Lu - k:=by rw [Bf,o]
  have hd:=sI u k ad;have Xc:=h.getD k;have C:cg v < pw b.length:=by rw [<- a];exact f.lt
  have H:cg (u.drop k) < 65536 * cg v:=ad;have I:cg (u.drop k) < pw (v.length+1):=by rw [kc,a];omega
  obtain ⟨Q,w',Z,d2,d3,d4,d5,d6,d7⟩:=aiy (N:=N) (p:=u.take k) (v:=v) (w:=u.drop k) f (h.drop k) ad ad (by simp only [SM];omega) ad (by rw [a];exact L) (Sh (h.drop k) _ I) H;rw [F,r,a] at Z;rw [show k+b.length+1 - k=b.length+1 by omega,Z,dc];have m:(u.take k ++ w').length=u.length:=by rw [oi,F,d2,G,o];omega
  simp only [m];rw [if_pos trivial,if_pos (jy ad),bw ad ad];have gU:∀ j,j < k->(q.set k Q).getD j 0=0:=fun j hj=>by rw [getD_set_ne _ _ ad];exact l j ad
  refine Ut (A:=A) J K f a hn L M x (by simp only [SM];omega) hN hA hB y k g _ _ ad ad (by rw [m,o]) ((h.take k).append d3) (by simp [P]) (i.set _ d4 d5) gU ?_ ?_
  ·have:(u.take k ++ w').drop k=w':=by rw [List.drop_append_of_le_length ad,List.drop_of_length_le ad];rfl
   rw [this];exact d7
  ·have h1:=pC (u.take k) w';have h2:=xw u k ad;rw [F] at h1;rw [h1,rG _ _ _ ad,l k ad,d6,d,h2];grind
theorem NZ {A B q r:Nat} (h:A=q * B+r) (a:r < B):A / B=q/\A % B=r:=by
 subst h;have b:0 < B:=ad;exact ⟨by rw [vF,Nat.mul_add_div b,Nat.div_eq_of_lt a];rfl,by rw [vF,Nat.mul_add_mod,Nat.mod_eq_of_lt a]⟩
theorem Nn {N a b:Nat} (t:b≠0) (W:SM ((lm a).length+(lm b).length+2)) (hN:(lm a).length+(lm b).length+10 < N):ux N (lm a) (lm b)=some (lm (a / b),lm (a % b)):=by
 have Y:=W;simp only [SM] at Y;unfold ux;obtain ⟨c,Z,L,Xb,-⟩:=ES (N:=N) (a:=a) (b:=b) ad (by simp only [SM];omega) (by simp only [SM];omega);rw [Z,dc]
 by_cases d:a < b
 ·rw [decide_eq_true (L.2 d),cond_true];unfold fw;rw [if_pos ad,dc,Nat.div_eq_of_lt d,Nat.mod_eq_of_lt d,kL];rfl
 ·rw [decide_eq_false (fun h=>d (L.1 h)),cond_false];have hbl:=qC.2 t;cases h1:(((lm b).length:Nat):Int) == 1 with
  | true =>
   have h1:(lm b).length=1:=by have h1:=eq_of_beq h1;omega
   have tB:b < 65536:=by have:=(mB (n:=b) (k:=1)).1 ad;simp [pw] at this;omega
   have e:(lm b).getD 0 0=(b:Int):=by
    rw [wm t];show ((b % 65536:Nat):Int)=b;omega
   rw [cond_true,if_pos ad,e,ais ad tB (by simp only [SM];omega) ad,dc];have hm:a % b < 65536:=sM (Nat.mod_lt _ ad) ad;rw [qD (U.one ad ad) (by simp;omega) ao,dc,xu,Int.toNat_natCast]
  | false =>
   have h2:2<=(lm b).length:=by simp at h1;omega
   rw [cond_false];obtain ⟨lb,x,g,XO,o,u,hx2⟩:=alj t;have v:(lm b).length=lb.length+1:=by rw [g];simp
   have e1:aR ((((lm b).length:Nat):Int) - 1)=(lb.length:Int):=by rw [bw ad ad];omega
   rw [e1,if_pos ad,ag];have ex:(lm b).getD lb.length 0=x:=by rw [g];simp [List.getD]
   rw [ex];obtain ⟨X,rfl⟩:=Int.eq_ofNat_of_zero_le u;obtain ⟨s,r,s2,s3,M⟩:=aqB (N:=N) (x:=X) ad ad;rw [s2,dc];obtain ⟨o1,p1,p2,O,P,p5⟩:=Sg (N:=N) (a:=lm a) (xY a) r (by simp only [SM];omega) ad;obtain ⟨f,q1,q2,w,y,q5⟩:=Sg (N:=N) (a:=lm b) (xY b) r (by simp only [SM];omega) ad;rw [p1,dc,q1,dc,if_pos ⟨Nat.zero_le _,ad⟩,Nat.sub_zero];rw [kX] at P y;have hal:(lm b).length<=(lm a).length:=kT ad;have e2:aR ((o1.length:Int) - (((lm b).length:Nat):Int))=((o1.length - (lm b).length:Nat):Int):=by rw [bw ad ad];omega
   rw [e2,if_pos ad]
   -- the divisor, shifted
   have Q:(0:Int) < 2 ^ s:=Int.pow_pos ak;have z:(b:Int)=cg lb+pw lb.length * X:=by
    have:=kX b;rw [g,pC,xu] at this;omega
   have C:(32768:Int)<=X * 2 ^ s:=by
    have e:((X * 2 ^ s:Nat):Int)=(X:Int) * 2 ^ s:=ao;omega
   have D:(X:Int) * 2 ^ s+2 ^ s<=65536:=by
    have e:((X * 2 ^ s:Nat):Int)=(X:Int) * 2 ^ s:=ao;have p:(65536:Nat)=2 ^ (16 - s) * 2 ^ s:=by rw [<- Nat.pow_add,show 16 - s+s=16 by omega]
    have R:X < 2 ^ (16 - s):=by
     rw [p] at M;exact Nat.lt_of_mul_lt_mul_right M
    have E:=fy (2 ^ s) (show X+1<=2 ^ (16 - s) by omega);rw [<- p,dq] at E;have S:((2 ^ s:Nat):Int)=(2:Int) ^ s:=ao;omega
   have axx:=o.lt;have F:=o.uN;have T:(b:Int) * 2 ^ s=cg lb * 2 ^ s+pw lb.length * (X * 2 ^ s):=by rw [z,hO,oE]
   have G:(b:Int) * 2 ^ s < pw (lm b).length:=by
    rw [v,kc,T];have l:=oh (show cg lb+1<=pw lb.length by omega) (Int.le_of_lt Q);have m:=yR D (Int.le_of_lt (pz lb.length));rw [kZ] at m;rw [hO] at l;have:=pz lb.length;omega
   have hV2:32768 * pw lb.length<=(b:Int) * 2 ^ s:=by
    rw [T];have m:=yR C (Int.le_of_lt (pz lb.length));have V:0<=cg lb * 2 ^ s:=Int.mul_nonneg F (Int.le_of_lt Q);rw [kb 32768];omega
   have q:U ((f.take (lm b).length).drop 0):=by rw [List.drop_zero];exact w.take _
   have H:((f.take (lm b).length).drop 0).length=(lm b).length:=by simp;omega
   have i:cg ((f.take (lm b).length).drop 0)=(b:Int) * 2 ^ s:=by rw [List.drop_zero,Si w _ (by rw [y];exact G),y]
   have I:32768<=((f.take (lm b).length).drop 0).getD ((lm b).length - 1) 0:=by
    have l:=eu ((f.take (lm b).length).drop 0) lb.length ad;have m:=(q.take lb.length).lt;rw [mj ad,i] at l;rw [qg,Nat.min_eq_left ad] at m;rw [show (lm b).length - 1=lb.length by omega];rcases Int.lt_or_le (((f.take (lm b).length).drop 0).getD lb.length 0) 32768 with h | h
    ·exfalso;have:=oh (show ((f.take (lm b).length).drop 0).getD lb.length 0<=32767 by omega) (Int.le_of_lt (pz lb.length));have:=pz lb.length;omega
    ·exact h
   have S:aR (((o1.length - (lm b).length:Nat):Int) - 1)=((o1.length - (lm b).length:Nat):Int) - 1:=bw ad ad;rw [S,ag];have J:cg (o1.drop (o1.length - (lm b).length)) < cg ((f.take (lm b).length).drop 0):=by
    -- the top n digits: the last one is below 2 ^ s
    have hl:(o1.drop (o1.length - (lm b).length)).length=(lm b).length:=by rw [Bf];omega
    have hUd:=w;have K:=O.drop (o1.length - (lm b).length);have l:=eu (o1.drop (o1.length - (lm b).length)) lb.length ad;rw [mj ad] at l;have m:=(K.take lb.length).lt;rw [qg,Nat.min_eq_left ad] at m;have V:(o1.drop (o1.length - (lm b).length)).getD lb.length 0=o1.getD (lm a).length 0:=by
     rw [jP,ud,jP];congr 2;omega
    rw [V] at l;rw [i];have h8:o1.getD (lm a).length 0+1<=32768:=by
     have:(2:Int) ^ s<=32768:=by
      have h:=Nat.pow_le_pow_right (n:=2) ak r;have e:((2 ^ s:Nat):Int)=(2:Int) ^ s:=ao;omega
     omega
    have R:=oh h8 (Int.le_of_lt (pz lb.length));rw [hO] at R;omega
   rw [Ut (N:=N) (A:=(a:Int)) (B:=(b:Int)) r rfl q H h2 I ad (Lu:=o1.length) ad (by simp only [SM];omega) ad ad ad i (o1.length - (lm b).length) N _ o1 (aV _) ad rfl O ao (U.replicate _)
    (fun j _=>kM _ j) J (by rw [nF,P];simp)]
   rfl
end Go.Den
namespace Go.Den
open Go.Ab
def Gv {α:Type} (f:Nat->Option α) (r:α):Prop:=∃ a,∀ N,a<=N->f N=some r
theorem Gv.pure {α:Type} (r:α):Gv (fun _=>some r) r:=⟨0,fun _ _=>rfl⟩
theorem Gv.bind {α β:Type} {f:Nat->Option α} {k:Nat->α->Option β} {r:α} {s:β} (h:Gv f r) (h2:Gv (fun N=>k N r) s):Gv (fun N=>(f N).bind (k N)) s:=by
 obtain ⟨a,h1⟩:=h;obtain ⟨b,h2⟩:=h2;exact ⟨a+b,fun N c=>by show (f N).bind (k N)=some s;rw [h1 N ad];exact h2 N ad⟩
theorem Gv.congr {α:Type} {f g:Nat->Option α} {r:α} (h:Gv f r) (e:∀ N,g N=f N):Gv g r:=let ⟨a,b⟩:=h;⟨a,fun N c=>(e N).trans (b N c)⟩
theorem Gv.of {α:Type} {f:Nat->Option α} {r:α} (a:Nat) (h:∀ N,a<=N->f N=some r):Gv f r:=⟨a,h⟩
theorem Gv.aW {α:Type} {f g:Nat->Option α} {r:α} {q:Bool} (a:q=true) (h:Gv f r):Gv (fun N=>cond q (f N) (g N)) r:=by subst a;exact h
theorem Gv.a5 {α:Type} {f g:Nat->Option α} {r:α} {q:Bool} (a:q=false) (h:Gv g r):Gv (fun N=>cond q (f N) (g N)) r:=by subst a;exact h
theorem Gv.if {α:Type} {f:Nat->Option α} {r:α} {p:Prop} [Decidable p] (a:p) (h:Gv f r):Gv (fun N=>if p then f N else none) r:=h.congr fun _=>if_pos a
theorem Gv.eq {α:Type} {f:Nat->Option α} {r s:α} (h:Gv f r) (e:r=s):Gv f s:=e ▸ h
theorem Gv.ex {α:Type} {f:Nat->Option α} {r:α} (h:Gv f r):∃ N,f N=some r:=let ⟨N,h⟩:=h;⟨N,h N (aV _)⟩
def sg (neg:Bool) (n:Nat):Int:=cond neg (-(n:Int)) (n:Int)
def Ia (z:Int):eN:=⟨decide (z < 0),lm z.natAbs⟩
def zv (a:eN):Int:=sg a.fG (cg a.fL).toNat
def ZB (z:Int) (n:Nat):Prop:=(lm z.natAbs).length<=n
structure IB (a:eN) (n:Nat):Prop where
 U:U a.fL
 len:a.fL.length<=n
theorem vn (neg:Bool) (n:Nat):(sg neg n).natAbs=n:=by cases neg<;>simp [sg]
theorem pV (a:eN):(zv a).natAbs=(cg a.fL).toNat:=vn _ _
theorem aiB (neg:Bool) (n:Nat) (h:n≠0):Ia (sg neg n)=⟨neg,lm n⟩:=by
 unfold Ia;rw [vn];cases neg
 ·rw [decide_eq_false (show ¬ sg false n < 0 by simp [sg])]
 ·rw [decide_eq_true (show sg true n < 0 by simp [sg];omega)]
theorem aiC:Ia 0=⟨false,[]⟩:=by unfold Ia;rw [show (0:Int).natAbs=0 from rfl,kL];rfl
theorem ac5 (neg:Bool):Ia (sg neg 0)=⟨false,[]⟩:=by cases neg<;>exact aiC
theorem uO (z:Int):zv (Ia z)=z:=by
 unfold zv Ia;simp only [kX,Int.toNat_natCast];unfold sg
 by_cases h:z < 0
 ·rw [decide_eq_true h];simp only [cond_true];omega
 ·rw [decide_eq_false h];simp only [cond_false];omega
theorem ZB.le {z:Int} {m n:Nat} (h:ZB z m) (a:m<=n):ZB z n:=gG h a
theorem aiD {z:Int} {n:Nat}:ZB z n↔(z.natAbs:Int) < pw n:=mB
theorem YA {z:Int} {n:Nat}:ZB z n↔z.natAbs < 65536 ^ n:=by
 rw [aiD];unfold pw;have:((65536 ^ n:Nat):Int)=65536 ^ n:=ao;omega
theorem ZB.neg {z:Int} {n:Nat} (h:ZB z n):ZB (-z) n:=by unfold ZB at *;rwa [Int.natAbs_neg]
theorem ZB.mul {x y:Int} {m n:Nat} (h1:ZB x m) (h2:ZB y n):ZB (x * y) (m+n):=by
 rw [YA] at *
 rw [Int.natAbs_mul,Nat.pow_add];exact Nat.mul_lt_mul'' h1 h2
theorem ZB.add {x y:Int} {n:Nat} (h1:ZB x n) (h2:ZB y n):ZB (x+y) (n+1):=by
 rw [YA] at *
 have:=Int.natAbs_add_le x y;have h3:65536 ^ (n+1)=65536 * 65536 ^ n:=by rw [Nat.pow_succ];omega
 have:=Nat.pow_pos (n:=n) (show 0 < 65536 by decide);omega
theorem ZB.sub {x y:Int} {n:Nat} (h1:ZB x n) (h2:ZB y n):ZB (x - y) (n+1):=by rw [Int.sub_eq_add_neg];exact h1.add h2.neg
theorem ZB.of_le {x y:Int} {n:Nat} (h:ZB y n) (a:x.natAbs<=y.natAbs):ZB x n:=by rw [YA] at *;omega
theorem ZB.small {x:Int} (h:x.natAbs < 65536):ZB x 1:=by rw [YA];simpa using h
theorem ZB.word {x:Int} (h:-9223372036854775808<=x) (h2:x<=9223372036854775807):ZB x 4:=by rw [YA];omega
theorem IB.zb {a:eN} {n:Nat} (h:IB a n):ZB (zv a) n:=by
 rw [aiD,pV];have h1:=h.U.lt;have h2:=h.U.uN;have h3:pw a.fL.length<=pw n:=by
  have e:pw n=pw a.fL.length * pw (n - a.fL.length):=by rw [<- Sa];congr 1;have:=h.len;omega
  have:=pz (n - a.fL.length);have:=yR (show 1<=pw (n - a.fL.length) by omega) (Int.le_of_lt (pz a.fL.length));omega
 omega
theorem ZB.ib {z:Int} {n:Nat} (h:ZB z n):IB (Ia z) n:=⟨xY _,h⟩
theorem IB.le {a:eN} {m n:Nat} (h:IB a m) (b:m<=n):IB a n:=⟨h.U,gG h.len b⟩
section
variable {a b:eN} {m n:Nat}
theorem EV (b:IB a n) (c:SM n):Gv (fun N=>ku N a.fL) (lm (zv a).natAbs) :=
 .of (n+1) fun N d=>by
  simp only [SM] at c;have:=b.len;rw [qD b.U ad ad,pV]
theorem vo (neg:Bool) {k:Nat} (a:SM (lm k).length):Gv (fun N=>mE N neg (lm k)) (Ia (sg neg k)) :=
 .of ((lm k).length+1) fun N c=>by
  simp only [SM] at a;unfold mE;rw [qD (xY k) ad ad,kX,Int.toNat_natCast,dc]
  by_cases h:k=0
  ·subst h;rw [kL,ac5];rfl
  ·have e:((((lm k).length:Nat):Int) == 0)=false:=by
    have:=qC.2 h;simp;exact fun b=>by rw [b] at this;simp at this
   rw [e,cond_false];unfold fw;rw [if_pos ad,dc,aiB _ _ h];rfl
theorem YB (a:eN):Gv (fun N=>yW N a) ⟨!a.fG,a.fL⟩:=.pure _
theorem YD (a:eN):zv ⟨!a.fG,a.fL⟩ = -zv a:=by unfold zv sg;cases a.fG<;>simp
theorem sign_eq (a b:Bool) (x y:Nat):sg (!(a == b)) (x * y)=sg a x * sg b y:=by
 cases a<;>cases b<;>simp [sg,Int.neg_mul,Int.mul_neg]
theorem Ho (c:IB a m) (d:IB b n) (f:SM (m+n)):Gv (fun N=>vQ N a b) (Ia (zv a * zv b)):=by
 simp only [SM] at f;have g:=c.zb;have h:=d.zb;unfold ZB at g h;refine (EV c (by simp only [SM];omega)).bind ((EV d (by simp only [SM];omega)).bind ?_);refine Gv.bind (r:=lm ((zv a).natAbs * (zv b).natAbs)) (.of (m+n+1) fun N i=>air (by simp only [SM];omega) ad) ?_;have e:=c.zb.mul d.zb;unfold ZB at e;rw [Int.natAbs_mul] at e;refine (vo _ (by simp only [SM];omega)).bind ((Gv.pure _).eq ?_);rw [pV,pV,sign_eq];rfl
theorem aiE (i:IB a n) (j:IB b n) (o:SM (n+1)):Gv (fun N=>Kx N a b) (Ia (zv a+zv b)):=by
 simp only [SM] at o;have k:=i.zb;have l:=j.zb;have c:=k.add l;unfold ZB at k l;refine (EV i (by simp only [SM];omega)).bind ((EV j (by simp only [SM];omega)).bind ?_);have s:zv a=sg a.fG (zv a).natAbs:=by rw [pV];rfl
 have t:zv b=sg b.fG (zv b).natAbs:=by rw [pV];rfl
 generalize (zv a).natAbs=x at *
 generalize (zv b).natAbs=y at *
 rw [s,t] at c ⊢;generalize a.fG=p at *
 generalize b.fG=q at *
 cases d:(p == q) with
 | true =>
  have d:p=q:=by simpa using d
  subst d;have e:sg p x+sg p y=sg p (x+y):=by cases p<;>simp [sg]<;>omega
  rw [e] at c ⊢;unfold ZB at c;rw [vn] at c;refine Gv.aW rfl (Gv.bind (r:=lm (x+y)) (.of (n+2) fun N g=>alk (by simp only [SM];omega) (by simp only [SM];omega) ad ad) ?_);exact (vo _ (by simp only [SM];omega)).bind (Gv.pure _)
 | false =>
  have d:q=!p:=by cases p<;>cases q<;>simp_all
  subst d;refine Gv.a5 rfl ?_;refine Gv.bind (r:=Tt x y) (.of (n+2) fun N g=>Yn ad (by simp only [SM];omega) (by simp only [SM];omega)) ?_;have m:=acZ (a:=x) (b:=y) (by simp only [SM];omega) (by simp only [SM];omega)
  by_cases f:x < y
  ·refine Gv.a5 (decide_eq_false (by have:=m.2 f;omega)) (Gv.bind (r:=lm (y - x)) (.of (n+2) fun N g=>Yp ad (by simp only [SM];omega) ad) ?_);have e:sg p x+sg (!p) y=sg (!p) (y - x):=by cases p<;>simp [sg]<;>omega
   rw [e] at c ⊢;unfold ZB at c;rw [vn] at c;exact (vo _ (by simp only [SM];omega)).bind (Gv.pure _)
  ·refine Gv.aW (decide_eq_true (by have:=fun h=>f (m.1 h);omega)) (Gv.bind (r:=lm (x - y)) (.of (n+2) fun N g=>Yp ad (by simp only [SM];omega) ad) ?_);have e:sg p x+sg (!p) y=sg p (x - y):=by cases p<;>simp [sg]<;>omega
   rw [e] at c ⊢;unfold ZB at c;rw [vn] at c;exact (vo _ (by simp only [SM];omega)).bind (Gv.pure _)
theorem IB.opp (b:IB a n):IB ⟨!a.fG,a.fL⟩ n:=⟨b.U,b.len⟩
theorem Pm (b:IB a n) (c:SM n):Gv (fun N=>z4 N a) (zv a).sign:=by
 refine (EV b c).bind ?_;have d:zv a=sg a.fG (zv a).natAbs:=by rw [pV];rfl
 generalize (zv a).natAbs=x at *
 rw [d];generalize a.fG=p
 by_cases h:x=0
 ·subst h;refine Gv.aW (by rw [kL];rfl) ((Gv.pure _).eq ?_);cases p<;>rfl
 ·refine Gv.a5 ?_ ?_
  ·have:=qC.2 h;simp;exact fun e=>by rw [e] at this;simp at this
  ·cases p with
   | true=>exact Gv.aW rfl ((Gv.pure _).eq (by simp only [sg,cond_true];rw [Int.sign_eq_neg_one_of_neg];omega))
   | false=>exact Gv.a5 rfl ((Gv.pure _).eq (by simp only [sg,cond_false];rw [Int.sign_eq_one_of_pos];omega))
theorem aqH {z:Int} (h1:-9223372036854775808<=z) (h2:z<=9223372036854775807):Gv (fun N=>Ql N z) (Ia z):=by
 have a:ZB z 4:=ZB.word h1 h2;unfold ZB at a;unfold Ql
 by_cases h:z < 0
 ·refine Gv.aW (decide_eq_true h) (Gv.bind (r:=lm z.natAbs) (.of 5 fun N b=>?_) ?_)
  ·have e:IntKind.u64.wrap (0 - IntKind.u64.wrap z)=((z.natAbs:Nat):Int):=by rw [wrap64,wrap64];omega
   rw [e];exact JZ ad ad
  ·refine (vo true (by simp only [SM];omega)).bind ((Gv.pure _).eq ?_);have:sg true z.natAbs=z:=by simp [sg];omega
   rw [this]
 ·refine Gv.a5 (decide_eq_false h) (Gv.bind (r:=lm z.natAbs) (.of 5 fun N b=>?_) ?_)
  ·have e:IntKind.u64.wrap z=((z.natAbs:Nat):Int):=by rw [wrap64];omega
   rw [e];exact JZ ad ad
  ·refine (vo false (by simp only [SM];omega)).bind ((Gv.pure _).eq ?_);have:sg false z.natAbs=z:=by simp [sg];omega
   rw [this]
theorem aqI {z:Int} (h1:-9223372036854775808<=z) (h2:z<=9223372036854775807):Gv (fun N=>Uc N z) (Ia z):=by
 unfold Uc
 by_cases h:z < 0
 ·refine Gv.aW (decide_eq_true h) (Gv.bind (r:=lm z.natAbs) (.of 5 fun N a=>?_) ?_)
  ·have e:IntKind.u64.wrap ((IntKind.u64.wrap ((aR (0 - (aR (z+1))))))+1)=((z.natAbs:Nat):Int):=by rw [bw (n:=z+1) ad ad,bw ad ad,wrap64,wrap64];omega
   rw [e];exact Yw ad ad
  ·refine (Gv.pure _).eq ?_;unfold Ia;rw [decide_eq_true h]
 ·refine Gv.a5 (decide_eq_false h) (Gv.bind (r:=lm z.natAbs) (.of 5 fun N a=>?_) ?_)
  ·have e:IntKind.u64.wrap z=((z.natAbs:Nat):Int):=by rw [wrap64];omega
   rw [e];exact Yw ad ad
  ·refine (Gv.pure _).eq ?_;unfold Ia;rw [decide_eq_false h]
end
end Go.Den
namespace Go.Den
open Go.Ab
theorem aex {N:Nat} (K:List Int->List Int->Option (List Int)) (a:4 < N):∀ (y x fuel:Nat),y < fuel->x < 18446744073709551616->y < 18446744073709551616->pj N K fuel (x:Int) (y:Int)=some (lm (Nat.gcd x y)):=by
 intro y
 induction y using Nat.strongRecOn with
 | _ y b =>
  intro x fuel i c d;obtain ⟨g,rfl⟩:∃ g,fuel=g+1:=⟨fuel - 1,ad⟩;rw [pj]
  by_cases h:y=0
  ·subst h;rw [decide_eq_false ak,cond_false,JZ a c,dc,Nat.gcd_zero_right]
  ·rw [decide_eq_true ad,cond_true,if_pos ad,Int.tmod_eq_emod_of_nonneg ad];have e:((x:Int) % (y:Int))=((x % y:Nat):Int):=ao;have f:=Nat.mod_lt x (Nat.pos_of_ne_zero h);rw [e,b (x % y) f y g ad d ad,Nat.gcd_comm x y,Nat.gcd_rec y x,Nat.gcd_comm]
theorem aey {N:Nat} {k:Nat} (c:SM (2 * k+2)) (i:2 * k+20 < N):∀ (y x fuel:Nat),y < fuel->y < N->(lm x).length<=k->(lm y).length<=k->nr N fuel (lm x) (lm y)=some (lm (Nat.gcd x y)):=by
 intro y;simp only [SM] at c
 induction y using Nat.strongRecOn with
 | _ y d =>
  intro x fuel j a l b;obtain ⟨g,rfl⟩:∃ g,fuel=g+1:=⟨fuel - 1,ad⟩;rw [nr]
  by_cases h:y=0
  ·subst h;rw [kL,Nat.gcd_zero_right];rfl
  ·have m:=qC.2 h;rw [decide_eq_true ad,cond_true,ac3 ad (by simp only [SM];omega),dc,ac3 ad (by simp only [SM];omega),dc]
   by_cases h4:(lm x).length<=4/\(lm y).length<=4
   ·rw [if_pos h4.1,if_pos h4.2];have n:=mB.1 h4.1;have o:=mB.1 h4.2;have p:pw 4=18446744073709551616:=ak;exact aex _ ad y x N a ad ad
   ·have e:cond (if (lm x).length<=4 then ((x:Int),true) else (0,false)).2 (if (lm y).length<=4 then ((y:Int),true) else (0,false)).2 false=false:=by
     by_cases h1:(lm x).length<=4
     ·have h2:¬ (lm y).length<=4:=fun h2=>h4 ⟨h1,h2⟩;rw [if_pos h1,if_neg h2];rfl
     ·rw [if_neg h1];rfl
    rw [e,cond_false,Nn h (by simp only [SM];omega) ad,dc];have f:=Nat.mod_lt x (Nat.pos_of_ne_zero h);rw [d (x % y) f y g ad ad b (gG (kT ad) b),Nat.gcd_comm x y,Nat.gcd_rec y x,Nat.gcd_comm]
theorem aez {x y k:Nat} (a:(lm x).length<=k) (b:(lm y).length<=k) (c:SM (2 * k+2)):Gv (fun N=>Ea N (lm x) (lm y)) (lm (Nat.gcd x y)) :=
 .of (2 * k+21+y) fun N d=>aey c ad y x N ad ad a b
def dv (x:aa):Int:=if zv x.fD=0 then 1 else zv x.fD
def qv (x:aa):Rat:=Rat.divInt (zv x.fN) (dv x)
def bB (q:Rat):aa:=⟨Ia q.num,Ia (q.den:Int)⟩
structure RB (q:Rat) (n:Nat):Prop where
 num:ZB q.num n
 den:ZB (q.den:Int) n
structure IR (x:aa) (n:Nat):Prop where
 num:IB x.fN n
 den:IB x.fD n
theorem BB (x:aa):dv x≠0:=by unfold dv;split<;>omega
theorem RB.le {q:Rat} {m n:Nat} (h:RB q m) (a:m<=n):RB q n:=⟨h.num.le a,h.den.le a⟩
theorem IR.le {x:aa} {m n:Nat} (h:IR x m) (a:m<=n):IR x n:=⟨h.num.le a,h.den.le a⟩
theorem RB.ir {q:Rat} {n:Nat} (h:RB q n):IR (bB q) n:=⟨h.num.ib,h.den.ib⟩
theorem aou (q:Rat):dv (bB q)=q.den:=by
 unfold dv bB;simp only [uO];rw [if_neg];have:=q.den_nz;omega
theorem pW (q:Rat):qv (bB q)=q:=by
 unfold qv;rw [aou];simp only [bB,uO];exact Rat.num_divInt_den q
theorem Sj (a:Int) (b:Nat) (c:b≠0):(a / (b:Int)).natAbs<=a.natAbs:=Int.natAbs_ediv_le_natAbs a b
theorem Ib {a b:Int} {n:Nat} (d:ZB a n) (e:ZB b n) (c:b≠0):RB (Rat.divInt a b) n:=by
 have f:Int.gcd b a≠0:=fun h=>c (Int.gcd_eq_zero_iff.1 h).1;constructor
 ·rw [Rat.num_divInt];refine d.of_le (gG (Sj _ _ f) ?_);rw [Int.natAbs_mul,Int.natAbs_sign_of_ne_zero c];omega
 ·rw [Rat.den_divInt,if_neg c];refine e.of_le ?_;rw [Int.natAbs_natCast];exact Nat.div_le_self _ _
theorem IR.rb {x:aa} {n:Nat} (h:IR x n) (a:1<=n):RB (qv x) n:=by
 refine Ib h.num.zb ?_ (BB x);unfold dv;split
 ·exact (ZB.small ak).le a
 ·exact h.den.zb
theorem RB.int {z:Int} {n:Nat} (h:ZB z n) (a:1<=n):RB (z:Rat) n:=⟨h,(ZB.small (x:=1) ak).le a⟩
theorem RB.neg {q:Rat} {n:Nat} (h:RB q n):RB (-q) n:=⟨by rw [Rat.neg_num];exact h.num.neg,by rw [Rat.neg_den];exact h.den⟩
theorem vp (q:Rat):q=Rat.divInt q.num q.den:=(Rat.num_divInt_den q).symm
theorem xg (q:Rat):(q.den:Int)≠0:=by have:=q.den_nz;omega
theorem RB.add {p q:Rat} {m n:Nat} (h1:RB p m) (h2:RB q n):RB (p+q) (m+n+1):=by
 rw [vp p,vp q,Rat.divInt_add_divInt _ _ (xg p) (xg q)];refine Ib ((h1.num.mul h2.den).add ((h2.num.mul h1.den).le ad)) ((h1.den.mul h2.den).le ad) ?_;exact Int.mul_ne_zero (xg p) (xg q)
theorem RB.sub {p q:Rat} {m n:Nat} (h1:RB p m) (h2:RB q n):RB (p - q) (m+n+1):=by rw [Rat.sub_eq_add_neg];exact h1.add h2.neg
theorem RB.mul {p q:Rat} {m n:Nat} (h1:RB p m) (h2:RB q n):RB (p * q) (m+n):=by
 rw [vp p,vp q,Rat.divInt_mul_divInt];exact Ib (h1.num.mul h2.num) (h1.den.mul h2.den) (Int.mul_ne_zero (xg p) (xg q))
theorem BC {a b c d:Int} (e:b≠0) (f:d≠0):Rat.divInt a b / Rat.divInt c d=Rat.divInt (a * d) (b * c):=by
 rw [Rat.div_def,Rat.inv_divInt,Rat.divInt_mul_divInt]
theorem aov {q:Rat} (h:q≠0):q.num≠0:=fun a=>h (Rat.num_eq_zero.1 a)
theorem RB.div {p q:Rat} {m n:Nat} (h1:RB p m) (h2:RB q n) (a:q≠0):RB (p / q) (m+n):=by
 rw [vp p,vp q,BC (xg p) (xg q)];exact Ib (h1.num.mul h2.den) (h1.den.mul h2.num) (Int.mul_ne_zero (xg p) (aov a))
section
variable {a b:eN} {x y:aa} {m n:Nat}
theorem vq (i:IB a n) (j:IB b n) (o:zv b≠0) (p:SM (2 * n+2)):Gv (fun N=>mS N a b) (bB (Rat.divInt (zv a) (zv b))):=by
 simp only [SM] at p;have f:=i.zb;have e:=j.zb;unfold ZB at f e;refine (EV i (by simp only [SM];omega)).bind ((EV j (by simp only [SM];omega)).bind ?_);have q:zv a=sg a.fG (zv a).natAbs:=by rw [pV];rfl
 have s:zv b=sg b.fG (zv b).natAbs:=by rw [pV];rfl
 generalize g:(zv a).natAbs=x at *
 generalize d:(zv b).natAbs=y at *
 have t:y≠0:=ad;have w:0 < Nat.gcd x y:=Nat.gcd_pos_of_pos_right _ ad;refine (aez f e (by simp only [SM];omega)).bind ?_;have z:=qC.2 (show Nat.gcd x y≠0 by omega);have A:(lm (Nat.gcd x y)).length<=n:=gG (kT (Nat.gcd_le_right _ ad)) e;have fin:∀ u v:Nat,u=x / Nat.gcd x y->v=y / Nat.gcd x y->Gv (fun N=>qI N a b (lm u) (lm v)) (bB (Rat.divInt (zv a) (zv b))):=by
  intro u v k l;have B:(lm u).length<=n:=gG (kT (by rw [k];exact Nat.div_le_self _ _)) f;have C:(lm v).length<=n:=gG (kT (by rw [l];exact Nat.div_le_self _ _)) e;refine (vo _ (by simp only [SM];omega)).bind ((vo false (by simp only [SM];omega)).bind ((Gv.pure _).eq ?_));have h:Int.gcd (zv b) (zv a)=Nat.gcd x y:=by unfold Int.gcd;rw [g,d,Nat.gcd_comm]
  unfold bB;rw [Rat.num_divInt,Rat.den_divInt,if_neg o,h,d];have D:(Nat.gcd x y) ∣ x:=Nat.gcd_dvd_left _ _;have m:(zv b).sign * zv a / ((Nat.gcd x y:Nat):Int)=sg (!(a.fG == b.fG)) u:=by
   have c:(x:Int)=(Nat.gcd x y:Nat) * (u:Int):=by
    have:x=Nat.gcd x y * u:=by rw [k,Nat.mul_div_cancel' D]
    exact_mod_cast this
   have E:(zv b).sign * zv a=(Nat.gcd x y:Nat) * sg (!(a.fG == b.fG)) u:=by
    rw [q,s];cases a.fG<;>cases b.fG<;>simp only [sg,cond_true,cond_false,Bool.not_true,Bool.not_false,BEq.rfl,show (true == false)=false from rfl,show (false == true)=false from rfl]
    ·rw [Int.sign_eq_one_of_pos ad,Int.one_mul,<- c]
    ·rw [Int.sign_eq_neg_one_of_neg ad,Int.mul_neg,<- c];omega
    ·rw [Int.sign_eq_one_of_pos ad,Int.one_mul,Int.mul_neg,<- c]
    ·rw [Int.sign_eq_neg_one_of_neg ad,<- c];omega
   rw [E,Int.mul_ediv_cancel_left _ ad]
  rw [m,<- l];rfl
 have F:(lm (Nat.gcd x y)).getD 0 0=((Nat.gcd x y % 65536:Nat):Int):=by rw [wm ad];rfl
 refine Gv.if (fun _=>⟨ad,ad⟩) ?_;rw [F]
 by_cases h1:Nat.gcd x y=1
 ·refine Gv.a5 ?_ (fin x y (by rw [h1,Nat.div_one]) (by rw [h1,Nat.div_one]));rw [h1,wm ak];simp [kL]
 ·refine Gv.aW ?_ ?_
  ·by_cases h2:(lm (Nat.gcd x y)).length=1
   ·have:=mB.1 (show (lm (Nat.gcd x y)).length<=1 by omega);have m:pw 1=65536:=ak;rw [h2];have h3:(((Nat.gcd x y % 65536:Nat):Int) != 1)=true:=by simp;omega
    rw [h3];rfl
   ·have h3:((((lm (Nat.gcd x y)).length:Nat):Int) != 1)=true:=by simp;omega
    rw [h3];rfl
  ·refine Gv.bind (r:=(lm (x / Nat.gcd x y),lm (x % Nat.gcd x y))) (.of (2 * n+20) fun N G=>Nn ad (by simp only [SM];omega) ad) ?_;refine Gv.bind (r:=(lm (y / Nat.gcd x y),lm (y % Nat.gcd x y))) (.of (2 * n+20) fun N G=>Nn ad (by simp only [SM];omega) ad) ?_;exact fin _ _ rfl rfl
def Lr (x:aa):eN:=if zv x.fD=0 then ⟨false,[1]⟩ else x.fD
theorem abE:zv ⟨false,[1]⟩=1:=ak
theorem oc (x:aa):zv (Lr x)=dv x:=by unfold Lr dv;split<;>simp [abE]
theorem aiF {n:Nat} (a:1<=n):IB ⟨false,[1]⟩ n:=⟨U.one ak ak,a⟩
theorem IR.Lr (h:IR x n) (a:1<=n):IB (Lr x) n:=by
 unfold Go.Den.Lr;split
 ·exact aiF a
 ·exact h.den
theorem wo (a:IR x n) (b:SM n):Gv (fun N=>oC N x) (Lr x):=by
 refine (Pm a.den b).bind ?_;unfold Lr
 by_cases h:zv x.fD=0
 ·rw [if_pos h];exact Gv.aW (by rw [h];rfl) (Gv.pure _)
 ·rw [if_neg h];exact Gv.a5 (by simp;exact h) (Gv.pure _)
theorem No (a:IR x n) (c:1<=n) (b:SM (2 * n+2)):Gv (fun N=>mF N x) (bB (qv x)):=by
 have d:=b;simp only [SM] at d;refine (wo a (by simp only [SM];omega)).bind ?_;refine (vq a.num (a.Lr c) (by rw [oc];exact BB x) b).bind ((Gv.pure _).eq ?_);rw [oc];rfl
theorem Np (a:IR x n) (b:SM n):Gv (fun N=>kx N x) (decide (qv x=0)):=by
 refine (Pm a.num b).bind ((Gv.pure _).eq ?_);unfold qv
 by_cases h:zv x.fN=0
 ·rw [h,Rat.zero_divInt];rfl
 ·have:Rat.divInt (zv x.fN) (dv x)≠0:=by
   rw [<- Rat.zero_divInt 1,ne_eq,Rat.divInt_eq_divInt_iff (BB x) ak];simpa using h
  rw [decide_eq_false this];simp;exact h
theorem Uu (c:IR x m) (d:IR y n) (hm:1<=m) (e:1<=n) (h:SM (2 * (m+n+1)+2)):Gv (fun N=>fq N x y) (bB (qv x+qv y)):=by
 simp only [SM] at h;refine (Np c (by simp only [SM];omega)).bind ?_
 by_cases h1:qv x=0
 ·refine Gv.aW (decide_eq_true h1) ((No d e (by simp only [SM];omega)).bind ((Gv.pure _).eq ?_));rw [h1,Rat.zero_add]
 ·refine Gv.a5 (decide_eq_false h1) ((Np d (by simp only [SM];omega)).bind ?_)
  by_cases h2:qv y=0
  ·refine Gv.aW (decide_eq_true h2) ((No c hm (by simp only [SM];omega)).bind ((Gv.pure _).eq ?_));rw [h2,Rat.add_zero]
  ·refine Gv.a5 (decide_eq_false h2) ((wo c (by simp only [SM];omega)).bind ((wo d (by simp only [SM];omega)).bind ?_));refine (Ho c.num (d.Lr e) (by simp only [SM];omega)).bind ((Ho d.num (c.Lr hm) (by simp only [SM];omega)).bind ?_);have z1:=c.num.zb.mul (d.Lr e).zb;have f:=d.num.zb.mul (c.Lr hm).zb;have g:=(c.Lr hm).zb.mul (d.Lr e).zb;rw [oc] at z1 f;rw [oc,oc] at g;refine Gv.bind (r:=Ia (zv x.fN * dv y+zv y.fN * dv x)) ?_ ?_
   ·have:=aiE (n:=m+n) (a:=Ia (zv x.fN * zv (Lr y))) (b:=Ia (zv y.fN * zv (Lr x))) (by rw [oc];exact z1.ib) (by rw [oc];exact (f.le ad).ib) (by simp only [SM];omega);rw [uO,uO,oc,oc] at this;rw [oc,oc];exact this
   ·refine Gv.bind (r:=Ia (dv x * dv y)) ?_ ?_
    ·have:=Ho (c.Lr hm) (d.Lr e) (by simp only [SM];omega);rwa [oc,oc] at this
    ·have i:dv x * dv y≠0:=Int.mul_ne_zero (BB x) (BB y);refine (vq (n:=m+n+1) (z1.add (f.le ad)).ib (g.le ad).ib (by rw [uO];exact i) (by simp only [SM];omega)).bind ((Gv.pure _).eq ?_);rw [uO,uO];unfold qv;rw [Rat.divInt_add_divInt _ _ (BB x) (BB y)]
theorem sJ (a:IR x n) (c:1<=n) (b:SM (2 * n+2)):Gv (fun N=>gK N x) (bB (-qv x)):=by
 have d:=b;simp only [SM] at d;refine (YB x.fN).bind ((wo a (by simp only [SM];omega)).bind ?_);refine (vq a.num.opp (a.Lr c) (by rw [oc];exact BB x) b).bind ((Gv.pure _).eq ?_);rw [YD,oc];unfold qv;rw [Rat.neg_divInt]
theorem Uv (d:IR x m) (b:IR y n) (hm:1<=m) (a:1<=n) (c:SM (2 * (m+n+1)+2)):Gv (fun N=>uy N x y) (bB (qv x - qv y)):=by
 have e:=c;simp only [SM] at e;refine (sJ b a (by simp only [SM];omega)).bind ?_;refine (Uu d (b.rb a).neg.ir hm a c).bind ((Gv.pure _).eq ?_);rw [pW,Rat.sub_eq_add_neg]
theorem aeA (a:IR x m) (b:IR y n) (hm:1<=m) (c:1<=n) (d:SM (2 * (m+n)+2)):Gv (fun N=>fO N x y) (bB (qv x * qv y)):=by
 simp only [SM] at d;refine (Ho a.num b.num (by simp only [SM];omega)).bind ((wo a (by simp only [SM];omega)).bind ((wo b (by simp only [SM];omega)).bind ?_));refine (Ho (a.Lr hm) (b.Lr c) (by simp only [SM];omega)).bind ?_;have z1:=a.num.zb.mul b.num.zb;have e:=(a.Lr hm).zb.mul (b.Lr c).zb;have f:dv x * dv y≠0:=Int.mul_ne_zero (BB x) (BB y);refine (vq (n:=m+n) z1.ib e.ib (by rw [uO,oc,oc];exact f) (by simp only [SM];omega)).bind ((Gv.pure _).eq ?_);rw [uO,uO,oc,oc];unfold qv;rw [Rat.divInt_mul_divInt]
theorem alr (a:IR x m) (b:IR y n) (hm:1<=m) (e:1<=n) (c:qv y≠0) (f:SM (2 * (m+n)+2)):Gv (fun N=>xM N x y) (bB (qv x / qv y)):=by
 simp only [SM] at f;refine (wo b (by simp only [SM];omega)).bind ((Ho a.num (b.Lr e) (by simp only [SM];omega)).bind ((wo a (by simp only [SM];omega)).bind ((Ho (a.Lr hm) b.num (by simp only [SM];omega)).bind ?_)));have z1:=a.num.zb.mul (b.Lr e).zb;have g:=(a.Lr hm).zb.mul b.num.zb;have d:zv y.fN≠0:=fun h=>c (by unfold qv;rw [h,Rat.zero_divInt]);have c:dv x * zv y.fN≠0:=Int.mul_ne_zero (BB x) d;refine (vq (n:=m+n) z1.ib g.ib (by rw [uO,oc];exact c) (by simp only [SM];omega)).bind ((Gv.pure _).eq ?_);rw [uO,uO,oc,oc];unfold qv;rw [BC (BB x) (BB y)]
def zB (q:Rat):Int:=q.num.sign
theorem YE {a b:Int} (g:b≠0):(Rat.divInt a b).num.sign=a.sign * b.sign:=by
 rw [Rat.num_divInt];have j:Int.gcd b a≠0:=fun h=>g (Int.gcd_eq_zero_iff.1 h).1;obtain ⟨c,f⟩:((Int.gcd b a:Nat):Int) ∣ a:=Int.gcd_dvd_right ..;have e:b.sign * a / ((Int.gcd b a:Nat):Int)=b.sign * c:=by
  have d:b.sign * a=((Int.gcd b a:Nat):Int) * (b.sign * c):=by rw [Int.mul_left_comm,<- f]
  rw [d,Int.mul_ediv_cancel_left _ ad]
 rw [e,Int.sign_mul,Int.sign_sign];have i:a.sign=c.sign:=by
  have d:=congrArg Int.sign f;rw [Int.sign_mul,Int.sign_eq_one_of_pos (show 0 < ((Int.gcd b a:Nat):Int) by omega),Int.one_mul] at d;exact d
 rw [i,kb]
theorem N4 (z:Int):z.sign=0\/z.sign=1\/z.sign = -1:=by
 rcases Int.lt_trichotomy z 0 with h | h | h
 ·right;right;exact Int.sign_eq_neg_one_of_neg h
 ·left;rw [h];rfl
 ·right;left;exact Int.sign_eq_one_of_pos h
theorem Uw (a:IR x n) (d:1<=n) (b:SM n):Gv (fun N=>qk N x) (zB (qv x)):=by
 refine (Pm a.num b).bind ((wo a b).bind ((Pm (a.Lr d) b).bind ((Gv.pure _).eq ?_)));rw [oc];unfold zB qv;rw [YE (BB x)];rcases N4 (zv x.fN) with h | h | h<;>rcases N4 (dv x) with c | c | c<;>rw [h,c]<;>rfl
theorem aeB (a:IR x m) (b:IR y n) (hm:1<=m) (c:1<=n) (d:SM (2 * (m+n+1)+2)):Gv (fun N=>mH N x y) (zB (qv x - qv y)):=by
 have e:=d;simp only [SM] at e;refine (Uv a b hm c d).bind ?_;refine (Uw ((a.rb hm).sub (b.rb c)).ir ad (by simp only [SM];omega)).bind ((Gv.pure _).eq ?_);rw [pW]
theorem Sk (z:Int):Rat.divInt z 1=(z:Rat):=by
 apply Rat.ext
 ·rw [Rat.num_divInt];simp
 ·rw [Rat.den_divInt];simp
theorem aiG (b:IB a n) (c:1<=n) (d:SM (2 * n+2)):Gv (fun N=>H2 N a) (bB (zv a:Rat)):=by
 refine (vq b (aiF c) (by rw [abE];decide) d).bind ((Gv.pure _).eq ?_);rw [abE,Sk]
theorem xh {z:Int} (h1:-9223372036854775808<=z) (h2:z<=9223372036854775807):Gv (fun N=>gf N z) (bB (z:Rat)):=by
 refine (aqH h1 h2).bind ((aiG (n:=4) (ZB.word h1 h2).ib ak ao).bind ((Gv.pure _).eq ?_));rw [uO]
theorem Tv {z:Int} (h1:-9223372036854775808<=z) (h2:z<=9223372036854775807):Gv (fun N=>CU N z) (bB (z:Rat)) :=
 (aqI h1 h2).bind ((aqI ak ak).bind ((Gv.pure _).eq rfl))
end
theorem wq {q:Rat}:zB q < 0↔q < 0:=by
 unfold zB;rw [Rat.lt_iff];simp
theorem Sl {q:Rat}:zB q=0↔q=0:=by
 unfold zB;rw [Int.sign_eq_zero_iff_zero];exact Rat.num_eq_zero
theorem WG {q:Rat}:0 < zB q↔0 < q:=by
 unfold zB;rw [Rat.lt_iff];simp
end Go.Den
namespace Go.Den
open Go.Ab
def aL {α:Type} (f:Nat->Nat->Option α) (r:α):Prop:=∃ a,∀ N fuel,a<=N->a<=fuel->f N fuel=some r
theorem aL.diag {α:Type} {f:Nat->Nat->Option α} {r:α} (h:aL f r):Gv (fun N=>f N N) r:=let ⟨b,c⟩:=h;⟨b,fun N a=>c N N a a⟩
theorem aL.step {α:Type} {f:Nat->Nat->Option α} {r:α} (a:Nat) (h:∀ N g,a<=N->a<=g->f N (g+1)=some r):aL f r :=
 ⟨a+1,fun N fuel b c=>by obtain ⟨g,rfl⟩:∃ g,fuel=g+1:=⟨fuel - 1,ad⟩;exact h N g ad ad⟩
structure axB (RD:Nat->aa->aa->aa->Option aa) (R:Rat->Rat->Rat->Rat) (A B C:Nat):Prop where
 run:∀ (ch fr acc:Rat) (m:Nat),RB ch A->RB fr B->RB acc m->1<=m->m<=100000000->Gv (fun N=>RD N (bB ch) (bB fr) (bB acc)) (bB (R ch fr acc))
 bnd:∀ (ch fr acc:Rat) (m:Nat),RB ch A->RB fr B->RB acc m->RB (R ch fr acc) (m+C)
section
end
end Go.Den
namespace Go.Den
open Go.Ab
end Go.Den
namespace Go.Den
open Go.Ab
structure RQ (x:aa) (p:Rat) (n:Nat):Prop where
 ir:IR x n
 v:qv x=p
 pos:1<=n
structure ZI (a:eN) (z:Int) (n:Nat):Prop where
 ib:IB a n
 v:zv a=z
theorem RQ.rb {x:aa} {p:Rat} {n:Nat} (h:RQ x p n):RB p n:=h.v ▸ h.ir.rb h.pos
theorem RB.rq {p:Rat} {n:Nat} (h:RB p n) (a:1<=n):RQ (bB p) p n:=⟨h.ir,pW p,a⟩
theorem RQ.le {x:aa} {p:Rat} {m n:Nat} (h:RQ x p m) (a:m<=n):RQ x p n:=⟨h.ir.le a,h.v,gG h.pos a⟩
theorem ZI.zb {a:eN} {z:Int} {n:Nat} (h:ZI a z n):ZB z n:=h.v ▸ h.ib.zb
theorem ZB.zi {z:Int} {n:Nat} (h:ZB z n):ZI (Ia z) z n:=⟨h.ib,uO z⟩
theorem ZI.le {a:eN} {z:Int} {m n:Nat} (h:ZI a z m) (b:m<=n):ZI a z n:=⟨h.ib.le b,h.v⟩
section
variable {a b:eN} {x y:aa} {m n:Nat} {p q:Rat} {z w:Int}
theorem RQ.add (a:RQ x p m) (b:RQ y q n) (c:SM (2 * (m+n+1)+2)):Gv (fun N=>fq N x y) (bB (p+q)):=by
 have:=Uu a.ir b.ir a.pos b.pos c;rwa [a.v,b.v] at this
theorem RQ.sub (a:RQ x p m) (b:RQ y q n) (c:SM (2 * (m+n+1)+2)):Gv (fun N=>uy N x y) (bB (p - q)):=by
 have:=Uv a.ir b.ir a.pos b.pos c;rwa [a.v,b.v] at this
theorem RQ.mul (a:RQ x p m) (b:RQ y q n) (c:SM (2 * (m+n)+2)):Gv (fun N=>fO N x y) (bB (p * q)):=by
 have:=aeA a.ir b.ir a.pos b.pos c;rwa [a.v,b.v] at this
theorem RQ.Om (b:RQ x p m) (a:RQ y q n) (c:q≠0) (d:SM (2 * (m+n)+2)):Gv (fun N=>xM N x y) (bB (p / q)):=by
 have:=alr b.ir a.ir b.pos a.pos (by rw [a.v];exact c) d;rwa [b.v,a.v] at this
theorem RQ.cmp (a:RQ x p m) (b:RQ y q n) (c:SM (2 * (m+n+1)+2)):Gv (fun N=>mH N x y) (zB (p - q)):=by
 have:=aeB a.ir b.ir a.pos b.pos c;rwa [a.v,b.v] at this
theorem RQ.zB (a:RQ x p m) (b:SM m):Gv (fun N=>qk N x) (zB p):=by
 have:=Uw a.ir a.pos b;rwa [a.v] at this
theorem RQ.low (a:RQ x p m) (b:SM (2 * m+2)):Gv (fun N=>mF N x) (bB p):=by
 have:=No a.ir a.pos b;rwa [a.v] at this
theorem RQ.zero (a:RQ x p m) (b:SM m):Gv (fun N=>kx N x) (decide (p=0)):=by
 have:=Np a.ir b;rwa [a.v] at this
theorem ZI.add (c:ZI a z n) (d:ZI b w n) (e:SM (n+1)):Gv (fun N=>Kx N a b) (Ia (z+w)):=by
 have:=aiE c.ib d.ib e;rwa [c.v,d.v] at this
theorem ZI.mul (c:ZI a z m) (d:ZI b w n) (e:SM (m+n)):Gv (fun N=>vQ N a b) (Ia (z * w)):=by
 have:=Ho c.ib d.ib e;rwa [c.v,d.v] at this
end
end Go.Den
namespace Go.Den
open Go.Ab
theorem YF {N:Nat} {a:List Int} (i:U a) (j:SM a.length):∀ (n fuel:Nat),n<=a.length->n < fuel->cg (a.take n)=cg a->ny N a fuel (n:Int)=some (lm (cg a).toNat)
 | 0,fuel,_,k,b=>by
  obtain ⟨g,rfl⟩:∃ g,fuel=g+1:=⟨fuel - 1,ad⟩;rw [ny,if_pos (fun h=>by cases h)];have e:cg a=0:=by rw [<- b];simp [cg]
  rw [e];have c:cond (decide (((0:Nat):Int) > 0)) (a.getD (aR (((0:Nat):Int) - 1)).toNat 0 == 0) false=false:=rfl;rw [c,cond_false,if_pos ⟨ao,ao⟩,if_pos ao,if_pos ao];simp [kL]
 | n+1,fuel,l,k,b=>by
  obtain ⟨g,rfl⟩:∃ g,fuel=g+1:=⟨fuel - 1,ad⟩;simp only [SM] at j;have c:aR (((n+1:Nat):Int) - 1)=(n:Int):=by rw [bw ad ad];omega
  have h1:=eu a n ad;rw [ny,c,if_pos (fun _=>jy ad),decide_eq_true ad,cond_true,ag];cases d:(a.getD n 0 == 0) with
  | true =>
   have f:a.getD n 0=0:=eq_of_beq d;rw [cond_true];exact YF i j n g ad ad (by rw [h1,f] at b;omega)
  | false =>
   have f:a.getD n 0≠0:=fun h=>by rw [h] at d;cases d
   rw [cond_false,ag,if_pos ⟨Nat.zero_le _,l⟩,if_pos ad,if_pos ad,List.nil_append,List.drop_zero,<- b];congr 1;refine (acX (i.take _) fun m x he=>?_).symm;have o:m.length=n:=by have:=congrArg List.length he;rw [qg] at this;simp at this;omega
   have:(a.take (n+1)).getD n 0=x:=by rw [he,<- o];simp [List.getD]
   rw [jP,List.getElem?_take_of_lt ad,<- jP] at this;rw [<- this];exact f
theorem AI {N:Nat} {a:List Int} (b:U a) (c:SM a.length) (d:a.length < N):qu N a=some (lm (cg a).toNat) :=
 YF b c a.length N (aV _) d (by rw [List.take_length])
theorem ac7 {N:Nat} {a:List Int} (b:U a) (c:SM a.length) (d:a.length < N):∀ (k i fuel:Nat),i+k=a.length->k < fuel->nz N a fuel (a.take i) (i:Int)=some (lm (cg a).toNat)
 | 0,i,fuel,hi,f=>by
  obtain ⟨g,rfl⟩:∃ g,fuel=g+1:=⟨fuel - 1,ad⟩;have:i=a.length:=ad;subst this;rw [nz,dG,cond_false,List.take_length,AI b c d,dc]
 | k+1,i,fuel,hi,f=>by
  obtain ⟨g,rfl⟩:∃ g,fuel=g+1:=⟨fuel - 1,ad⟩;simp only [SM] at c;have h1:=b.getD i;rw [nz,dec_lt ad,cond_true,if_pos (jy ad),if_pos (by rw [qg];omega),ag,bw ad ad,aw ad];have e:a.take i ++ [a.getD i 0]=a.take (i+1):=by rw [List.take_add_one];simp [List.getD,show i < a.length by omega]
  rw [e];exact ac7 b (by simp only [SM];omega) d k (i+1) g ad ad
theorem aox {N:Nat} {a:List Int} (c:U a) (d:SM a.length) (b:a.length < N):lu N a=some (lm (cg a).toNat):=by
 have:=ac7 c d b a.length 0 N ad b;unfold lu;simpa using this
theorem ac8 {N:Nat} {neg:Bool} {a:List Int} (b:U a) (c:SM a.length):∀ (k i fuel:Nat),i+k=a.length->k < fuel->nA N neg a fuel (a.take i) (i:Int)=some ⟨cond neg (decide ((a.length:Int) > 0)) false,a⟩
 | 0,i,fuel,hi,d=>by
  obtain ⟨g,rfl⟩:∃ g,fuel=g+1:=⟨fuel - 1,ad⟩;have:i=a.length:=ad;subst this;rw [nA,dG,cond_false,List.take_length]
 | k+1,i,fuel,hi,d=>by
  obtain ⟨g,rfl⟩:∃ g,fuel=g+1:=⟨fuel - 1,ad⟩;simp only [SM] at c;have h1:=b.getD i;rw [nA,dec_lt ad,cond_true,if_pos (jy ad),if_pos (by rw [qg];omega),ag,tc ad ad,aw ad];have e:a.take i ++ [a.getD i 0]=a.take (i+1):=by rw [List.take_add_one];simp [List.getD,show i < a.length by omega]
  rw [e];exact ac8 b (by simp only [SM];omega) k (i+1) g ad ad
theorem als (neg:Bool) {k:Nat} (a:SM (lm k).length):Gv (fun N=>jj N neg (lm k)) (Ia (sg neg k)) :=
 .of ((lm k).length+1) fun N b=>by
  have:=ac8 (N:=N) (neg:=neg) (xY k) a (lm k).length 0 N ad ad;rw [List.take_zero] at this;unfold jj;rw [show ((0:Nat):Int)=0 from rfl] at this;rw [this]
  by_cases h:k=0
  ·subst h;rw [kL,ac5];cases neg<;>rfl
  ·rw [aiB _ _ h];have:=qC.2 h;rw [decide_eq_true ad];cases neg<;>rfl
theorem Ic (N:Nat) (a:List Int) (i:Nat):qd N a (i:Int)=some (a.getD i 0):=by
 unfold qd
 by_cases h:i < a.length
 ·rw [dec_lt h,cond_true,if_pos (jy h),ag]
 ·rw [decide_eq_false ad,cond_false,BA ad]
theorem tY (a:List Int) (i:Nat):cg (a.take (i+1))=cg (a.take i)+a.getD i 0 * pw i:=by
 by_cases h:i < a.length
 ·exact eu a i h
 ·rw [mj ad,mj ad,BA ad];simp
theorem aiH {N:Nat} {a b:List Int} (t:U a) (u:U b) (v:SM (a.length+b.length+2)) (D:a.length+b.length+2 < N):∀ (k i fuel:Nat) (out:List Int) (c:Int),a.length+b.length+1<=i+k->k < fuel->out.length=i->i<=a.length+b.length+1->U out->0<=c->c<=1 ->
  (a.length < i/\b.length < i->c=0)->cg out+pw i * c=cg (a.take i)+cg (b.take i)->nB N a b fuel out c (i:Int)=some (lm (cg a+cg b).toNat):=by
 intro k;simp only [SM] at v
 induction k with
 | zero =>
  intro i fuel out c hi w l m j x y o d;obtain ⟨g,rfl⟩:∃ g,fuel=g+1:=⟨fuel - 1,ad⟩;have p:=o ⟨ad,ad⟩;subst p;rw [nB,decide_eq_false ad,decide_eq_false ad,decide_eq_false ak];simp only [cond_false];rw [AI j (by simp only [SM];omega) ad,dc];rw [mj ad,mj ad] at d;rw [show cg out=cg a+cg b by omega]
 | succ k z =>
  intro i fuel out c hi w l m j x y o d;obtain ⟨g,rfl⟩:∃ g,fuel=g+1:=⟨fuel - 1,ad⟩;rw [nB]
  by_cases f:i < a.length\/i < b.length\/0 < c
  ·have e:cond (cond (decide ((i:Int) < (a.length:Int))) true (decide ((i:Int) < (b.length:Int)))) true (decide (c > 0))=true:=by
    rcases f with h | h | h
    ·rw [dec_lt h];rfl
    ·rw [dec_lt h];cases decide ((i:Int) < (a.length:Int))<;>rfl
    ·rw [decide_eq_true (show c > 0 by omega)];cases cond (decide ((i:Int) < (a.length:Int))) true (decide ((i:Int) < (b.length:Int)))<;>rfl
   have h1:=t.getD i;have h2:=u.getD i;have A:i<=a.length+b.length:=by
    rcases f with h | h | h
    ·omega
    ·omega
    ·have:¬ (a.length < i/\b.length < i):=fun B=>by have:=o B;omega
     omega
   rw [e,cond_true,Ic,dc,Ic,dc,if_pos ad,bw (n:=a.getD i 0+b.getD i 0) ad ad,bw (n:=a.getD i 0+b.getD i 0+c) ad ad,aw ad];generalize q:a.getD i 0+b.getD i 0+c=s;have r:0<=s:=ad;rw [Int.tmod_eq_emod_of_nonneg r,Int.tdiv_eq_ediv_of_nonneg r,bw (n:=s / 65536) ad ad];refine z (i+1) g _ _ ad ad (by simp [l]) ad (j.append (U.one ad ad)) ad ad (fun h=>?_) ?_
   ·have E:=BA (show a.length<=i by omega);have F:=BA (show b.length<=i by omega);omega
   ·rw [pC,xu,l,tY a,tY b,kc];have C:s=s % 65536+65536 * (s / 65536):=ad;have G:pw i * s=pw i * (s % 65536)+pw i * (65536 * (s / 65536)):=by rw [<- kZ,<- C]
    have H:pw i * s=a.getD i 0 * pw i+b.getD i 0 * pw i+pw i * c:=by rw [<- q,kZ,kZ,kb (pw i) (a.getD i 0),kb (pw i) (b.getD i 0)]
    have I:65536 * pw i * (s / 65536)=pw i * (65536 * (s / 65536)):=by rw [kb 65536,oE]
    omega
  ·have e:cond (cond (decide ((i:Int) < (a.length:Int))) true (decide ((i:Int) < (b.length:Int)))) true (decide (c > 0))=false:=by
    rw [decide_eq_false ad,decide_eq_false ad,decide_eq_false ad];rfl
   have p:c=0:=ad;subst p;rw [e,cond_false,AI j (by simp only [SM];omega) ad,dc];rw [mj ad,mj ad] at d;rw [show cg out=cg a+cg b by omega]
theorem aiI {N a b:Nat} (c:SM ((lm a).length+(lm b).length+2)) (d:(lm a).length+(lm b).length+3 < N):Ed N (lm a) (lm b)=some (lm (a+b)):=by
 have:=aiH (N:=N) (xY a) (xY b) c ad ((lm a).length+(lm b).length+1) 0 N [] 0 ad ad rfl ad U.nil ad ad (fun _=>rfl) (by simp [cg]);rw [kX,kX] at this;exact this
theorem N5 {N:Nat} {a b:List Int} (c:U a) (d:U b) (f:a.length=b.length) (h:SM a.length):∀ (k fuel:Nat),k<=a.length->k < fuel->j8 N a b fuel ((k:Int) - 1)=some (abC a b k)
 | 0,fuel,_,i=>by
  obtain ⟨g,rfl⟩:∃ g,fuel=g+1:=⟨fuel - 1,ad⟩;rw [j8];rfl
 | k+1,fuel,j,i=>by
  obtain ⟨g,rfl⟩:∃ g,fuel=g+1:=⟨fuel - 1,ad⟩;simp only [SM] at h;have e:(((k+1:Nat):Int) - 1)=(k:Int):=ad;have h1:=c.getD k;have h2:=d.getD k;rw [e,j8,decide_eq_true ad,cond_true,if_pos (jy ad),if_pos (jy ad),ag,bw (n:=a.getD k 0 - b.getD k 0) ad ad,bw (n:=(k:Int) - 1) ad ad,N5 c d f (by simp only [SM];omega) k g ad ad];rw [abC];cases (a.getD k 0 != b.getD k 0)<;>rfl
theorem K6 {N a b:Nat} (d:(lm a).length < N) (c:SM (lm a).length) (e:SM (lm b).length):qV N (lm a) (lm b)=some (Tt a b):=by
 unfold qV Tt;simp only [SM] at c e;cases f:((((lm a).length:Nat):Int) != (((lm b).length:Nat):Int)) with
 | true=>rw [cond_true,cond_true,bw ad ad]
 | false =>
  have heq:(lm a).length=(lm b).length:=by simp at f;omega
  rw [cond_false,cond_false,bw ad ad];exact N5 (xY a) (xY b) heq c _ N (aV _) d
theorem Ux {N:Nat} {a b:List Int} (m:U a) (o:U b) (p:b.length<=a.length) (j:cg b<=cg a) (t:SM a.length) (u:a.length+1 < N):∀ (k x fuel:Nat) (out:List Int) (c:Int),x+k=a.length->k < fuel->out.length=x->U out->0<=c->c<=1 ->
  cg out - pw x * c=cg (a.take x) - cg (b.take x)->jH N a b fuel out c (x:Int)=some (lm (cg a - cg b).toNat)
 | 0,x,fuel,out,c,v,w,e,f,y,z,d=>by
  obtain ⟨g,rfl⟩:∃ g,fuel=g+1:=⟨fuel - 1,ad⟩;have A:x=a.length:=ad;subst A;rw [jH,dG,cond_false,AI f (by simp only [SM] at *;omega) ad,dc];rw [List.take_length,mj p] at d;have h1:=f.lt;rw [e] at h1;have B:c=0:=by
   rcases Int.lt_or_le 0 c with h | h
   ·have:c=1:=ad;subst this;omega
   ·omega
  subst B;rw [show cg out=cg a - cg b by omega]
 | k+1,x,fuel,out,c,v,w,e,f,y,z,d=>by
  obtain ⟨g,rfl⟩:∃ g,fuel=g+1:=⟨fuel - 1,ad⟩;simp only [SM] at t;have r:x < a.length:=ad;have h1:=m.getD x;have h2:=o.getD x;rw [jH,dec_lt r,cond_true,if_pos (jy r),Ic,dc,ag,bw (n:=a.getD x 0 - b.getD x 0) ad ad,bw (n:=a.getD x 0 - b.getD x 0 - c) ad ad];have fin:∀ q s:Int,0<=q->q<=1->s=a.getD x 0 - b.getD x 0 - c+q * 65536->0<=s->s < 65536->pT N a b out (x:Int) (jH N a b g) q s=some (lm (cg a - cg b).toNat):=by
   intro q s C D l E F;unfold pT;rw [if_pos ad,aw ad];refine Ux m o p j (by simp only [SM];omega) u k (x+1) g _ _ ad ad (by simp [e]) (f.append (U.one E F)) C D ?_;rw [pC,xu,e,tY a,tY b,kc];have h3:pw x * s=a.getD x 0 * pw x - b.getD x 0 * pw x - pw x * c+65536 * pw x * q:=by rw [l];grind
   omega
  cases i:decide (a.getD x 0 - b.getD x 0 - c < 0) with
  | true =>
   have i:=xl i;rw [cond_true,bw ad ad];exact fin 1 _ ad ad ad ad ad
  | false =>
   have i:=yQ i;rw [cond_false];exact fin 0 _ ad ad ad ad ad
theorem Nq {N a b:Nat} (c:b<=a) (d:SM (lm a).length) (e:(lm a).length+1 < N):uZ N (lm a) (lm b)=some (lm (a - b)):=by
 have:=Ux (N:=N) (xY a) (xY b) (kT c) (by rw [kX,kX];omega) d e (lm a).length 0 N [] 0 ad ad rfl U.nil ad ad (by simp [cg]);rw [kX,kX] at this;rw [show (lm (a - b))=lm ((a:Int) - (b:Int)).toNat by congr 1;omega];exact this
theorem aeC {N:Nat} {a b:List Int} {i:Nat} (y:U a) (z:U b) (hi:i < a.length) (A:SM (a.length+b.length+1)) (K:List Int->Int->Option (List Int)) (R:Option (List Int))
  (u:∀ out,out.length=a.length+b.length+1->U out->(∀ j,i+1+b.length<=j->out.getD j 0=0)->cg out=cg (a.take (i+1)) * cg b->K out ((i+1:Nat):Int)=R) :
  ∀ (k x fuel:Nat) (out:List Int) (c:Int),x+k=b.length+1->k < fuel->out.length=a.length+b.length+1->U out->0<=c->c < 65536->(x=b.length+1->c=0)->(∀ j,i+b.length<=j->x<=b.length->out.getD j 0=0)->(∀ j,i+1+b.length<=j->out.getD j 0=0) ->
   cg out+pw (i+x) * c=cg (a.take i) * cg b+a.getD i 0 * pw i * cg (b.take x)->l9 N a b (i:Int) K fuel out c (x:Int)=R:=by
 intro k;simp only [SM] at A
 induction k with
 | zero =>
  intro x fuel out c B C o m D E v p f d;obtain ⟨g,rfl⟩:∃ g,fuel=g+1:=⟨fuel - 1,ad⟩;have F:x=b.length+1:=ad;subst F;have q:=v rfl;subst q;rw [l9,decide_eq_false ad,decide_eq_false ak];simp only [cond_false];rw [aw ad];refine u out o m f ?_;rw [show b.take (b.length+1)=b from mj ad] at d;rw [eu a i hi,hO];omega
 | succ k G =>
  intro x fuel out c B C o m D E v p f d;obtain ⟨g,rfl⟩:∃ g,fuel=g+1:=⟨fuel - 1,ad⟩;rw [l9];have h1:=y.getD i;have h2:=z.getD x;have h3:=m.getD (i+x)
  by_cases r:x < b.length\/0 < c
  ·have e:cond (decide ((x:Int) < (b.length:Int))) true (decide (c > 0))=true:=by
    rcases r with h | h
    ·rw [dec_lt h];rfl
    ·rw [decide_eq_true (show c > 0 by omega)];cases decide ((x:Int) < (b.length:Int))<;>rfl
   have H:aR ((i:Int)+(x:Int))=((i+x:Nat):Int):=by rw [bw ad ad];omega
   have h4:=Sc h1.1 h1.2 h2.1 h2.2;rw [e,cond_true,H,if_pos (jy ad),if_pos (jy hi),Ic,dc];simp only [ag];rw [bw (n:=a.getD i 0 * b.getD x 0) ad ad,bw (n:=out.getD (i+x) 0+a.getD i 0 * b.getD x 0) ad ad,bw (n:=out.getD (i+x) 0+a.getD i 0 * b.getD x 0+c) ad ad,aw ad];generalize l:out.getD (i+x) 0+a.getD i 0 * b.getD x 0+c=s;have w:0<=s:=ad;rw [Int.tmod_eq_emod_of_nonneg w,Int.tdiv_eq_ediv_of_nonneg w,bw (n:=s / 65536) ad ad];refine G (x+1) g _ _ ad ad (by simp [o]) (m.set _ ad ad) ad ad (fun h=>?_) (fun j t I=>?_) (fun j t=>?_) ?_
   ·have J:=BA (show b.length<=x by omega);have L:=p (i+x) ad ad;rw [J,L] at l;simp at l;omega
   ·rw [getD_set_ne _ _ ad];exact p j t ad
   ·rw [getD_set_ne _ _ ad];exact f j t
   ·rw [rG _ _ _ ad,tY b,show i+(x+1)=(i+x)+1 by omega,kc];have M:s=s % 65536+65536 * (s / 65536):=ad;have P:pw (i+x) * s=pw (i+x) * (s % 65536)+pw (i+x) * (65536 * (s / 65536)):=by rw [<- kZ,<- M]
    have Q:pw (i+x) * s=pw (i+x) * c+pw (i+x) * (a.getD i 0 * b.getD x 0)+pw (i+x) * out.getD (i+x) 0:=by rw [<- l,kZ,kZ];omega
    have S:65536 * pw (i+x) * (s / 65536)=pw (i+x) * (65536 * (s / 65536)):=by rw [kb 65536,oE]
    have T:(s % 65536 - out.getD (i+x) 0) * pw (i+x)=pw (i+x) * (s % 65536) - pw (i+x) * out.getD (i+x) 0:=by rw [Int.sub_mul,kb,kb (out.getD (i+x) 0)]
    have O:a.getD i 0 * pw i * (cg (b.take x)+b.getD x 0 * pw x)=a.getD i 0 * pw i * cg (b.take x)+pw (i+x) * (a.getD i 0 * b.getD x 0):=by
     rw [Sa];grind
    omega
  ·have e:cond (decide ((x:Int) < (b.length:Int))) true (decide (c > 0))=false:=by
    rw [decide_eq_false ad,decide_eq_false ad];rfl
   have q:c=0:=ad;subst q;rw [e,cond_false,aw ad];refine u out o m f ?_;rw [show b.take x=b from mj ad] at d;rw [eu a i hi,hO];omega
theorem Uy {N:Nat} {a b:List Int} (f:U a) (i:U b) (l:SM (a.length+b.length+1)) (p:a.length+b.length+2 < N):∀ (k x fuel:Nat) (out:List Int),x+k=a.length->k < fuel->out.length=a.length+b.length+1->U out ->
  (∀ j,x+b.length<=j->out.getD j 0=0)->cg out=cg (a.take x) * cg b->ma N a b fuel out (x:Int)=some (lm (cg a * cg b).toNat)
 | 0,x,fuel,out,q,r,m,d,e,c=>by
  obtain ⟨g,rfl⟩:∃ g,fuel=g+1:=⟨fuel - 1,ad⟩;have s:x=a.length:=ad;subst s;rw [ma,dG,cond_false,AI d (by simp only [SM] at *;omega) ad,dc,c,List.take_length]
 | k+1,x,fuel,out,q,r,m,d,e,c=>by
  obtain ⟨g,rfl⟩:∃ g,fuel=g+1:=⟨fuel - 1,ad⟩;have n:x < a.length:=ad;rw [ma,dec_lt n,cond_true];refine aeC f i n l _ _ (fun t h1 h2 h3 h4=>?_) (b.length+1) 0 N out 0 ad ad m d ad ad (fun h=>ad) (fun j o _=>e j o) (fun j o=>e j ad) (by rw [c];simp [cg]);exact Uy f i l p k (x+1) g t ad ad h1 h2 h3 h4
theorem YG {N:Nat} {a b:List Int} (d:U a) (f:U b) (c:SM (a.length+b.length+1)) (g:a.length+b.length+2 < N):pe N a b=some (lm (cg a * cg b).toNat):=by
 unfold pe;have h:=c;simp only [SM] at h;have e:aR (aR ((a.length:Int)+(b.length:Int))+1)=((a.length+b.length+1:Nat):Int):=by rw [bw (n:=(a.length:Int)+(b.length:Int)) ad ad,bw ad ad];omega
 rw [e,if_pos ad];exact Uy d f c g a.length 0 N _ ad ad (by simp;omega) (U.replicate _) (fun j _=>kM _ j) (by rw [nF];simp [cg])
theorem aeD {N a b:Nat} (c:SM ((lm a).length+(lm b).length+1)) (d:(lm a).length+(lm b).length+2 < N):pe N (lm a) (lm b)=some (lm (a * b)):=by
 rw [YG (xY a) (xY b) c d,kX,kX,Cu]
theorem alu {N:Nat} {a q:List Int} {b i X:Nat} (B:0 < b) (C:X < 65536 * b) (v:i < q.length) (w:SM ((lm b).length+(lm X).length+3)) (hi:SM i) (D:(lm b).length+(lm X).length+65546 < N) (K:List Int->List Int->Int->Option (List Int×List Int)) :
  ∀ (d lo hi fuel:Nat),hi - lo<=d->lo<=hi->hi < 65536->d < fuel->lo * b<=X->X < (hi+1) * b->lF N a (lm b) q (i:Int) (lm X) K fuel (lo:Int) (hi:Int)=K (lm (X % b)) (q.set i ((X / b:Nat):Int)) ((i:Int) - 1):=by
 intro d;simp only [SM] at w hi;have one:∀ m:Nat,m < 65536->pe N (lm b) [(m:Int)]=some (lm (b * m)):=fun m hm=>by
  rw [YG (xY b) (U.one ad ad) (by simp only [SM,List.length_singleton];omega) (by simp only [List.length_singleton];omega),kX,xu,Cu]
 have o:∀ m:Nat,m < 65536->(lm (b * m)).length<=(lm b).length+1:=fun m hm=>by
  rw [mB,kc];have:=(mB (n:=b) (k:=(lm b).length)).1 (aV _);have h2:=Nat.mul_le_mul_left b (show m<=65535 by omega);have:=pz (lm b).length;omega
 induction d with
 | zero =>
  intro lo e fuel x j f y h1 h2;obtain ⟨g,rfl⟩:∃ g,fuel=g+1:=⟨fuel - 1,ad⟩;have p:e=lo:=ad;subst p;have hdiv:X / b=e:=by
   have h3:X=e * b+(X - e * b):=ad;have h4:X - e * b < b:=by rw [dq,Nat.one_mul] at h2;omega
   exact (NZ h3 h4).1
  have l:X % b=X - b * e:=by
   have:=Nat.div_add_mod X b;rw [hdiv] at this;omega
  rw [lF,decide_eq_false ad,cond_false,if_pos (jy v)];have r:b * e<=X:=by rw [vF];exact h1
  by_cases E:0 < e
  ·rw [decide_eq_true ad,cond_true,one e f,dc,Nq r (by simp only [SM];omega) ad,dc];unfold qW;rw [ag,bw ad ad,hdiv,l]
  ·have:e=0:=ad;subst this;rw [decide_eq_false ak,cond_false];unfold qW;rw [ag,bw ad ad,hdiv,l];simp
 | succ d s =>
  intro lo e fuel x j f y h1 h2;obtain ⟨g,rfl⟩:∃ g,fuel=g+1:=⟨fuel - 1,ad⟩
  by_cases F:lo < e
  ·rw [lF,decide_eq_true ad,cond_true,bw (n:=(lo:Int)+(e:Int)) ad ad,bw (n:=(lo:Int)+(e:Int)+1) ad ad];have em:((lo:Int)+(e:Int)+1).tdiv 2=(((lo+e+1) / 2:Nat):Int):=by rw [Int.tdiv_eq_ediv_of_nonneg ad];omega
   rw [em,bw (n:=(((lo+e+1) / 2:Nat):Int)) ad ad];generalize hm:(lo+e+1) / 2=m;have z:=o m ad;rw [one m ad,dc,K6 ad (by simp only [SM];omega) (by simp only [SM];omega),dc];have u:Tt (b * m) X<=0↔b * m<=X:=by
    obtain ⟨c,_,h3,h4,r⟩:=ES (N:=(lm (b * m)).length+1) (a:=b * m) (b:=X) ad (by simp only [SM];omega) (by simp only [SM];omega);rw [<- r];omega
   by_cases t:b * m<=X
   ·rw [decide_eq_true (u.2 t),cond_true];exact s m e g ad ad f ad (by rw [vF];exact t) h2
   ·rw [decide_eq_false (fun h=>t (u.1 h)),cond_false,bw ad ad];have A:((m:Int) - 1)=((m - 1:Nat):Int):=ad;rw [A];refine s lo (m - 1) g ad ad ad ad h1 ?_;rw [show m - 1+1=m by omega,vF];omega
  ·have:=s lo e (g+1) ad j f ad h1 h2;exact this
theorem ac9 {N:Nat} {A b:Nat} (f:0 < b) (p:SM (2 * (lm A).length+2 * (lm b).length+10)) (y:(lm A).length+2 * (lm b).length+65560 < N):∀ (k fuel:Nat) (q:List Int) (r:Nat),k<=(lm A).length->k < fuel->q.length=(lm A).length->U q->r < b ->
  (∀ j,j < k->q.getD j 0=0)->pw k * cg ((lm A).drop k)=cg q * b+r * pw k->lG N (lm A) (lm b) fuel (lm r) q ((k:Int) - 1)=some (lm (A / b),lm (A % b))
 | 0,fuel,q,r,z,B,s,d,t,h,c=>by
  obtain ⟨g,rfl⟩:∃ g,fuel=g+1:=⟨fuel - 1,ad⟩;have e:decide ((((0:Nat):Int) - 1)>=0)=false:=rfl;rw [lG,e,cond_false,AI d (by simp only [SM] at *;omega) ad,dc];rw [H8,List.drop_zero,kX] at c;have C:=d.uN;obtain ⟨Q,E⟩:=Int.eq_ofNat_of_zero_le C;rw [E] at c ⊢;have F:A=Q * b+r:=by
   have G:(A:Int)=Q * b+r:=ad
   exact_mod_cast G
  obtain ⟨H,I⟩:=NZ F t;rw [H,I];rfl
 | k+1,fuel,q,r,z,B,s,d,t,h,c=>by
  obtain ⟨g,rfl⟩:∃ g,fuel=g+1:=⟨fuel - 1,ad⟩;have J:=p;simp only [SM] at J;have e:(((k+1:Nat):Int) - 1)=(k:Int):=ad;have h1:=(xY A).getD k;have K:(lm r).length<=(lm b).length:=kT ad;rw [e,lG,decide_eq_true ad,cond_true,if_pos (jy ad),if_pos ad,ag];obtain ⟨D,w⟩:=Int.eq_ofNat_of_zero_le h1.1;have L:lm (cg ([(lm A).getD k 0] ++ lm r)).toNat=lm (D+65536 * r):=by
   have M:cg ([(lm A).getD k 0] ++ lm r)=((D+65536 * r:Nat):Int):=by rw [pC,xu,kX,w];simp [pw]
   rw [M,Int.toNat_natCast]
  have O:D < 65536:=ad;rw [AI ((U.one h1.1 h1.2).append (xY r)) (by simp only [SM,oi,List.length_singleton];omega) (by simp only [oi,List.length_singleton];omega),dc,L];have l:D+65536 * r < 65536 * b:=ad;have P:(lm (D+65536 * r)).length<=(lm b).length+1:=by
   rw [mB,kc];have:=(mB (n:=b) (k:=(lm b).length)).1 (aV _);omega
  have:=alu (N:=N) (a:=lm A) (q:=q) (b:=b) (i:=k) (X:=D+65536 * r) f l ad (by simp only [SM];omega) (by simp only [SM];omega) ad (lG N (lm A) (lm b) g) 65535 0 65535 N ad ad ad ad ad ad;rw [show ((0:Nat):Int)=0 from rfl,show ((65535:Nat):Int)=65535 from rfl] at this;rw [this];have R:(D+65536 * r) / b < 65536:=Nat.div_lt_of_lt_mul ad;have m:=Nat.mod_lt (D+65536 * r) f;have o:=Nat.div_add_mod (D+65536 * r) b;generalize (D+65536 * r) / b=u at *
  generalize (D+65536 * r) % b=v at *
  refine ac9 f p y k g _ _ ad ad (by simp [s]) (d.set _ ad ad) m (fun j S=>by rw [getD_set_ne _ _ ad];exact h j ad) ?_;rw [rG _ _ _ ad,h k ad,Int.sub_zero,sI _ k ad,w];rw [kc] at c;have h2:(D:Int)+65536 * r=b * u+v:=by
   have:=congrArg (fun x:Nat=>(x:Int)) o;simp only [Int.natCast_add,Int.natCast_mul] at this;omega
  have h3:pw k * ((D:Int)+65536 * r)=pw k * (b * u+v):=by rw [h2]
  grind
theorem ada {N A b:Nat} (e:b≠0) (a:SM (2 * (lm A).length+2 * (lm b).length+10)) (c:(lm A).length+2 * (lm b).length+65560 < N):sd N (lm A) (lm b)=some (lm (A / b),lm (A % b)):=by
 have d:=a;simp only [SM] at d;unfold sd;rw [if_pos ad,bw ad ad];have:=ac9 (N:=N) (A:=A) (b:=b) ad a c (lm A).length N (List.replicate (lm A).length 0) 0 (aV _) ad ao (U.replicate _) ad (fun j _=>kM _ j) (by rw [List.drop_length,nF];simp [cg]);rw [kL] at this;exact this
end Go.Den
namespace Go.Den
open Go.Ab
abbrev LM (n:Nat):Prop:=n < 1000000000000
section
variable {a b:eN} {x y:aa} {m n:Nat} {p q:Rat} {z w:Int}
theorem ZI.read (b:ZI a z n) (c:LM n):Gv (fun N=>lu N a.fL) (lm z.natAbs) :=
 .of (n+1) fun N d=>by
  have:=aox (N:=N) b.ib.U (by have:=b.ib.len;simp only [SM,LM] at *;omega) (by have:=b.ib.len;omega);rwa [<- pV,b.v] at this
theorem ZI.WH (b:ZI a z n):z=sg a.fG z.natAbs:=by
 have h1:=pV a;have:zv a=sg a.fG (zv a).natAbs:=by rw [h1];rfl
 rwa [b.v] at this
theorem tZ {neg:Bool} {k:Nat} (a:ZB (sg neg k) n) (b:LM n):Gv (fun N=>jj N neg (lm k)) (Ia (sg neg k)):=by
 unfold ZB at a;rw [vn] at a;exact als neg (by simp only [SM,LM] at *;omega)
theorem aiJ {N:Nat} {z:Int}:∀ (fuel n:Nat) (out:List Int) (r:Option eN),(lm n).length < fuel->out.length+(lm n).length < 1000->n < 18446744073709551616->((jj N (decide (z < 0)) (out ++ lm n)).bind fun r=>some r)=r->pa N z fuel out (n:Int)=r
 | 0,n,out,r,h,_,_,_=>ad
 | fuel+1,n,out,r,h,h2,h3,a=>by
  rw [pa]
  by_cases b:n=0
  ·subst b;rw [kL,List.append_nil] at a;exact a
  ·have e:decide ((n:Int) > 0)=true:=by simp;omega
   rw [wm b] at h h2;simp only [xm] at h h2;have c:((n:Int) / 65536)=((n / 65536:Nat):Int):=ad;have d:((n:Int) % 65536)=((n % 65536:Nat):Int):=ad;rw [e,cond_true,if_pos ad,Int.tmod_eq_emod_of_nonneg ad,Int.tdiv_eq_ediv_of_nonneg ad,c,d,kN ad ad,bw ad ad];refine aiJ fuel (n / 65536) _ r ad (by simp;omega) ad ?_;rw [<- a,wm b,DR];rfl
theorem rOf (h1:-9223372036854775808<=z) (h2:z<=9223372036854775807):Gv (fun N=>CW N z) (Ia z):=by
 have a:ZB z 4:=ZB.word h1 h2;have key:Gv (fun N=>pa N z N [] ((z.natAbs:Nat):Int)) (Ia z):=by
  have hm:Gv (fun N=>(jj N (decide (z < 0)) (lm z.natAbs)).bind fun r=>some r) (Ia z):=by
   by_cases h:z < 0
   ·have e:sg true z.natAbs=z:=by simp [sg];omega
    have:=tZ (neg:=true) (k:=z.natAbs) (n:=4) (by rw [e];exact a) ak;rw [e] at this;rw [decide_eq_true h];exact this.bind (Gv.pure _)
   ·have e:sg false z.natAbs=z:=by simp [sg];omega
    have:=tZ (neg:=false) (k:=z.natAbs) (n:=4) (by rw [e];exact a) ak;rw [e] at this;rw [decide_eq_false h];exact this.bind (Gv.pure _)
  obtain ⟨b,hm⟩:=hm;refine .of (b+5) fun N c=>?_;unfold ZB at a;exact aiJ N z.natAbs [] _ ad (by simp;omega) ad (by have:=hm N ad;simpa using this)
 unfold CW
 by_cases h:z < 0
 ·have e:IntKind.u64.wrap (0 - IntKind.u64.wrap z)=((z.natAbs:Nat):Int):=by rw [wrap64,wrap64];omega
  refine Gv.aW (decide_eq_true h) ?_;rw [e];exact key
 ·have e:IntKind.u64.wrap z=((z.natAbs:Nat):Int):=by rw [wrap64];omega
  refine Gv.a5 (decide_eq_false h) ?_;rw [e];exact key
theorem ZI.aoy (b:ZI a z n) (c:LM n):Gv (fun N=>H6 N a) (Ia (-z)):=by
 refine (b.read c).bind ?_;have e:sg (!a.fG) z.natAbs = -z:=by
  have:=b.WH;generalize z.natAbs=k at *
  subst this;cases a.fG<;>simp [sg]
 refine Gv.bind (r:=Ia (-z)) ?_ (Gv.pure _);rw [<- e];exact tZ (n:=n) (by rw [e];exact b.zb.neg) c
theorem ZI.aoz (d:ZI a z n) (f:ZI b w n) (l:LM (n+1)):Gv (fun N=>H7 N a b) (Ia (z+w)):=by
 simp only [LM] at l;have c:=d.zb.add f.zb;have m:=d.zb;have o:=f.zb;unfold ZB at m o;refine (d.read (by simp only [LM];omega)).bind ((f.read (by simp only [LM];omega)).bind ?_);have s:=d.WH;have t:=f.WH;clear d f;generalize z.natAbs=x at *
 generalize w.natAbs=y at *
 rw [s,t] at c ⊢;generalize a.fG=p at *
 generalize b.fG=q at *
 cases g:(p == q) with
 | true =>
  have g:p=q:=by simpa using g
  subst g;have e:sg p x+sg p y=sg p (x+y):=by cases p<;>simp [sg]<;>omega
  rw [e] at c ⊢;refine Gv.aW rfl (Gv.bind (r:=lm (x+y)) (.of (2 * n+4) fun N j=>aiI (by simp only [SM];omega) ad) ?_);exact (tZ c (by simp only [LM];omega)).bind (Gv.pure _)
 | false =>
  have g:q=!p:=by cases p<;>cases q<;>simp_all
  subst g;refine Gv.a5 rfl ?_;refine Gv.bind (r:=Tt x y) (.of (n+2) fun N j=>K6 ad (by simp only [SM];omega) (by simp only [SM];omega)) ?_;have k:=acZ (a:=x) (b:=y) (by simp only [SM];omega) (by simp only [SM];omega)
  by_cases i:x < y
  ·refine Gv.a5 (decide_eq_false (by have:=k.2 i;omega)) (Gv.bind (r:=lm (y - x)) (.of (n+2) fun N j=>Nq ad (by simp only [SM];omega) ad) ?_);have e:sg p x+sg (!p) y=sg (!p) (y - x):=by cases p<;>simp [sg]<;>omega
   rw [e] at c ⊢;exact (tZ c (by simp only [LM];omega)).bind (Gv.pure _)
  ·refine Gv.aW (decide_eq_true (by have:=fun h=>i (k.1 h);omega)) (Gv.bind (r:=lm (x - y)) (.of (n+2) fun N j=>Nq ad (by simp only [SM];omega) ad) ?_);have e:sg p x+sg (!p) y=sg p (x - y):=by cases p<;>simp [sg]<;>omega
   rw [e] at c ⊢;exact (tZ c (by simp only [LM];omega)).bind (Gv.pure _)
theorem ZI.CN (b:ZI a z n) (c:LM n):Gv (fun N=>Ee N a) z.sign:=by
 refine (b.read c).bind ?_;have d:=b.WH;clear b;generalize z.natAbs=x at *
 rw [d];generalize a.fG=p
 by_cases h:x=0
 ·subst h;refine Gv.aW (by rw [kL];rfl) ((Gv.pure _).eq ?_);cases p<;>rfl
 ·refine Gv.a5 ?_ ?_
  ·have:=qC.2 h;simp;exact fun e=>by rw [e] at this;simp at this
  ·cases p with
   | true=>exact Gv.aW rfl ((Gv.pure _).eq (by simp only [sg,cond_true];rw [Int.sign_eq_neg_one_of_neg];omega))
   | false=>exact Gv.a5 rfl ((Gv.pure _).eq (by simp only [sg,cond_false];rw [Int.sign_eq_one_of_pos];omega))
theorem ZI.aoA (c:ZI a z m) (d:ZI b w n) (f:LM (m+n)):Gv (fun N=>zS N a b) (Ia (z * w)):=by
 simp only [LM] at f;have g:=c.zb.mul d.zb;have h:=c.zb;have i:=d.zb;unfold ZB at h i;refine (c.read (by simp only [LM];omega)).bind ((d.read (by simp only [LM];omega)).bind ?_);refine Gv.bind (r:=lm (z.natAbs * w.natAbs)) (.of (m+n+3) fun N j=>aeD (by simp only [SM];omega) ad) ?_;have e:sg (!(a.fG == b.fG)) (z.natAbs * w.natAbs)=z * w:=by rw [sign_eq,<- c.WH,<- d.WH]
 have:=tZ (neg:=!(a.fG == b.fG)) (k:=z.natAbs * w.natAbs) (n:=m+n) (by rw [e];exact g) f;rw [e] at this;exact this.bind (Gv.pure _)
theorem YH {A B:Nat} (b:(lm A).length<=m) (c:(lm B).length<=n) (a:B≠0) (d:LM (m+n+10)):Gv (fun N=>sd N (lm A) (lm B)) (lm (A / B),lm (A % B)) :=
 .of (m+2 * n+65561) fun N e=>ada a (by simp only [SM,LM] at *;omega) ad
end
end Go.Den
namespace Go.Den
open Go.Ab
section
variable {a b:eN} {x y:aa} {m n:Nat} {p q:Rat} {z w:Int}
theorem alv {N k:Nat} (b:LM (4 * k+30)) (e:3 * k+65570 < N):∀ (y x fuel:Nat),y < fuel->(lm x).length<=k->(lm y).length<=k->qw N fuel (lm x) (lm y)=some (lm (Nat.gcd x y)):=by
 intro y;simp only [LM] at b
 induction y using Nat.strongRecOn with
 | _ y c =>
  intro x fuel f i a;obtain ⟨g,rfl⟩:∃ g,fuel=g+1:=⟨fuel - 1,ad⟩;rw [qw]
  by_cases h:y=0
  ·subst h;rw [kL,Nat.gcd_zero_right];rfl
  ·have j:=qC.2 h;rw [decide_eq_true ad,cond_true,ada h (by simp only [SM];omega) ad,dc];have d:=Nat.mod_lt x (Nat.pos_of_ne_zero h);rw [c (x % y) d y g ad a (gG (kT ad) a),Nat.gcd_comm x y,Nat.gcd_rec y x,Nat.gcd_comm]
theorem alw {x y k:Nat} (a:(lm x).length<=k) (b:(lm y).length<=k) (c:LM (4 * k+30)):Gv (fun N=>H5 N (lm x) (lm y)) (lm (Nat.gcd x y)) :=
 .of (3 * k+65571+y) fun N d=>alv c ad y x N ad a b
theorem ZI.pR (g:ZI a z n) (h:ZI b w n) (s:w≠0) (t:LM (4 * n+30)):Gv (fun N=>wX N a b) (bB (Rat.divInt z w)):=by
 simp only [LM] at t;have i:=g.zb;have d:=h.zb;unfold ZB at i d;refine (g.read (by simp only [LM];omega)).bind ((h.read (by simp only [LM];omega)).bind ?_);have A:=g.WH;have B:=h.WH;clear g h;generalize j:z.natAbs=x at *
 generalize e:w.natAbs=y at *
 have l:y≠0:=ad;have C:0 < Nat.gcd x y:=Nat.gcd_pos_of_pos_right _ ad;refine Gv.a5 (by have:=qC.2 l;simp;exact fun D=>by rw [D] at this;simp at this) ?_;refine (alw i d (by simp only [LM];omega)).bind ?_;have f:(lm (Nat.gcd x y)).length<=n:=gG (kT (Nat.gcd_le_right _ ad)) d;refine (YH i f ad (by simp only [LM];omega)).bind ((YH d f ad (by simp only [LM];omega)).bind ?_);generalize q:x / Nat.gcd x y=u;generalize r:y / Nat.gcd x y=v;have m:(lm u).length<=n:=gG (kT (by rw [<- q];exact Nat.div_le_self _ _)) i;have o:(lm v).length<=n:=gG (kT (by rw [<- r];exact Nat.div_le_self _ _)) d;refine (tZ (neg:=!(a.fG == b.fG)) (k:=u) (n:=n) (by unfold ZB;rw [vn];exact m) (by simp only [LM];omega)).bind ((tZ (neg:=false) (k:=v) (n:=n) (by unfold ZB;rw [vn];exact o) (by simp only [LM];omega)).bind ((Gv.pure _).eq ?_));have p:Int.gcd w z=Nat.gcd x y:=by unfold Int.gcd;rw [j,e,Nat.gcd_comm]
 unfold bB;rw [Rat.num_divInt,Rat.den_divInt,if_neg s,p,e,r];have E:(Nat.gcd x y) ∣ x:=Nat.gcd_dvd_left _ _;have F:w.sign * z / ((Nat.gcd x y:Nat):Int)=sg (!(a.fG == b.fG)) u:=by
  have c:(x:Int)=(Nat.gcd x y:Nat) * (u:Int):=by
   have:x=Nat.gcd x y * u:=by rw [<- q,Nat.mul_div_cancel' E]
   exact_mod_cast this
  have G:w.sign * z=(Nat.gcd x y:Nat) * sg (!(a.fG == b.fG)) u:=by
   rw [A,B];cases a.fG<;>cases b.fG<;>simp only [sg,cond_true,cond_false,Bool.not_true,Bool.not_false,BEq.rfl,show (true == false)=false from rfl,show (false == true)=false from rfl]
   ·rw [Int.sign_eq_one_of_pos ad,Int.one_mul,<- c]
   ·rw [Int.sign_eq_neg_one_of_neg ad,Int.mul_neg,<- c];omega
   ·rw [Int.sign_eq_one_of_pos ad,Int.one_mul,Int.mul_neg,<- c]
   ·rw [Int.sign_eq_neg_one_of_neg ad,<- c];omega
  rw [G,Int.mul_ediv_cancel_left _ ad]
 rw [F];rfl
theorem aup:Gv (fun N=>CW N 1) (Ia 1):=rOf ak ak
theorem ZI.aoB (c:ZI a z n) (d:ZI b w n) (f:w=0) (g:LM (4 * n+30)):Gv (fun N=>wX N a b) (bB (z:Rat)):=by
 simp only [LM] at g;refine (c.read (by simp only [LM];omega)).bind ((d.read (by simp only [LM];omega)).bind ?_);refine Gv.aW (by rw [f];show (((lm 0).length:Nat):Int) == 0;rw [kL];rfl) ?_;have e:=c.WH;have:=tZ (neg:=a.fG) (k:=z.natAbs) (n:=n) (by rw [<- e];exact c.zb) (by simp only [LM];omega);rw [<- e] at this;exact this.bind (aup.bind (Gv.pure _))
theorem RQ.parts (h:RQ x p n):∃ z w,ZI x.fN z n/\ZI x.fD w n/\p=Rat.divInt z (if w=0 then 1 else w) :=
 ⟨zv x.fN,zv x.fD,⟨h.ir.num,rfl⟩,⟨h.ir.den,rfl⟩,h.v.symm⟩
theorem RQ.adb (h:RQ x p n) (b:LM (4 * n+30)):Gv (fun N=>pk N x) (bB p):=by
 obtain ⟨z,w,c,hw,e⟩:=h.parts
 by_cases a:w=0
 ·rw [if_pos a] at e;refine (c.aoB hw a b).bind ((Gv.pure _).eq ?_);rw [e,Sk]
 ·rw [if_neg a] at e;refine (c.pR hw a b).bind ((Gv.pure _).eq ?_);rw [e]
theorem RQ.auq (h:RQ x p n) (a:LM (4 * n+30)):Gv (fun N=>xt N x) (Go.Den.zB p) :=
 (h.adb a).bind ((h.rb.num.zi.CN (by simp only [LM] at *;omega)).bind (Gv.pure _))
theorem aeE (p q:Rat):Rat.divInt (p.num * q.den+q.num * p.den) (p.den * q.den)=p+q:=by
 conv=>rhs;rw [vp p,vp q]
 rw [Rat.divInt_add_divInt _ _ (xg p) (xg q)]
theorem RQ.aoz (c:RQ x p m) (d:RQ y q n) (g:LM (4 * (m+n+1)+30)):Gv (fun N=>ze N x y) (bB (p+q)):=by
 simp only [LM] at g;have b:=c.rb;have a:=d.rb;refine (c.adb (by simp only [LM];omega)).bind ((d.adb (by simp only [LM];omega)).bind ?_);refine (b.num.zi.aoA a.den.zi (by simp only [LM];omega)).bind ((a.num.zi.aoA b.den.zi (by simp only [LM];omega)).bind ?_);have e:=(b.num.mul a.den).le (show m+n<=m+n by omega);have f:=(a.num.mul b.den).le (show n+m<=m+n by omega);refine (e.zi.aoz f.zi (by simp only [LM];omega)).bind ((b.den.zi.aoA a.den.zi (by simp only [LM];omega)).bind ?_);refine ((e.add f).zi.pR ((b.den.mul a.den).le (show m+n<=m+n+1 by omega)).zi (Int.mul_ne_zero (xg p) (xg q)) (by simp only [LM];omega)).bind ((Gv.pure _).eq ?_);rw [aeE]
theorem RQ.aoy (a:RQ x p n) (b:LM (4 * n+30)):Gv (fun N=>zd N x) (bB (-p)):=by
 refine (a.adb b).bind ((a.rb.num.zi.aoy (by simp only [LM] at *;omega)).bind ((Gv.pure _).eq ?_));unfold bB;rw [Rat.neg_num,Rat.neg_den]
theorem RQ.aur (b:RQ x p m) (a:RQ y q n) (c:LM (4 * (m+n+1)+30)):Gv (fun N=>zf N x y) (bB (p - q)):=by
 refine (a.aoy (by simp only [LM] at *;omega)).bind ((b.aoz (a.rb.neg.rq a.pos) c).bind ((Gv.pure _).eq ?_));rw [Rat.sub_eq_add_neg]
theorem RQ.aus (a:RQ x p m) (b:RQ y q n) (c:LM (4 * (m+n+1)+30)):Gv (fun N=>zg N x y) (Go.Den.zB (p - q)) :=
 (a.aur b c).bind ((((a.rb.sub b.rb).rq ad).auq c).bind (Gv.pure _))
end
end Go.Den
namespace Go.Den
open Go.Ab
section
variable (t s:Nat->Rat) (n:Nat)
def aqM (i:Nat) (y:Rat):Rat:=if i+1 < n/\t (i+1) < y then t (i+1) else y
def pc (i:Nat) (y:Rat):Rat:=if aqM t n i y<=t i then 0 else aqM t n i y - t i
def vs:Nat->Nat->Rat->Rat
 | 0,_,_=>0
 | k+1,i,y=>s i * pc t n i y+vs k (i+1) y
def fs:Nat->Rat
 | 0=>0
 | i+1=>fs i+s i * (t (i+1) - t i)
def ps (x:Rat):Rat:=if x < 0 then 0 else x
def Up:Prop:=∀ i,i+1 < n->t i < t (i+1)
end
section
variable {t s:Nat->Rat} {n:Nat} (up:Up t n)
include up
end
end Go.Den
namespace Go.Den
open Go.Ab
theorem aL.succ {α:Type} {f a:Nat->Nat->Option α} {r:α} (e:∀ N g,f N (g+1)=a N g) (h:aL a r):aL f r :=
 let ⟨b,c⟩:=h;.step b fun N g d i=>(e N g).trans (c N g d i)
theorem aL.bind {α β:Type} {f:Nat->Option α} {k:Nat->Nat->α->Option β} {r:α} {s:β} (h:Gv f r) (h2:aL (fun N g=>k N g r) s):aL (fun N g=>(f N).bind (k N g)) s:=by
 obtain ⟨a,h⟩:=h;obtain ⟨b,h2⟩:=h2;exact ⟨a+b,fun N g c d=>by dsimp only;rw [h N ad];exact h2 N g ad ad⟩
theorem aL.aW {α:Type} {f g:Nat->Nat->Option α} {r:α} {q:Bool} (a:q=true) (h:aL f r):aL (fun N n=>cond q (f N n) (g N n)) r:=by subst a;exact h
theorem aL.a5 {α:Type} {f g:Nat->Nat->Option α} {r:α} {q:Bool} (a:q=false) (h:aL g r):aL (fun N n=>cond q (f N n) (g N n)) r:=by subst a;exact h
theorem aL.if {α:Type} {f:Nat->Nat->Option α} {r:α} {p:Prop} [Decidable p] (a:p) (h:aL f r):aL (fun N n=>if p then f N n else none) r:=by
 obtain ⟨b,h⟩:=h;exact ⟨b,fun N g c d=>by dsimp only;rw [if_pos a];exact h N g c d⟩
theorem aL.one {α:Type} {f:Nat->Option α} {r:α} (h:Gv f r):aL (fun N _=>f N) r:=let ⟨a,h⟩:=h;⟨a,fun N _ b _=>h N b⟩
theorem aL.eq {α:Type} {f:Nat->Nat->Option α} {r s:α} (h:aL f r) (e:r=s):aL f s:=e ▸ h
end Go.Den
namespace Go.Den
open Go.Ab
theorem RB.zero:RB 0 1:=RB.int (z:=0) (ZB.small ak) ak
section
theorem N6 {q:Rat}:decide (zB q < 0)=decide (q < 0):=decide_eq_decide.2 wq
theorem YI {q:Rat}:decide (zB q > 0)=decide (0 < q):=decide_eq_decide.2 WG
end
end Go.Den
namespace Go.Den
open Go.Ab
theorem AJ {l:List aa} {i:Nat} (h:l.length<=i):l.getD i aa.d=aa.d:=by
 simp [List.getD,List.getElem?_eq_none_iff.2 h]
end Go.Den
namespace Go.Den
open Go.Ab
abbrev MS:Nat:=1000000000000
def Ev (p:Nat->Nat->Prop):Prop:=∃ a,∀ N g,a<=N->a<=g->p N g
theorem Ev.of {p:Nat->Nat->Prop} (a:Nat) (h:∀ N g,a<=N->a<=g->p N g):Ev p:=⟨a,h⟩
theorem Gv.ev {α:Type} {f:Nat->Option α} {r:α} (h:Gv f r):Ev fun N _=>f N=some r:=let ⟨a,b⟩:=h;⟨a,fun N _ c _=>b N c⟩
theorem Ev.and {p q:Nat->Nat->Prop} (h:Ev p) (k:Ev q):Ev fun N g=>p N g/\q N g:=by
 obtain ⟨a,c⟩:=h;obtain ⟨b,d⟩:=k;exact ⟨a+b,fun N g h1 h2=>⟨c N g ad ad,d N g ad ad⟩⟩
theorem Ev.mono {p q:Nat->Nat->Prop} (h:Ev p) (k:∀ N g,p N g->q N g):Ev q:=let ⟨a,b⟩:=h;⟨a,fun N g h1 h2=>k N g (b N g h1 h2)⟩
theorem Ev.succ {p:Nat->Nat->Prop} (h:Ev fun N g=>p N (g+1)):Ev p:=by
 obtain ⟨a,b⟩:=h;refine ⟨a+1,fun N g h1 h2=>?_⟩;obtain ⟨g,rfl⟩:∃ c,g=c+1:=⟨g - 1,ad⟩;exact b N g ad ad
theorem Ev.diag {p:Nat->Nat->Prop} (h:Ev p):Ev fun N _=>p N N:=let ⟨a,b⟩:=h;⟨a,fun N _ h1 _=>b N N h1 h1⟩
theorem Ev.true {p:Nat->Nat->Prop} (h:∀ N g,p N g):Ev p:=⟨0,fun N g _ _=>h N g⟩
def Lq (A:List (List aa)) (i j:Nat):aa:=(A.getD i []).getD j aa.d
structure YJ (A:List (List aa)) (n w:Nat) (M:Nat->Nat->Rat):Prop where
 len:A.length=n
 row:∀ i,i < n->(A.getD i []).length=w
 Lq:∀ i j,i < n->j < w->RQ (Lq A i j) (M i j) MS
def pD (M:Nat->Nat->Rat) (i j:Nat) (v:Rat):Nat->Nat->Rat:=fun a b=>if a=i/\b=j then v else M a b
theorem gl {α:Type} (l:List α) (i:Nat) (x d:α) (h:i < l.length):(l.set i x).getD i d=x:=by
 simp [jP,List.getElem?_set_self h]
theorem fx {α:Type} (l:List α) {i j:Nat} (x d:α) (h:i≠j):(l.set i x).getD j d=l.getD j d:=by
 simp [jP,List.getElem?_set_ne h]
theorem YJ.set {A:List (List aa)} {n w:Nat} {M:Nat->Nat->Rat} (h:YJ A n w M) {i j:Nat} (hi:i < n) (g:j < w) {x:aa} {v:Rat} (k:RQ x v MS) :
  YJ (A.set i ((A.getD i []).set j x)) n w (pD M i j v):=by
 refine ⟨by rw [List.length_set];exact h.len,fun a c=>?_,fun a b c f=>?_⟩
 ·by_cases e:i=a
  ·subst e;rw [gl _ _ _ _ (by rw [h.len];exact hi),List.length_set];exact h.row i hi
  ·rw [fx _ _ _ e];exact h.row a c
 ·unfold Go.Den.Lq pD
  by_cases e:i=a
  ·subst e;rw [gl _ _ _ _ (by rw [h.len];exact hi)]
   by_cases d:j=b
   ·subst d;rw [gl _ _ _ _ (by rw [h.row i hi];exact g),if_pos ⟨rfl,rfl⟩];exact k
   ·rw [fx _ _ _ d,if_neg (fun q=>d q.2.symm)];exact h.Lq i b c f
  ·rw [fx _ _ _ e,if_neg (fun q=>e q.1.symm)];exact h.Lq a b c f
theorem YJ.congr {A:List (List aa)} {n w:Nat} {M a:Nat->Nat->Rat} (h:YJ A n w M) (e:∀ i j,i < n->j < w->M i j=a i j):YJ A n w a :=
 ⟨h.len,h.row,fun i j hi b=>e i j hi b ▸ h.Lq i j hi b⟩
def VB (M:Nat->Nat->Rat) (n w s:Nat):Prop:=∀ i j,i < n->j < w->RB (M i j) s
end Go.Den
namespace Go.Den
open Go.Ab
def swp (M:Nat->Nat->Rat) (c d:Nat):Nat->Nat->Rat:=fun i j=>if i=c then M d j else if i=d then M c j else M i j
def gnm (M:Nat->Nat->Rat) (c t:Nat):Nat->Nat->Rat:=fun i j=>if i=c/\j < t then M c j / M c c else M i j
def abF (M:Nat->Nat->Rat) (g:Nat->Rat) (c t:Nat):Nat->Nat->Rat:=fun i j=>if i < t/\i≠c then M i j - g i * M c j else M i j
def stE (M:Nat->Nat->Rat) (n w c d:Nat):Nat->Nat->Rat:=abF (gnm (swp M c d) c w) (fun i=>swp M c d i c) c n
def stR (M:Nat->Nat->Rat) (n c d:Nat):Nat->Nat->Rat:=abF (swp M c d) (fun i=>swp M c d i c / swp M c d c c) c n
structure Prl (M R:Nat->Nat->Rat) (n w c:Nat) (l:Nat->Rat):Prop where
 ne:∀ i,i < n->l i≠0
 eq:∀ i j,i < n->j < w->R i j=l i * M i j
 one:∀ i j,i < n->j < c->M i j=if i=j then 1 else 0
theorem Prl.step {M R:Nat->Nat->Rat} {n w c:Nat} {l:Nat->Rat} (h:Prl M R n w c l) (J:c < n) (hw:n<=w) {d:Nat} (D:c<=d) (b:d < n) (z:M d c≠0) :
  ∃ E,Prl (stE M n w c d) (stR R n c d) n w (c+1) E:=by
 let s:Nat->Nat:=fun i=>if i=c then d else if i=d then c else i
 have v:∀ i,i < n->s i < n:=fun i hi=>by
  show (if i=c then d else if i=d then c else i) < n;split
  ·exact b
  ·split<;>omega
 have o:∀ i j,swp M c d i j=M (s i) j:=fun i j=>by
  show (if i=c then M d j else if i=d then M c j else M i j)=M (if i=c then d else if i=d then c else i) j;split
  ·rfl
  ·split<;>rfl
 have A:∀ i j,swp R c d i j=R (s i) j:=fun i j=>by
  show (if i=c then R d j else if i=d then R c j else R i j)=R (if i=c then d else if i=d then c else i) j;split
  ·rfl
  ·split<;>rfl
 have f:s c=d:=if_pos rfl;have k:c < w:=ad;refine ⟨fun i=>if i=c then l d * M d c else l (s i),fun i hi=>?_,fun i j hi p=>?_,fun i j hi p=>?_⟩
 ·split
  ·intro e;rcases Rat.mul_eq_zero.1 e with e | e
   ·exact h.ne d b e
   ·exact z e
  ·exact h.ne _ (v i hi)
 ·simp only [stE,stR,abF];have F:=h.eq (s i) j (v i hi) p;have B:=h.eq d j b p;have G:=h.eq (s i) c (v i hi) k;have H:=h.eq d c b k;have I:=h.ne d b
  by_cases a:i=c
  ·have g:¬ (i < n/\i≠c):=fun q=>q.2 a;simp only [g,if_false,a,if_true,A,f,B,gnm,o,p,and_self];grind
  ·have g:i < n/\i≠c:=⟨hi,a⟩;simp only [g,a,if_true,if_false,not_false_eq_true,and_self,ne_eq,A,f,F,B,G,H,gnm,o,false_and,p];have:l d * M d c≠0:=fun e=>by
    rcases Rat.mul_eq_zero.1 e with e | e
    ·exact I e
    ·exact z e
   grind
 ·have C:∀ i,i < n->j < c->M i j=if i=j then 1 else 0:=fun i hi h1=>h.one i j hi h1
  simp only [stE,abF]
  by_cases m:j=c
  ·by_cases a:i=c
   ·have g:¬ (i < n/\i≠c):=fun q=>q.2 a;simp only [g,if_false,a,m,if_true,gnm,o,f,k,and_self];grind
   ·have g:i < n/\i≠c:=⟨hi,a⟩;simp only [g,a,m,if_true,if_false,not_false_eq_true,and_self,ne_eq,gnm,o,f,false_and,k];grind
  ·have r:j < c:=ad;have t:j < w:=ad;have u:M d j=0:=by rw [C d b r,if_neg ad]
   have x:M (s i) j=if i=j then 1 else 0:=by
    rw [C (s i) (v i hi) r];have:(s i=j)↔(i=j):=by
     show ((if i=c then d else if i=d then c else i)=j)↔i=j;split
     ·omega
     ·split<;>omega
    simp only [this]
   by_cases a:i=c
   ·have g:¬ (i < n/\i≠c):=fun q=>q.2 a;have y:¬ c=j:=fun q=>m q.symm;simp only [g,if_false,a,if_true,gnm,o,f,t,and_self,u,y];grind
   ·have g:i < n/\i≠c:=⟨hi,a⟩;simp only [g,a,if_true,if_false,not_false_eq_true,and_self,ne_eq,gnm,o,f,false_and,t,x,u];grind
theorem VB.swp {M:Nat->Nat->Rat} {n w s c d:Nat} (h:VB M n w s) (b:c < n) (e:d < n):VB (swp M c d) n w s:=fun i j hi a=>by
 unfold Go.Den.swp;split
 ·exact h d j e a
 ·split
  ·exact h c j b a
  ·exact h i j hi a
theorem VB.gnm {M:Nat->Nat->Rat} {n w s c t:Nat} (h:VB M n w s) (b:c < n) (a:c < w) (e:M c c≠0):VB (gnm M c t) n w (s+s):=fun i j hi d=>by
 unfold Go.Den.gnm;split
 ·exact (h c j b d).div (h c c b a) e
 ·exact (h i j hi d).le ad
theorem VB.abF {M:Nat->Nat->Rat} {n w s c t:Nat} {g:Nat->Rat} (h:VB M n w s) (e:∀ i,i < n->RB (g i) s) (f:c < n):VB (abF M g c t) n w (s+(s+s)+1):=fun a j b d=>by
 unfold Go.Den.abF;split
 ·exact (h a j b d).sub ((e a b).mul (h c j f d))
 ·exact (h a j b d).le ad
end Go.Den
namespace Go.Den
open Go.Ab
theorem Pn {a:Nat} (h:a<=MS+MS+1):SM (2 * a+2):=by simp only [SM,MS] at *;omega
theorem YJ.at {A:List (List aa)} {n w:Nat} {M:Nat->Nat->Rat} (h:YJ A n w M) {i j:Nat} (hi:i < n) (a:j < w):RQ ((A.getD i []).getD j aa.d) (M i j) MS:=h.Lq i j hi a
theorem inl {m n k:Nat} (h:m < n) (e:k=n):0<=(m:Int)/\(m:Int) < ((k:Nat):Int):=⟨ad,ad⟩
theorem YK {m n k:Nat} (h:m < n) (e:k=n):decide ((m:Int) < ((k:Nat):Int))=true:=by simp;omega
theorem Zw {m n k:Nat} (h:n<=m) (e:k=n):decide ((m:Int) < ((k:Nat):Int))=false:=by simp;omega
section
variable {A:List (List aa)} {n w c:Nat} {M:Nat->Nat->Rat}
end
end Go.Den
namespace Go.Den
open Go.Ab
def b7:Nat->(Nat->Rat)->Rat
 | 0,_=>0
 | n+1,f=>b7 n f+f n
theorem aK {n:Nat} {f g:Nat->Rat} (h:∀ i,i < n->f i=g i):b7 n f=b7 n g:=by
 induction n with
 | zero=>rfl
 | succ n a=>rw [b7,b7,a fun i hi=>h i ad,h n ad]
theorem ua (n:Nat) (f g:Nat->Rat):b7 n (fun i=>f i+g i)=b7 n f+b7 n g:=by
 induction n with
 | zero=>show (0:Rat)=0+0;grind
 | succ n a=>rw [b7,b7,b7,a];grind
theorem jJ (n:Nat) (c:Rat) (f:Nat->Rat):b7 n (fun i=>c * f i)=c * b7 n f:=by
 induction n with
 | zero=>show (0:Rat)=c * 0;grind
 | succ n a=>rw [b7,b7,a];grind
theorem mD (n:Nat):b7 n (fun _=>0)=0:=by
 induction n with
 | zero=>rfl
 | succ n a=>rw [b7,a];grind
theorem ll {n j:Nat} (c:j < n) (f:Nat->Rat) (h:∀ i,i < n->i≠j->f i=0):b7 n f=f j:=by
 induction n with
 | zero=>omega
 | succ n a =>
  rw [b7]
  by_cases e:j=n
  ·subst e;rw [aK (g:=fun _=>0) fun i hi=>h i ad ad,mD];grind
  ·rw [a ad fun i hi b=>h i ad b,h n ad ad];grind
theorem xi {n j:Nat} (a:j < n) (f:Nat->Rat):b7 n f=f j+b7 n (fun i=>if i=j then 0 else f i):=by
 have e:b7 n f=b7 n (fun i=>(if i=j then f j else 0)+(if i=j then 0 else f i)):=aK fun i _=>by
  split
  ·rename_i h;subst h;grind
  ·grind
 rw [e,ua,ll a (fun i=>if i=j then f j else 0) fun i _ h=>if_neg h,if_pos rfl]
structure bH where
 je:Nat->Nat
 fr:Nat->Nat
 a:Nat->Nat->Rat
 b:Nat->Rat
 g:Nat->Rat
 v:Rat
namespace bH
def row (D:bH) (k:Nat) (x:Nat->Rat) (i:Nat):Rat:=D.b i+b7 k fun j=>D.a i j * x (D.fr j)
def K7 (D:bH) (m k:Nat) (x:Nat->Rat):Prop:=∀ i,i < m->x (D.je i)=D.row k x i
def gv (D:bH) (k:Nat) (x:Nat->Rat):Rat:=D.v+b7 k fun j=>D.g j * x (D.fr j)
structure WF (D:bH) (m k:Nat):Prop where
 bi:∀ i i',i < m->i' < m->D.je i=D.je i'->i=i'
 fi:∀ j j',j < k->j' < k->D.fr j=D.fr j'->j=j'
 bf:∀ i j,i < m->j < k->D.je i≠D.fr j
 bl:∀ i,i < m->D.je i < m+k
 fl:∀ j,j < k->D.fr j < m+k
 al:∀ u,u < m+k->(∃ i,i < m/\D.je i=u)\/∃ j,j < k/\D.fr j=u
def sK (D:bH) (i j k:Nat):Rat:=if k=j then 1 / D.a i j else -(D.a i k / D.a i j)
def pb (D:bH) (i j:Nat):Rat:=-(D.b i / D.a i j)
def mc (D:bH) (i j:Nat):bH where
 je:=fun r=>if r=i then D.fr j else D.je r
 fr:=fun c=>if c=j then D.je i else D.fr c
 a:=fun r c=>if r=i then D.sK i j c else if c=j then D.a r j * D.sK i j c else D.a r c+D.a r j * D.sK i j c
 b:=fun r=>if r=i then D.pb i j else D.b r+D.a r j * D.pb i j
 g:=fun c=>if c=j then D.g j * D.sK i j c else D.g c+D.g j * D.sK i j c
 v:=D.v+D.g j * D.pb i j
theorem WF.mc {D:bH} {m k i j:Nat} (h:D.WF m k) (hi:i < m) (d:j < k):(D.mc i j).WF m k:=by
 refine ⟨fun r n a f e=>?_,fun c o b g e=>?_,fun r c a b e=>?_,fun r a=>?_,fun c b=>?_,fun u l=>?_⟩
 ·simp only [bH.mc] at e;split at e<;>split at e
  ·omega
  ·exact absurd e.symm (h.bf _ _ f d)
  ·exact absurd e (h.bf _ _ a d)
  ·exact h.bi _ _ a f e
 ·simp only [bH.mc] at e;split at e<;>split at e
  ·omega
  ·exact absurd e (h.bf _ _ hi g)
  ·exact absurd e.symm (h.bf _ _ hi b)
  ·exact h.fi _ _ b g e
 ·simp only [bH.mc] at e;split at e<;>split at e
  ·exact h.bf _ _ hi d e.symm
  ·rename_i h1 h2;exact h2 (h.fi _ _ b d e.symm)
  ·rename_i h1 h2;exact h1 (h.bi _ _ a hi e)
  ·exact h.bf _ _ a b e
 ·simp only [bH.mc];split
  ·exact h.fl j d
  ·exact h.bl r a
 ·simp only [bH.mc];split
  ·exact h.bl i hi
  ·exact h.fl c b
 ·rcases h.al u l with ⟨r,a,e⟩ | ⟨c,b,e⟩
  ·by_cases q:r=i
   ·subst q;exact .inr ⟨j,d,by simp only [bH.mc,if_pos];exact e⟩
   ·exact .inl ⟨r,a,by simp only [bH.mc,if_neg q];exact e⟩
  ·by_cases q:c=j
   ·subst q;exact .inl ⟨i,hi,by simp only [bH.mc,if_pos];exact e⟩
   ·exact .inr ⟨c,b,by simp only [bH.mc,if_neg q];exact e⟩
theorem WJ {D:bH} {k i j:Nat} (b:j < k) (e:D.a i j≠0) {x:Nat->Rat} (a:x (D.je i)=D.row k x i\/x (D.fr j)=(D.mc i j).row k x i) :
  x (D.fr j)=D.pb i j+b7 k fun c=>D.sK i j c * x ((D.mc i j).fr c):=by
 rcases a with a | a
 ·rw [xi b];have d:(fun c=>if c=j then (0:Rat) else D.sK i j c * x ((D.mc i j).fr c))=fun c=>(-(1 / D.a i j)) * (if c=j then 0 else D.a i c * x (D.fr c)):=by
   funext c
   by_cases q:c=j
   ·simp only [q,if_true];grind
   ·simp only [bH.sK,bH.mc,q,if_false];grind
  rw [d,jJ];unfold bH.row at a;rw [xi b] at a;simp only [bH.sK,bH.mc,if_true,bH.pb];rw [a];grind
 ·rw [a];simp only [bH.row,bH.mc,if_true]
theorem YL {D:bH} {k i j:Nat} (a:j < k) (f:Nat->Rat) {x:Nat->Rat} {p:Rat} (b:x (D.fr j)=p+b7 k fun c=>D.sK i j c * x ((D.mc i j).fr c)) :
  (f j * p+b7 k fun c=>(if c=j then f j * D.sK i j c else f c+f j * D.sK i j c) * x ((D.mc i j).fr c))=b7 k fun c=>f c * x (D.fr c):=by
 have d:b7 k (fun c=>(if c=j then f j * D.sK i j c else f c+f j * D.sK i j c) * x ((D.mc i j).fr c))=b7 k (fun c=>(if c=j then 0 else f c * x (D.fr c))+f j * (D.sK i j c * x ((D.mc i j).fr c))):=aK fun c _=>by
  by_cases q:c=j
  ·simp only [q,if_true];grind
  ·simp only [q,if_false,bH.mc];grind
 rw [d,ua,jJ,xi a (fun c=>f c * x (D.fr c)),b];grind
theorem K7.mc {D:bH} {m k i j:Nat} (hi:i < m) (b:j < k) (f:D.a i j≠0) {x:Nat->Rat}:(D.mc i j).K7 m k x↔D.K7 m k x:=by
 have key:∀ r,r≠i->x (D.fr j)=D.pb i j+b7 k (fun c=>D.sK i j c * x ((D.mc i j).fr c))->(D.mc i j).row k x r=D.row k x r:=fun r d a=>by
  have e:=YL b (fun c=>D.a r c) a;simp only [bH.row];rw [<- e];simp only [bH.mc,d,if_false];grind
 constructor
 ·intro h r d;have h1:=h i hi;have h2:x (D.fr j)=(D.mc i j).row k x i:=by rw [<- h1];simp [bH.mc]
  have a:=WJ b f (.inr h2)
  by_cases q:r=i
  ·subst q
   -- solve for the basic variable
   have e:=a;rw [xi b] at e;have g:(fun c=>if c=j then (0:Rat) else D.sK r j c * x ((D.mc r j).fr c))=fun c=>(-(1 / D.a r j)) * (if c=j then 0 else D.a r c * x (D.fr c)):=by
    funext c
    by_cases q:c=j
    ·simp only [q,if_true];grind
    ·simp only [bH.sK,bH.mc,q,if_false];grind
   rw [g,jJ] at e;simp only [bH.sK,bH.mc,if_true,bH.pb] at e;unfold bH.row;rw [xi b];grind
  ·have h3:=h r d;rw [key r q a] at h3;rw [<- h3];simp [bH.mc,q]
 ·intro h r d;have a:=WJ b f (.inl (h i hi))
  by_cases q:r=i
  ·subst q;simp only [bH.row,bH.mc,if_true];exact a
  ·rw [key r q a,<- h r d];simp [bH.mc,q]
theorem aoC {D:bH} {m k i j:Nat} (hi:i < m) (a:j < k) (b:D.a i j≠0) {x:Nat->Rat} (c:D.K7 m k x):(D.mc i j).gv k x=D.gv k x:=by
 have d:=WJ a b (.inl (c i hi));have e:=YL a D.g d;simp only [bH.gv];rw [<- e];simp only [bH.mc];grind
def rix (D:bH):Nat->Nat->Option Nat
 | 0,_=>none
 | m+1,u=>if D.je m=u then some m else rix D m u
theorem zC {D:bH}:∀ {m i:Nat},(∀ i i',i < m->i' < m->D.je i=D.je i'->i=i')->i < m->D.rix m (D.je i)=some i
 | 0,i,_,hi=>ad
 | m+1,i,h,hi=>by
  rw [rix]
  by_cases e:D.je m=D.je i
  ·rw [if_pos e,h m i ad hi e]
  ·rw [if_neg e];exact zC (fun i i' h1 h2=>h i i' ad ad) (Nat.lt_of_le_of_ne ad fun q=>e (by rw [q]))
theorem wu {D:bH} {u:Nat}:∀ {m:Nat},(∀ i,i < m->D.je i≠u)->D.rix m u=none
 | 0,_=>rfl
 | m+1,h=>by rw [rix,if_neg (h m ad)];exact wu fun i hi=>h i ad
def ext (D:bH) (m k:Nat) (y:Nat->Rat) (u:Nat):Rat:=match D.rix m u with
 | some i=>D.row k y i
 | none=>y u
theorem BD {D:bH} {m k i:Nat} (h:D.WF m k) (hi:i < m) (y:Nat->Rat):D.ext m k y (D.je i)=D.row k y i:=by unfold ext;rw [zC h.bi hi]
theorem EW {D:bH} {m k j:Nat} (h:D.WF m k) (a:j < k) (y:Nat->Rat):D.ext m k y (D.fr j)=y (D.fr j):=by
 unfold ext;rw [wu fun i hi=>h.bf i j hi a]
theorem wv {D:bH} {m k:Nat} (h:D.WF m k) (y:Nat->Rat):D.K7 m k (D.ext m k y):=fun i hi=>by
 rw [BD h hi];unfold bH.row;congr 1;exact aK fun j a=>by rw [EW h a]
theorem Hp {D:bH} {m k:Nat} (h:D.WF m k) (y:Nat->Rat):D.gv k (D.ext m k y)=D.gv k y:=by
 unfold bH.gv;congr 1;exact aK fun j a=>by rw [EW h a]
def one (u:Nat):Nat->Rat:=fun w=>if w=u then 1 else 0
def yP:Nat->Rat:=fun _=>0
theorem zD (D:bH) (k i:Nat):D.row k yP i=D.b i:=by
 unfold row yP;rw [aK (g:=fun _=>0) fun j _=>by grind,mD];grind
theorem row_one {D:bH} {m k j:Nat} (h:D.WF m k) (a:j < k) (i:Nat):D.row k (one (D.fr j)) i=D.b i+D.a i j:=by
 unfold row one;rw [ll a _ fun c b d=>by rw [if_neg fun e=>d (h.fi _ _ b a e)];grind];rw [if_pos rfl];grind
theorem Nr (D:bH) (k:Nat):D.gv k yP=D.v:=by
 unfold gv yP;rw [aK (g:=fun _=>0) fun j _=>by grind,mD];grind
theorem WK {D:bH} {m k j:Nat} (h:D.WF m k) (a:j < k):D.gv k (one (D.fr j))=D.v+D.g j:=by
 unfold gv one;rw [ll a _ fun c b d=>by rw [if_neg fun e=>d (h.fi _ _ b a e)];grind];rw [if_pos rfl];grind
structure J7 (m k:Nat) (D D':bH):Prop where
 Xj:∀ x,D.K7 m k x↔D'.K7 m k x
 gv:∀ x,D.K7 m k x->D.gv k x=D'.gv k x
theorem J7.refl (m k:Nat) (D:bH):J7 m k D D:=⟨fun _=>Iff.rfl,fun _ _=>rfl⟩
theorem J7.symm {m k:Nat} {D D':bH} (h:J7 m k D D'):J7 m k D' D:=⟨fun x=>(h.Xj x).symm,fun x a=>(h.gv x ((h.Xj x).2 a)).symm⟩
theorem J7.trans {m k:Nat} {D D' a:bH} (h:J7 m k D D') (b:J7 m k D' a):J7 m k D a :=
 ⟨fun x=>(h.Xj x).trans (b.Xj x),fun x c=>(h.gv x c).trans (b.gv x ((h.Xj x).1 c))⟩
theorem J7.mc {m k i j:Nat} {D:bH} (hi:i < m) (a:j < k) (b:D.a i j≠0):J7 m k D (D.mc i j) :=
 ⟨fun _=>(K7.mc hi a b).symm,fun _ c=>(aoC hi a b c).symm⟩
def Hq (D:bH) (m u:Nat):Prop:=∃ i,i < m/\D.je i=u
theorem Ie {D:bH} {m k:Nat} (h:D.WF m k) {u:Nat} (a:u < m+k) (b:¬ D.Hq m u):∃ j,j < k/\D.fr j=u:=(h.al u a).resolve_left b
theorem Hr {D:bH} {m k:Nat} {x y:Nat->Rat} (a:D.K7 m k x) (b:∀ j,j < k->x (D.fr j)=y (D.fr j)) {i:Nat} (hi:i < m):x (D.je i)=D.row k y i:=by
 rw [a i hi];unfold row;congr 1;exact aK fun j c=>by rw [b j c]
theorem uniq {D D':bH} {m k:Nat} (h:D.WF m k) (g:D'.WF m k) (e:J7 m k D D') (p:∀ u,D.Hq m u->D'.Hq m u) :
  (∀ i i',i < m->i' < m->D.je i=D'.je i'->D.b i=D'.b i')/\(∀ i j i' j',i < m->i' < m->j < k->j' < k->D.je i=D'.je i'->D.fr j=D'.fr j'->D.a i j=D'.a i' j') /\
   (∀ j j',j < k->j' < k->D.fr j=D'.fr j'->D.g j=D'.g j')/\D.v=D'.v:=by
 have r:∀ j',j' < k->∃ j,j < k/\D.fr j=D'.fr j':=fun j' a=>Ie h (g.fl j' a) fun q=>by
  obtain ⟨i,hi,e⟩:=p _ q;exact g.bf i j' hi a e
 have key:∀ y,(∀ i i',i < m->i' < m->D.je i=D'.je i'->D.row k y i=D'.row k y i')/\D.gv k y=D'.gv k y:=fun y=>by
  have l:=wv h y;have s:=(e.Xj _).1 l;have d:∀ j',j' < k->D.ext m k y (D'.fr j')=y (D'.fr j'):=fun j' a=>by
   obtain ⟨j,b,q⟩:=r j' a;rw [<- q,EW h b]
  refine ⟨fun i i' hi c q=>?_,?_⟩
  ·rw [<- BD h hi y,q];exact Hr s d c
  ·rw [<- Hp h y,e.gv _ l];unfold gv;congr 1;exact aK fun j b=>by rw [d j b]
 have f:∀ i i',i < m->i' < m->D.je i=D'.je i'->D.b i=D'.b i':=fun i i' hi c q=>by
  have:=(key yP).1 i i' hi c q;rwa [zD,zD] at this
 have n:D.v=D'.v:=by have:=(key yP).2;rwa [Nr,Nr] at this
 refine ⟨f,fun i j i' j' hi c b a o t=>?_,fun j j' b a q=>?_,n⟩
 ·have:=(key (one (D.fr j))).1 i i' hi c o;rw [row_one h b,t,row_one g a,f i i' hi c o] at this;grind
 ·have:=(key (one (D.fr j))).2;rw [WK h b,q,WK g a,n] at this;grind
end bH
end Go.Den
namespace Go.Den
open Go.Ab
namespace bH
structure Po (D:bH) (k j:Nat):Prop where
 lt:j < k
 pos:0 < D.g j
 min:∀ j',j' < k->0 < D.g j'->D.fr j<=D.fr j'
def ratio (D:bH) (j i:Nat):Rat:=D.b i / -(D.a i j)
structure K8 (D:bH) (m j i:Nat):Prop where
 lt:i < m
 neg:D.a i j < 0
 min:∀ i',i' < m->D.a i' j < 0->D.ratio j i < D.ratio j i'\/D.ratio j i=D.ratio j i'/\D.je i<=D.je i'
def Xk (D:bH) (m:Nat):Prop:=∀ i,i < m->0<=D.b i
def Step (m k:Nat) (D D':bH):Prop:=∃ j i,D.Po k j/\D.K8 m j i/\D'=D.mc i j
theorem abG {x y a:Rat} (b:0 < a) (h:x<=y / a):x * a<=y:=by
 have e:y / a * a=y:=by grind
 have:=Rat.mul_le_mul_of_nonneg_right h (Rat.le_of_lt b);rwa [e] at this
theorem Sm {x a:Rat} (b:0 < a) (h:0<=x):0<=x / a:=by
 rw [Rat.div_def];exact Rat.mul_nonneg h (Rat.le_of_lt (Rat.inv_pos.2 b))
theorem YM (D:bH) (i j:Nat):D.pb i j=D.ratio j i:=by
 unfold pb ratio
 by_cases h:D.a i j=0
 ·rw [h];simp [Rat.div_def]
 ·have:-(D.a i j)≠0:=by grind
  grind
theorem Xk.ratio {D:bH} {m i j:Nat} (h:D.Xk m) (hi:i < m) (a:D.a i j < 0):0<=D.ratio j i:=Sm (by grind) (h i hi)
theorem K8.le {D:bH} {m j i r:Nat} (h:D.K8 m j i) (a:r < m) (b:D.a r j < 0):D.ratio j i<=D.ratio j r:=by
 rcases h.min r a b with h1 | ⟨h1,_⟩
 ·exact Rat.le_of_lt h1
 ·rw [h1];exact Rat.le_refl
theorem Xk.mc {D:bH} {m i j:Nat} (h:D.Xk m) (b:D.K8 m j i):(D.mc i j).Xk m:=fun r c=>by
 have d:=h.ratio b.lt b.neg;simp only [bH.mc,YM];split
 ·exact d
 ·by_cases e:D.a r j < 0
  ·have h1:=abG (a:=-(D.a r j)) (by grind) (b.le c e);have:=h r c;grind
  ·have h1:=Rat.mul_nonneg (Rat.not_lt.1 e) d;have:=h r c;grind
theorem WL {D:bH} {m k i j u:Nat} (h:D.WF m k) (hi:i < m):(D.mc i j).Hq m u↔(D.Hq m u/\u≠D.je i)\/u=D.fr j:=by
 constructor
 ·rintro ⟨r,a,e⟩;simp only [bH.mc] at e;split at e
  ·exact .inr e.symm
  ·rename_i b;exact .inl ⟨⟨r,a,e⟩,fun q=>b (h.bi _ _ a hi (e.trans q))⟩
 ·rintro (⟨⟨r,a,e⟩,b⟩ | e)
  ·exact ⟨r,a,by simp only [bH.mc];rw [if_neg fun q=>b (by rw [<- e,q])];exact e⟩
  ·exact ⟨i,hi,by simp only [bH.mc,if_pos];exact e.symm⟩
theorem aiK:∀ (M:Nat) (f:Nat->Nat),(∀ i,f i < M)->∃ i j,i < j/\f i=f j
 | 0,f,h=>absurd (h 0) (dX _)
 | M+1,f,h=>by
  by_cases a:∃ N,∀ i,N<=i->f i≠M
  ·obtain ⟨N,b⟩:=a;obtain ⟨i,j,h1,h2⟩:=aiK M (fun i=>f (i+N)) fun i=>by
    have:=h (i+N);have:=b (i+N) ad;omega
   exact ⟨i+N,j+N,ad,h2⟩
  ·have a:∀ N,∃ i,N<=i/\f i=M:=fun N=>vD fun q=>a ⟨N,fun i hi e=>q ⟨i,hi,e⟩⟩;obtain ⟨i,_,h1⟩:=a 0;obtain ⟨j,h2,h3⟩:=a (i+1);exact ⟨i,j,ad,h1.trans h3.symm⟩
open Classical in
noncomputable def enc (p:Nat->Prop):Nat->Nat
 | 0=>0
 | n+1=>2 * enc p n+if p n then 1 else 0
theorem aiL (p:Nat->Prop):∀ n,enc p n < 2 ^ n
 | 0=>by simp [enc]
 | n+1=>by
  have:=aiL p n;rw [enc,Nat.pow_succ];split<;>omega
theorem WM {p q:Nat->Prop}:∀ {n:Nat},enc p n=enc q n->∀ u,u < n->(p u↔q u)
 | 0,_,u,a=>ad
 | n+1,h,u,a=>by
  rw [enc,enc] at h
  by_cases e:u=n
  ·subst e
   by_cases h1:p u<;>by_cases h2:q u<;>simp only [h1,h2,if_true,if_false] at h ⊢<;>omega
  ·refine WM (n:=n) ?_ u ad;split at h<;>split at h<;>omega
theorem aiM {f:Nat->Nat} {a:Nat}:∀ n,∃ x,a<=x/\x<=a+n/\∀ y,a<=y->y<=a+n->f y<=f x
 | 0=>⟨a,aV _,aV _,fun y h1 h2=>by rw [show y=a by omega];exact aV _⟩
 | n+1=>by
  obtain ⟨x,h1,h2,h3⟩:=aiM (f:=f) (a:=a) n
  by_cases h:f x<=f (a+(n+1))
  ·refine ⟨a+(n+1),ad,aV _,fun y b c=>?_⟩
   by_cases e:y=a+(n+1)
   ·rw [e];exact aV _
   ·exact gG (h3 y b ad) h
  ·refine ⟨x,h1,ad,fun y b c=>?_⟩
   by_cases e:y=a+(n+1)
   ·rw [e];omega
   ·exact h3 y b ad
theorem YN:∀ {n:Nat} {f:Nat->Rat},0 < b7 n f->∃ j,j < n/\0 < f j
 | 0,f,h=>by simp only [b7] at h;exact absurd h ak
 | n+1,f,h=>by
  by_cases h1:0 < f n
  ·exact ⟨n,ad,h1⟩
  ·rw [b7] at h;obtain ⟨j,a,h2⟩:=YN (n:=n) (f:=f) (by grind);exact ⟨j,ad,h2⟩
theorem abH {m k:Nat} {s:Nat->bH} (hw:(s 0).WF m k) (hf:(s 0).Xk m) (hs:∀ n,Step m k (s n) (s (n+1))):False:=by
 obtain ⟨J,hJ⟩:=Classical.axiomOfChoice hs;obtain ⟨I,st⟩:=Classical.axiomOfChoice hJ;clear hJ hs;have h0:∀ n,(s n).a (I n) (J n)≠0:=fun n=>by have:=(st n).2.1.neg;grind
 have g:∀ n,(s n).WF m k:=fun n=>by
  induction n with
  | zero=>exact hw
  | succ n l=>rw [(st n).2.2];exact l.mc (st n).2.1.lt (st n).1.lt
 have hfe:∀ n,(s n).Xk m:=fun n=>by
  induction n with
  | zero=>exact hf
  | succ n l=>rw [(st n).2.2];exact l.mc (st n).2.1
 have he:∀ n,J7 m k (s 0) (s n):=fun n=>by
  induction n with
  | zero=>exact .refl _ _ _
  | succ n l=>rw [(st n).2.2];exact l.trans (.mc (st n).2.1.lt (st n).1.lt (h0 n))
 have z:∀ a b,J7 m k (s a) (s b):=fun a b=>(he a).symm.trans (he b);have hB:∀ n u,(s (n+1)).Hq m u↔((s n).Hq m u/\u≠(s n).je (I n))\/u=(s n).fr (J n):=fun n u=>by
  rw [(st n).2.2];exact WL (g n) (st n).2.1.lt
 have L:∀ n j,j < k->¬ (s n).Hq m ((s n).fr j):=fun n j o ⟨i,hi,e⟩=>(g n).bf i j hi o e
 -- a basis comes again
 obtain ⟨A,B,hAB,M⟩:=aiK (2 ^ (m+k)) (fun n=>enc (fun u=>(s n).Hq m u) (m+k)) fun n=>aiL _ _;have N:∀ u,(s A).Hq m u->(s B).Hq m u:=fun u O=>by
  obtain ⟨i,hi,e⟩:=id O;exact (WM M u (e ▸ (g A).bl i hi)).1 O
 have auw:∀ u,(s B).Hq m u->(s A).Hq m u:=fun u O=>by
  obtain ⟨i,hi,e⟩:=id O;exact (WM M u (e ▸ (g B).bl i hi)).2 O
 have hv:(s A).v=(s B).v:=(uniq (g A) (g B) (z A B) N).2.2.2;have P:∀ n,0<=(s n).ratio (J n) (I n):=fun n=>(hfe n).ratio (st n).2.1.lt (st n).2.1.neg;have Q:∀ n,(s (n+1)).v=(s n).v+(s n).g (J n) * (s n).ratio (J n) (I n):=fun n=>by rw [(st n).2.2,<- YM];rfl
 have aqQ:∀ n,(s n).v<=(s (n+1)).v:=fun n=>by
  have:=Rat.mul_nonneg (Rat.le_of_lt (st n).1.pos) (P n);have:=Q n;grind
 have R:∀ a d,(s a).v<=(s (a+d)).v:=fun a d=>by
  induction d with
  | zero=>exact Rat.le_refl
  | succ d l=>exact Rat.le_trans l (aqQ _)
 have S:∀ n,A<=n->n < B->(s n).ratio (J n) (I n)=0:=fun n h1 h2=>by
  have E:=R A (n - A);have F:=R (n+1) (B - (n+1));rw [show A+(n - A)=n by omega] at E;rw [show n+1+(B - (n+1))=B by omega] at F;have e3:=Q n;have e4:=P n;have e5:=(st n).1.pos;have e6:(s n).g (J n) * (s n).ratio (J n) (I n)=0:=by
   have:=Rat.mul_nonneg (Rat.le_of_lt e5) e4;grind
  rcases Rat.mul_eq_zero.1 e6 with h | h
  ·rw [h] at e5;exact absurd e5 ak
  ·exact h
 have hbi:∀ n,A<=n->n < B->(s n).b (I n)=0:=fun n h1 h2=>by
  have e:=S n h1 h2;have hn:=(st n).2.1.neg;unfold ratio at e;have:(s n).b (I n) / -((s n).a (I n) (J n)) * -((s n).a (I n) (J n))=(s n).b (I n):=by grind
  rw [e] at this;grind
 -- one point for all
 let T:=(s A).ext m k yP
 have XO:∀ n,(s n).K7 m k T:=fun n=>((z A n).Xj _).1 (wv (g A) yP);have C:∀ d,A+d<=B->∀ j,j < k->T ((s (A+d)).fr j)=0:=fun d=>by
  induction d with
  | zero=>intro _ j o;exact EW (g A) o yP
  | succ d l =>
   intro hd j o;have l:=l ad;show T ((s (A+d+1)).fr j)=0;rw [(st (A+d)).2.2];simp only [bH.mc];split
   ·rw [Hr (y:=yP) (XO (A+d)) l (st (A+d)).2.1.lt,zD];exact hbi _ ad ad
   ·exact l j o
 have C:∀ n,A<=n->n<=B->∀ j,j < k->T ((s n).fr j)=0:=fun n h1 h2=>by
  have:=C (n - A) ad;rwa [show A+(n - A)=n by omega] at this
 have hxb:∀ n,A<=n->n<=B->∀ i,i < m->(s n).b i=T ((s n).je i):=fun n h1 h2 i hi=>by
  rw [Hr (y:=yP) (XO n) (C n h1 h2) hi,zD]
 -- what stays out, what stays in
 have out:∀ a d u,¬ (s a).Hq m u->(∀ n,a<=n->n < a+d->(s n).fr (J n)≠u)->¬ (s (a+d)).Hq m u:=fun a d u h1=>by
  induction d with
  | zero=>intro _;exact h1
  | succ d l =>
   intro h2 h3;rcases (hB (a+d) u).1 h3 with ⟨h4,_⟩ | h4
   ·exact l (fun n v D=>h2 n v ad) h4
   ·exact h2 (a+d) ad ad h4.symm
 have U:∀ a d u,(s a).Hq m u->(∀ n,a<=n->n < a+d->(s n).je (I n)≠u)->(s (a+d)).Hq m u:=fun a d u h1=>by
  induction d with
  | zero=>intro _;exact h1
  | succ d l =>
   intro h2;exact (hB (a+d) u).2 (.inl ⟨l (fun n v D=>h2 n v ad),fun q=>h2 (a+d) ad ad q.symm⟩)
 -- the greatest one that comes in
 obtain ⟨q,PV,dI,V⟩:=aiM (f:=fun n=>(s n).fr (J n)) (a:=A) (B - A - 1);have dI:q < B:=ad;have V:∀ n,A<=n->n < B->(s n).fr (J n)<=(s q).fr (J q):=fun n h1 h2=>V n h1 ad;generalize ht:(s q).fr (J q)=t at V;have htq:¬ (s q).Hq m t:=ht ▸ L q _ (st q).1.lt;have enters:∀ u p,A<=p->p < B->(s p).Hq m u->¬ (s q).Hq m u->∃ n,A<=n/\n < B/\(s n).fr (J n)=u:=fun u p h1 h2 h3 h4=>vD fun x=>by
  have x:∀ n,A<=n->n < B->(s n).fr (J n)≠u:=fun n v D e=>x ⟨n,v,D,e⟩;have E:=out q (B - q) u h4 fun n v D=>x n ad ad;rw [show q+(B - q)=B by omega] at E;have F:=out A (p - A) u (fun h=>E (N u h)) fun n v D=>x n ad ad;rw [show A+(p - A)=p by omega] at F;exact F h3
 obtain ⟨p,D1,FB,G⟩:∃ p,A<=p/\p < B/\(s p).je (I p)=t:=vD fun x=>by
  have x:∀ n,A<=n->n < B->(s n).je (I n)≠t:=fun n v D e=>x ⟨n,v,D,e⟩;have e0:(s (q+1)).Hq m t:=(hB q t).2 (.inr ht.symm);have E:=U (q+1) (B - (q+1)) t e0 fun n v D=>x n ad ad;rw [show q+1+(B - (q+1))=B by omega] at E;have F:=U A (q - A) t (auw t E) fun n v D=>x n ad ad;rw [show A+(q - A)=q by omega] at F;exact htq F
 -- the direction of the step in which it goes out
 have H:=(st p).1.lt;have y1:=wv (g p) (one ((s p).fr (J p)));have y0:=wv (g p) yP;have g1:(s p).v+(s p).g (J p)=(s q).gv k ((s p).ext m k (one ((s p).fr (J p)))):=by
  rw [<- (z p q).gv _ y1,Hp (g p),WK (g p) H]
 have g0:(s p).v=(s q).gv k ((s p).ext m k yP):=by rw [<- (z p q).gv _ y0,Hp (g p),Nr]
 let d:Nat->Rat:=fun u=>(s p).ext m k (one ((s p).fr (J p))) u - (s p).ext m k yP u
 have hd:(s p).g (J p)=b7 k fun j=>(s q).g j * d ((s q).fr j):=by
  have e:b7 k (fun j=>(s q).g j * (s p).ext m k (one ((s p).fr (J p))) ((s q).fr j))=b7 k (fun j=>(s q).g j * d ((s q).fr j)+(s q).g j * (s p).ext m k yP ((s q).fr j)):=aK fun j _=>by
   show _=_ * (_ - _)+_;grind
  rw [ua] at e;unfold gv at g1 g0;rw [e] at g1;rw [g0] at g1;grind
 obtain ⟨j,o,w⟩:=YN (by rw [<- hd];exact (st p).1.pos);generalize W:(s q).fr j=r at w;have hrq:¬ (s q).Hq m r:=W ▸ L q j o;have hru:r < m+k:=W ▸ (g q).fl j o
 -- Bland's choice at q
 have X:t<=r\/(s q).g j<=0:=by
  by_cases h:0 < (s q).g j
  ·exact .inl (by rw [<- ht,<- W];exact (st q).1.min j o h)
  ·exact .inr (Rat.not_lt.1 h)
 have auA:∀ i,i < m->(s p).je i=t->(s p).a i (J p) < 0:=fun i hi e=>by
  rw [(g p).bi i (I p) hi (st p).2.1.lt (e.trans G.symm)];exact (st p).2.1.neg
 rcases (g p).al r hru with ⟨i,hi,e⟩ | ⟨c,hc,e⟩
 ·have K:d r=(s p).a i (J p):=by
   show (s p).ext m k _ r - (s p).ext m k yP r=_;rw [<- e,BD (g p) hi,BD (g p) hi,row_one (g p) H,zD];grind
  rw [K] at w;obtain ⟨n,n1,n2,n3⟩:=enters r p D1 FB ⟨i,hi,e⟩ hrq;have hrt:r<=t:=n3 ▸ V n n1 n2
  by_cases Y:r=t
  ·have h1:=auA i hi (e.trans Y);have h2:0 < (s q).g j:=by
    rw [(g q).fi j (J q) o (st q).1.lt (W.trans (Y.trans ht.symm))];exact (st q).1.pos
   have:=Rat.mul_pos h2 (show 0 < -((s p).a i (J p)) by grind);grind
  ·have hg:(s q).g j<=0:=X.resolve_left ad;have ha:(s p).a i (J p) < 0:=Rat.not_le.1 fun h=>by
    have:=Rat.mul_nonneg (show 0<=-((s q).g j) by grind) h;grind
   have hbr:(s p).b i=0:=by
    rw [hxb p D1 ad i hi,e,<- W];exact C q PV ad j o
   have hz:(s p).ratio (J p) i=0:=by unfold ratio;rw [hbr];grind
   rcases (st p).2.1.min i hi ha with h | ⟨_,h⟩
   ·rw [S p D1 FB,hz] at h;exact absurd h ak
   ·rw [G,e] at h;omega
 ·have K:d r=one ((s p).fr (J p)) r:=by
   show (s p).ext m k _ r - (s p).ext m k yP r=_;rw [<- e,EW (g p) hc,EW (g p) hc];unfold yP;grind
  rw [K] at w;unfold one at w;split at w
  ·rename_i Z;have hle:r<=t:=Z ▸ V p D1 FB;have x:r≠t:=fun h=>(g p).bf (I p) (J p) (st p).2.1.lt H (by rw [G,<- Z,h]);have hg:(s q).g j<=0:=X.resolve_left ad;grind
  ·grind
theorem aiN {m k:Nat} {D:bH} (hw:D.WF m k) (d:D.Xk m):Acc (fun a b=>Step m k b a) D:=vD fun e=>by
 have c:∀ x:{ x:bH // ¬ Acc (fun a b=>Step m k b a) x },∃ y:{ x:bH // ¬ Acc (fun a b=>Step m k b a) x },Step m k x.1 y.1:=fun x=>vD fun q=>x.2 (.intro _ fun y f=>vD fun g=>q ⟨⟨y,g⟩,f⟩)
 let s:Nat->{ x:bH // ¬ Acc (fun a b=>Step m k b a) x }:=fun n=>Nat.rec ⟨D,e⟩ (fun _ x=>Classical.choose (c x)) n
 exact abH (s:=fun n=>(s n).1) hw d fun n=>Classical.choose_spec (c (s n))
end bH
end Go.Den
namespace Go.Den
open Go.Ab
namespace bH
structure N7 (D:bH) (m k s:Nat):Prop where
 a:∀ i j,i < m->j < k->RB (D.a i j) s
 b:∀ i,i < m->RB (D.b i) s
 g:∀ j,j < k->RB (D.g j) s
 v:RB D.v s
theorem RB1:RB 1 1:=RB.int (z:=1) (ZB.small ak) ak
theorem N7.sK {D:bH} {m k s i j:Nat} (h:D.N7 m k s) (h1:1<=s) (hi:i < m) (a:j < k) (b:D.a i j≠0) {c:Nat} (d:c < k):RB (D.sK i j c) (2 * s):=by
 unfold bH.sK;split
 ·exact (RB1.div (h.a i j hi a) b).le ad
 ·exact ((h.a i c hi d).div (h.a i j hi a) b).neg.le ad
theorem N7.mc {D:bH} {m k s i j:Nat} (h:D.N7 m k s) (h1:1<=s) (hi:i < m) (a:j < k) (e:D.a i j≠0):(D.mc i j).N7 m k (5 * s):=by
 have f:RB (D.pb i j) (2 * s):=((h.b i hi).div (h.a i j hi a) e).neg.le ad;refine ⟨fun r c b d=>?_,fun r b=>?_,fun c d=>?_,((h.v).add ((h.g j a).mul f)).le ad⟩
 ·have hw:=h.sK h1 hi a e d;simp only [bH.mc];split
  ·exact hw.le ad
  ·split
   ·exact ((h.a r j b a).mul hw).le ad
   ·exact ((h.a r c b d).add ((h.a r j b a).mul hw)).le ad
 ·simp only [bH.mc];split
  ·exact f.le ad
  ·exact ((h.b r b).add ((h.a r j b a).mul f)).le ad
 ·have hw:=h.sK h1 hi a e d;simp only [bH.mc];split
  ·exact ((h.g j a).mul hw).le ad
  ·exact ((h.g c d).add ((h.g j a).mul hw)).le ad
open Classical in
noncomputable def tz (p:Nat->Prop):Nat->Nat
 | 0=>0
 | n+1=>tz p n+if p n then 1 else 0
theorem WN {p:Nat->Prop}:∀ n,tz p n<=n
 | 0=>aV _
 | n+1=>by have:=WN (p:=p) n;rw [tz];split<;>omega
theorem Hs {p q:Nat->Prop}:∀ {n:Nat},(∀ i,i < n->q i->p i)->tz q n<=tz p n
 | 0,_=>aV _
 | n+1,h=>by
  have:=Hs (p:=p) (q:=q) (n:=n) fun i hi=>h i ad;have a:=h n ad;rw [tz,tz]
  by_cases h1:q n
  ·simp only [h1,a h1,if_true];omega
  ·simp only [h1,if_false];omega
theorem aiO {p q:Nat->Prop}:∀ {n i:Nat},(∀ i,i < n->q i->p i)->i < n->p i->¬ q i->tz q n < tz p n
 | 0,i,_,hi,_,_=>ad
 | n+1,i,h,hi,h1,h2=>by
  have a:=h n ad;rw [tz,tz]
  by_cases e:i=n
  ·subst e;have:=Hs (p:=p) (q:=q) (n:=i) fun i hi=>h i ad;simp only [h1,h2,if_true,if_false];omega
  ·have:=aiO (p:=p) (q:=q) (n:=n) (i:=i) (fun i hi=>h i ad) ad h1 h2
   by_cases h3:q n
   ·simp only [h3,a h3,if_true];omega
   ·simp only [h3,if_false];omega
theorem YO {p:Nat->Prop}:∀ {n:Nat},tz p n=0->∀ i,i < n->¬ p i
 | 0,_,i,hi=>ad
 | n+1,h,i,hi=>by
  rw [tz] at h
  by_cases e:i=n
  ·subst e;intro a;simp only [a,if_true] at h;omega
  ·exact YO (n:=n) ad i ad
def dir (D:bH) (m k j:Nat) (u:Nat):Rat:=D.ext m k (one (D.fr j)) u - D.ext m k yP u
theorem adf {D:bH} {m k i j:Nat} (h:D.WF m k) (hi:i < m) (a:j < k):D.dir m k j (D.je i)=D.a i j:=by
 unfold dir;rw [BD h hi,BD h hi,row_one h a,zD];grind
theorem So {D:bH} {m k c j:Nat} (h:D.WF m k) (a:c < k) (b:j < k):D.dir m k j (D.fr c)=if c=j then 1 else 0:=by
 unfold dir;rw [EW h a,EW h a];unfold one yP
 by_cases e:c=j
 ·subst e;rw [if_pos rfl,if_pos rfl];grind
 ·rw [if_neg e,if_neg fun q=>e (h.fi _ _ a b q)];grind
theorem YP {D D':bH} {m k j:Nat} (a:D'.WF m k) (e:J7 m k D' D) (b:∀ c,c < k->D'.dir m k j (D.fr c)=0) {i:Nat} (hi:i < m):D'.dir m k j (D.je i)=0:=by
 have d:=(e.Xj _).1 (wv a (one (D'.fr j)));have f:=(e.Xj _).1 (wv a yP);unfold dir;rw [Hr d (y:=D'.ext m k yP) (fun c g=>by have:=b c g;unfold dir at this;grind) hi,Hr f (y:=D'.ext m k yP) (fun _ _=>rfl) hi];grind
theorem Uz {D D':bH} {m k:Nat} (h:D.WF m k) (a:D'.WF m k) (e:J7 m k D D') (n:∀ u,D.Hq m u->D'.Hq m u) {j:Nat} (b:j < k):∃ j',j' < k/\D'.fr j'=D.fr j:=by
 refine Ie a (h.fl j b) fun ⟨i',g,q⟩=>?_;have:=YP (D:=D') (D':=D) (j:=j) h e (fun c d=>?_) g
 ·rw [q,So h b b,if_pos rfl] at this;exact absurd this ak
 ·obtain ⟨v,o,l⟩:=Ie h (a.fl c d) fun ⟨i,hi,p⟩=>by
   obtain ⟨r,f,s⟩:=n _ ⟨i,hi,p⟩;exact a.bf r c f d s
  rw [<- l,So h o b,if_neg fun t=>a.bf i' c g d (by rw [q,<- l,t])]
theorem Sp {m k:Nat} {D:bH} (h:D.WF m k):∀ (n:Nat) {D':bH} {s:Nat},D'.WF m k->J7 m k D' D->D'.N7 m k s->1<=s->tz (fun i=>¬ D'.Hq m (D.je i)) m<=n->D.N7 m k (5 ^ n * s)
 | n,D',s,b,e,l,h1,w=>by
  by_cases E:tz (fun i=>¬ D'.Hq m (D.je i)) m=0
  ·have o:∀ u,D.Hq m u->D'.Hq m u:=fun u ⟨i,hi,q⟩=>q ▸ Classical.not_not.1 (YO E i hi);obtain ⟨u1,u2,F,G⟩:=uniq h b e.symm o;have x:s<=5 ^ n * s:=Nat.le_mul_of_pos_left _ (Nat.pow_pos ak);refine ⟨fun i j hi p=>?_,fun i hi=>?_,fun j p=>?_,by rw [G];exact l.v.le x⟩
   ·obtain ⟨i',g,q⟩:=o _ ⟨i,hi,rfl⟩;obtain ⟨j',a,d⟩:=Uz h b e.symm o p;rw [u2 i j i' j' hi g p a q.symm d.symm];exact (l.a _ _ g a).le x
   ·obtain ⟨i',g,q⟩:=o _ ⟨i,hi,rfl⟩;rw [u1 i i' hi g q.symm];exact (l.b _ g).le x
   ·obtain ⟨j',a,d⟩:=Uz h b e.symm o p;rw [F j j' p a d.symm];exact (l.g _ a).le x
  ·obtain ⟨i,hi,t⟩:∃ i,i < m/\¬ D'.Hq m (D.je i):=vD fun q=>E (by
    have:tz (fun i=>¬ D'.Hq m (D.je i)) m<=tz (fun _=>False) m:=Hs fun i hi v=>q ⟨i,hi,v⟩;have y:∀ n,tz (fun _=>False) n=0:=fun n=>by
     induction n with
     | zero=>rfl
     | succ n H=>rw [tz,H];simp
    rw [y] at this;omega)
   obtain ⟨j',a,z⟩:=Ie b (h.bl i hi) t;obtain ⟨r,f,y,A⟩:∃ r,r < m/\D'.a r j'≠0/\¬ D.Hq m (D'.je r):=vD fun q=>by
    have:=YP (D:=D) (D':=D') (j:=j') b e (fun c w=>?_) hi
    ·rw [<- z,So b a a,if_pos rfl] at this;exact absurd this ak
    ·rcases b.al _ (h.fl c w) with ⟨r,f,d⟩ | ⟨N,I,d⟩
     ·rw [<- d,adf b f a];refine vD fun B=>q ⟨r,f,B,fun ⟨J,C,K⟩=>h.bf J c C w (K.trans d)⟩
     ·rw [<- d,So b I a,if_neg fun B=>h.bf i c hi w (by rw [<- z,<- d,B])]
   have O:tz (fun i=>¬ (D'.mc r j').Hq m (D.je i)) m < tz (fun i=>¬ D'.Hq m (D.je i)) m:=by
    refine aiO (i:=i) (fun i' g v L=>v ((WL b f).2 (.inl ⟨L,fun q=>A ⟨i',g,q⟩⟩))) hi t fun v=>v ((WL b f).2 (.inr z.symm))
   obtain ⟨n,rfl⟩:∃ M,n=M+1:=⟨n - 1,ad⟩;have:=Sp h n (b.mc f a) ((J7.mc f a y).symm.trans e) (l.mc h1 f a y) ad ad;rwa [<- Nat.mul_assoc,<- Nat.pow_succ] at this
theorem size {m k s:Nat} {D D':bH} (h:D.WF m k) (a:D'.WF m k) (e:J7 m k D' D) (b:D'.N7 m k s) (h1:1<=s):D.N7 m k (5 ^ m * s):=Sp h m a e b h1 (WN m)
theorem adg {p:Nat->Prop} (a:Nat):∀ n,tz p n<=tz (fun i=>p i/\i≠a) n+1
 | 0=>by rw [tz];omega
 | n+1=>by
  have c:=adg (p:=p) a n;rw [tz,tz]
  by_cases h1:p n
  ·by_cases h2:n=a
   ·have:tz p n<=tz (fun i=>p i/\i≠a) n:=Hs fun i hi b=>⟨b,ad⟩;rw [if_pos h1,if_neg fun q=>q.2 h2];omega
   ·rw [if_pos h1,if_pos (⟨h1,h2⟩:p n/\n≠a)];omega
  ·rw [if_neg h1,if_neg fun q=>h1 q.1];omega
theorem WO:∀ (k:Nat) {p:Nat->Prop} {n:Nat} (f:Nat->Nat),(∀ i,i < n->p i->f i < k)->(∀ i i',i < n->i' < n->p i->p i'->f i=f i'->i=i')->tz p n<=k
 | 0,p,n,f,h,_=>by
  have:tz p n<=tz (fun _=>False) n:=Hs fun i hi g=>absurd (h i hi g) (dX _);have m:∀ n,tz (fun _=>False) n=0:=fun n=>by
   induction n with
   | zero=>rfl
   | succ n o=>rw [tz,o];simp
  rw [m] at this;exact this
 | k+1,p,n,f,h,hi=>by
  by_cases e:∃ i,i < n/\p i/\f i=k
  ·obtain ⟨l,h1,h2,h3⟩:=e;have q:=WO k (p:=fun i=>p i/\i≠l) (n:=n) f (fun i j ⟨g,r⟩=>by
    have:=h i j g;have h4:f i≠k:=fun q=>r (hi i l j h1 g h2 (q.trans h3.symm));omega) fun i i' a b c d=>hi i i' a b c.1 d.1
   have:=adg (p:=p) l n;omega
  ·have:=WO k f (p:=p) (n:=n) (fun i j g=>by
    have:=h i j g;have h4:f i≠k:=fun q=>e ⟨i,j,g,q⟩;omega) hi
   omega
theorem YQ {m k s e5:Nat} {D D':bH} (c:m<=e5\/k<=e5) (h:D.WF m k) (l:D'.WF m k) (e:J7 m k D' D) (p:D'.N7 m k s) (h1:1<=s):D.N7 m k (5 ^ e5 * s):=by
 refine Sp h e5 l e p h1 ?_;rcases c with c | c
 ·exact gG (WN m) c
 ·refine gG ?_ c;have key:∀ i,∃ j,i < m->¬ D'.Hq m (D.je i)->j < k/\D'.fr j=D.je i:=fun i=>by
   by_cases hi:i < m
   ·by_cases n:D'.Hq m (D.je i)
    ·exact ⟨0,fun _ q=>absurd n q⟩
    ·obtain ⟨j,r,q⟩:=Ie l (h.bl i hi) n;exact ⟨j,fun _ _=>⟨r,q⟩⟩
   ·exact ⟨0,fun q=>absurd q hi⟩
  obtain ⟨f,d⟩:=Classical.axiomOfChoice key;refine WO k f (fun i hi g=>(d i hi g).1) fun i i' hi o g t q=>?_;have a:=(d i hi g).2;have b:=(d i' o t).2;rw [q] at a;exact h.bi i i' hi o (a.symm.trans b)
end bH
end Go.Den
namespace Go.Den
open Go.Ab
theorem Ns (m n:Nat) (f:Nat->Nat->Rat):b7 m (fun i=>b7 n fun j=>f i j)=b7 n fun j=>b7 m fun i=>f i j:=by
 induction m with
 | zero=>show (0:Rat)=_;rw [show (fun j=>b7 0 fun i=>f i j)=fun _=>(0:Rat) from rfl,mD]
 | succ m a=>simp only [b7];rw [a,<- ua]
theorem sL (m n:Nat) (f:Nat->Rat):b7 (m+n) f=b7 m f+b7 n fun i=>f (m+i):=by
 induction n with
 | zero=>show b7 m f=b7 m f+0;grind
 | succ n a=>rw [show m+(n+1)=m+n+1 by omega,b7,b7,a];grind
theorem Ht (n:Nat) (f g:Nat->Rat):b7 n (fun i=>f i - g i)=b7 n f - b7 n g:=by
 have e:(fun i=>f i - g i)=fun i=>f i+(-1) * g i:=by funext i;grind
 rw [e,ua,jJ];grind
namespace bH
def sc (t:Rat) (u:Nat):Nat->Rat:=fun w=>if w=u then t else 0
theorem aoE {D:bH} {m k j:Nat} (h:D.WF m k) (a:j < k) (t:Rat) (i:Nat):D.row k (sc t (D.fr j)) i=D.b i+D.a i j * t:=by
 unfold row sc;rw [ll a _ fun c b d=>by rw [if_neg fun e=>d (h.fi _ _ b a e)];grind];rw [if_pos rfl]
theorem aqT {D:bH} {m k j:Nat} (h:D.WF m k) (a:j < k) (t:Rat):D.gv k (sc t (D.fr j))=D.v+D.g j * t:=by
 unfold gv sc;rw [ll a _ fun c b d=>by rw [if_neg fun e=>d (h.fi _ _ b a e)];grind];rw [if_pos rfl]
def gc (D:bH) (k u:Nat):Rat:=b7 k fun j=>if D.fr j=u then D.g j else 0
theorem adh {D:bH} {m k j:Nat} (h:D.WF m k) (a:j < k):D.gc k (D.fr j)=D.g j:=by
 unfold gc;rw [ll a _ fun c b d=>if_neg fun e=>d (h.fi _ _ b a e),if_pos rfl]
theorem Pp {D:bH} {k u:Nat} (h:∀ j,j < k->D.fr j≠u):D.gc k u=0:=by
 unfold gc;rw [aK (g:=fun _=>0) fun j a=>if_neg (h j a),mD]
theorem aiP {D:bH} {m k:Nat} (h:D.WF m k) (x:Nat->Rat):D.gv k x=D.v+b7 (m+k) fun u=>D.gc k u * x u:=by
 unfold gv;congr 1;have e:(fun u=>D.gc k u * x u)=fun u=>b7 k fun j=>x u * (if D.fr j=u then D.g j else 0):=by
  funext u;rw [jJ];unfold gc;grind
 rw [e,Ns];refine aK fun j a=>?_;rw [ll (h.fl j a) _ fun u _ b=>by rw [if_neg fun q=>b q.symm];grind];rw [if_pos rfl];grind
section
variable (n m:Nat) (C:Nat->Nat->Rat) (B:Nat->Rat)
def fst (z:Rat):bH where
 je:=fun i=>2 * n+i
 fr:=fun j=>if j < 2 * n then j else 2 * n+m
 a:=fun i j=>if j < n then -(C i j) else if j < 2 * n then C i (j - n) else 1
 b:=B
 g:=fun j=>if j < 2 * n then 0 else z
 v:=0
theorem WQ (z:Rat):(fst n m C B z).WF m (2 * n+1):=by
 refine ⟨fun i i' _ _ e=>?_,fun j j' a b e=>?_,fun i j hi a e=>?_,fun i hi=>?_,fun j a=>?_,fun u c=>?_⟩
 ·simp only [fst] at e;omega
 ·simp only [fst] at e;split at e<;>split at e<;>omega
 ·simp only [fst] at e;split at e<;>omega
 ·simp only [fst];omega
 ·simp only [fst];split<;>omega
 ·by_cases h:u < 2 * n
  ·exact .inr ⟨u,ad,by simp only [fst];rw [if_pos h]⟩
  ·by_cases h2:u=2 * n+m
   ·exact .inr ⟨2 * n,ad,by simp only [fst];rw [if_neg ad];exact h2.symm⟩
   ·exact .inl ⟨u - 2 * n,ad,by simp only [fst];omega⟩
def jk (p:Nat->Rat) (i:Nat):Rat:=b7 n fun j=>C i j * p j
theorem adi (z:Rat) (x:Nat->Rat) (i:Nat):(fst n m C B z).row (2 * n+1) x i=B i - jk n C (fun j=>x j - x (n+j)) i+x (2 * n+m):=by
 unfold row jk;have b:b7 (2 * n) (fun j=>(fst n m C B z).a i j * x ((fst n m C B z).fr j)) = - b7 n fun j=>C i j * (x j - x (n+j)):=by
  rw [show 2 * n=n+n by omega,sL];have c:b7 n (fun j=>(fst n m C B z).a i j * x ((fst n m C B z).fr j))=b7 n fun j=>(-1) * (C i j * x j):=aK fun j a=>by
   simp only [fst];rw [if_pos a,if_pos ad];grind
  have d:b7 n (fun j=>(fst n m C B z).a i (n+j) * x ((fst n m C B z).fr (n+j)))=b7 n fun j=>C i j * x (n+j):=aK fun j a=>by
   simp only [fst];rw [if_neg ad,if_pos ad,if_pos ad,show n+j - n=j by omega]
  rw [c,d,jJ,show (fun j=>C i j * (x j - x (n+j)))=fun j=>C i j * x j - C i j * x (n+j) by funext j;grind,Ht];grind
 rw [b7,b];have e5:(fst n m C B z).a i (2 * n)=1:=by simp only [fst];rw [if_neg ad,if_neg ad]
 have e:(fst n m C B z).fr (2 * n)=2 * n+m:=by simp only [fst];rw [if_neg ad]
 have f:(fst n m C B z).b i=B i:=rfl;rw [e5,e,f];grind
theorem aiQ (z:Rat) (x:Nat->Rat):(fst n m C B z).gv (2 * n+1) x=z * x (2 * n+m):=by
 unfold gv;rw [ll (j:=2 * n) ad _ fun j c d=>by simp only [fst];rw [if_pos ad];grind];have e5:(fst n m C B z).g (2 * n)=z:=by simp only [fst];rw [if_neg ad]
 have a:(fst n m C B z).fr (2 * n)=2 * n+m:=by simp only [fst];rw [if_neg ad]
 have b:(fst n m C B z).v=0:=rfl;rw [e5,a,b];grind
theorem Pq (z:Rat) (x:Nat->Rat):(fst n m C B z).K7 m (2 * n+1) x↔∀ i,i < m->x (2 * n+i)=B i - jk n C (fun j=>x j - x (n+j)) i+x (2 * n+m):=by
 unfold K7;constructor
 ·intro h i hi;rw [<- adi n m C B z];exact h i hi
 ·intro h i hi;rw [adi];exact h i hi
theorem aiR (z:Rat) (D:bH) (x:Nat->Rat) (h:J7 m (2 * n+1) (fst n m C B z) D):D.K7 m (2 * n+1) x↔(fst n m C B 0).K7 m (2 * n+1) x:=by
 rw [<- h.Xj,Pq,Pq]
def Hu (y:Nat->Rat) (u:Nat):Rat:=if 2 * n<=u/\u < 2 * n+m then B (u - 2 * n) - jk n C (fun j=>y j - y (n+j)) (u - 2 * n)+y (2 * n+m) else y u
theorem Sq (z:Rat) (y:Nat->Rat):(fst n m C B z).K7 m (2 * n+1) (Hu n m C B y):=(Pq n m C B z _).2 fun i hi=>by
 have a:Hu n m C B y (2 * n+i)=B i - jk n C (fun j=>y j - y (n+j)) i+y (2 * n+m):=by
  unfold Hu;rw [if_pos ⟨ad,ad⟩,show 2 * n+i - 2 * n=i by omega]
 have b:Hu n m C B y (2 * n+m)=y (2 * n+m):=by unfold Hu;rw [if_neg ad]
 have c:jk n C (fun j=>Hu n m C B y j - Hu n m C B y (n+j)) i=jk n C (fun j=>y j - y (n+j)) i:=by
  unfold jk;refine aK fun j d=>?_;show C i j * (Hu n m C B y j - Hu n m C B y (n+j))=C i j * (y j - y (n+j));unfold Hu;rw [if_neg ad,if_neg ad]
 rw [a,b,c]
theorem aeF {low:Nat} (d:low < m) (e:B low < 0) (a:∀ r,r < m->B low<=B r):((fst n m C B (-1)).mc low (2 * n)).Xk m:=fun r b=>by
 have e5:∀ r,(fst n m C B (-1)).a r (2 * n)=1:=fun r=>by simp only [fst];rw [if_neg ad,if_neg ad]
 have c:∀ r,(fst n m C B (-1)).b r=B r:=fun _=>rfl;simp only [bH.mc,pb,e5,c];have:=a r b;split<;>grind
variable {n m C B} {D:bH} (hw:D.WF m (2 * n+1)) (he:J7 m (2 * n+1) (fst n m C B (-1)) D)
include hw he in
theorem abI {x:Nat->Rat} (a:D.K7 m (2 * n+1) x):D.gv (2 * n+1) x = -(x (2 * n+m)):=by
 have:=hw;rw [<- he.gv x ((he.Xj x).2 a),aiQ];grind
theorem Sr {m k:Nat} (hw:D.WF m k) {y:Nat->Rat} (a:∀ i,i < m->0<=D.row k y i) (b:∀ u,0<=y u) (u:Nat) (c:u < m+k):0<=D.ext m k y u:=by
 rcases hw.al u c with ⟨i,hi,e⟩ | ⟨j,d,e⟩
 ·rw [<- e,BD hw hi];exact a i hi
 ·rw [<- e,EW hw d];exact b _
theorem Nt {m k:Nat} (hw:D.WF m k) (a:D.Xk m) (u:Nat) (b:u < m+k):0<=D.ext m k yP u :=
 Sr hw (y:=yP) (fun i hi=>by rw [zD];exact a i hi) (fun _=>Rat.le_refl) u b
include hw he in
theorem Ss:D.v = -(D.ext m (2 * n+1) yP (2 * n+m)):=by
 rw [<- abI hw he (wv hw yP),Hp hw,Nr]
include hw he in
theorem alx (c:D.Xk m) (a:(∀ j,j < 2 * n+1->D.g j<=0)\/∃ j,D.Po (2 * n+1) j/\∀ i,i < m->0<=D.a i j):∀ j,j < 2 * n+1->D.g j<=0:=by
 rcases a with h | ⟨j,b,d⟩
 ·exact h
 ·exfalso;have k:D.v<=0:=by rw [Ss hw he];have:=Nt hw c (2 * n+m) ad;grind
  have e:=b.pos;have f:0<=(1 - D.v) / D.g j:=Sm e (by grind);have g:=wv hw (sc ((1 - D.v) / D.g j) (D.fr j));have h1:=abI hw he g;rw [Hp hw,aqT hw b.lt] at h1;have h2:=Sr hw (y:=sc ((1 - D.v) / D.g j) (D.fr j)) (fun i hi=>by
   rw [aoE hw b.lt];have:=Rat.mul_nonneg (d i hi) f;have:=c i hi;grind) (fun u=>by unfold sc;split<;>grind) (2 * n+m) ad
  have h3:D.g j * ((1 - D.v) / D.g j)=1 - D.v:=by grind
  rw [h3] at h1;grind
include hw he in
theorem aqV (q:∀ j,j < 2 * n+1->D.g j<=0):(∀ u,D.gc (2 * n+1) u<=0)/\(∀ j,j < n->b7 m (fun i=>-(D.gc (2 * n+1) (2 * n+i)) * C i j)=0)/\b7 m (fun i=>-(D.gc (2 * n+1) (2 * n+i)) * B i)=D.v:=by
 have a:∀ u,D.gc (2 * n+1) u<=0:=fun u=>by
  by_cases h:∃ j,j < 2 * n+1/\D.fr j=u
  ·obtain ⟨j,b,rfl⟩:=h;rw [adh hw b];exact q j b
  ·rw [Pp fun j b e=>h ⟨j,b,e⟩];exact Rat.le_refl
 generalize r:D.gc (2 * n+1)=G at a ⊢;have key:∀ y:Nat->Rat,-(y (2 * n+m))=D.v+(b7 (2 * n) (fun u=>G u * y u)+b7 m (fun i=>G (2 * n+i) * (B i - jk n C (fun j=>y j - y (n+j)) i+y (2 * n+m)))+G (2 * n+m) * y (2 * n+m)):=fun y=>by
  have h1:=abI hw he ((he.Xj _).1 (Sq n m C B (-1) y));rw [aiP hw,r,show m+(2 * n+1)=(2 * n+m)+1 by omega,b7,sL] at h1;have t:∀ u,u < 2 * n->Hu n m C B y u=y u:=fun u k=>by unfold Hu;rw [if_neg ad]
  have v:Hu n m C B y (2 * n+m)=y (2 * n+m):=by unfold Hu;rw [if_neg ad]
  have x:∀ i,i < m->Hu n m C B y (2 * n+i)=B i - jk n C (fun j=>y j - y (n+j)) i+y (2 * n+m):=fun i hi=>by
   unfold Hu;rw [if_pos ⟨ad,ad⟩,show 2 * n+i - 2 * n=i by omega]
  rw [aK (n:=2 * n) (g:=fun u=>G u * y u) fun u k=>by rw [t u k],aK (n:=m) (g:=fun i=>G (2 * n+i) * (B i - jk n C (fun j=>y j - y (n+j)) i+y (2 * n+m))) fun i hi=>by rw [x i hi],v] at h1;exact h1.symm
 have d:=key yP;have z:∀ i,jk n C (fun j=>yP j - yP (n+j)) i=0:=fun i=>by
  unfold jk yP;rw [aK (g:=fun _=>0) fun j _=>by grind,mD]
 have z0:b7 m (fun i=>G (2 * n+i) * (B i - jk n C (fun j=>yP j - yP (n+j)) i+yP (2 * n+m)))=b7 m fun i=>G (2 * n+i) * B i:=aK fun i _=>by
  rw [z];unfold yP;grind
 rw [z0,aK (n:=2 * n) (g:=fun _=>0) fun u _=>by unfold yP;grind,mD] at d;have d:b7 m (fun i=>G (2 * n+i) * B i) = -D.v:=by unfold yP at d;grind
 have un:∀ (u:Nat) (s:Rat),u < 2 * n->(∀ i,i < m->jk n C (fun j=>one u j - one u (n+j)) i=s * C i (if u < n then u else u - n))->G u=s * b7 m fun i=>G (2 * n+i) * C i (if u < n then u else u - n):=fun u s k A=>by
  have o:=key (one u);have z1:one u (2 * n+m)=0:=if_neg ad;rw [z1,ll k (fun w=>G w * one u w) fun w _ l=>by unfold one;rw [if_neg l];grind] at o;rw [aK (n:=m) (g:=fun i=>G (2 * n+i) * B i+(-s) * (G (2 * n+i) * C i (if u < n then u else u - n))) fun i hi=>by rw [A i hi];grind,ua,jJ,d] at o;have:one u u=1:=if_pos rfl;rw [this] at o;grind
 have p:∀ f:Nat->Rat,b7 m (fun i=>-(G (2 * n+i)) * f i) = -(b7 m fun i=>G (2 * n+i) * f i):=fun f=>by
  rw [show (fun i=>-(G (2 * n+i)) * f i)=fun i=>(-1) * (G (2 * n+i) * f i) by funext i;grind,jJ];grind
 refine ⟨a,fun j b=>?_,by rw [p,d];grind⟩;have E:=un j 1 ad fun i hi=>by
  unfold jk;rw [ll b _ fun c F l=>by show C i c * (one j c - one j (n+c))=0;unfold one;rw [if_neg l,if_neg ad];grind];show C i j * (one j j - one j (n+j))=_;unfold one;rw [if_pos rfl,if_neg ad,if_pos b];grind
 have H:=un (n+j) (-1) ad fun i hi=>by
  unfold jk;rw [ll b _ fun c F l=>by show C i c * (one (n+j) c - one (n+j) (n+c))=0;unfold one;rw [if_neg ad,if_neg ad];grind];show C i j * (one (n+j) j - one (n+j) (n+j))=_;unfold one;rw [if_pos rfl,if_neg ad,if_neg ad,show n+j - n=j by omega];grind
 rw [if_pos b] at E;rw [if_neg ad,show n+j - n=j by omega] at H;have I:=a j;have J:=a (n+j);rw [p];grind
include hw he in
include hw he in
theorem abJ {i:Nat} (hi:i < m) (e:D.je i=2 * n+m):∃ j,j < 2 * n+1/\D.a i j≠0:=vD fun f=>by
 have h:∀ j,j < 2 * n+1->D.a i j=0:=fun j c=>vD fun q=>f ⟨j,c,q⟩;have d:∀ x,D.K7 m (2 * n+1) x->x (2 * n+m)=D.b i:=fun x k=>by
  rw [<- e,k i hi];unfold row;rw [aK (g:=fun _=>0) fun j c=>by rw [h j c];grind,mD];grind
 have b:=d _ ((he.Xj _).1 (Sq n m C B (-1) yP));have a:=d _ ((he.Xj _).1 (Sq n m C B (-1) (one (2 * n+m))));have:=hw;unfold Hu at b a;rw [if_neg ad] at b a;unfold yP at b;unfold one at a;rw [if_pos rfl] at a;rw [<- b] at a;exact absurd a ak
theorem aiS {m i j:Nat} (a:D.Xk m) (b:D.b i=0):(D.mc i j).Xk m:=fun r c=>by
 have d:D.pb i j=0:=by unfold pb;rw [b,Rat.div_def,Rat.zero_mul];rfl
 simp only [bH.mc,d];have:=a r c;split
 ·exact Rat.le_refl
 ·grind
end
end bH
end Go.Den
namespace Go.Den
open Go.Ab
section
variable {α:Type}
def J8 (f:Nat->α) (n:Nat):List α:=(List.range n).map f
theorem wx (f:Nat->α) (n:Nat):(J8 f n).length=n:=by simp [J8]
theorem Pr (f:Nat->α) {n i:Nat} (d:α) (h:i < n):(J8 f n).getD i d=f i:=by simp [J8,h]
theorem xj {f g:Nat->α} {n:Nat} (h:∀ i,i < n->f i=g i):J8 f n=J8 g n:=by
 unfold J8;exact List.map_congr_left fun i hi=>h i (qh.1 hi)
theorem Su {l:List α} {f:Nat->α} {n:Nat} (d:α) (a:l.length=n) (h:∀ i,i < n->l.getD i d=f i):l=J8 f n:=by
 refine List.ext_getElem (by rw [a,wx]) fun i h1 h2=>?_;have:=h i ad;rw [jP,ub h1,Option.getD_some] at this;rw [this];simp [J8]
theorem Ps (f:Nat->α) (n i:Nat) (v:α):(J8 f n).set i v=J8 (fun a=>if a=i then v else f a) n:=by
 refine List.ext_getElem (by simp [J8]) fun a h1 h2=>?_;rw [List.getElem_set]
 by_cases e:i=a
 ·subst e;simp [J8]
 ·rw [if_neg e];simp [J8];intro q;exact absurd q.symm e
end
def LQ (f:Nat->Rat) (n:Nat):List aa:=J8 (fun i=>bB (f i)) n
def LN (f:Nat->Nat) (n:Nat):List Int:=J8 (fun i=>(f i:Int)) n
def LA (a:Nat->Nat->Rat) (m k:Nat):List (List aa):=J8 (fun i=>LQ (a i) k) m
theorem cQ (f:Nat->Rat) (n:Nat):(LQ f n).length=n:=wx _ _
theorem iY (f:Nat->Nat) (n:Nat):(LN f n).length=n:=wx _ _
theorem oe (a:Nat->Nat->Rat) (m k:Nat):(LA a m k).length=m:=wx _ _
theorem lv (f:Nat->Rat) {n i:Nat} (d:aa) (h:i < n):(LQ f n).getD i d=bB (f i):=Pr _ _ h
theorem yK (f:Nat->Nat) {n i:Nat} (d:Int) (h:i < n):(LN f n).getD i d=(f i:Int):=Pr _ _ h
theorem Cw (a:Nat->Nat->Rat) {m k i:Nat} (d:List aa) (h:i < m):(LA a m k).getD i d=LQ (a i) k:=Pr _ _ h
theorem qQ {f g:Nat->Rat} {n:Nat} (h:∀ i,i < n->f i=g i):LQ f n=LQ g n:=xj fun i hi=>by rw [h i hi]
theorem aiT {a b:Nat->Nat->Rat} {m k:Nat} (h:∀ i j,i < m->j < k->a i j=b i j):LA a m k=LA b m k:=xj fun i hi=>qQ fun j c=>h i j hi c
theorem EX (f:Nat->Rat) (n i:Nat) (q:Rat):(LQ f n).set i (bB q)=LQ (fun a=>if a=i then q else f a) n:=by
 unfold LQ;rw [Ps];exact xj fun a _=>by by_cases e:a=i<;>simp [e]
theorem aoF (f:Nat->Nat) (n i q:Nat):(LN f n).set i (q:Int)=LN (fun a=>if a=i then q else f a) n:=by
 unfold LN;rw [Ps];exact xj fun a _=>by by_cases e:a=i<;>simp [e]
theorem aiU (a:Nat->Nat->Rat) (m k i:Nat) (r:Nat->Rat):(LA a m k).set i (LQ r k)=LA (fun x=>if x=i then r else a x) m k:=by
 unfold LA;rw [Ps];exact xj fun a _=>by by_cases e:a=i<;>simp [e]
theorem RB.q {p:Rat} {s:Nat} (h:RB p s) (a:s<=MS):RQ (bB p) p MS:=(h.le a).rq ak
section
variable {k j s:Nat} {f:Rat} {F R:Nat->Rat}
theorem WR (u:k<=1000) (v:5 * s<=MS) (h1:1<=s) (o:RB f s) (t:∀ c,c < k->RB (F c) s) (i:∀ c,c < k->RB (R c) (2 * s)) {w:List aa} (p:w.length=k):∀ (d x:Nat) (G:Nat->Rat),x+d=k ->
  (∀ c,c < k->G c=if c < x then if c=j then f * R j else F c+f * R c else F c) ->
  aL (fun N g=>eh N (j:Int) (bB f) w (LQ R k) g (LQ G k) (x:Int)) (LQ (fun c=>if c=j then f * R j else F c+f * R c) k)
 | 0,x,G,y,l=>aL.succ (fun N g=>eh.eq_2 ..) (aL.a5 (Zw (m:=x) (n:=k) ad p) ((aL.one (Gv.pure _)).eq (qQ fun c h=>by rw [l c h,if_pos ad])))
 | d+1,x,G,y,l=>by
  have a:x < k:=ad;have hm:RB (f * R x) (3 * s):=(o.mul (i x a)).le ad;have r:=(o.q ad).mul ((i x a).q ad) (Pn ak);have A:G x=F x:=by rw [l x a,if_neg (yS x)]
  refine aL.succ (fun N g=>eh.eq_2 ..) (aL.aW (YK (n:=k) a p) ?_);simp only [ag,lv _ _ a,A,aw (show x < 9223372036854775807 by omega),ju,EX]
  by_cases e:x=j
  ·refine aL.aW (by simp [e]) (aL.if (inl a (cQ _ _)) (aL.bind r (aL.if (inl a (cQ _ _)) ?_)));simp only [EX];refine WR u v h1 o t i p d (x+1) _ ad fun c h=>?_
   by_cases q:c=x
   ·rw [if_pos q,if_pos ad,if_pos (q.trans e),e]
   ·rw [if_neg q,l c h]
    by_cases b:c < x
    ·simp only [b,show c < x+1 by omega,if_true]
    ·rw [if_neg b,if_neg ad]
  ·refine aL.a5 (by simp;omega) (aL.if (inl a (cQ _ _)) (aL.bind (((i x a).q ad).zero ak) ?_))
   by_cases z:R x=0
   ·refine aL.a5 (by simp [z]) (WR u v h1 o t i p d (x+1) _ ad fun c h=>?_);rw [l c h]
    by_cases b:c < x
    ·simp only [b,show c < x+1 by omega,if_true]
    ·rw [if_neg b]
     by_cases q:c=x
     ·rw [if_pos ad,if_neg ad,q,z];grind
     ·rw [if_neg ad]
   ·refine aL.aW (by simp [z]) (aL.if (inl a (cQ _ _)) (aL.bind r (aL.bind (((t x a).q ad).add (hm.q ad) (Pn ak)) ?_)));simp only [EX];refine WR u v h1 o t i p d (x+1) _ ad fun c h=>?_
    by_cases q:c=x
    ·rw [if_pos q,if_pos ad,if_neg ad,q]
    ·rw [if_neg q,l c h]
     by_cases b:c < x
     ·simp only [b,show c < x+1 by omega,if_true]
     ·rw [if_neg b,if_neg ad]
theorem aiV (a:k<=1000) (b:5 * s<=MS) (h1:1<=s) (d:RB f s) (e:∀ c,c < k->RB (F c) s) (g:∀ c,c < k->RB (R c) (2 * s)) :
  Gv (fun N=>lp N (j:Int) (bB f) (LQ F k) (LQ R k)) (LQ (fun c=>if c=j then f * R j else F c+f * R c) k) :=
 (WR a b h1 d e g (cQ F k) k 0 F ad fun c _=>(if_neg (dX c)).symm).diag
end
def RT (n m k h:Nat) (D:bH):ml×List Int×List Int×List (List aa)×List aa×List aa :=
 (⟨n,m,LN D.je m,LN D.fr k,LA D.a m k,LQ D.b m,LQ D.g k,bB D.v,h⟩,LN D.je m,LN D.fr k,LA D.a m k,LQ D.b m,LQ D.g k)
section
variable {n m k h i j s:Nat} {D:bH}
theorem YR (hi:i < m) (d:j < k) {A:Nat->Nat->Rat} {b:Nat->Rat} (e:∀ r c,r < m->c < k->r≠i->A r c=(D.mc i j).a r c) (f:∀ r,r < m->b r=(D.mc i j).b r) {G:Nat->Rat} (g:∀ c,c < k->G c=(D.mc i j).g c) {v:Rat} (l:v=(D.mc i j).v) (N:Nat) :
  jX N (i:Int) (j:Int) (n:Int) (m:Int) (h:Int) (LN D.je m) (LN D.fr k) (LA A m k) (LQ (D.sK i j) k) (LQ b m) (LQ G k) (bB v).fN.fG (bB v).fN.fL (bB v).fD.fG (bB v).fD.fL=some (RT n m k h (D.mc i j)):=by
 unfold jX;rw [if_pos (inl d (iY _ _)),if_pos (inl hi (iY _ _))];simp only [ag,yK _ _ hi,yK _ _ d,aoF,aiU];have o:=aiT (a:=fun x=>if x=i then D.sK i j else A x) (b:=(D.mc i j).a) (m:=m) (k:=k) fun r c p s=>by
  by_cases q:r=i
  ·simp only [q,if_true,bH.mc]
  ·simp only [q,if_false];exact e r c p s q
 rw [o,qQ f,qQ g,l];rfl
theorem K9 (hm:m<=1000) (B:k<=1000) (hi:i < m) (a:j < k) (C:5 * s<=MS) (h1:1<=s) (f:D.N7 m k s) (v:D.a i j≠0):∀ (d x:Nat) (A:Nat->Nat->Rat) (b:Nat->Rat),x+d=m ->
  (∀ r c,r < m->c < k->A r c=if r < x/\r≠i then (D.mc i j).a r c else D.a r c)->(∀ r,r < m->b r=if r=i\/r < x then (D.mc i j).b r else D.b r) ->
  aL (fun N g=>du N (i:Int) (j:Int) (n:Int) (m:Int) (bB D.v).fN.fG (bB D.v).fN.fL (bB D.v).fD.fG (bB D.v).fD.fL (h:Int) (LN D.je m) (LN D.fr k) (LA D.a m k) (LQ D.g k)
   g (LA A m k) (LQ (D.sK i j) k) (LQ b m) (x:Int)) (RT n m k h (D.mc i j))
 | 0,x,A,b,L,y,u=>by
  have E:RB (D.pb i j) (2 * s):=((f.b i hi).div (f.a i j hi a) v).neg.le ad;have w:b i=D.pb i j:=by rw [u i hi,if_pos (.inl rfl)];simp [bH.mc]
  have F:∀ r c,r < m->c < k->r≠i->A r c=(D.mc i j).a r c:=fun r c o l q=>by rw [y r c o l,if_pos ⟨ad,q⟩]
  have J:∀ r,r < m->b r=(D.mc i j).b r:=fun r o=>by rw [u r o,if_pos (.inr ad)]
  refine aL.succ (fun N g=>du.eq_2 ..) (aL.a5 (Zw (m:=x) (n:=m) ad (oe _ _ _)) ?_);simp only [ag,lv _ _ a,lv _ _ hi,w];refine aL.if (inl a (cQ _ _)) (aL.bind (((f.g j a).q ad).zero ak) ?_)
  by_cases z:D.g j=0
  ·refine aL.a5 (by simp [z]) (aL.if (by rw [oe];exact hi) (aL.one ⟨0,fun N _=>YR hi a F J (fun c _=>?_) ?_ N⟩))
   ·simp only [bH.mc,z]
    by_cases q:c=j
    ·rw [if_pos q,q,z];grind
    ·rw [if_neg q];grind
   ·simp only [bH.mc,z];grind
  ·refine aL.aW (by simp [z]) (aL.if (inl hi (cQ _ _)) (aL.bind (((f.g j a).q ad).mul (E.q ad) (Pn ak)) (aL.bind ((f.v.q ad).add ((((f.g j a).mul E).le (aV _)).q ad) (Pn ak))
    (aL.bind (aiV B C h1 (f.g j a) (fun c l=>f.g c l) (fun c l=>f.sK h1 hi a v l)) (aL.if (by rw [cQ,cQ]) (aL.if (by rw [oe];exact hi) (aL.one ⟨0,fun N _=>YR hi a F J (fun c _=>?_) rfl N⟩)))))))
   simp only [bH.mc]
   by_cases q:c=j
   ·rw [if_pos q,if_pos q,q]
   ·rw [if_neg q,if_neg q]
 | d+1,x,A,b,L,y,u=>by
  have p:x < m:=ad;have E:RB (D.pb i j) (2 * s):=((f.b i hi).div (f.a i j hi a) v).neg.le ad;have w:b i=D.pb i j:=by rw [u i hi,if_pos (.inl rfl)];simp [bH.mc]
  refine aL.succ (fun N g=>du.eq_2 ..) (aL.aW (YK (n:=m) p (oe _ _ _)) ?_)
  by_cases e:x=i
  ·simp only [ag,aw (show x < 9223372036854775807 by omega),fA];refine aL.aW (by simp [e]) (aL.if (inl p (oe _ _ _)) (aL.if (inl a (cQ _ _)) (aL.bind (Gv.a5 (by simp [e]) (Gv.pure false)) (aL.a5 (by simp [e]) (K9 hm B hi a C h1 f v d (x+1) A b ad (fun r c o l=>?_) fun r o=>?_)))))
   ·rw [y r c o l]
    by_cases q:r < x/\r≠i
    ·rw [if_pos q,if_pos ⟨ad,q.2⟩]
    ·rw [if_neg q,if_neg ad]
   ·rw [u r o]
    by_cases q:r=i\/r < x
    ·rw [if_pos q,if_pos ad]
    ·rw [if_neg q,if_neg ad]
  ·have H:LQ (A x) k=LQ (D.a x) k:=qQ fun c l=>by rw [y x c p l,if_neg ad]
   have I:b x=D.b x:=by rw [u x p,if_neg ad]
   simp only [ag,aw (show x < 9223372036854775807 by omega),fA,Cw _ _ p,H,lv _ _ p,lv _ _ hi,w,I,lv _ _ a];have K:((x:Int) != (i:Int))=true:=by simp;omega
   refine aL.a5 (by simp;omega) (aL.if (by rw [oe];exact p) (aL.if (inl p (oe _ _ _)) (aL.if (inl a (cQ _ _)) (aL.bind (Gv.aW K (((f.a x j p a).q ad).zero ak)) ?_))))
   by_cases z:D.a x j=0
   ·refine aL.a5 (by simp [z]) (K9 hm B hi a C h1 f v d (x+1) A b ad (fun r c o l=>?_) fun r o=>?_)
    ·rw [y r c o l]
     by_cases q:r < x/\r≠i
     ·rw [if_pos q,if_pos ⟨ad,q.2⟩]
     ·rw [if_neg q]
      by_cases t:r=x
      ·rw [if_pos ⟨ad,ad⟩,t];simp only [bH.mc,if_neg e,z];split
       ·rename_i G;rw [G,z];grind
       ·grind
      ·rw [if_neg ad]
    ·rw [u r o]
     by_cases q:r=i\/r < x
     ·rw [if_pos q,if_pos ad]
     ·rw [if_neg q]
      by_cases t:r=x
      ·rw [if_pos ad,t];simp only [bH.mc,if_neg e,z];grind
      ·rw [if_neg ad]
   ·refine aL.aW (by rw [K];simp [z]) (aL.if (inl p (cQ _ _)) (aL.if (inl hi (cQ _ _)) (aL.bind (((f.a x j p a).q ad).mul (E.q ad) (Pn ak))
     (aL.bind (((f.b x p).q ad).add ((((f.a x j p a).mul E).le (aV _)).q ad) (Pn ak))
     (aL.bind (aiV B C h1 (f.a x j p a) (fun c l=>f.a x c p l) (fun c l=>f.sK h1 hi a v l)) (aL.if (by rw [cQ,cQ]) ?_))))))
    simp only [aiU,EX];refine K9 hm B hi a C h1 f v d (x+1) _ _ ad (fun r c o l=>?_) fun r o=>?_
    ·by_cases t:r=x
     ·have M:x < x+1/\x≠i:=⟨ad,e⟩;simp only [t,M,if_true,if_false,bH.mc,and_self,ne_eq,not_false_eq_true]
      by_cases G:c=j
      ·simp only [G,if_true]
      ·simp only [G,if_false]
     ·simp only [t,if_false];rw [y r c o l]
      by_cases q:r < x/\r≠i
      ·rw [if_pos q,if_pos ⟨ad,q.2⟩]
      ·rw [if_neg q,if_neg ad]
    ·by_cases t:r=x
     ·rw [if_pos t,if_pos ad,t];simp only [bH.mc,if_neg e]
     ·rw [if_neg t,u r o]
      by_cases q:r=i\/r < x
      ·rw [if_pos q,if_pos ad]
      ·rw [if_neg q,if_neg ad]
theorem Sv (hm:m<=1000) (v:k<=1000) (hi:i < m) (l:j < k) (w:5 * s<=MS) (h1:1<=s) (b:D.N7 m k s) (p:D.a i j≠0):∀ (d x:Nat) (R:Nat->Rat),x+d=k->(∀ c,c < k->R c=if c < x/\c≠j then D.sK i j c else D.a i c) ->
  aL (fun N g=>fB N (i:Int) (j:Int) (n:Int) (m:Int) (bB D.v).fN.fG (bB D.v).fN.fL (bB D.v).fD.fG (bB D.v).fD.fL (h:Int) (LN D.je m) (LN D.fr k) (LA D.a m k) (LQ D.b m) (LQ D.g k)
   g (LQ R k) (x:Int)) (RT n m k h (D.mc i j))
 | 0,x,R,A,u=>by
  have B:RB (D.b i / D.a i j) (2 * s):=((b.b i hi).div (b.a i j hi l) p).le ad;have o:=(b.a i j hi l).q (show s<=MS by omega);refine aL.succ (fun N g=>fB.eq_2 ..) (aL.a5 (Zw (m:=x) (n:=k) ad (by simp only [ag,Cw _ _ hi,cQ])) ?_);simp only [ag,Cw _ _ hi,lv _ _ hi,lv _ _ l];refine aL.bind (xh (z:=1) ak ak) (aL.bind ((bH.RB1.q ak).Om o p (Pn ak)) (aL.if (inl l (cQ _ _)) (aL.if (inl hi (cQ _ _))
   (aL.bind (((b.b i hi).q ad).Om o p (Pn ak)) (aL.bind (by have:=sJ (B.q (show 2 * s<=MS by omega)).ir ak (Pn ak);rwa [pW] at this) ?_)))))
  simp only [EX];have C:=qQ (f:=fun a=>if a=j then (1:Rat) / D.a i j else R a) (g:=D.sK i j) (n:=k) fun c o=>by
   by_cases q:c=j
   ·rw [if_pos q];unfold bH.sK;rw [if_pos q]
   ·rw [if_neg q,u c o,if_pos ⟨ad,q⟩]
  have:=(K9 hm v hi l w h1 b p m 0 D.a (fun a=>if a=i then -(D.b i / D.a i j) else D.b a) ad (fun r c _ _=>by rw [if_neg ad]) (fun r F=>by
   by_cases q:r=i
   ·rw [if_pos q,if_pos (.inl q)];simp only [bH.mc,if_pos q];rfl
   ·rw [if_neg q,if_neg ad]) (n:=n) (h:=h)).diag
  rw [<- C] at this;exact aL.one this
 | d+1,x,R,A,u=>by
  have t:x < k:=ad;have o:=(b.a i j hi l).q (show s<=MS by omega);have E:RB (D.a i x / D.a i j) (2 * s):=((b.a i x hi t).div (b.a i j hi l) p).le ad;have ex:R x=D.a i x:=by rw [u x t,if_neg ad]
  refine aL.succ (fun N g=>fB.eq_2 ..) (aL.aW (YK (n:=k) t (by simp only [ag,Cw _ _ hi,cQ])) ?_);simp only [ag,Cw _ _ hi,lv _ _ t,ex,lv _ _ l,aw (show x < 9223372036854775807 by omega),lP]
  by_cases e:x=j
  ·refine aL.a5 (by simp;omega) (Sv hm v hi l w h1 b p d (x+1) R ad fun c o=>?_);rw [u c o]
   by_cases q:c < x/\c≠j
   ·rw [if_pos q,if_pos ⟨ad,q.2⟩]
   ·rw [if_neg q,if_neg ad]
  ·refine aL.aW (by simp;omega) (aL.if (inl t (cQ _ _)) (aL.bind (((b.a i x hi t).q ad).Om o p (Pn ak)) (aL.bind (by have:=sJ (E.q (show 2 * s<=MS by omega)).ir ak (Pn ak);rwa [pW] at this) ?_)));simp only [EX];refine Sv hm v hi l w h1 b p d (x+1) _ ad fun c o=>?_
   by_cases y:c=x
   ·rw [if_pos y,if_pos ⟨ad,ad⟩,y];unfold bH.sK;rw [if_neg e]
   ·rw [if_neg y,u c o]
    by_cases q:c < x/\c≠j
    ·rw [if_pos q,if_pos ⟨ad,q.2⟩]
    ·rw [if_neg q,if_neg ad]
theorem Sw (hm:m<=1000) (b:k<=1000) (hi:i < m) (a:j < k) (d:5 * s<=MS) (h1:1<=s) (e:D.N7 m k s) (f:D.a i j≠0) :
  Gv (fun N=>mn N (i:Int) (j:Int) (n:Int) (m:Int) (bB D.v).fN.fG (bB D.v).fN.fL (bB D.v).fD.fG (bB D.v).fD.fL (h:Int) (LN D.je m) (LN D.fr k) (LA D.a m k) (LQ D.b m) (LQ D.g k)) (RT n m k h (D.mc i j)):=by
 have:=(Sv hm b hi a d h1 e f k 0 (D.a i) ad (fun c _=>by rw [if_neg ad]) (n:=n) (h:=h)).diag;refine Gv.if (by rw [oe];exact hi) (Gv.if (inl hi (oe _ _ _)) (Gv.if (inl a (by simp only [ag,Cw _ _ hi,cQ])) ?_));simp only [ag,Cw _ _ hi];exact this
end
end Go.Den
