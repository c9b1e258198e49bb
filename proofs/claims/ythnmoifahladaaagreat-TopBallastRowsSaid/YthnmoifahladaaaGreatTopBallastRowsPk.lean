/- The plain law: the Lean function of the law returns true for every input, and what it needs. No conditions. -/
import Derived.Test.YthnmoifahladaaaGreatTopBallastRowsDen
set_option linter.unusedVariables false
set_option linter.unusedSimpArgs false
namespace Go.Den
open Go.Ab
theorem abK (n:Int):aE n=if n % 18446744073709551616>=9223372036854775808 then n % 18446744073709551616 - 18446744073709551616 else n % 18446744073709551616:=by
 have e:aE n=(if (true && decide (n % 18446744073709551616>=9223372036854775808))=true then n % 18446744073709551616 - 18446744073709551616 else n % 18446744073709551616):=rfl
 rw [e];simp
theorem aX {n:Int} (h1:-9223372036854775808<=n) (h2:n<=9223372036854775807):aE n=n:=by
 rw [abK];split<;>omega
theorem abL {m:Nat} (h:m<=9223372036854775807):aE (m:Int)=m:=aX (by omega) (by omega)
theorem aH {m:Nat} (h:m < 9223372036854775807):aE ((m:Int)+1)=((m+1:Nat):Int):=by rw [aX (by omega) (by omega)];simp
theorem toList_inj {a b:ByteArray} (h:a.toList=b.toList):a=b:=by
 have e:∀ x:ByteArray,x.toList=x.data.toList:=fun x=>ByteArray.toList_eq x
 rw [e,e] at h
 cases a;cases b;simp_all [Array.toList_inj]
theorem Mv {a b:ByteArray}:iP a b=true↔a=b:=by
 unfold iP;simp only [beq_iff_eq]
 exact ⟨toList_inj,fun h=>h ▸ rfl⟩
def scan {R:Type} (f:Nat->Option R) (z:R):Nat->Nat->R
 | 0,_=>z
 | k+1,m=>match f m with
  | some r=>r
  | none=>scan f z k (m+1)
theorem Tv {R:Type} {L:Nat->Int->Option R} (f:Nat->Option R) (z:R) {n:Nat}
  (DT:∀ fuel m,m < n->L (fuel+1) (m:Int)=(match f m with | some r=>some r | none=>L fuel ((m+1:Nat):Int)))
  (F3:∀ fuel,L (fuel+1) (n:Int)=some z):∀ k m fuel,m+k=n->k < fuel->L fuel (m:Int)=some (scan f z k m)
 | 0,m,fuel,h,hf=>by
  obtain ⟨g,rfl⟩:∃ g,fuel=g+1:=⟨fuel - 1,by omega⟩
  have:m=n:=by omega
  subst this;exact F3 g
 | k+1,m,fuel,h,hf=>by
  obtain ⟨g,rfl⟩:∃ g,fuel=g+1:=⟨fuel - 1,by omega⟩
  rw [DT g m (by omega)]
  unfold scan
  cases hfm:f m with
  | some r=>rfl
  | none=>exact Tv f z DT F3 k (m+1) g (by omega) (by omega)
theorem tC {R:Type} {L:Nat->Int->Option R} (f:Nat->Option R) (z:R) {n fuel:Nat} (hf:n < fuel)
  (DT:∀ fuel m,m < n->L (fuel+1) (m:Int)=(match f m with | some r=>some r | none=>L fuel ((m+1:Nat):Int)))
  (F3:∀ fuel,L (fuel+1) (n:Int)=some z):L fuel 0=some (scan f z n 0) :=
 Tv f z DT F3 n 0 fuel (by omega) hf
theorem XE {R:Type} {f:Nat->Option R} {z:R}:∀ (k m:Nat),(∃ i r,m<=i/\i < m+k/\f i=some r/\(∀ j,m<=j->j < i->f j=none)/\scan f z k m=r)\/((∀ i,m<=i->i < m+k->f i=none)/\scan f z k m=z)
 | 0,m=>.inr ⟨fun i h1 h2=>by omega,rfl⟩
 | k+1,m=>by
  cases hm:f m with
  | some r=>exact .inl ⟨m,r,aN _,by omega,hm,fun j h1 h2=>by omega,by unfold scan;rw [hm]⟩
  | none =>
   have e:scan f z (k+1) m=scan f z k (m+1):=by rw [scan,hm]
   rcases XE (f:=f) (z:=z) k (m+1) with ⟨i,r,h1,h2,h3,h4,h5⟩ | ⟨h1,h2⟩
   ·refine .inl ⟨i,r,by omega,by omega,h3,fun j hj1 hj2=>?_,e.trans h5⟩
    by_cases hj:j=m
    ·subst hj;exact hm
    ·exact h4 j (by omega) hj2
   ·refine .inr ⟨fun i hi1 WY=>?_,e.trans h2⟩
    by_cases hj:i=m
    ·subst hj;exact hm
    ·exact h1 i (by omega) (by omega)
theorem QR {R:Type} {L:Nat->Int->R} (f:Nat->Option R) (z:R) {n:Nat}
  (DT:∀ fuel m,m < n->L (fuel+1) (m:Int)=(match f m with | some r=>r | none=>L fuel ((m+1:Nat):Int)))
  (F3:∀ fuel,L (fuel+1) (n:Int)=z):∀ k m fuel,m+k=n->k < fuel->L fuel (m:Int)=scan f z k m
 | 0,m,fuel,h,hf=>by
  obtain ⟨g,rfl⟩:∃ g,fuel=g+1:=⟨fuel - 1,by omega⟩
  have:m=n:=by omega
  subst this;exact F3 g
 | k+1,m,fuel,h,hf=>by
  obtain ⟨g,rfl⟩:∃ g,fuel=g+1:=⟨fuel - 1,by omega⟩
  rw [DT g m (by omega)]
  unfold scan
  cases hfm:f m with
  | some r=>rfl
  | none=>exact QR f z DT F3 k (m+1) g (by omega) (by omega)
theorem XF {R:Type} {L:Nat->Int->R} (f:Nat->Option R) (z:R) {n fuel:Nat} (hf:n < fuel)
  (DT:∀ fuel m,m < n->L (fuel+1) (m:Int)=(match f m with | some r=>r | none=>L fuel ((m+1:Nat):Int)))
  (F3:∀ fuel,L (fuel+1) (n:Int)=z):L fuel 0=scan f z n 0 :=
 QR f z DT F3 n 0 fuel (by omega) hf
theorem Tw {R:Type} {p:Nat->Bool} {a z:R}:∀ (n m:Nat),scan (fun k=>cond (p k) (some a) none) z n m=cond (scan (fun k=>cond (p k) (some true) none) false n m) a z
 | 0,m=>rfl
 | n+1,m=>by
  unfold scan
  cases p m with
  | true=>rfl
  | false=>exact Tw n (m+1)
theorem lC {α:Type} (l:List α) (m:Nat) (d:α) (h:m < l.length):l.getD m d∈l:=by
 simp [List.getD,h]
theorem ag (m:Nat):((m:Int)).toNat=m:=rfl
theorem oX {m n:Nat} (h:m < n):0<=(m:Int)/\(m:Int) < ((n:Nat):Int):=⟨by omega,by omega⟩
theorem dec_lt {m n:Nat} (h:m < n):decide ((m:Int) < ((n:Nat):Int))=true:=by simp;omega
theorem dw {n:Nat}:decide ((n:Int) < ((n:Nat):Int))=false:=by simp
end Go.Den
namespace Go.Den
open Go.Ab
theorem xt (n:Int):IntKind.u16.wrap n=n % 65536:=by
 have e:IntKind.u16.wrap n=(if (false && decide (n % 65536>=32768))=true then n % 65536 - 65536 else n % 65536):=rfl
 rw [e];simp
theorem wrap32 (n:Int):IntKind.u32.wrap n=n % 4294967296:=by
 have e:IntKind.u32.wrap n=(if (false && decide (n % 4294967296>=2147483648))=true then n % 4294967296 - 4294967296 else n % 4294967296):=rfl
 rw [e];simp
theorem wrap64 (n:Int):IntKind.u64.wrap n=n % 18446744073709551616:=by
 have e:IntKind.u64.wrap n=(if (false && decide (n % 18446744073709551616>=9223372036854775808))=true then n % 18446744073709551616 - 18446744073709551616 else n % 18446744073709551616):=rfl
 rw [e];simp
theorem rJ {n:Int} (h:0<=n) (h2:n < 65536):IntKind.u16.wrap n=n:=by rw [xt];omega
theorem dA {n:Int} (h:0<=n) (h2:n < 4294967296):IntKind.u32.wrap n=n:=by rw [wrap32];omega
theorem jJ {n:Int} (h:0<=n) (h2:n < 18446744073709551616):IntKind.u64.wrap n=n:=by rw [wrap64];omega
theorem Ko (n:Int):wX .u32 n 16=n / 65536:=by
 unfold wX
 have:(2:Int) ^ (min (16:Int).toNat IntKind.u32.bits)=65536:=by decide
 rw [this,Int.fdiv_eq_ediv_of_nonneg _ (by decide)]
theorem QS (n:Int):wX .u64 n 16=n / 65536:=by
 unfold wX
 have:(2:Int) ^ (min (16:Int).toNat IntKind.u64.bits)=65536:=by decide
 rw [this,Int.fdiv_eq_ediv_of_nonneg _ (by decide)]
theorem adr (n:Int):wX .i64 n 16=n / 65536:=by
 unfold wX
 have:(2:Int) ^ (min (16:Int).toNat IntKind.i64.bits)=65536:=by decide
 rw [this,Int.fdiv_eq_ediv_of_nonneg _ (by decide)]
theorem QT {n:Int} (h:0<=n) (h2:n < 65536):AF .u32 n 16=n * 65536:=by
 unfold AF
 have:(2:Int) ^ (min (16:Int).toNat IntKind.u32.bits)=65536:=by decide
 rw [this,wrap32];omega
theorem QU {n:Int} (h:0<=n) (h2:n < 281474976710656):AF .u64 n 16=n * 65536:=by
 unfold AF
 have:(2:Int) ^ (min (16:Int).toNat IntKind.u64.bits)=65536:=by decide
 rw [this,wrap64];omega
theorem ahr {n:Nat} (a b:Nat) (ha:a < 2 ^ n) (hb:b < 2 ^ n):(BitVec.ofInt n (a:Int) ||| BitVec.ofInt n (b:Int)).toNat=a ||| b:=by
 rw [BitVec.ofInt_natCast,BitVec.ofInt_natCast,BitVec.toNat_or,BitVec.toNat_ofNat,BitVec.toNat_ofNat,Nat.mod_eq_of_lt ha,Nat.mod_eq_of_lt hb]
theorem bv_and {n:Nat} (a b:Nat) (ha:a < 2 ^ n) (hb:b < 2 ^ n):(BitVec.ofInt n (a:Int) &&& BitVec.ofInt n (b:Int)).toNat=a &&& b:=by
 rw [BitVec.ofInt_natCast,BitVec.ofInt_natCast,BitVec.toNat_and,BitVec.toNat_ofNat,BitVec.toNat_ofNat,Nat.mod_eq_of_lt ha,Nat.mod_eq_of_lt hb]
theorem I6 (a b k:Nat) (hb:b < 2 ^ k):(a * 2 ^ k) ||| b=a * 2 ^ k+b:=by
 have:=Nat.shiftLeft_add_eq_or_of_lt hb a
 rw [Nat.shiftLeft_eq] at this
 exact this.symm
theorem abM {a b:Int} (ha:0<=a) (ha2:a < 65536) (hb:0<=b) (ss:b < 65536):Nj .u32 (a * 65536) b=a * 65536+b:=by
 obtain ⟨a,rfl⟩:=Int.eq_ofNat_of_zero_le ha
 obtain ⟨b,rfl⟩:=Int.eq_ofNat_of_zero_le hb
 unfold Nj
 have e:((a:Int) * 65536)=((a * 2 ^ 16:Nat):Int):=by simp
 rw [e,show IntKind.u32.bits=32 from rfl,ahr _ _ (by omega) (by omega),I6 _ _ 16 (by omega),wrap32]
 omega
theorem VU {a b:Int} (ha:0<=a) (ha2:a < 281474976710656) (hb:0<=b) (ss:b < 65536):Nj .u64 (a * 65536) b=a * 65536+b:=by
 obtain ⟨a,rfl⟩:=Int.eq_ofNat_of_zero_le ha
 obtain ⟨b,rfl⟩:=Int.eq_ofNat_of_zero_le hb
 unfold Nj
 have e:((a:Int) * 65536)=((a * 2 ^ 16:Nat):Int):=by simp
 rw [e,show IntKind.u64.bits=64 from rfl,ahr _ _ (by omega) (by omega),I6 _ _ 16 (by omega),wrap64]
 omega
theorem XG {a:Int} (ha:0<=a) (ha2:a < 18446744073709551616):JF .u64 a 65535=a % 65536:=by
 obtain ⟨a,rfl⟩:=Int.eq_ofNat_of_zero_le ha
 unfold JF
 have e:(65535:Int)=((65535:Nat):Int):=rfl
 rw [e,show IntKind.u64.bits=64 from rfl,bv_and _ _ (by omega) (by omega),show (65535:Nat)=2 ^ 16 - 1 from rfl,Nat.and_two_pow_sub_one_eq_mod,wrap64]
 omega
def bW:List Int->Int
 | []=>0
 | x :: l=>x+65536 * bW l
def U (l:List Int):Prop:=∀ x,x∈l->0<=x/\x < 65536
def lm (n:Nat):List Int:=if h:n=0 then [] else ((n % 65536:Nat):Int) :: lm (n / 65536)
termination_by n
decreasing_by omega
def pw (k:Nat):Int:=65536 ^ k
theorem GL:pw 0=1:=rfl
theorem iK (k:Nat):pw (k+1)=65536 * pw k:=by unfold pw;rw [Int.pow_succ];omega
theorem mZ (k:Nat):0 < pw k:=by
 induction k with
 | zero=>decide
 | succ k ih=>rw [iK];omega
theorem QV (j k:Nat):pw (j+k)=pw j * pw k:=Int.pow_add _ _ _
theorem U.nil:U []:=fun x h=>by simp at h
theorem U.cons {x:Int} {l:List Int} (h1:0<=x) (h2:x < 65536) (h:U l):U (x :: l):=fun y hy=>by
 rcases lG.1 hy with rfl | hy
 ·exact ⟨h1,h2⟩
 ·exact h y hy
theorem U.tail {x:Int} {l:List Int} (h:U (x :: l)):U l:=fun y hy=>h y (List.mem_cons_of_mem _ hy)
theorem U.head {x:Int} {l:List Int} (h:U (x :: l)):0<=x/\x < 65536:=h x (by simp)
theorem U.append {l m:List Int} (h1:U l) (h2:U m):U (l ++ m):=fun y hy=>by
 rcases List.mem_append.1 hy with hy | hy
 ·exact h1 y hy
 ·exact h2 y hy
theorem U.left {l m:List Int} (h:U (l ++ m)):U l:=fun y hy=>h y (List.mem_append_left _ hy)
theorem U.right {l m:List Int} (h:U (l ++ m)):U m:=fun y hy=>h y (List.mem_append_right _ hy)
theorem U.one {x:Int} (h1:0<=x) (h2:x < 65536):U [x]:=U.cons h1 h2 U.nil
theorem U.take {l:List Int} (h:U l) (k:Nat):U (l.take k):=fun y hy=>h y (List.mem_of_mem_take hy)
theorem U.drop {l:List Int} (h:U l) (k:Nat):U (l.drop k):=fun y hy=>h y (List.mem_of_mem_drop hy)
theorem U.getD {l:List Int} (h:U l) (i:Nat):0<=l.getD i 0/\l.getD i 0 < 65536:=by
 by_cases hi:i < l.length
 ·exact h _ (lC l i 0 hi)
 ·rw [ep,sQ (by omega)];decide
theorem U.set {l:List Int} (h:U l) (i:Nat) {x:Int} (h1:0<=x) (h2:x < 65536):U (l.set i x):=fun y hy=>by
 rcases List.mem_or_eq_of_mem_set hy with hy | rfl
 ·exact h y hy
 ·exact ⟨h1,h2⟩
theorem U.replicate (n:Nat):U (List.replicate n 0):=fun y hy=>by
 rw [(List.mem_replicate.1 hy).2];decide
theorem oh (l m:List Int):bW (l ++ m)=bW l+pw l.length * bW m:=by
 induction l with
 | nil=>simp [bW,GL]
 | cons x l ih =>
  simp only [List.cons_append,bW,ih,px,iK]
  rw [jS,<- kV];omega
theorem v8 (x:Int):bW [x]=x:=by simp [bW]
theorem ma (n:Nat):bW (List.replicate n 0)=0:=by
 induction n with
 | zero=>rfl
 | succ n ih=>simp [List.replicate_succ,bW,ih]
theorem U.tD:∀ {l:List Int},U l->0<=bW l
 | [],_=>by simp [bW]
 | x :: l,h=>by have:=U.tD h.tail;have:=h.head;simp only [bW];omega
theorem U.lt:∀ {l:List Int},U l->bW l < pw l.length
 | [],_=>by simp [bW,GL]
 | x :: l,h=>by have:=U.lt h.tail;have:=h.head;simp only [bW,px,iK];omega
theorem qE:∀ (l:List Int) (i:Nat) (x:Int),i < l.length->bW (l.set i x)=bW l+(x - l.getD i 0) * pw i
 | [],i,x,h=>by simp at h
 | y :: l,0,x,h=>by simp [bW,GL];omega
 | y :: l,i+1,x,h=>by
  simp only [List.set_cons_succ,bW,qE l i x (by simpa using h),iK]
  rw [show (y :: l).getD (i+1) 0=l.getD i 0 from rfl,jS,show (x - l.getD i 0) * (65536 * pw i)=65536 * ((x - l.getD i 0) * pw i) by rw [Int.mul_left_comm]]
  omega
theorem dC (l:List Int) (i:Nat) (h:i < l.length):bW (l.take (i+1))=bW (l.take i)+l.getD i 0 * pw i:=by
 have e:l.take (i+1)=l.take i ++ [l.getD i 0]:=by
  rw [List.take_add_one];simp [List.getD,h]
 rw [e,oh,v8,rl,Nat.min_eq_left (by omega),jk]
theorem rf (l:List Int) (i:Nat) (h:i < l.length):bW (l.drop i)=l.getD i 0+65536 * bW (l.drop (i+1)):=by
 rw [List.drop_eq_getElem_cons h];simp [bW,List.getD,h]
theorem v9 (l:List Int) (i:Nat) (h:i<=l.length):bW l=bW (l.take i)+pw i * bW (l.drop i):=by
 have:=oh (l.take i) (l.drop i)
 rwa [List.take_append_drop,rl,Nat.min_eq_left h] at this
theorem jm:lm 0=[]:=by rw [lm];rfl
theorem tE {n:Nat} (h:n≠0):lm n=((n % 65536:Nat):Int) :: lm (n / 65536):=by rw [lm,dif_neg h]
theorem wQ (n:Nat):U (lm n):=by
 induction n using Nat.strongRecOn with
 | _ n ih =>
  by_cases h:n=0
  ·subst h;rw [jm];exact U.nil
  ·rw [tE h];exact U.cons (by omega) (by omega) (ih _ (by omega))
theorem jR (n:Nat):bW (lm n)=n:=by
 induction n using Nat.strongRecOn with
 | _ n ih =>
  by_cases h:n=0
  ·subst h;rw [jm];rfl
  ·rw [tE h,bW,ih _ (by omega)];omega
theorem aag {n:Nat}:lm n=[]↔n=0:=by
 constructor
 ·intro h
  have:=jR n
  rw [h] at this;simp [bW] at this;omega
 ·rintro rfl;exact jm
theorem oi {n:Nat}:0 < (lm n).length↔n≠0:=by
 rw [List.length_pos_iff,ne_eq,aag]
theorem jf {n k:Nat}:(lm n).length<=k↔(n:Int) < pw k:=by
 induction k generalizing n with
 | zero =>
  rw [GL]
  constructor
  ·intro h;have:lm n=[]:=List.length_eq_zero_iff.1 (by omega);rw [aag] at this;omega
  ·intro h;have:n=0:=by omega
   rw [aag.2 this];simp
 | succ k ih =>
  by_cases h:n=0
  ·subst h;rw [jm];have:=mZ (k+1);simp;omega
  ·rw [tE h,px,iK]
   have:=ih (n:=n / 65536)
   constructor
   ·intro h;have:=this.1 (by omega);omega
   ·intro h;have:=this.2 (by omega);omega
theorem akn {n:Nat} (h:n≠0):∃ l x,lm n=l ++ [x]/\x≠0/\U l/\0<=x/\x < 65536:=by
 induction n using Nat.strongRecOn with
 | _ n ih =>
  rw [tE h]
  by_cases h2:n / 65536=0
  ·rw [h2,jm];exact ⟨[],_,rfl,by omega,U.nil,by omega,by omega⟩
  ·obtain ⟨l,x,e,hx,hl,h3,h4⟩:=ih _ (by omega) h2
   rw [e];exact ⟨_ :: l,x,rfl,hx,U.cons (by omega) (by omega) hl,h3,h4⟩
theorem abN:∀ {l:List Int},U l->(∀ m x,l=m ++ [x]->x≠0)->lm (bW l).toNat=l
 | [],_,_=>by simp [bW,jm]
 | x :: l,h,hn=>by
  have h1:=h.head
  have h2:=h.tail.tD
  have e:bW (x :: l)=x+65536 * bW l:=rfl
  have gH:(bW (x :: l)).toNat≠0:=by
   rw [e]
   cases l with
   | nil=>have:=hn [] x rfl;simp [bW];omega
   | cons y l =>
    have hl:=abN (l:=y :: l) h.tail fun m z hz=>hn (x :: m) z (by rw [hz];rfl)
    have:bW (y :: l)≠0:=fun h0=>by rw [h0] at hl;simp [jm] at hl
    omega
  rw [tE gH]
  have hl:=abN (l:=l) h.tail fun m z hz=>hn (x :: m) z (by rw [hz];rfl)
  have e1:(((bW (x :: l)).toNat % 65536:Nat):Int)=x:=by rw [e];omega
  have e2:(bW (x :: l)).toNat / 65536=(bW l).toNat:=by rw [e];omega
  rw [e1,e2,hl]
theorem abO {N:Nat}:∀ (fuel:Nat) (l:List Int),U l->l.length < fuel->l.length < 9223372036854775807->qK N fuel l=some (lm (bW l).toNat)
 | 0,l,_,h,_=>by omega
 | fuel+1,l,hU,h,hs=>by
  rw [qK]
  rcases List.eq_nil_or_concat l with rfl | ⟨m,x,hmx⟩
  ·simp [bW,jm]
  ·rw [List.concat_eq_append] at hmx
   subst hmx
   have hlen:(m ++ [x]).length=m.length+1:=by simp
   have e1:aE ((((m ++ [x]).length:Nat):Int) - 1)=(m.length:Int):=by rw [hlen,aX (by omega) (by rw [hlen] at hs;omega)];omega
   have e2:(m ++ [x]).getD m.length 0=x:=by simp [List.getD]
   have e3:decide ((((m ++ [x]).length:Nat):Int) > 0)=true:=by simp
   rw [e1,e3]
   rw [if_pos (fun _=>⟨by omega,by rw [hlen];omega⟩),cond_true]
   simp only [ag,e2]
   cases hx:(x == 0) with
   | true =>
    have Y4:x=0:=by simpa using hx
    subst Y4
    rw [cond_true,if_pos ⟨Nat.zero_le _,by rw [hlen];omega⟩,if_pos (by omega)]
    have e4:((m ++ [(0:Int)]).take m.length).drop 0=m:=by simp
    rw [e4,abO fuel m hU.left (by rw [hlen] at h;omega) (by rw [hlen] at hs;omega),oh,v8];simp
   | false =>
    rw [cond_false,abN hU]
    intro m' x' he
    have:=(List.append_inj' he rfl).2
    simp at this hx
    omega
theorem pR {N:Nat} {l:List Int} (hU:U l) (hN:l.length < N) (hs:l.length < 9223372036854775807):gU N l=some (lm (bW l).toNat):=abO N l hU hN hs
end Go.Den
namespace Go.Den
open Go.Ab
abbrev SM (n:Nat):Prop:=n < 10000000000000
def aah (a b:List Int):Nat->Int
 | 0=>0
 | k+1=>cond (a.getD k 0 != b.getD k 0) (a.getD k 0 - b.getD k 0) (aah a b k)
def Sl (a b:Nat):Int:=cond ((((lm a).length:Nat):Int) != (((lm b).length:Nat):Int)) ((((lm a).length:Nat):Int) - (((lm b).length:Nat):Int)) (aah (lm a) (lm b) (lm a).length)
theorem QW {N:Nat} {a b:List Int} (ha:U a) (hb:U b) (hl:a.length=b.length) (hs:SM a.length):∀ (k fuel:Nat),k<=a.length->k < fuel ->
  ∃ c,kI N a b fuel ((k:Int) - 1)=some c/\(c < 0↔bW (a.take k) < bW (b.take k))/\(c=0↔bW (a.take k)=bW (b.take k))/\c=aah a b k
 | 0,fuel,_,hf=>by
  obtain ⟨g,rfl⟩:∃ g,fuel=g+1:=⟨fuel - 1,by omega⟩
  exact ⟨0,by rw [kI];rfl,by simp,by simp,rfl⟩
 | k+1,fuel,hk,hf=>by
  obtain ⟨g,rfl⟩:∃ g,fuel=g+1:=⟨fuel - 1,by omega⟩
  have e:(((k+1:Nat):Int) - 1)=(k:Int):=by omega
  rw [e,kI]
  have hA:=dC a k (by omega)
  have hB:=dC b k (by omega)
  have h1:=ha.getD k
  have h2:=hb.getD k
  have hla:=(ha.take k).lt
  have hlb:=(hb.take k).lt
  have hna:=(ha.take k).tD
  have hnb:=(hb.take k).tD
  rw [rl,Nat.min_eq_left (by omega)] at hla hlb
  have e0:decide ((k:Int)>=0)=true:=by simp
  rw [e0,cond_true,if_pos ⟨by omega,by omega⟩,if_pos ⟨by omega,by omega⟩]
  simp only [ag]
  cases hd:(a.getD k 0 != b.getD k 0) with
  | true =>
   have gH:a.getD k 0≠b.getD k 0:=by simpa using hd
   refine ⟨a.getD k 0 - b.getD k 0,?_,?_,?_,by rw [aah,hd];rfl⟩
   ·rw [cond_true]
    congr 1
    rw [aX (by rw [aX (by omega) (by omega),aX (by omega) (by omega)];omega) (by rw [aX (by omega) (by omega),aX (by omega) (by omega)];omega),aX (by omega) (by omega),aX (by omega) (by omega)]
   ·rw [hA,hB]
    generalize a.getD k 0=x at *
    generalize b.getD k 0=y at *
    rcases Int.lt_or_lt_of_ne gH with h | h
    ·have:=mK (show x+1<=y by omega) (Int.le_of_lt (mZ k))
     rw [fR] at this
     constructor<;>intro<;>omega
    ·have:=mK (show y+1<=x by omega) (Int.le_of_lt (mZ k))
     rw [fR] at this
     constructor<;>intro<;>omega
   ·rw [hA,hB]
    generalize a.getD k 0=x at *
    generalize b.getD k 0=y at *
    rcases Int.lt_or_lt_of_ne gH with h | h
    ·have:=mK (show x+1<=y by omega) (Int.le_of_lt (mZ k))
     rw [fR] at this
     constructor<;>intro<;>omega
    ·have:=mK (show y+1<=x by omega) (Int.le_of_lt (mZ k))
     rw [fR] at this
     constructor<;>intro<;>omega
  | false =>
   have heq:a.getD k 0=b.getD k 0:=by simpa using hd
   obtain ⟨c,h3,h4,h5,h6⟩:=QW ha hb hl hs k g (by omega) (by omega)
   refine ⟨c,?_,?_,?_,by rw [aah,hd];exact h6⟩
   ·rw [cond_false,aX (by omega) (by simp only [SM] at hs;omega)];exact h3
   ·rw [hA,hB,heq,h4];omega
   ·rw [hA,hB,heq,h5];omega
theorem GM {a b:Nat} (h:(lm a).length < (lm b).length):a < b:=by
 have h1:=jf (n:=a) (k:=(lm a).length)
 have h2:=jf (n:=b) (k:=(lm a).length)
 have:=h1.1 (aN _)
 have:¬ (b:Int) < pw (lm a).length:=fun h'=>by have:=h2.2 h';omega
 omega
theorem Dl {N:Nat} {a b:Nat} (hN:(lm a).length < N) (ha:SM (lm a).length) (hb:SM (lm b).length):∃ c,qN N (lm a) (lm b)=some c/\(c < 0↔a < b)/\(c=0↔a=b)/\c=Sl a b:=by
 unfold qN
 simp only [SM] at ha hb
 cases hl:((((lm a).length:Nat):Int) != (((lm b).length:Nat):Int)) with
 | true =>
  have gH:(lm a).length≠(lm b).length:=by intro h;rw [h] at hl;simp at hl
  refine ⟨_,cond_true _ _,?_,?_,by unfold Sl;rw [hl,cond_true,aX (by omega) (by omega)]⟩
  ·rw [aX (by omega) (by omega)]
   rcases Nat.lt_or_gt_of_ne gH with h | h
   ·have:=GM h;omega
   ·have:=GM h;omega
  ·rw [aX (by omega) (by omega)]
   rcases Nat.lt_or_gt_of_ne gH with h | h
   ·have:=GM h;omega
   ·have:=GM h;omega
 | false =>
  have heq:(lm a).length=(lm b).length:=by simp at hl;omega
  rw [cond_false,aX (by omega) (by omega)]
  obtain ⟨c,h1,h2,h3,h4⟩:=QW (N:=N) (wQ a) (wQ b) heq ha (lm a).length N (aN _) hN
  rw [List.take_length,heq,List.take_length,jR,jR] at h2 h3
  exact ⟨c,h1,by omega,by omega,by unfold Sl;rw [hl];exact h4⟩
theorem XH {N a b:Nat} (hN:(lm a).length < N) (ha:SM (lm a).length) (hb:SM (lm b).length):qN N (lm a) (lm b)=some (Sl a b):=by
 obtain ⟨c,h1,_,_,rfl⟩:=Dl hN ha hb
 exact h1
theorem abP {a b:Nat} (ha:SM (lm a).length) (hb:SM (lm b).length):Sl a b < 0↔a < b:=by
 obtain ⟨c,_,h,_,rfl⟩:=Dl (N:=(lm a).length+1) (by omega) ha hb
 exact h
theorem abQ {N:Nat} {a b:List Int} (ha:U a) (hb:U b) (hl:b.length<=a.length) (hs:SM a.length) (hN:a.length+1 < N):∀ (k x fuel:Nat) (out:List Int) (c:Int),x+k=a.length->k < fuel->out.length=x->U out->0<=c->c<=1 ->
  bW out+pw x * c=bW (a.take x)+bW (b.take x)->lW N a b fuel out c (x:Int)=some (lm (bW a+bW b).toNat)
 | 0,x,fuel,out,c,hx,hf,ho,hU,Et,zx,hinv=>by
  obtain ⟨g,rfl⟩:∃ g,fuel=g+1:=⟨fuel - 1,by omega⟩
  have Sm:x=a.length:=by omega
  subst Sm
  rw [lW]
  simp only [SM] at hs
  rw [dw,cond_false,if_pos (by omega),rJ Et (by omega)]
  have hU2:U (out ++ [c]):=hU.append (U.one Et (by omega))
  have hlen:(out ++ [c]).length=a.length+1:=by simp [ho]
  rw [pR hU2 (by rw [hlen];omega) (by rw [hlen];omega),a9,oh,v8,ho,hinv,List.take_length,jv hl]
 | k+1,x,fuel,out,c,hx,hf,ho,hU,Et,zx,hinv=>by
  obtain ⟨g,rfl⟩:∃ g,fuel=g+1:=⟨fuel - 1,by omega⟩
  simp only [SM] at hs
  have wa:x < a.length:=by omega
  have h1:=ha.getD x
  have h2:=hb.getD x
  rw [lW,dec_lt wa,cond_true,if_pos (oX wa)]
  simp only [ag]
  have hA:=dC a x wa
  have hB:bW (b.take (x+1))=bW (b.take x)+b.getD x 0 * pw x:=by
   by_cases h:x < b.length
   ·exact dC b x h
   ·rw [jv (by omega),jv (by omega),ep,sQ (by omega)];simp
  have step:∀ s:Int,s=c+a.getD x 0+b.getD x 0->(tM N a b out (x:Int) (lW N a b g) s)=some (lm (bW a+bW b).toNat):=by
   intro s hse
   unfold tM
   rw [if_pos (by omega),xt,Ko,aH (by omega)]
   refine abQ ha hb hl hs hN k (x+1) g _ _ (by omega) (by omega) (by simp [ho]) (hU.append (U.one (by omega) (by omega))) (by omega) (by omega) ?_
   rw [oh,v8,ho,hA,hB,iK]
   have h5:s=s % 65536+65536 * (s / 65536):=by omega
   have h6:pw x * s=pw x * (s % 65536)+pw x * (65536 * (s / 65536)):=by rw [<- jS,<- h5]
   have h7:pw x * s=pw x * c+a.getD x 0 * pw x+b.getD x 0 * pw x:=by rw [hse,jS,jS,jk (pw x) (a.getD x 0),jk (pw x) (b.getD x 0)]
   have h8:65536 * pw x * (s / 65536)=pw x * (65536 * (s / 65536)):=by rw [jk 65536,kV]
   omega
  by_cases ss:x < b.length
  ·rw [dec_lt ss,cond_true,if_pos (oX ss)]
   refine step _ ?_
   rw [dA (n:=a.getD x 0) (by omega) (by omega),dA (n:=b.getD x 0) (by omega) (by omega),dA (n:=c+a.getD x 0) (by omega) (by omega),dA (by omega) (by omega)]
  ·have e:decide ((x:Int) < ((b.length:Nat):Int))=false:=by simp;omega
   rw [e,cond_false]
   refine step _ ?_
   have h0:b.getD x 0=0:=by rw [ep,sQ (by omega)];rfl
   rw [dA (n:=a.getD x 0) (by omega) (by omega),dA (n:=c+a.getD x 0) (by omega) (by omega),h0];omega
theorem abR {N:Nat} {a b:List Int} (ha:U a) (hb:U b) (hl:b.length<=a.length) (hs:SM a.length) (hN:a.length+1 < N):tN N a b=some (lm (bW a+bW b).toNat):=by
 unfold tN
 simp only [SM] at hs
 rw [if_pos (by rw [aX (by omega) (by omega)];omega)]
 exact abQ ha hb hl hs hN a.length 0 N _ 0 (by omega) (by omega) rfl (U.replicate 0) (by omega) (by omega) (by simp [bW])
theorem anq {N:Nat} {a b:List Int} (ha:U a) (hb:U b) (hs:SM a.length) (hs2:SM b.length) (hN:a.length+1 < N) (hN2:b.length+1 < N):yJ N a b=some (lm (bW a+bW b).toNat):=by
 unfold yJ
 cases h:decide (((a.length:Nat):Int) < ((b.length:Nat):Int)) with
 | true =>
  simp at h
  rw [cond_true,abR hb ha (by omega) hs2 hN2,Int.add_comm]
 | false =>
  simp at h
  rw [cond_false,abR ha hb (by omega) hs hN]
theorem abS {N a b:Nat} (hs:SM (lm a).length) (hs2:SM (lm b).length) (hN:(lm a).length+1 < N) (hN2:(lm b).length+1 < N):yJ N (lm a) (lm b)=some (lm (a+b)):=by
 rw [anq (wQ a) (wQ b) hs hs2 hN hN2,jR,jR];congr 1
theorem XI {N:Nat} {a b:List Int} (ha:U a) (hb:U b) (hl:b.length<=a.length) (hle:bW b<=bW a) (hs:SM a.length) (hN:a.length+1 < N):∀ (k x fuel:Nat) (out:List Int) (c:Int),x+k=a.length->k < fuel->out.length=a.length->U out->0<=c->c<=1 ->
  (∀ j,x<=j->out.getD j 0=0)->bW out - pw x * c=bW (a.take x) - bW (b.take x)->jz N a b fuel out c (x:Int)=some (lm (bW a - bW b).toNat)
 | 0,x,fuel,out,c,hx,hf,ho,hU,Et,zx,hz,hinv=>by
  obtain ⟨g,rfl⟩:∃ g,fuel=g+1:=⟨fuel - 1,by omega⟩
  have Sm:x=a.length:=by omega
  subst Sm
  simp only [SM] at hs
  rw [jz,dw,cond_false,pR hU (by omega) (by omega),a9]
  rw [List.take_length,jv hl] at hinv
  have h1:=hU.lt
  rw [ho] at h1
  have hc:c=0:=by
   rcases Int.lt_or_le 0 c with h | h
   ·have:c=1:=by omega
    subst this;omega
   ·omega
  subst hc
  have:bW out=bW a - bW b:=by omega
  rw [this]
 | k+1,x,fuel,out,c,hx,hf,ho,hU,Et,zx,hz,hinv=>by
  obtain ⟨g,rfl⟩:∃ g,fuel=g+1:=⟨fuel - 1,by omega⟩
  simp only [SM] at hs
  have wa:x < a.length:=by omega
  have h1:=ha.getD x
  have h2:=hb.getD x
  rw [jz,dec_lt wa,cond_true,if_pos (oX wa)]
  simp only [ag]
  have hA:=dC a x wa
  have hB:bW (b.take (x+1))=bW (b.take x)+b.getD x 0 * pw x:=by
   by_cases h:x < b.length
   ·exact dC b x h
   ·rw [jv (by omega),jv (by omega),ep,sQ (by omega)];simp
  have step:∀ y:Int,y=c+b.getD x 0->(rB N a b out (x:Int) (jz N a b g) y)=some (lm (bW a - bW b).toNat):=by
   intro y hy
   unfold rB
   have fin:∀ q:Int,0<=q->q<=1->0<=a.getD x 0+q * 65536 - y->a.getD x 0+q * 65536 - y < 65536->rA N a b out (x:Int) y (jz N a b g) q=some (lm (bW a - bW b).toNat):=by
    intro q N7 O2 hd0 hd1
    unfold rA
    rw [if_pos ⟨by omega,by omega⟩,QT (by omega) (by omega),ag,dA (n:=a.getD x 0) (by omega) (by omega),dA (n:=a.getD x 0+q * 65536) (by omega) (by omega),dA (by omega) (by omega),rJ (by omega) (by omega),aH (by omega)]
    refine XI ha hb hl hle hs hN k (x+1) g _ _ (by omega) (by omega) (by simp [ho]) (hU.set x (by omega) (by omega)) N7 O2 ?_ ?_
    ·intro j hj
     have:=hz j (by omega)
     rw [ep] at this ⊢
     rw [List.getElem?_set_ne (by omega)];exact this
    ·rw [qE _ _ _ (by omega),hz x (aN _),hA,hB,iK]
     have h3:(a.getD x 0+q * 65536 - y - 0) * pw x=a.getD x 0 * pw x+q * 65536 * pw x - y * pw x:=by rw [Int.sub_zero,Int.sub_mul,fR]
     have h4:y * pw x=c * pw x+b.getD x 0 * pw x:=by rw [hy,fR]
     have h5:q * 65536 * pw x=65536 * pw x * q:=by rw [jk q 65536,kV,kV,jk q]
     have h6:c * pw x=pw x * c:=jk _ _
     omega
   rw [ag,dA (n:=a.getD x 0) (by omega) (by omega)]
   cases iQ:decide (a.getD x 0 < y) with
   | true=>have iQ:=xM iQ;rw [cond_true];exact fin 1 (by omega) (by omega) (by omega) (by omega)
   | false=>have iQ:=xN iQ;rw [cond_false];exact fin 0 (by omega) (by omega) (by omega) (by omega)
  by_cases ss:x < b.length
  ·rw [dec_lt ss,cond_true,if_pos (oX ss)]
   refine step _ ?_
   rw [dA (n:=b.getD x 0) (by omega) (by omega),dA (by omega) (by omega)]
  ·have e:decide ((x:Int) < ((b.length:Nat):Int))=false:=by simp;omega
   rw [e,cond_false]
   refine step _ ?_
   have h0:b.getD x 0=0:=by rw [ep,sQ (by omega)];rfl
   omega
theorem jH (n j:Nat):(List.replicate n (0:Int)).getD j 0=0:=by
 rw [ep,List.getElem?_replicate];split<;>rfl
theorem ako {N:Nat} {a b:List Int} (ha:U a) (hb:U b) (hl:b.length<=a.length) (hle:bW b<=bW a) (hs:SM a.length) (hN:a.length+1 < N):tO N a b=some (lm (bW a - bW b).toNat):=by
 unfold tO
 simp only [SM] at hs
 rw [if_pos (by omega)]
 exact XI ha hb hl hle hs hN a.length 0 N _ 0 (by omega) (by omega) (by simp) (U.replicate _) (by omega) (by omega) (fun j _=>jH _ j) (by rw [ma];simp [bW])
theorem gD {a b:Nat} (h:a<=b):(lm a).length<=(lm b).length:=jf.2 (by have:=(jf (n:=b) (k:=(lm b).length)).1 (aN _);omega)
theorem QX {N a b:Nat} (hab:b<=a) (hs:SM (lm a).length) (hN:(lm a).length+1 < N):tO N (lm a) (lm b)=some (lm (a - b)):=by
 rw [ako (wQ a) (wQ b) (gD hab) (by rw [jR,jR];omega) hs hN,jR,jR]
 congr 2;omega
end Go.Den
namespace Go.Den
open Go.Ab
theorem getD_set_ne (l:List Int) {i j:Nat} (x:Int) (h:i≠j):(l.set i x).getD j 0=l.getD j 0:=by
 rw [ep,List.getElem?_set_ne h,<- ep]
theorem XJ (l:List Int) {i:Nat} (x:Int) (h:i < l.length):(l.set i x).getD i 0=x:=by
 rw [ep,List.getElem?_set_self h];rfl
theorem Ak {l:List Int} {i:Nat} (h:l.length<=i):l.getD i 0=0:=by
 rw [ep,sQ h];rfl
theorem QY {x y:Int} (h1:0<=x) (h2:x < 65536) (h3:0<=y) (h4:y < 65536):0<=x * y/\x * y<=4294836225:=by
 refine ⟨Int.mul_nonneg h1 h3,?_⟩
 have:=Int.mul_le_mul (show x<=65535 by omega) (show y<=65535 by omega) h3 (by omega)
 omega
theorem XK {N:Nat} {a b:List Int} {i:Nat} (ha:U a) (hb:U b) (hi:i < a.length) (hs:SM (a.length+b.length)) (K:List Int->Int->Option (List Int)) (R:Option (List Int))
  (hK:∀ out,out.length=a.length+b.length->U out->(∀ j,i+b.length < j->out.getD j 0=0)->bW out=bW (a.take (i+1)) * bW b->K out ((i+1:Nat):Int)=R) :
  ∀ (k x fuel:Nat) (out:List Int) (c:Int),x+k=b.length->k < fuel->out.length=a.length+b.length->U out->0<=c->c < 65536->(∀ j,i+b.length<=j->out.getD j 0=0) ->
   bW out+pw (i+x) * c=bW (a.take i) * bW b+a.getD i 0 * pw i * bW (b.take x)->nz N a b (i:Int) K fuel out c (x:Int)=R
 | 0,x,fuel,out,c,hx,hf,ho,hU,Et,zx,hz,hinv=>by
  obtain ⟨g,rfl⟩:∃ g,fuel=g+1:=⟨fuel - 1,by omega⟩
  have Sm:x=b.length:=by omega
  subst Sm
  simp only [SM] at hs
  have e:aE ((i:Int)+((b.length:Nat):Int))=((i+b.length:Nat):Int):=by rw [aX (by omega) (by omega)];omega
  rw [nz,dw,cond_false,e,if_pos (oX (by omega)),ag,rJ Et zx,aH (by omega)]
  refine hK _ (by simp [ho]) (hU.set _ Et zx) (fun j hj=>?_) ?_
  ·rw [getD_set_ne _ _ (by omega)];exact hz j (by omega)
  ·rw [qE _ _ _ (by omega),hz _ (aN _),Int.sub_zero,dC a i hi,fR,jk c]
   rw [List.take_length] at hinv
   exact hinv
 | k+1,x,fuel,out,c,hx,hf,ho,hU,Et,zx,hz,hinv=>by
  obtain ⟨g,rfl⟩:∃ g,fuel=g+1:=⟨fuel - 1,by omega⟩
  simp only [SM] at hs
  have wa:x < b.length:=by omega
  have h1:=ha.getD i
  have h2:=hb.getD x
  have h3:=hU.getD (i+x)
  have e:aE ((i:Int)+(x:Int))=((i+x:Nat):Int):=by rw [aX (by omega) (by omega)];omega
  have h4:=QY h1.1 h1.2 h2.1 h2.2
  rw [nz,dec_lt wa,cond_true,if_pos (oX wa),e,if_pos (oX (by omega))]
  simp only [ag]
  rw [dA (n:=a.getD i 0) (by omega) (by omega),dA (n:=b.getD x 0) (by omega) (by omega),dA (n:=out.getD (i+x) 0) (by omega) (by omega),dA (n:=a.getD i 0 * b.getD x 0) (by omega) (by omega),
   dA (n:=a.getD i 0 * b.getD x 0+out.getD (i+x) 0) (by omega) (by omega),dA (n:=c+(a.getD i 0 * b.getD x 0+out.getD (i+x) 0)) (by omega) (by omega),xt,Ko,aH (by omega)]
  generalize hs2:c+(a.getD i 0 * b.getD x 0+out.getD (i+x) 0)=s
  refine XK ha hb hi hs K R hK k (x+1) g _ _ (by omega) (by omega) (by simp [ho]) (hU.set _ (by omega) (by omega)) (by omega) (by omega) (fun j hj=>?_) ?_
  ·rw [getD_set_ne _ _ (by omega)];exact hz j hj
  ·rw [qE _ _ _ (by omega),dC b x wa,show i+(x+1)=(i+x)+1 by omega,iK]
   have h5:s=s % 65536+65536 * (s / 65536):=by omega
   have h6:pw (i+x) * s=pw (i+x) * (s % 65536)+pw (i+x) * (65536 * (s / 65536)):=by rw [<- jS,<- h5]
   have h7:pw (i+x) * s=pw (i+x) * c+pw (i+x) * (a.getD i 0 * b.getD x 0)+pw (i+x) * out.getD (i+x) 0:=by rw [<- hs2,jS,jS];omega
   have h8:65536 * pw (i+x) * (s / 65536)=pw (i+x) * (65536 * (s / 65536)):=by rw [jk 65536,kV]
   have h9:(s % 65536 - out.getD (i+x) 0) * pw (i+x)=pw (i+x) * (s % 65536) - pw (i+x) * out.getD (i+x) 0:=by rw [Int.sub_mul,jk,jk (out.getD (i+x) 0)]
   have h10:a.getD i 0 * pw i * (bW (b.take x)+b.getD x 0 * pw x)=a.getD i 0 * pw i * bW (b.take x)+pw (i+x) * (a.getD i 0 * b.getD x 0):=by
    rw [QV];grind
   omega
theorem XL {N:Nat} {a b:List Int} (ha:U a) (hb:U b) (hs:SM (a.length+b.length)) (hN:a.length+b.length < N):∀ (k x fuel:Nat) (out:List Int),x+k=a.length->k < fuel->out.length=a.length+b.length->U out ->
  (∀ j,x+b.length<=j->out.getD j 0=0)->bW out=bW (a.take x) * bW b->nA N a b fuel out (x:Int)=some (lm (bW a * bW b).toNat)
 | 0,x,fuel,out,hx,hf,ho,hU,hz,hinv=>by
  obtain ⟨g,rfl⟩:∃ g,fuel=g+1:=⟨fuel - 1,by omega⟩
  have Sm:x=a.length:=by omega
  subst Sm
  simp only [SM] at hs
  rw [nA,dw,cond_false,pR hU (by omega) (by omega),a9,hinv,List.take_length]
 | k+1,x,fuel,out,hx,hf,ho,hU,hz,hinv=>by
  obtain ⟨g,rfl⟩:∃ g,fuel=g+1:=⟨fuel - 1,by omega⟩
  have wa:x < a.length:=by omega
  rw [nA,dec_lt wa,cond_true,if_pos (oX wa)]
  refine XK ha hb wa hs _ _ (fun eY h1 h2 h3 h4=>?_) b.length 0 N out 0 (by omega) (by omega) ho hU (by omega) (by omega) hz (by rw [hinv];simp [bW])
  exact XL ha hb hs hN k (x+1) g eY (by omega) (by omega) h1 h2 (fun j hj=>h3 j (by omega)) h4
theorem akp {N:Nat} {a b:List Int} (ha:U a) (hb:U b) (hs:SM (a.length+b.length)) (hN:a.length+b.length < N):yq N a b=some (lm (bW a * bW b).toNat):=by
 unfold yq
 have N8:=hs
 simp only [SM] at N8
 have e:aE (((a.length:Nat):Int)+((b.length:Nat):Int))=((a.length+b.length:Nat):Int):=by rw [aX (by omega) (by omega)];omega
 rw [e,if_pos (by omega)]
 exact XL ha hb hs hN a.length 0 N _ (by omega) (by omega) (by simp;omega) (U.replicate _) (fun j _=>jH _ j) (by rw [ma];simp [bW])
theorem Bc (a b:Nat):((a:Int) * (b:Int)).toNat=a * b:=by rw [<- Int.natCast_mul];rfl
theorem ahs {N a b:Nat} (hs:SM ((lm a).length+(lm b).length)) (hN:(lm a).length+(lm b).length < N):yq N (lm a) (lm b)=some (lm (a * b)):=by
 rw [akp (wQ a) (wQ b) hs hN,jR,jR,Bc]
theorem XM {N:Nat} {a:List Int} {d:Int} (ha:U a) (hd0:0 < d) (hd1:d < 65536) (hs:SM a.length) (hN:a.length < N):∀ (k fuel:Nat) (q:List Int) (r:Int),k<=a.length->k < fuel->q.length=a.length->U q->0<=r->r < d ->
  (∀ j,j < k->q.getD j 0=0)->pw k * bW (a.drop k)=bW q * d+r * pw k->∃ Q R:Int,0<=Q/\0<=R/\R < d/\bW a=Q * d+R/\np N a d fuel q r ((k:Int) - 1)=some (lm Q.toNat,R)
 | 0,fuel,q,r,hk,hf,ho,hU,Sn,hr1,hz,hinv=>by
  obtain ⟨g,rfl⟩:∃ g,fuel=g+1:=⟨fuel - 1,by omega⟩
  simp only [SM] at hs
  refine ⟨bW q,r,hU.tD,Sn,hr1,by rw [GL] at hinv;simpa using hinv,?_⟩
  rw [np]
  have e:decide ((((0:Nat):Int) - 1)>=0)=false:=rfl
  rw [e,cond_false,pR hU (by omega) (by omega),a9,rJ Sn (by omega)]
 | k+1,fuel,q,r,hk,hf,ho,hU,Sn,hr1,hz,hinv=>by
  obtain ⟨g,rfl⟩:∃ g,fuel=g+1:=⟨fuel - 1,by omega⟩
  simp only [SM] at hs
  have e:(((k+1:Nat):Int) - 1)=(k:Int):=by omega
  have h1:=ha.getD k
  have e0:decide ((k:Int)>=0)=true:=by simp
  rw [e,np,e0,cond_true,if_pos (oX (by omega)),dA (n:=d) (by omega) (by omega),if_pos (by omega),if_pos (oX (by omega))]
  simp only [ag]
  rw [dA (n:=a.getD k 0) (by omega) (by omega),QT Sn (by omega),abM Sn (by omega) h1.1 h1.2,aX (by omega) (by omega)]
  have hn0:0<=r * 65536+a.getD k 0:=by omega
  have hn1:r * 65536+a.getD k 0 < d * 65536:=by omega
  generalize hn:r * 65536+a.getD k 0=n at hn0 hn1 ⊢
  rw [Int.tdiv_eq_ediv_of_nonneg hn0,Int.tmod_eq_emod_of_nonneg hn0]
  have O2:n / d < 65536:=Int.ediv_lt_of_lt_mul hd0 (by rw [jk];exact hn1)
  have N7:0<=n / d:=Int.ediv_nonneg hn0 (by omega)
  rw [dA N7 (by omega),rJ N7 O2]
  refine XM ha hd0 hd1 hs hN k g _ _ (by omega) (by omega) (by simp [ho]) (hU.set _ N7 O2) (Int.emod_nonneg _ (by omega)) (Int.emod_lt_of_pos _ hd0) (fun j hj=>?_) ?_
  ·rw [getD_set_ne _ _ (by omega)];exact hz j (by omega)
  ·rw [qE _ _ _ (by omega),hz k (by omega),Int.sub_zero,rf a k (by omega)]
   have h2:=Int.mul_ediv_add_emod n d
   rw [iK] at hinv
   have h3:pw k * n=pw k * (d * (n / d))+pw k * (n % d):=by rw [<- jS,h2]
   have h4:pw k * n=pw k * (r * 65536)+pw k * a.getD k 0:=by rw [<- hn,jS]
   grind
theorem ahu {N a d:Nat} (hd0:0 < d) (hd1:d < 65536) (hs:SM (lm a).length) (hN:(lm a).length < N):BA N (lm a) (d:Int)=some (lm (a / d),((a % d:Nat):Int)):=by
 unfold BA
 have N8:=hs
 simp only [SM] at N8
 rw [if_pos (by omega),aX (by omega) (by omega)]
 obtain ⟨Q,R,h1,h2,h3,h4,h5⟩:=XM (N:=N) (d:=(d:Int)) (wQ a) (by omega) (by omega) hs hN (lm a).length N (List.replicate (lm a).length 0) 0 (aN _) hN (by simp) (U.replicate _) (by omega) (by omega) (fun j _=>jH _ j)
  (by rw [List.drop_length,ma];simp [bW])
 rw [h5]
 rw [jR] at h4
 obtain ⟨Q,rfl⟩:=Int.eq_ofNat_of_zero_le h1
 obtain ⟨R,rfl⟩:=Int.eq_ofNat_of_zero_le h2
 have h6:a=Q * d+R:=by exact_mod_cast h4
 have h7:R < d:=by omega
 have h8:a / d=Q:=by rw [h6,py,Nat.mul_add_div hd0,Nat.div_eq_of_lt h7];rfl
 have h9:a % d=R:=by rw [h6,py,Nat.mul_add_mod,Nat.mod_eq_of_lt h7]
 rw [h8,h9];rfl
theorem QZ {N:Nat}:∀ (fuel n:Nat) (out:List Int),(lm n).length < fuel->out.length+(lm n).length < 1000->n < 18446744073709551616->mm N fuel (n:Int) out=some (out ++ lm n)
 | 0,n,out,h,_,_=>by omega
 | fuel+1,n,out,h,h2,h3=>by
  rw [mm]
  by_cases hn:n=0
  ·subst hn;rw [jm];simp
  ·have e:decide ((n:Int) > 0)=true:=by simp;omega
   rw [tE hn] at h h2
   simp only [px] at h h2
   rw [e,cond_true,if_pos (by omega),QS,xt]
   have e1:((n:Int) / 65536)=((n / 65536:Nat):Int):=by omega
   have e2:((n:Int) % 65536)=((n % 65536:Nat):Int):=by omega
   rw [e1,e2,QZ fuel (n / 65536) _ (by omega) (by simp;omega) (by omega),tE hn,qA];rfl
theorem XN {n:Nat} (h:n < 18446744073709551616):(lm n).length<=4:=jf.2 (by show (n:Int) < 65536 ^ 4;omega)
theorem I7 {N n:Nat} (hN:4 < N) (h:n < 18446744073709551616):qJ N (n:Int)=some (lm n):=by
 unfold qJ
 have:=XN h
 rw [QZ N n [] (by omega) (by simp;omega) h];rfl
theorem XO {N:Nat}:∀ (fuel n:Nat) (out:List Int),(lm n).length < fuel->out.length+(lm n).length < 1000->n < 18446744073709551616->pE N fuel (n:Int) out=some (out ++ lm n)
 | 0,n,out,h,_,_=>by omega
 | fuel+1,n,out,h,h2,h3=>by
  rw [pE]
  by_cases hn:n=0
  ·subst hn;rw [jm];simp
  ·have e:decide ((n:Int) > 0)=true:=by simp;omega
   rw [tE hn] at h h2
   simp only [px] at h h2
   rw [e,cond_true,if_pos (by omega),QS,XG (by omega) (by omega),xt]
   have e1:((n:Int) / 65536)=((n / 65536:Nat):Int):=by omega
   have e2:((n:Int) % 65536 % 65536)=((n % 65536:Nat):Int):=by omega
   rw [e1,e2,XO fuel (n / 65536) _ (by omega) (by simp;omega) (by omega),tE hn,qA];rfl
theorem XP {N n:Nat} (hN:4 < N) (h:n < 18446744073709551616):yu N (n:Int)=some (lm n):=by
 unfold yu
 have:=XN h
 rw [XO N n [] (by omega) (by simp;omega) h];rfl
theorem abT {N:Nat} {a:List Int} (ha:U a) (hs:a.length<=4):∀ (k fuel:Nat) (r:Int),k<=a.length->k < fuel->0<=r->r < pw (4 - k)->bW (a.drop k)=r->o6 N a fuel r ((k:Int) - 1)=some (bW a,true)
 | 0,fuel,r,hk,hf,Sn,hr1,hinv=>by
  obtain ⟨g,rfl⟩:∃ g,fuel=g+1:=⟨fuel - 1,by omega⟩
  rw [o6]
  have e:decide ((((0:Nat):Int) - 1)>=0)=false:=rfl
  rw [e,cond_false,<- hinv,List.drop_zero]
 | k+1,fuel,r,hk,hf,Sn,hr1,hinv=>by
  obtain ⟨g,rfl⟩:∃ g,fuel=g+1:=⟨fuel - 1,by omega⟩
  have e:(((k+1:Nat):Int) - 1)=(k:Int):=by omega
  have h1:=ha.getD k
  have e0:decide ((k:Int)>=0)=true:=by simp
  have hp:pw (4 - k)=65536 * pw (4 - (k+1)):=by rw [<- iK];congr 1;omega
  have hle:pw (4 - (k+1))<=281474976710656:=by
   have:k=0\/k=1\/k=2\/k=3:=by omega
   rcases this with rfl | rfl | rfl | rfl<;>decide
  rw [e,o6,e0,cond_true,if_pos (oX (by omega)),ag,jJ (n:=a.getD k 0) (by omega) (by omega),QU Sn (by omega),VU Sn (by omega) h1.1 h1.2,aX (by omega) (by omega)]
  refine abT ha hs k g _ (by omega) (by omega) (by omega) (by omega) ?_
  rw [rf a k (by omega),hinv];omega
theorem VV {N a:Nat} (hN:5 < N) (hs:SM (lm a).length):yH N (lm a)=some (if (lm a).length<=4 then ((a:Int),true) else (0,false)):=by
 unfold yH
 by_cases h:(lm a).length<=4
 ·rw [if_pos h]
  have e:decide ((((lm a).length:Nat):Int) > 4)=false:=by simp;omega
  rw [e,cond_false,aX (by omega) (by omega),abT (wQ a) h (lm a).length N 0 (aN _) (by omega) (by omega) (mZ _) (by rw [List.drop_length];rfl),jR]
 ·rw [if_neg h]
  have e:decide ((((lm a).length:Nat):Int) > 4)=true:=by simp;omega
  rw [e];rfl
end Go.Den
namespace Go.Den
open Go.Ab
theorem ahv:∀ x:Fin 256,(match du 0 ((x.val:Nat):Int) 0 with | some L=>decide (0<=L/\L<=8/\(x.val≠0->1<=L/\2 ^ (L.toNat - 1)<=x.val/\x.val < 2 ^ L.toNat)) | none=>false)=true:=by decide +kernel
theorem ahw:∀ x:Fin 256,(match du 0 ((x.val:Nat):Int) 8 with | some L=>decide (8<=L/\L<=16/\(x.val≠0->9<=L/\2 ^ (L.toNat - 1 - 8)<=x.val/\x.val < 2 ^ (L.toNat - 8))) | none=>false)=true:=by decide +kernel
theorem ahx {N x:Nat} (h0:0 < x) (h1:x < 65536):∃ L:Nat,1<=L/\L<=16/\nr N (x:Int)=some (L:Int)/\2 ^ (L - 1)<=x/\x < 2 ^ L:=by
 unfold nr
 by_cases h:x < 256
 ·have e:decide ((x:Int)>=256)=false:=by simp;omega
  rw [e,cond_false]
  have:=ahv ⟨x,h⟩
  simp only at this
  show ∃ L:Nat,1<=L/\L<=16/\du 0 (x:Int) 0=some (L:Int)/\2 ^ (L - 1)<=x/\x < 2 ^ L
  cases hr:du 0 (x:Int) 0 with
  | none=>rw [hr] at this;cases this
  | some L =>
   rw [hr] at this
   obtain ⟨q1,q2,q3⟩:=xM this
   obtain ⟨q4,q5,q6⟩:=q3 (by omega)
   obtain ⟨L,rfl⟩:=Int.eq_ofNat_of_zero_le q1
   exact ⟨L,by omega,by omega,rfl,q5,q6⟩
 ·have e:decide ((x:Int)>=256)=true:=by simp;omega
  rw [e,cond_true]
  have e2:wX .u16 (x:Int) 8=((x / 256:Nat):Int):=by
   unfold wX
   have:(2:Int) ^ (min (8:Int).toNat IntKind.u16.bits)=256:=by decide
   rw [this,Int.fdiv_eq_ediv_of_nonneg _ (by decide)];omega
  rw [e2]
  have:=ahw ⟨x / 256,by omega⟩
  simp only at this
  have hJ:du N ((x / 256:Nat):Int) 8=du 0 ((x / 256:Nat):Int) 8:=rfl
  rw [hJ]
  cases hr:du 0 ((x / 256:Nat):Int) 8 with
  | none=>rw [hr] at this;cases this
  | some L =>
   rw [hr] at this
   obtain ⟨q1,q2,q3⟩:=xM this
   obtain ⟨q4,q5,q6⟩:=q3 (by omega)
   obtain ⟨L,rfl⟩:=Int.eq_ofNat_of_zero_le (show 0<=L by omega)
   simp only [Int.toNat_natCast] at q5 q6
   refine ⟨L,by omega,by omega,rfl,?_,?_⟩
   ·have:2 ^ (L - 1 - 8+8)=2 ^ (L - 1 - 8) * 2 ^ 8:=Nat.pow_add _ _ _
    have h8:(2:Nat) ^ 8=256:=by decide
    have h9:L - 1 - 8+8=L - 1:=by omega
    rw [h8,h9] at this
    omega
   ·have:2 ^ (L - 8+8)=2 ^ (L - 8) * 2 ^ 8:=Nat.pow_add _ _ _
    have h8:(2:Nat) ^ 8=256:=by decide
    have h9:L - 8+8=L:=by omega
    rw [h8,h9] at this
    omega
theorem apD {N x:Nat} (h0:0 < x) (h1:x < 65536):∃ s:Nat,s<=15/\gy N (x:Int)=some (s:Int)/\32768<=x * 2 ^ s/\x * 2 ^ s < 65536:=by
 obtain ⟨L,h2,h3,h4,h5,h6⟩:=ahx (N:=N) h0 h1
 refine ⟨16 - L,by omega,?_,?_,?_⟩
 ·unfold gy
  rw [h4,a9,aX (by omega) (by omega)];congr 1;omega
 ·have e:2 ^ (L - 1) * 2 ^ (16 - L)=32768:=by rw [<- Nat.pow_add,show L - 1+(16 - L)=15 by omega]
  have:=dN (2 ^ (16 - L)) h5
  omega
 ·have e:2 ^ L * 2 ^ (16 - L)=65536:=by rw [<- Nat.pow_add,show L+(16 - L)=16 by omega]
  have:=Nat.mul_lt_mul_of_pos_right h6 (Nat.two_pow_pos (16 - L))
  omega
theorem anr {n:Int} {s:Nat} (h:0<=n) (h2:n < 65536) (hs:s<=15):AF .u32 n (s:Int)=n * 2 ^ s/\0<=n * 2 ^ s/\n * 2 ^ s < 65536 * 2 ^ s/\n * 2 ^ s < 2147483648:=by
 have hp:(0:Int) < 2 ^ s:=Int.pow_pos (by decide)
 have DZ:(2:Int) ^ s<=32768:=by
  have:=Nat.pow_le_pow_right (n:=2) (by decide) hs
  have e:((2 ^ s:Nat):Int)=(2:Int) ^ s:=by simp
  omega
 have h3:0<=n * 2 ^ s:=Int.mul_nonneg h (by omega)
 have h4:n * 2 ^ s < 65536 * 2 ^ s:=Int.mul_lt_mul_of_pos_right h2 hp
 refine ⟨?_,h3,h4,by omega⟩
 unfold AF
 have:min ((s:Nat):Int).toNat IntKind.u32.bits=s:=by show min s 32=s;omega
 rw [this,dA h3 (by omega)]
theorem ans {c a:Int} {s:Nat} (hs:s<=15) (Et:0<=c) (zx:c < 2 ^ s) (ha0:0<=a):Nj .u16 c (a * 2 ^ s % 65536)=c+a * 2 ^ s % 65536/\c+a * 2 ^ s % 65536 < 65536:=by
 obtain ⟨c,rfl⟩:=Int.eq_ofNat_of_zero_le Et
 obtain ⟨a,rfl⟩:=Int.eq_ofNat_of_zero_le ha0
 have hc:c < 2 ^ s:=by
  have e:((2 ^ s:Nat):Int)=(2:Int) ^ s:=by simp
  omega
 have hp:2 ^ s<=32768:=Nat.pow_le_pow_right (n:=2) (by decide) hs
 have e1:(a:Int) * 2 ^ s % 65536=((a * 2 ^ s % 65536:Nat):Int):=by simp
 have e2:a * 2 ^ s % 65536=a % 2 ^ (16 - s) * 2 ^ s:=by
  have:65536=2 ^ (16 - s) * 2 ^ s:=by rw [<- Nat.pow_add,show 16 - s+s=16 by omega]
  rw [this,Nat.mul_mod_mul_right]
 have e3:a % 2 ^ (16 - s) * 2 ^ s+2 ^ s<=65536:=by
  have h1:a % 2 ^ (16 - s)+1<=2 ^ (16 - s):=Nat.mod_lt _ (Nat.two_pow_pos _)
  have h2:=dN (2 ^ s) h1
  rw [<- Nat.pow_add,show 16 - s+s=16 by omega,dn] at h2
  omega
 rw [e1,e2]
 generalize a % 2 ^ (16 - s)=m at *
 constructor
 ·unfold Nj
  rw [show IntKind.u16.bits=16 from rfl,ahr _ _ (by omega) (by omega),Nat.or_comm,I6 _ _ s hc,xt]
  omega
 ·omega
theorem Q1 {N:Nat} {a:List Int} {s:Nat} (ha:U a) (hs:s<=15) (hS:SM a.length):∀ (k x fuel:Nat) (out:List Int),x+k=a.length->k < fuel->out.length=a.length+1->U out->out.getD x 0 < 2 ^ s->(∀ j,x < j->out.getD j 0=0) ->
  bW out=bW (a.take x) * 2 ^ s->∃ o,kJ N a (s:Int) fuel out (x:Int)=some o/\o.length=a.length+1/\U o/\bW o=bW a * 2 ^ s/\o.getD a.length 0 < 2 ^ s
 | 0,x,fuel,out,hx,hf,ho,hU,hc,hz,hinv=>by
  obtain ⟨g,rfl⟩:∃ g,fuel=g+1:=⟨fuel - 1,by omega⟩
  have Sm:x=a.length:=by omega
  subst Sm
  exact ⟨out,by rw [kJ,dw,cond_false],ho,hU,by rw [hinv,List.take_length],hc⟩
 | k+1,x,fuel,out,hx,hf,ho,hU,hc,hz,hinv=>by
  obtain ⟨g,rfl⟩:∃ g,fuel=g+1:=⟨fuel - 1,by omega⟩
  simp only [SM] at hS
  have wa:x < a.length:=by omega
  have h1:=ha.getD x
  have h2:=hU.getD x
  obtain ⟨w1,w2,w3,w4⟩:=anr h1.1 h1.2 hs
  obtain ⟨o1,o2⟩:=ans hs h2.1 hc h1.1
  rw [kJ,dec_lt wa,cond_true,if_pos (oX wa),if_pos (by omega),if_pos (oX (by omega)),aH (by omega)]
  simp only [ag]
  rw [dA (n:=a.getD x 0) (by omega) (by omega),w1,xt,Ko,xt,o1]
  rw [if_pos ⟨by omega,by simp;omega⟩]
  generalize hw:a.getD x 0 * 2 ^ s=w at *
  have hw5:w / 65536 < 2 ^ s:=by omega
  have hw6:w / 65536 % 65536=w / 65536:=by omega
  rw [hw6]
  have hU1:U (out.set x (out.getD x 0+w % 65536)):=hU.set x (by omega) o2
  refine Q1 ha hs hS k (x+1) g _ (by omega) (by omega) (by simp [ho]) (hU1.set (x+1) (by omega) (by omega)) ?_ (fun j hj=>?_) ?_
  ·rw [XJ _ _ (by simp;omega)];exact hw5
  ·rw [getD_set_ne _ _ (by omega),getD_set_ne _ _ (by omega)];exact hz j (by omega)
  ·rw [qE _ _ _ (by simp;omega),getD_set_ne _ _ (by omega),hz (x+1) (by omega),qE _ _ _ (by omega),dC a x wa,hinv,iK,fR]
   have h3:w=w % 65536+65536 * (w / 65536):=by omega
   have h4:w * pw x=(w % 65536+65536 * (w / 65536)) * pw x:=by rw [<- h3]
   have h5:a.getD x 0 * pw x * 2 ^ s=w * pw x:=by rw [<- hw];grind
   grind
theorem Q2 {N:Nat} {a:List Int} {s:Nat} (ha:U a) (hs:s<=15) (hS:SM a.length) (hN:a.length < N):∃ o,tL N a (s:Int)=some o/\o.length=a.length+1/\U o/\bW o=bW a * 2 ^ s/\o.getD a.length 0 < 2 ^ s:=by
 unfold tL
 have hS':=hS
 simp only [SM] at hS'
 have e:aE (((a.length:Nat):Int)+1)=((a.length+1:Nat):Int):=aH (by omega)
 rw [e,if_pos (by omega)]
 exact Q1 ha hs hS a.length 0 N _ (by omega) hN (by simp) (U.replicate _) (by rw [jH];exact Int.pow_pos (by decide)) (fun j _=>jH _ j) (by rw [ma];simp [bW])
theorem wq (p w:List Int) (i:Nat):(p ++ w).getD (bB p.length i) 0=w.getD i 0:=by
 rw [dc,ep,kU (by omega),ep];congr 2;omega
theorem VW (p w:List Int) (i:Nat) (x:Int):(p ++ w).set (bB p.length i) x=p ++ w.set i x:=by
 rw [dc,List.set_append_right _ _ (by omega)];congr 2;omega
theorem yw:∀ {l:List Int} (m:Nat),(∀ j,m<=j->l.getD j 0=0)->bW l=bW (l.take m)
 | [],m,_=>by simp
 | x :: l,0,h=>by
  have h0:x=0:=h 0 (aN _)
  have:=yw (l:=l) 0 fun j _=>h (j+1) (by omega)
  simp [bW] at this;simp [bW,h0,this]
 | x :: l,m+1,h=>by
  have:=yw (l:=l) m fun j hj=>h (j+1) (by omega)
  simp only [List.take_succ_cons,bW,this]
theorem XQ {l:List Int} (hU:U l) (m:Nat) (h:∀ j,m<=j->l.getD j 0=0):bW l < pw m:=by
 rw [yw m h]
 have h1:=(hU.take m).lt
 rw [rl] at h1
 by_cases hm:m<=l.length
 ·rwa [Nat.min_eq_left hm] at h1
 ·rw [Nat.min_eq_right (by omega)] at h1
  have:pw m=pw l.length * pw (m - l.length):=by rw [<- QV];congr 1;omega
  have h2:=mZ (m - l.length)
  have h3:=xO (show 1<=pw (m - l.length) by omega) (Int.le_of_lt (mZ l.length))
  omega
theorem Q3 {l:List Int} (hU:U l) (m:Nat) (h:bW l < pw m):∀ j,m<=j->l.getD j 0=0:=by
 intro j hj
 by_cases hl:j < l.length
 ·have h1:=v9 l j (by omega)
  have h2:=rf l j hl
  have h3:=(hU.take j).tD
  have h4:=(hU.drop (j+1)).tD
  have h5:=hU.getD j
  have h6:pw m<=pw j:=by
   have:pw j=pw m * pw (j - m):=by rw [<- QV];congr 1;omega
   have h2:=mZ (j - m)
   have h3:=xO (show 1<=pw (j - m) by omega) (Int.le_of_lt (mZ m))
   omega
  have h7:¬ 0 < bW (l.drop j):=fun h0=>by
   have:=xO (show 1<=bW (l.drop j) by omega) (Int.le_of_lt (mZ j))
   omega
  omega
 ·exact Ak (by omega)
theorem XR {N:Nat} {p v:List Int} {q:Int} (hv:U v) (N7:0<=q) (O2:q < 65536) (hS:SM v.length) (W:Int) :
  ∀ (k x fuel:Nat) (w:List Int) (c br:Int),x+k=v.length+1->k < fuel->v.length+1<=w.length->U w->0<=c->c < 65536->(x=v.length+1->c=0)->(br=0\/br = -1)->(∀ j,v.length+1<=j->w.getD j 0=0) ->
   bW w=W - q * bW (v.take x)+pw x * (c - br)->∃ (w':List Int) (br':Int),w'.length=w.length/\U w'/\(br'=0\/br' = -1)/\(∀ j,v.length+1<=j->w'.getD j 0=0)/\bW w'=W - q * bW v - pw (v.length+1) * br' /\
    iH N p.length (v.length+1) v q fuel (p ++ w) c br (x:Int)=cond (decide (br' < 0)) (ku N p.length (v.length+1) v q N (p ++ w') 0 0) (nu N (p ++ w') q)
 | 0,x,fuel,w,c,br,hx,hf,hw,hU,Et,zx,Wt,hbr,hz,hinv=>by
  obtain ⟨g,rfl⟩:∃ g,fuel=g+1:=⟨fuel - 1,by omega⟩
  have Sm:x=v.length+1:=by omega
  subst Sm
  simp only [SM] at hS
  rw [Wt rfl] at hinv
  refine ⟨w,br,rfl,hU,hbr,hz,?_,by rw [iH,aH (by omega),dw,cond_false]⟩
  rw [hinv,jv (by omega),Int.zero_sub,Int.mul_neg];omega
 | k+1,x,fuel,w,c,br,hx,hf,hw,hU,Et,zx,Wt,hbr,hz,hinv=>by
  obtain ⟨g,rfl⟩:∃ g,fuel=g+1:=⟨fuel - 1,by omega⟩
  simp only [SM] at hS
  have wa:x < v.length+1:=by omega
  have h1:=hU.getD x
  have hlen:(p ++ w).length=p.length+w.length:=gI
  have step:∀ y:Int,0<=y->y < 4294967296->(x=v.length->y < 65536)->y=q * v.getD x 0+c ->
    ∃ (w':List Int) (br':Int),w'.length=w.length/\U w'/\(br'=0\/br' = -1)/\(∀ j,v.length+1<=j->w'.getD j 0=0)/\bW w'=W - q * bW v - pw (v.length+1) * br' /\
    rv N p.length (v.length+1) v q (p ++ w) br (x:Int) (iH N p.length (v.length+1) v q g) y=cond (decide (br' < 0)) (ku N p.length (v.length+1) v q N (p ++ w') 0 0) (nu N (p ++ w') q):=by
   intro y hy0 hy1 RN hy
   unfold rv
   rw [if_pos (oX wa),if_pos (by omega)]
   simp only [ag]
   rw [wq,XG hy0 (by omega),aX (n:=w.getD x 0) (by omega) (by omega),aX (n:=y % 65536) (by omega) (by omega),aX (n:=w.getD x 0 - y % 65536) (by omega) (by omega),
    aX (n:=w.getD x 0 - y % 65536+br) (by omega) (by omega),xt,QS,adr,aH (by omega),VW]
   generalize hd:w.getD x 0 - y % 65536+br=d
   have hd1:-65536<=d/\d < 65536:=by omega
   have:=XR (N:=N) (p:=p) hv N7 O2 hS W k (x+1) g (w.set x (d % 65536)) (y / 65536) (d / 65536) (by omega) (by omega) (by simp;omega) (hU.set _ (by omega) (by omega)) (by omega) (by omega) (fun h=>by have:=RN (by omega);omega) (by omega) (fun j hj=>?_) ?_
   ·rwa [List.length_set] at this
   ·rw [getD_set_ne _ _ (by omega)];exact hz j hj
   ·rw [qE _ _ _ (by omega),hinv,iK]
    have hV:bW (v.take (x+1))=bW (v.take x)+v.getD x 0 * pw x:=by
     by_cases h:x < v.length
     ·exact dC v x h
     ·rw [jv (by omega),jv (by omega),Ak (by omega)];simp
    rw [hV]
    have h5:d=d % 65536+65536 * (d / 65536):=by omega
    have h6:y=y % 65536+65536 * (y / 65536):=by omega
    have h7:d * pw x=(d % 65536) * pw x+65536 * (d / 65536) * pw x:=by rw [<- fR,<- h5]
    have h8:y * pw x=(y % 65536) * pw x+65536 * (y / 65536) * pw x:=by rw [<- fR,<- h6]
    have h9:d * pw x=w.getD x 0 * pw x - (y % 65536) * pw x+br * pw x:=by rw [<- hd,fR,Int.sub_mul]
    have h10:y * pw x=q * (v.getD x 0 * pw x)+c * pw x:=by rw [hy,fR,kV]
    grind
  rw [iH,aH (by omega),dec_lt wa,cond_true]
  by_cases hxv:x < v.length
  ·have h2:=hv.getD x
   have h3:0<=q * v.getD x 0/\q * v.getD x 0<=4294836225:=QY N7 O2 h2.1 h2.2
   rw [dec_lt hxv,cond_true,if_pos (oX hxv),ag]
   refine step _ ?_ ?_ (fun h=>by omega) ?_<;>rw [jJ (n:=v.getD x 0) (by omega) (by omega),jJ (n:=q * v.getD x 0) (by omega) (by omega),jJ (by omega) (by omega)]<;>omega
  ·have e:decide ((x:Int) < ((v.length:Nat):Int))=false:=by simp;omega
   rw [e,cond_false]
   refine step c Et (by omega) (fun _=>zx) ?_
   rw [Ak (show v.length<=x by omega)];simp
theorem XS {N:Nat} {p v:List Int} {q:Int} (hv:U v) (N7:0 < q) (O2:q < 65536) (hS:SM v.length) (W:Int) (hV0:0<=W - (q - 1) * bW v) (hV1:W - (q - 1) * bW v < pw v.length) :
  ∀ (k x fuel:Nat) (w:List Int) (c:Int),x+k=v.length->k < fuel->v.length+1<=w.length->U w->0<=c->c<=1->(∀ j,v.length+1<=j->w.getD j 0=0) ->
   bW w=W - q * bW v+pw (v.length+1)+bW (v.take x) - pw x * c->∃ w',ku N p.length (v.length+1) v q fuel (p ++ w) c (x:Int)=some (q - 1,p ++ w')/\w'.length=w.length/\U w'/\bW w'=W - (q - 1) * bW v
 | 0,x,fuel,w,c,hx,hf,hw,hU,Et,zx,hz,hinv=>by
  obtain ⟨g,rfl⟩:∃ g,fuel=g+1:=⟨fuel - 1,by omega⟩
  have Sm:x=v.length:=by omega
  subst Sm
  simp only [SM] at hS
  have h1:=hU.getD v.length
  have hlen:(p ++ w).length=p.length+w.length:=gI
  rw [List.take_length] at hinv
  rw [ku,dw,cond_false,if_pos (by omega),if_pos (by omega),wq,VW,rJ Et (by omega),xt]
  unfold nu
  rw [jJ (by omega) (by omega),rJ (by omega) (by omega)]
  generalize hd:w.getD v.length 0+c=d
  have hU2:U (w.set v.length (d % 65536)):=hU.set _ (by omega) (by omega)
  refine ⟨_,rfl,by simp,hU2,?_⟩
  have h2:=qE w v.length (d % 65536) (by omega)
  have h3:d % 65536=d - 65536 * (d / 65536):=by omega
  have h4:bW (w.set v.length (d % 65536))=W - (q - 1) * bW v+(1 - d / 65536) * pw (v.length+1):=by
   rw [h2,hinv,iK,h3,<- hd];grind
  have h5:d / 65536=0\/d / 65536=1:=by omega
  rcases h5 with h5 | h5
  ·have h6:=XQ hU2 (v.length+1) (fun j hj=>by rw [getD_set_ne _ _ (by omega)];exact hz j hj)
   rw [h4,h5] at h6;omega
  ·rw [h4,h5];simp
 | k+1,x,fuel,w,c,hx,hf,hw,hU,Et,zx,hz,hinv=>by
  obtain ⟨g,rfl⟩:∃ g,fuel=g+1:=⟨fuel - 1,by omega⟩
  simp only [SM] at hS
  have wa:x < v.length:=by omega
  have h1:=hU.getD x
  have h2:=hv.getD x
  have hlen:(p ++ w).length=p.length+w.length:=gI
  rw [ku,dec_lt wa,cond_true,if_pos (oX (by omega)),if_pos (by omega),if_pos (oX wa)]
  simp only [ag]
  rw [wq,dA (n:=w.getD x 0) (by omega) (by omega),dA (n:=v.getD x 0) (by omega) (by omega),dA (n:=w.getD x 0+v.getD x 0) (by omega) (by omega),dA (n:=c+(w.getD x 0+v.getD x 0)) (by omega) (by omega),
   xt,Ko,aH (by omega),VW]
  generalize hd:c+(w.getD x 0+v.getD x 0)=d
  obtain ⟨w',q1,q2,q3,q4⟩:=XS (N:=N) (p:=p) hv N7 O2 hS W hV0 hV1 k (x+1) g (w.set x (d % 65536)) (d / 65536) (by omega) (by omega) (by simp;omega) (hU.set _ (by omega) (by omega)) (by omega) (by omega)
   (fun j hj=>by rw [getD_set_ne _ _ (by omega)];exact hz j hj) (by
    rw [qE _ _ _ (by omega),hinv,dC v x wa,iK x]
    have h5:d=d % 65536+65536 * (d / 65536):=by omega
    have h7:d * pw x=(d % 65536) * pw x+65536 * (d / 65536) * pw x:=by rw [<- fR,<- h5]
    have h9:d * pw x=c * pw x+(w.getD x 0 * pw x+v.getD x 0 * pw x):=by rw [<- hd,fR,fR]
    grind)
  exact ⟨w',q1,by simpa using q2,q3,q4⟩
end Go.Den
namespace Go.Den
open Go.Ab
structure Top (v1 v2 w0 w1 w2 A V W:Int):Prop where
 A0:0 < A
 v1a:32768<=v1
 v1b:v1 < 65536
 v2a:0<=v2
 v2b:v2 < 65536
 w0a:0<=w0
 w0b:w0 < 65536
 w1a:0<=w1
 w1b:w1 < 65536
 w2a:0<=w2
 w2b:w2 < 65536
 V0:(v1 * 65536+v2) * A<=V
 V1:V < (v1 * 65536+v2+1) * A
 W0:((w0 * 65536+w1) * 65536+w2) * A<=W
 W1:W < ((w0 * 65536+w1) * 65536+w2+1) * A
 WV:W < 65536 * V
section
variable {v1 v2 w0 w1 w2 A V W:Int}
theorem Top.ahy (t:Top v1 v2 w0 w1 w2 A V W):65536 * A<=V:=by
 have:=t.V0;have:=t.A0;have:=t.v1a;have:=t.v2a
 have h:=mK (show (65536:Int)<=v1 * 65536+v2 by omega) (Int.le_of_lt t.A0)
 omega
theorem Dm {x y A:Int} (hA:0 < A) (h:x * A < y * A):x < y:=Int.lt_of_mul_lt_mul_right h (Int.le_of_lt hA)
theorem Top.asf (t:Top v1 v2 w0 w1 w2 A V W):w0<=v1:=by
 have h1:((w0 * 65536+w1) * 65536+w2) * A < (65536 * (v1 * 65536+v2+1)) * A:=by
  rw [kV 65536]
  have:=t.W0;have:=t.WV;have:=t.V1
  omega
 have h2:=Dm t.A0 h1
 have:=t.w1a;have:=t.w2a;have:=t.v2b
 omega
theorem Top.apE (t:Top v1 v2 w0 w1 w2 A V W) {q r Q:Int} (hq:q * v1+r=w0 * 65536+w1) (h:q * v2 > r * 65536+w2) (N7:0<=q) (hQ:Q * V<=W):Q < q:=by
 rcases Int.lt_or_le Q q with h' | h'
 ·exact h'
 ·exfalso
  have hV:=t.ahy
  have hA:=t.A0
  have h1:q * V<=W:=Int.le_trans (mK h' (by omega)) hQ
  have h2:q * ((v1 * 65536+v2) * A)<=q * V:=xO t.V0 N7
  have h3:(q * (v1 * 65536+v2)) * A < ((w0 * 65536+w1) * 65536+w2+1) * A:=by
   rw [kV];have:=t.W1;omega
  have h4:=Dm hA h3
  rw [<- hq] at h4
  have h5:q * (v1 * 65536+v2)=q * v1 * 65536+q * v2:=by rw [jS,<- kV]
  rw [h5] at h4
  have h6:(q * v1+r) * 65536=q * v1 * 65536+r * 65536:=fR _ _ _
  omega
theorem Top.apF (t:Top v1 v2 w0 w1 w2 A V W) {q r:Int} (hq:q * v1+r=w0 * 65536+w1) (N7:0<=q) (hr:0<=r) (h:65536<=r\/(q<=65535/\q * v2<=r * 65536+w2)):q<=65535/\q * V < W+V:=by
 have hA:=t.A0
 have O2:q<=65535:=by
  rcases h with h | h
  ·rcases Int.lt_or_le 65535 q with h' | h'
   ·exfalso
    have h1:=mK (show 65536<=q by omega) (show 0<=v1 by have:=t.v1a;omega)
    have:=t.asf;have:=t.w1b
    omega
   ·exact h'
  ·exact h.1
 refine ⟨O2,?_⟩
 have h2:q * v2<=r * 65536+w2:=by
  rcases h with h | h
  ·have h1:q * v2<=65535 * 65535:=Int.mul_le_mul O2 (by have:=t.v2b;omega) t.v2a (by omega)
   have:=t.w2a
   omega
  ·exact h.2
 -- q V < (q (v1 B + v2) + q) A
 have h3:q * V<=q * ((v1 * 65536+v2+1) * A):=xO (Int.le_of_lt t.V1) N7
 have h4:q * ((v1 * 65536+v2+1) * A)=(q * v1 * 65536+q * v2+q) * A:=by
  rw [<- kV];congr 1
  rw [jS,jS,Int.mul_one,<- kV]
 have h5:(q * v1 * 65536+q * v2+q) * A<=(((w0 * 65536+w1) * 65536+w2)+65535) * A:=by
  refine mK ?_ (Int.le_of_lt hA)
  rw [<- hq]
  have:(q * v1+r) * 65536=q * v1 * 65536+r * 65536:=fR _ _ _
  omega
 have h6:(((w0 * 65536+w1) * 65536+w2)+65535) * A=((w0 * 65536+w1) * 65536+w2) * A+65535 * A:=fR _ _ _
 have:=t.W0
 have:=t.ahy
 omega
theorem Top.first (t:Top v1 v2 w0 w1 w2 A V W) {Q:Int} (hQ0:0<=Q) (hQ:Q * V<=W):Q<=(w0 * 65536+w1) / v1:=by
 rw [Int.le_ediv_iff_mul_le (by have:=t.v1a;omega)]
 have h1:Q * ((v1 * 65536+v2) * A)<=Q * V:=xO t.V0 hQ0
 have h2:(Q * (v1 * 65536+v2)) * A < ((w0 * 65536+w1) * 65536+w2+1) * A:=by rw [kV];have:=t.W1;omega
 have h3:=Dm t.A0 h2
 have h4:Q * (v1 * 65536+v2)=Q * v1 * 65536+Q * v2:=by rw [jS,<- kV]
 have h5:0<=Q * v2:=Int.mul_nonneg hQ0 t.v2a
 have:=t.w2b
 omega
end
theorem ahz {N:Nat} {p v w:List Int} (hv:U v) (hw:U w) (hn:2<=v.length) (hwl:v.length+1<=w.length) (hS:SM (p.length+w.length)) {A V W:Int}
  (t:Top (v.getD (v.length - 1) 0) (v.getD (v.length - 2) 0) (w.getD v.length 0) (w.getD (v.length - 1) 0) (w.getD (v.length - 2) 0) A V W) {Q:Int} (hQ0:0<=Q) (hQ1:Q * V<=W) (hQ2:W < Q * V+V) :
  ∀ (k fuel:Nat) (q r:Int),k < fuel->65536<=r+32768 * (k:Int)->0<=r->r < 131072->0<=q->q < 4294967296->Q<=q->q * v.getD (v.length - 1) 0+r=w.getD v.length 0 * 65536+w.getD (v.length - 1) 0 ->
   ∃ q',Q<=q'/\q'<=Q+1/\q'<=65535/\nv N p.length (v.length+1) v (p ++ w) fuel q r=iH N p.length (v.length+1) v q' N (p ++ w) 0 0 0:=by
 intro k
 simp only [SM] at hS
 have hlen:(p ++ w).length=p.length+w.length:=gI
 have e2:aE (((v.length:Nat):Int) - 2)=((v.length - 2:Nat):Int):=by rw [aX (by omega) (by omega)];omega
 have e1:aE (((v.length:Nat):Int) - 1)=((v.length - 1:Nat):Int):=by rw [aX (by omega) (by omega)];omega
 have hd1:=hv.getD (v.length - 1)
 have hd2:=hv.getD (v.length - 2)
 have WE:=hw.getD (v.length - 2)
 induction k with
 | zero =>
  intro fuel q r hf hk Sn hr1 N7 O2 hQq hinv
  obtain ⟨g,rfl⟩:∃ g,fuel=g+1:=⟨fuel - 1,by omega⟩
  have hr:65536<=r:=by simpa using hk
  obtain ⟨n1,n2⟩:=t.apF hinv N7 Sn (.inl hr)
  have cP:q<=Q+1:=by
   rcases Int.lt_or_le (Q+1) q with h | h
   ·exfalso
    have:=mK (show Q+2<=q by omega) (show 0<=V by have:=t.ahy;have:=t.A0;omega)
    rw [fR] at this;omega
   ·exact h
  have ed:decide (r < 65536)=false:=by simp;omega
  refine ⟨q,hQq,cP,n1,?_⟩
  rw [nv]
  simp only [ed,Bool.false_and,cond_false]
  rw [if_pos (fun h=>by cases h),if_pos (fun h=>by cases h),if_pos (fun h=>by cases h)]
 | succ k ih =>
  intro fuel q r hf hk Sn hr1 N7 O2 hQq hinv
  obtain ⟨g,rfl⟩:∃ g,fuel=g+1:=⟨fuel - 1,by omega⟩
  rw [nv,e1,e2,if_pos (fun _=>⟨by omega,by omega⟩),if_pos (fun _=>⟨by omega,by omega⟩),if_pos (fun _=>by omega)]
  rw [ag,ag,wq,if_pos ⟨by omega,by omega⟩,jJ (n:=v.getD (v.length - 2) 0) (by omega) (by omega),jJ (n:=w.getD (v.length - 2) 0) (by omega) (by omega),jJ (n:=v.getD (v.length - 1) 0) (by omega) (by omega)]
  have Ej:0<=q * v.getD (v.length - 2) 0:=Int.mul_nonneg N7 hd2.1
  have DZ:q * v.getD (v.length - 2) 0<=4294967295 * 65535:=Int.mul_le_mul (by omega) (by omega) hd2.1 (by omega)
  rw [jJ Ej (by omega),QU Sn (by omega),VU Sn (by omega) WE.1 WE.2]
  have hV:=t.ahy
  have hA:=t.A0
  by_cases hex:65536<=r\/(q<=65535/\q * v.getD (v.length - 2) 0<=r * 65536+w.getD (v.length - 2) 0)
  ·obtain ⟨n1,n2⟩:=t.apF hinv N7 Sn hex
   have cP:q<=Q+1:=by
    rcases Int.lt_or_le (Q+1) q with h | h
    ·exfalso
     have:=mK (show Q+2<=q by omega) (show 0<=V by omega)
     rw [fR] at this;omega
    ·exact h
   have hc:cond (decide (r < 65536)) (cond (decide (q > 65535)) true (decide (q * v.getD (v.length - 2) 0 > r * 65536+w.getD (v.length - 2) 0))) false=false:=by
    rcases hex with h | ⟨h1,h2⟩
    ·rw [decide_eq_false (show ¬ r < 65536 by omega)];rfl
    ·rw [decide_eq_false (show ¬ q > 65535 by omega),cond_false,decide_eq_false (show ¬ q * v.getD (v.length - 2) 0 > r * 65536+w.getD (v.length - 2) 0 by omega)]
     cases decide (r < 65536)<;>rfl
   exact ⟨q,hQq,cP,n1,by rw [hc,cond_false]⟩
  ·have dy:r < 65536:=by omega
   have hqQ:Q < q:=by
    by_cases h65:65535 < q
    ·rcases Int.lt_or_le Q q with h | h
     ·exact h
     ·exfalso
      have:=mK (show 65536<=Q by omega) (show 0<=V by omega)
      have:=t.WV
      omega
    ·exact t.apE hinv (by omega) N7 hQ1
   have hc:cond (decide (r < 65536)) (cond (decide (q > 65535)) true (decide (q * v.getD (v.length - 2) 0 > r * 65536+w.getD (v.length - 2) 0))) false=true:=by
    rw [decide_eq_true dy,cond_true]
    by_cases h65:65535 < q
    ·rw [decide_eq_true (show q > 65535 by omega)];rfl
    ·rw [decide_eq_false (show ¬ q > 65535 by omega),cond_false,decide_eq_true];omega
   have RV:=t.v1a
   rw [hc,cond_true,jJ (n:=q - 1) (by omega) (by omega),jJ (by omega) (by omega)]
   refine ih g _ _ (by omega) (by omega) (by omega) (by omega) (by omega) (by omega) (by omega) ?_
   rw [Int.sub_mul];omega
theorem ahA {N:Nat} {p v w:List Int} (hv:U v) (hw:U w) (hn:2<=v.length) (hwl:v.length+1<=w.length) (hS:SM (p.length+w.length)) (hN:v.length+3 < N) (hb:32768<=v.getD (v.length - 1) 0) (hz:∀ j,v.length+1<=j->w.getD j 0=0)
  (iQ:bW w < 65536 * bW v):∃ Q w',BB N p.length (v.length+1) v (p ++ w)=some (Q,p ++ w')/\w'.length=w.length/\U w'/\0<=Q/\Q < 65536/\bW w'=bW w - Q * bW v/\bW w' < bW v:=by
 have hS':=hS
 simp only [SM] at hS'
 have hlen:(p ++ w).length=p.length+w.length:=gI
 have e1:aE (((v.length:Nat):Int) - 1)=((v.length - 1:Nat):Int):=by rw [aX (by omega) (by omega)];omega
 obtain ⟨n,hnn⟩:∃ n,v.length=n+2:=⟨v.length - 2,by omega⟩
 have hA:=mZ n
 -- the top digits
 have Ng:bW v=bW (v.take n)+pw n * (v.getD n 0+65536 * v.getD (n+1) 0):=by
  rw [v9 v n (by omega),rf v n (by omega),rf v (n+1) (by omega),List.drop_eq_nil_of_le (by omega)];simp [bW]
 have hw2:bW w=bW (w.take n)+pw n * (w.getD n 0+65536 * (w.getD (n+1) 0+65536 * w.getD (n+2) 0)):=by
  have h3:bW (w.drop (n+3))=0:=by
   have:=yw (l:=w.drop (n+3)) 0 fun j _=>by
    have:=hz (n+3+j) (by omega)
    rw [ep] at this ⊢
    rw [rm];exact this
   simpa [bW] using this
  rw [v9 w n (by omega),rf w n (by omega),rf w (n+1) (by omega),rf w (n+2) (by omega),h3];simp
 have hvt:=(hv.take n).lt
 have auR:=(hv.take n).tD
 have hwt:=(hw.take n).lt
 have auT:=(hw.take n).tD
 rw [rl,Nat.min_eq_left (by omega)] at hvt hwt
 have d1:=hv.getD (n+1)
 have d2:=hv.getD n
 have u0:=hw.getD (n+2)
 have u1:=hw.getD (n+1)
 have u2:=hw.getD n
 have zQ:32768<=v.getD (n+1) 0:=by rw [hnn] at hb;exact hb
 have t:Top (v.getD (v.length - 1) 0) (v.getD (v.length - 2) 0) (w.getD v.length 0) (w.getD (v.length - 1) 0) (w.getD (v.length - 2) 0) (pw n) (bW v) (bW w):=by
  have x1:v.length - 1=n+1:=by omega
  have x2:v.length - 2=n:=by omega
  rw [x1,x2,hnn]
  refine ⟨hA,zQ,d1.2,d2.1,d2.2,u0.1,u0.2,u1.1,u1.2,u2.1,u2.2,?_,?_,?_,?_,iQ⟩
  ·rw [Ng];grind
  ·rw [Ng];grind
  ·rw [hw2];grind
  ·rw [hw2];grind
 have hVp:0 < bW v:=by have:=t.ahy;omega
 obtain ⟨Q,ahB⟩:∃ Q,Q=bW w / bW v:=⟨_,rfl⟩
 have hQ0:0<=Q:=by rw [ahB];exact Int.ediv_nonneg hw.tD (by omega)
 have hQ1:Q * bW v<=bW w:=by rw [ahB];exact Int.ediv_mul_le _ (by omega)
 have hQ2:bW w < Q * bW v+bW v:=by
  have:=Int.lt_ediv_add_one_mul_self (bW w) hVp
  rw [ahB];rw [fR] at this;omega
 have hQ3:Q < 65536:=by
  rcases Int.lt_or_le Q 65536 with h | h
  ·exact h
  ·exfalso;have:=mK h (Int.le_of_lt hVp);omega
 have auV:bW v < pw v.length:=hv.lt
 have hK:∀ q,Q<=q->q<=Q+1->q<=65535->∃ w',iH N p.length (v.length+1) v q N (p ++ w) 0 0 0=some (Q,p ++ w')/\w'.length=w.length/\U w'/\bW w'=bW w - Q * bW v:=by
  intro q N7 O2 cP
  obtain ⟨w',br,q1,q2,q3,q4,q5,q6⟩:=XR (N:=N) (p:=p) hv (show 0<=q by omega) (show q < 65536 by omega) (by simp only [SM];omega) (bW w) (v.length+1) 0 N w 0 0 (by omega) (by omega) hwl hw (by omega) (by omega) (fun h=>rfl) (.inl rfl) hz
   (by rw [List.take_zero];simp [bW])
  have h1:=q2.tD
  have h2:=XQ q2 _ q4
  have hpv:pw (v.length+1)=65536 * pw v.length:=iK _
  rw [show ((0:Nat):Int)=0 from rfl] at q6
  rw [q6]
  rcases q3 with rfl | rfl
  ·have hqQ:q=Q:=by
    rcases Int.lt_or_le Q q with h | h
    ·exfalso
     have:=mK (show Q+1<=q by omega) (Int.le_of_lt hVp)
     rw [fR] at this
     simp at q5
     omega
    ·omega
   subst hqQ
   refine ⟨w',?_,q1,q2,by simpa using q5⟩
   rw [decide_eq_false (by decide),cond_false]
   unfold nu
   rw [rJ hQ0 (by omega)]
  ·have hqQ:q=Q+1:=by
    rcases Int.lt_or_le Q q with h | h
    ·omega
    ·exfalso
     have:q=Q:=by omega
     subst this
     rw [Int.mul_neg,Int.mul_one] at q5
     omega
   subst hqQ
   rw [decide_eq_true (by decide),cond_true]
   have hQV:(Q+1 - 1) * bW v=Q * bW v:=by rw [Int.add_sub_cancel]
   obtain ⟨w2,r1,r2,r3,r4⟩:=XS (N:=N) (p:=p) hv (show 0 < Q+1 by omega) (show Q+1 < 65536 by omega) (by simp only [SM];omega) (bW w) (by rw [hQV];omega) (by rw [hQV];omega) v.length 0 N w' 0 (by omega) (by omega) (by omega) q2 (by omega) (by omega) q4
    (by rw [q5,List.take_zero];simp [bW])
   rw [hQV] at r4
   refine ⟨w2,?_,by omega,r3,r4⟩
   rw [show ((0:Nat):Int)=0 from rfl] at r1
   rw [r1,Int.add_sub_cancel]
 unfold BB
 rw [e1,if_pos ⟨by omega,by omega⟩,if_pos (by omega),if_pos ⟨by omega,by omega⟩,if_pos ⟨by omega,by omega⟩,ag]
 have b1:32768<=v.getD (v.length - 1) 0:=hb
 have b2:=hv.getD (v.length - 1)
 have c1:=hw.getD v.length
 have c2:=hw.getD (v.length - 1)
 rw [jJ (n:=v.getD (v.length - 1) 0) (by omega) (by omega),if_pos (by omega),wq,wq,jJ (n:=w.getD v.length 0) (by omega) (by omega),jJ (n:=w.getD (v.length - 1) 0) (by omega) (by omega),QU (by omega) (by omega),VU (by omega) (by omega) (by omega) (by omega)]
 have hT0:0<=w.getD v.length 0 * 65536+w.getD (v.length - 1) 0:=by omega
 have hT1:w.getD v.length 0 * 65536+w.getD (v.length - 1) 0 < 4294967296:=by omega
 rw [Int.tdiv_eq_ediv_of_nonneg hT0,Int.tmod_eq_emod_of_nonneg hT0]
 have zR:=Int.emod_nonneg (w.getD v.length 0 * 65536+w.getD (v.length - 1) 0) (show v.getD (v.length - 1) 0≠0 by omega)
 have YH:=Int.emod_lt_of_pos (w.getD v.length 0 * 65536+w.getD (v.length - 1) 0) (show 0 < v.getD (v.length - 1) 0 by omega)
 have hd0:=Int.ediv_nonneg hT0 (show 0<=v.getD (v.length - 1) 0 by omega)
 have hda:=Int.mul_ediv_add_emod (w.getD v.length 0 * 65536+w.getD (v.length - 1) 0) (v.getD (v.length - 1) 0)
 have hdl:(w.getD v.length 0 * 65536+w.getD (v.length - 1) 0) / v.getD (v.length - 1) 0<=w.getD v.length 0 * 65536+w.getD (v.length - 1) 0:=Int.ediv_le_self _ hT0
 rw [jJ hd0 (by omega)]
 obtain ⟨q,h1,h2,h3,h4⟩:=ahz (N:=N) (p:=p) hv hw hn hwl hS t hQ0 hQ1 hQ2 2 N ((w.getD v.length 0 * 65536+w.getD (v.length - 1) 0) / v.getD (v.length - 1) 0) ((w.getD v.length 0 * 65536+w.getD (v.length - 1) 0) % v.getD (v.length - 1) 0)
  (by omega) (by omega) zR (by omega) hd0 (by omega) (t.first hQ0 hQ1) (by rw [jk];exact hda)
 rw [h4]
 obtain ⟨w',k1,k2,k3,k4⟩:=hK q h1 h2 h3
 exact ⟨Q,w',k1,k2,k3,hQ0,hQ3,k4,by omega⟩
end Go.Den
namespace Go.Den
open Go.Ab
theorem ahC {a b:Int} (ha:0<=a) (ha2:a < 65536) (hb:0<=b) (ss:b < 65536):Nj .u32 b (a * 65536)=a * 65536+b:=by
 have h:=abM ha ha2 hb ss
 unfold Nj at h ⊢
 rw [BitVec.or_comm];exact h
theorem anu {n:Int} {s:Nat} (hs:s<=15):wX .u32 n (s:Int)=n / 2 ^ s:=by
 unfold wX
 have:min ((s:Nat):Int).toNat IntKind.u32.bits=s:=by show min s 32=s;omega
 rw [this,Int.fdiv_eq_ediv_of_nonneg _ (Int.le_of_lt (Int.pow_pos (by decide)))]
theorem Tx {N:Nat} {b q u:List Int} {s:Nat} (hs:s<=15) (hU:U u) (hb:b.length+1<=u.length) (hS:SM u.length) (hz:u.getD b.length 0=0) (h0:u.getD 0 0 % 2 ^ s=0) (hq:U q) (hqN:q.length < N) (hqS:SM q.length) (hN:b.length < N) :
  ∀ (k x fuel:Nat) (r:List Int),x+k=b.length->k < fuel->r.length=b.length->U r->(∀ j,x<=j->r.getD j 0=0)->2 ^ s * bW r=bW (u.take x)+u.getD x 0 % 2 ^ s * pw x ->
   ∃ R:List Int,iA N b (s:Int) q u fuel r (x:Int)=some (lm (bW q).toNat,lm (bW R).toNat)/\U R/\2 ^ s * bW R=bW (u.take b.length)
 | 0,x,fuel,r,hx,hf,hr,hUr,hzr,hinv=>by
  obtain ⟨g,rfl⟩:∃ g,fuel=g+1:=⟨fuel - 1,by omega⟩
  have Sm:x=b.length:=by omega
  subst Sm
  simp only [SM] at hS hqS
  have hp:(2:Int) ^ s≠0:=Int.ne_of_gt (Int.pow_pos (by decide))
  refine ⟨r,?_,hUr,?_⟩
  ·rw [iA,Nat.sub_zero,dw,cond_false,pR hq hqN (by omega),a9,pR hUr (by omega) (by omega),a9]
  ·rw [hinv,hz];simp
 | k+1,x,fuel,r,hx,hf,hr,hUr,hzr,hinv=>by
  obtain ⟨g,rfl⟩:∃ g,fuel=g+1:=⟨fuel - 1,by omega⟩
  simp only [SM] at hS
  have wa:x < b.length:=by omega
  have h1:=hU.getD x
  have h2:=hU.getD (x+1)
  rw [iA,Nat.sub_zero,dec_lt wa,cond_true,if_pos (oX (by omega)),aH (by omega),if_pos (oX (by omega)),if_pos (by omega),if_pos (oX (by omega))]
  simp only [ag]
  rw [dA (n:=u.getD x 0) (by omega) (by omega),dA (n:=u.getD (x+1) 0) (by omega) (by omega),QT h2.1 h2.2,ahC h2.1 h2.2 h1.1 h1.2,anu hs,xt]
  generalize hae:u.getD x 0=a at *
  generalize O7:u.getD (x+1) 0=a' at *
  -- 65536 = P c
  obtain ⟨P,hP⟩:∃ P:Int,P=2 ^ s:=⟨_,rfl⟩
  obtain ⟨c,hc⟩:∃ c:Int,c=2 ^ (16 - s):=⟨_,rfl⟩
  have hPc:(65536:Int)=P * c:=by rw [hP,hc,<- Int.pow_add,show s+(16 - s)=16 by omega];decide
  have hP0:0 < P:=by rw [hP];exact Int.pow_pos (by decide)
  have Et:0 < c:=by rw [hc];exact Int.pow_pos (by decide)
  rw [<- hP] at hinv ⊢
  have e1:(a' * 65536+a) / P=a' * c+a / P:=by
   rw [hPc,show a' * (P * c)+a=a+(a' * c) * P by rw [jk P c,<- kV];omega,Int.add_mul_ediv_right _ _ (by omega)];omega
  have e2:a'=P * (a' / P)+a' % P:=(Int.mul_ediv_add_emod a' P).symm
  have l0:=Int.emod_nonneg a' (show P≠0 by omega)
  have l1:=Int.emod_lt_of_pos a' hP0
  have m0:0<=a / P:=Int.ediv_nonneg h1.1 (by omega)
  have m1:a / P < c:=Int.ediv_lt_of_lt_mul hP0 (by rw [jk,<- hPc];exact h1.2)
  have e3:(a' * 65536+a) / P % 65536=a' % P * c+a / P:=by
   rw [e1]
   have h3:a' * c=(a' / P) * 65536+a' % P * c:=by
    have:a' * c=(P * (a' / P)+a' % P) * c:=by rw [<- e2]
    rw [this,fR,hPc];grind
   have h4:a' % P * c+a / P < 65536:=by
    have:=mK (show a' % P+1<=P by omega) (Int.le_of_lt Et)
    rw [fR,<- hPc] at this;omega
   have h5:0<=a' % P * c:=Int.mul_nonneg l0 (Int.le_of_lt Et)
   rw [h3];omega
  rw [e3]
  have h4:a' % P * c+a / P < 65536:=by
   have:=mK (show a' % P+1<=P by omega) (Int.le_of_lt Et)
   rw [fR,<- hPc] at this;omega
  have h5:0<=a' % P * c:=Int.mul_nonneg l0 (Int.le_of_lt Et)
  have:=Tx (N:=N) (s:=s) hs hU hb (by simp only [SM];omega) hz h0 hq hqN hqS hN k (x+1) g (r.set x (a' % P * c+a / P)) (by omega) (by omega) (by simp [hr]) (hUr.set _ (by omega) h4) (fun j hj=>by rw [getD_set_ne _ _ (by omega)];exact hzr j (by omega))
   (by
    rw [<- hP,qE _ _ _ (by omega),hzr x (aN _),dC u x (by omega),Int.sub_zero,O7,iK,jS,hinv]
    have e4:a=P * (a / P)+a % P:=(Int.mul_ediv_add_emod a P).symm
    rw [hae]
    have e6:P * ((a' % P * c+a / P) * pw x)=a' % P * (P * c) * pw x+P * (a / P) * pw x:=by grind
    rw [e6,<- hPc]
    grind)
  rw [<- hP] at this
  exact this
theorem Q4 {l:List Int} (hU:U l) (n:Nat) (h:bW l < pw n):bW (l.take n)=bW l:=(yw n (Q3 hU n h)).symm
theorem Ty {N:Nat} {b o2:List Int} {s:Nat} (hs:s<=15) {v:List Int} (hv:v=(o2.take b.length).drop 0) (hvU:U v) (hvl:v.length=b.length) (hn:2<=b.length) (hb:32768<=v.getD (b.length - 1) 0) (dS:b.length<=o2.length)
  {Lu:Nat} (hLu:b.length+1<=Lu) (hS:SM Lu) (hN:Lu+3 < N) {A B:Int} (hA:0<=A) (hB:0 < B) (hV:bW v=B * 2 ^ s) :
  ∀ (k fuel:Nat) (q u:List Int),k<=Lu - b.length->k < fuel->u.length=Lu->U u->q.length=Lu - b.length->U q->(∀ j,j < k->q.getD j 0=0)->bW (u.drop k) < bW v->A * 2 ^ s=bW q * bW v+bW u ->
   iB N b (s:Int) o2 fuel q u ((k:Int) - 1)=some (lm (A / B).toNat,lm (A % B).toNat)
 | 0,fuel,q,u,hk,hf,hu,hU,hq,hqU,hqz,iQ,hinv=>by
  obtain ⟨g,rfl⟩:∃ g,fuel=g+1:=⟨fuel - 1,by omega⟩
  simp only [SM] at hS
  have e:decide ((((0:Nat):Int) - 1)>=0)=false:=rfl
  rw [iB,e,cond_false,Nat.sub_zero,if_pos (by omega)]
  rw [List.drop_zero] at iQ
  have hp:(0:Int) < 2 ^ s:=Int.pow_pos (by decide)
  have hvp:bW v < pw b.length:=by rw [<- hvl];exact hvU.lt
  have hz:=Q3 hU b.length (by omega)
  -- nvl u is a multiple of 2^s
  have hR:bW u=(A - bW q * B) * 2 ^ s:=by rw [Int.sub_mul,hinv,hV];grind
  have h0:u.getD 0 0 % 2 ^ s=0:=by
   have h1:=rf u 0 (by omega)
   rw [List.drop_zero] at h1
   obtain ⟨c,hc⟩:∃ c:Int,c=2 ^ (16 - s):=⟨_,rfl⟩
   have hPc:(65536:Int)=2 ^ s * c:=by rw [hc,<- Int.pow_add,show s+(16 - s)=16 by omega];decide
   have h2:u.getD 0 0=(A - bW q * B - c * bW (u.drop (0+1))) * 2 ^ s:=by
    have:u.getD 0 0=bW u - 65536 * bW (u.drop (0+1)):=by omega
    rw [this,hR,hPc];grind
   rw [h2];exact Int.mul_emod_left _ _
  obtain ⟨R,r1,r2,r3⟩:=Tx (N:=N) (b:=b) (q:=q) hs hU (by omega) (by simp only [SM];omega) (hz _ (aN _)) h0 hqU (by omega) (by simp only [SM];omega) (by omega) b.length 0 N (List.replicate b.length 0) (by omega) (by omega) (by simp) (U.replicate _) (fun j _=>jH _ j)
   (by rw [ma,h0];simp [bW])
  rw [show ((0:Nat):Int)=0 from rfl] at r1
  rw [r1]
  rw [<- yw b.length hz,hR,jk] at r3
  have r4:bW R=A - bW q * B:=Int.eq_of_mul_eq_mul_right (Int.ne_of_gt hp) r3
  have r5:=r2.tD
  have r6:bW R < B:=by
   refine Dm hp ?_
   rw [r4,<- hR,<- hV];exact iQ
  have O2:A / B=bW q:=by
   rw [show A=bW R+bW q * B by omega,Int.add_mul_ediv_right _ _ (by omega),Int.ediv_eq_zero_of_lt r5 r6];omega
  have cP:A % B=bW R:=by
   rw [show A=bW R+bW q * B by omega,Int.add_mul_emod_self_right,Int.emod_eq_of_lt r5 r6]
  rw [O2,cP]
 | k+1,fuel,q,u,hk,hf,hu,hU,hq,hqU,hqz,iQ,hinv=>by
  obtain ⟨g,rfl⟩:∃ g,fuel=g+1:=⟨fuel - 1,by omega⟩
  simp only [SM] at hS
  have e:(((k+1:Nat):Int) - 1)=(k:Int):=by omega
  have e0:decide ((k:Int)>=0)=true:=by simp
  have e1:aE ((aE ((k:Int)+((b.length:Nat):Int)))+1)=((k+b.length+1:Nat):Int):=by rw [aX (n:=(k:Int)+((b.length:Nat):Int)) (by omega) (by omega),aX (by omega) (by omega)];omega
  rw [e,iB,e0,cond_true,Nat.sub_zero,e1]
  simp only [ag]
  rw [if_pos ⟨by omega,by omega⟩,if_pos (by omega),if_pos (by omega),if_pos ⟨Nat.zero_le _,dS⟩,<- hv]
  have hp:u.take k ++ u.drop k=u:=List.take_append_drop _ _
  have KH:(u.take k).length=k:=by rw [rl];omega
  have hwl:(u.drop k).length=Lu - k:=by rw [xP,hu]
  have hd:=rf u k (by omega)
  have hu1:=hU.getD k
  have hvp:bW v < pw b.length:=by rw [<- hvl];exact hvU.lt
  have hw1:bW (u.drop k) < 65536 * bW v:=by omega
  have hw2:bW (u.drop k) < pw (v.length+1):=by rw [iK,hvl];omega
  obtain ⟨Q,w',d1,d2,d3,d4,d5,d6,d7⟩:=ahA (N:=N) (p:=u.take k) (v:=v) (w:=u.drop k) hvU (hU.drop k) (by omega) (by omega) (by simp only [SM];omega) (by omega) (by rw [hvl];exact hb) (Q3 (hU.drop k) _ hw2) hw1
  rw [KH,hp,hvl] at d1
  rw [show k+b.length+1 - k=b.length+1 by omega,d1,a9]
  have hul:(u.take k ++ w').length=u.length:=by rw [gI,KH,d2,hwl,hu];omega
  simp only [hul]
  rw [if_pos trivial,if_pos (oX (by omega)),aX (by omega) (by omega)]
  have gH:∀ j,j < k->(q.set k Q).getD j 0=0:=fun j hj=>by rw [getD_set_ne _ _ (by omega)];exact hqz j (by omega)
  refine Ty (A:=A) hs hv hvU hvl hn hb dS hLu (by simp only [SM];omega) hN hA hB hV k g _ _ (by omega) (by omega) (by rw [hul,hu]) ((hU.take k).append d3) (by simp [hq]) (hqU.set _ d4 d5) gH ?_ ?_
  ·have:(u.take k ++ w').drop k=w':=by rw [List.drop_append_of_le_length (by omega),List.drop_of_length_le (by omega)];rfl
   rw [this];exact d7
  ·have h1:=oh (u.take k) w'
   have h2:=v9 u k (by omega)
   rw [KH] at h1
   rw [h1,qE _ _ _ (by omega),hqz k (by omega),d6,hinv,h2];grind
theorem M5 {A B q r:Nat} (h:A=q * B+r) (hr:r < B):A / B=q/\A % B=r:=by
 subst h
 have hB:0 < B:=by omega
 exact ⟨by rw [py,Nat.mul_add_div hB,Nat.div_eq_of_lt hr];rfl,by rw [py,Nat.mul_add_mod,Nat.mod_eq_of_lt hr]⟩
theorem GN {N a b:Nat} (hb:b≠0) (hs:SM ((lm a).length+(lm b).length+2)) (hN:(lm a).length+(lm b).length+10 < N):n6 N (lm a) (lm b)=some (lm (a / b),lm (a % b)):=by
 have N8:=hs
 simp only [SM] at N8
 unfold n6
 obtain ⟨c,hc,zx,Wt,-⟩:=Dl (N:=N) (a:=a) (b:=b) (by omega) (by simp only [SM];omega) (by simp only [SM];omega)
 rw [hc,a9]
 by_cases hab:a < b
 ·rw [decide_eq_true (zx.2 hab),cond_true]
  unfold cT
  rw [if_pos (by omega),a9,Nat.div_eq_of_lt hab,Nat.mod_eq_of_lt hab,jm];rfl
 ·rw [decide_eq_false (fun h=>hab (zx.1 h)),cond_false]
  have hbl:=oi.2 hb
  cases h1:(((lm b).length:Nat):Int) == 1 with
  | true =>
   have h1:(lm b).length=1:=by have h1:=eq_of_beq h1;omega
   have wV:b < 65536:=by have:=(jf (n:=b) (k:=1)).1 (by omega);simp [pw] at this;omega
   have e:(lm b).getD 0 0=(b:Int):=by
    rw [tE hb];show ((b % 65536:Nat):Int)=b;omega
   rw [cond_true,if_pos (by omega),e,ahu (by omega) wV (by simp only [SM];omega) (by omega),a9]
   have hm:a % b < 65536:=uf (Nat.mod_lt _ (by omega)) (by omega)
   rw [pR (U.one (by omega) (by omega)) (by simp;omega) (by simp),a9,v8,Int.toNat_natCast]
  | false =>
   have h2:2<=(lm b).length:=by simp at h1;omega
   rw [cond_false]
   obtain ⟨lb,x,hlb,Y4,hlU,hx1,hx2⟩:=akn hb
   have hll:(lm b).length=lb.length+1:=by rw [hlb];simp
   have e1:aE ((((lm b).length:Nat):Int) - 1)=((lb.length:Nat):Int):=by rw [aX (by omega) (by omega)];omega
   rw [e1,if_pos (by omega),ag]
   have ex:(lm b).getD lb.length 0=x:=by rw [hlb];simp [List.getD]
   rw [ex]
   obtain ⟨X,rfl⟩:=Int.eq_ofNat_of_zero_le hx1
   obtain ⟨s,s1,s2,s3,s4⟩:=apD (N:=N) (x:=X) (by omega) (by omega)
   rw [s2,a9]
   obtain ⟨o1,p1,p2,p3,p4,p5⟩:=Q2 (N:=N) (a:=lm a) (wQ a) s1 (by simp only [SM];omega) (by omega)
   obtain ⟨o2,q1,q2,q3,q4,q5⟩:=Q2 (N:=N) (a:=lm b) (wQ b) s1 (by simp only [SM];omega) (by omega)
   rw [p1,a9,q1,a9,if_pos ⟨Nat.zero_le _,by omega⟩,Nat.sub_zero]
   rw [jR] at p4 q4
   have hal:(lm b).length<=(lm a).length:=gD (by omega)
   have e2:aE (((o1.length:Nat):Int) - (((lm b).length:Nat):Int))=((o1.length - (lm b).length:Nat):Int):=by rw [aX (by omega) (by omega)];omega
   rw [e2,if_pos (by omega)]
   -- the divisor, shifted
   have DZ:(0:Int) < 2 ^ s:=Int.pow_pos (by decide)
   have hbv:(b:Int)=bW lb+pw lb.length * X:=by
    have:=jR b
    rw [hlb,oh,v8] at this;omega
   have hs3:(32768:Int)<=X * 2 ^ s:=by
    have e:((X * 2 ^ s:Nat):Int)=(X:Int) * 2 ^ s:=by simp
    omega
   have hs4:(X:Int) * 2 ^ s+2 ^ s<=65536:=by
    have e:((X * 2 ^ s:Nat):Int)=(X:Int) * 2 ^ s:=by simp
    have hdv:(65536:Nat)=2 ^ (16 - s) * 2 ^ s:=by rw [<- Nat.pow_add,show 16 - s+s=16 by omega]
    have h9:X < 2 ^ (16 - s):=by
     rw [hdv] at s4;exact Nat.lt_of_mul_lt_mul_right s4
    have h10:=dN (2 ^ s) (show X+1<=2 ^ (16 - s) by omega)
    rw [<- hdv,dn] at h10
    have e3:((2 ^ s:Nat):Int)=(2:Int) ^ s:=by simp
    omega
   have au4:=hlU.lt
   have aso:=hlU.tD
   have hV:(b:Int) * 2 ^ s=bW lb * 2 ^ s+pw lb.length * (X * 2 ^ s):=by rw [hbv,fR,kV]
   have hV1:(b:Int) * 2 ^ s < pw (lm b).length:=by
    rw [hll,iK,hV]
    have h5:=mK (show bW lb+1<=pw lb.length by omega) (Int.le_of_lt DZ)
    have h6:=xO hs4 (Int.le_of_lt (mZ lb.length))
    rw [jS] at h6
    rw [fR] at h5
    have:=mZ lb.length
    omega
   have hV2:32768 * pw lb.length<=(b:Int) * 2 ^ s:=by
    rw [hV]
    have h6:=xO hs3 (Int.le_of_lt (mZ lb.length))
    have h7:0<=bW lb * 2 ^ s:=Int.mul_nonneg aso (Int.le_of_lt DZ)
    rw [jk 32768];omega
   have hvU:U ((o2.take (lm b).length).drop 0):=by rw [List.drop_zero];exact q3.take _
   have hvl:((o2.take (lm b).length).drop 0).length=(lm b).length:=by simp;omega
   have hvv:bW ((o2.take (lm b).length).drop 0)=(b:Int) * 2 ^ s:=by rw [List.drop_zero,Q4 q3 _ (by rw [q4];exact hV1),q4]
   have anw:32768<=((o2.take (lm b).length).drop 0).getD ((lm b).length - 1) 0:=by
    have h5:=dC ((o2.take (lm b).length).drop 0) lb.length (by omega)
    have h6:=(hvU.take lb.length).lt
    rw [jv (by omega),hvv] at h5
    rw [rl,Nat.min_eq_left (by omega)] at h6
    rw [show (lm b).length - 1=lb.length by omega]
    rcases Int.lt_or_le (((o2.take (lm b).length).drop 0).getD lb.length 0) 32768 with h | h
    ·exfalso
     have:=mK (show ((o2.take (lm b).length).drop 0).getD lb.length 0<=32767 by omega) (Int.le_of_lt (mZ lb.length))
     have:=mZ lb.length
     omega
    ·exact h
   have e3:aE (((o1.length - (lm b).length:Nat):Int) - 1)=((o1.length - (lm b).length:Nat):Int) - 1:=aX (by omega) (by omega)
   rw [e3,ag]
   have apH:bW (o1.drop (o1.length - (lm b).length)) < bW ((o2.take (lm b).length).drop 0):=by
    -- the top n digits: the last one is below 2 ^ s
    have hl:(o1.drop (o1.length - (lm b).length)).length=(lm b).length:=by rw [xP];omega
    have hUd:=q3
    have hU1:=p3.drop (o1.length - (lm b).length)
    have h5:=dC (o1.drop (o1.length - (lm b).length)) lb.length (by omega)
    rw [jv (by omega)] at h5
    have h6:=(hU1.take lb.length).lt
    rw [rl,Nat.min_eq_left (by omega)] at h6
    have h7:(o1.drop (o1.length - (lm b).length)).getD lb.length 0=o1.getD (lm a).length 0:=by
     rw [ep,rm,ep];congr 2;omega
    rw [h7] at h5
    rw [hvv]
    have h8:o1.getD (lm a).length 0+1<=32768:=by
     have:(2:Int) ^ s<=32768:=by
      have h:=Nat.pow_le_pow_right (n:=2) (by decide) s1
      have e:((2 ^ s:Nat):Int)=(2:Int) ^ s:=by simp
      omega
     omega
    have h9:=mK h8 (Int.le_of_lt (mZ lb.length))
    rw [fR] at h9
    omega
   rw [Ty (N:=N) (A:=(a:Int)) (B:=(b:Int)) s1 rfl hvU hvl h2 anw (by omega) (Lu:=o1.length) (by omega) (by simp only [SM];omega) (by omega) (by omega) (by omega) hvv (o1.length - (lm b).length) N _ o1 (aN _) (by omega) rfl p3 (by simp) (U.replicate _)
    (fun j _=>jH _ j) apH (by rw [ma,p4];simp)]
   rfl
end Go.Den
namespace Go.Den
open Go.Ab
def Gv {α:Type} (f:Nat->Option α) (r:α):Prop:=∃ N0,∀ N,N0<=N->f N=some r
theorem Gv.pure {α:Type} (r:α):Gv (fun _=>some r) r:=⟨0,fun _ _=>rfl⟩
theorem Gv.bind {α β:Type} {f:Nat->Option α} {k:Nat->α->Option β} {r:α} {s:β} (h:Gv f r) (h2:Gv (fun N=>k N r) s):Gv (fun N=>(f N).bind (k N)) s:=by
 obtain ⟨N1,h1⟩:=h
 obtain ⟨N2,h2⟩:=h2
 exact ⟨N1+N2,fun N hN=>by show (f N).bind (k N)=some s;rw [h1 N (by omega)];exact h2 N (by omega)⟩
theorem Gv.congr {α:Type} {f g:Nat->Option α} {r:α} (h:Gv f r) (e:∀ N,g N=f N):Gv g r:=let ⟨N0,h0⟩:=h;⟨N0,fun N hN=>(e N).trans (h0 N hN)⟩
theorem Gv.of {α:Type} {f:Nat->Option α} {r:α} (N0:Nat) (h:∀ N,N0<=N->f N=some r):Gv f r:=⟨N0,h⟩
theorem Gv.aR {α:Type} {f g:Nat->Option α} {r:α} {q:Bool} (hq:q=true) (h:Gv f r):Gv (fun N=>cond q (f N) (g N)) r:=by subst hq;exact h
theorem Gv.bd {α:Type} {f g:Nat->Option α} {r:α} {q:Bool} (hq:q=false) (h:Gv g r):Gv (fun N=>cond q (f N) (g N)) r:=by subst hq;exact h
theorem Gv.if {α:Type} {f:Nat->Option α} {r:α} {p:Prop} [Decidable p] (hp:p) (h:Gv f r):Gv (fun N=>if p then f N else none) r:=h.congr fun _=>if_pos hp
theorem Gv.eq {α:Type} {f:Nat->Option α} {r s:α} (h:Gv f r) (e:r=s):Gv f s:=e ▸ h
theorem Gv.ex {α:Type} {f:Nat->Option α} {r:α} (h:Gv f r):∃ N,f N=some r:=let ⟨N,h⟩:=h;⟨N,h N (aN _)⟩
def sg (neg:Bool) (n:Nat):Int:=cond neg (-(n:Int)) (n:Int)
def Bk (z:Int):cX:=⟨decide (z < 0),lm z.natAbs⟩
def zv (a:cX):Int:=sg a.fG (bW a.fL).toNat
def ZB (z:Int) (n:Nat):Prop:=(lm z.natAbs).length<=n
structure IB (a:cX) (n:Nat):Prop where
 U:U a.fL
 len:a.fL.length<=n
theorem rK (neg:Bool) (n:Nat):(sg neg n).natAbs=n:=by cases neg<;>simp [sg]
theorem me (a:cX):(zv a).natAbs=(bW a.fL).toNat:=rK _ _
theorem ahD (neg:Bool) (n:Nat) (h:n≠0):Bk (sg neg n)=⟨neg,lm n⟩:=by
 unfold Bk
 rw [rK]
 cases neg
 ·rw [decide_eq_false (show ¬ sg false n < 0 by simp [sg])]
 ·rw [decide_eq_true (show sg true n < 0 by simp [sg];omega)]
theorem ahE:Bk 0=⟨false,[]⟩:=by unfold Bk;rw [show (0:Int).natAbs=0 from rfl,jm];rfl
theorem abV (neg:Bool):Bk (sg neg 0)=⟨false,[]⟩:=by cases neg<;>exact ahE
theorem rh (z:Int):zv (Bk z)=z:=by
 unfold zv Bk
 simp only [jR,Int.toNat_natCast]
 unfold sg
 by_cases h:z < 0
 ·rw [decide_eq_true h];simp only [cond_true];omega
 ·rw [decide_eq_false h];simp only [cond_false];omega
theorem ZB.le {z:Int} {m n:Nat} (h:ZB z m) (hmn:m<=n):ZB z n:=eF h hmn
theorem ahF {z:Int} {n:Nat}:ZB z n↔(z.natAbs:Int) < pw n:=jf
theorem XT {z:Int} {n:Nat}:ZB z n↔z.natAbs < 65536 ^ n:=by
 rw [ahF];unfold pw
 have:((65536 ^ n:Nat):Int)=65536 ^ n:=by simp
 omega
theorem ZB.neg {z:Int} {n:Nat} (h:ZB z n):ZB (-z) n:=by unfold ZB at *;rwa [Int.natAbs_neg]
theorem ZB.mul {x y:Int} {m n:Nat} (h1:ZB x m) (h2:ZB y n):ZB (x * y) (m+n):=by
 rw [XT] at *
 rw [Int.natAbs_mul,Nat.pow_add]
 exact Nat.mul_lt_mul'' h1 h2
theorem ZB.add {x y:Int} {n:Nat} (h1:ZB x n) (h2:ZB y n):ZB (x+y) (n+1):=by
 rw [XT] at *
 have:=Int.natAbs_add_le x y
 have h3:65536 ^ (n+1)=65536 * 65536 ^ n:=by rw [Nat.pow_succ];omega
 have:=Nat.pow_pos (n:=n) (show 0 < 65536 by decide)
 omega
theorem ZB.sub {x y:Int} {n:Nat} (h1:ZB x n) (h2:ZB y n):ZB (x - y) (n+1):=by rw [Int.sub_eq_add_neg];exact h1.add h2.neg
theorem ZB.of_le {x y:Int} {n:Nat} (h:ZB y n) (hxy:x.natAbs<=y.natAbs):ZB x n:=by rw [XT] at *;omega
theorem ZB.small {x:Int} (h:x.natAbs < 65536):ZB x 1:=by rw [XT];simpa using h
theorem ZB.word {x:Int} (h:-9223372036854775808<=x) (h2:x<=9223372036854775807):ZB x 4:=by rw [XT];omega
theorem IB.zb {a:cX} {n:Nat} (h:IB a n):ZB (zv a) n:=by
 rw [ahF,me]
 have h1:=h.U.lt
 have h2:=h.U.tD
 have h3:pw a.fL.length<=pw n:=by
  have e:pw n=pw a.fL.length * pw (n - a.fL.length):=by rw [<- QV];congr 1;have:=h.len;omega
  have:=mZ (n - a.fL.length)
  have:=xO (show 1<=pw (n - a.fL.length) by omega) (Int.le_of_lt (mZ a.fL.length))
  omega
 omega
theorem ZB.ib {z:Int} {n:Nat} (h:ZB z n):IB (Bk z) n:=⟨wQ _,h⟩
theorem IB.le {a:cX} {m n:Nat} (h:IB a m) (hmn:m<=n):IB a n:=⟨h.U,eF h.len hmn⟩
section
variable {a b:cX} {m n:Nat}
theorem wb (ha:IB a n) (hn:SM n):Gv (fun N=>gU N a.fL) (lm (zv a).natAbs) :=
 .of (n+1) fun N hN=>by
  simp only [SM] at hn
  have:=ha.len
  rw [pR ha.U (by omega) (by omega),me]
theorem qp (neg:Bool) {k:Nat} (hk:SM (lm k).length):Gv (fun N=>gZ N neg (lm k)) (Bk (sg neg k)) :=
 .of ((lm k).length+1) fun N hN=>by
  simp only [SM] at hk
  unfold gZ
  rw [pR (wQ k) (by omega) (by omega),jR,Int.toNat_natCast,a9]
  by_cases h:k=0
  ·subst h
   rw [jm,abV];rfl
  ·have e:((((lm k).length:Nat):Int) == 0)=false:=by
    have:=oi.2 h
    simp;exact fun h'=>by rw [h'] at this;simp at this
   rw [e,cond_false]
   unfold cT
   rw [if_pos (by omega),a9,ahD _ _ h];rfl
theorem XU (a:cX):Gv (fun N=>xT N a) ⟨!a.fG,a.fL⟩:=.pure _
theorem XV (a:cX):zv ⟨!a.fG,a.fL⟩ = -zv a:=by unfold zv sg;cases a.fG<;>simp
theorem sign_eq (a b:Bool) (x y:Nat):sg (!(a == b)) (x * y)=sg a x * sg b y:=by
 cases a<;>cases b<;>simp [sg,Int.neg_mul,Int.mul_neg]
theorem F4 (ha:IB a m) (hb:IB b n) (hs:SM (m+n)):Gv (fun N=>rz N a b) (Bk (zv a * zv b)):=by
 simp only [SM] at hs
 have O7:=ha.zb
 have zQ:=hb.zb
 unfold ZB at O7 zQ
 refine (wb ha (by simp only [SM];omega)).bind ((wb hb (by simp only [SM];omega)).bind ?_)
 refine Gv.bind (r:=lm ((zv a).natAbs * (zv b).natAbs)) (.of (m+n+1) fun N hN=>ahs (by simp only [SM];omega) (by omega)) ?_
 have hz:=ha.zb.mul hb.zb
 unfold ZB at hz
 rw [Int.natAbs_mul] at hz
 refine (qp _ (by simp only [SM];omega)).bind ((Gv.pure _).eq ?_)
 rw [me,me,sign_eq];rfl
theorem ahG (ha:IB a n) (hb:IB b n) (hs:SM (n+1)):Gv (fun N=>CI N a b) (Bk (zv a+zv b)):=by
 simp only [SM] at hs
 have O7:=ha.zb
 have zQ:=hb.zb
 have hz:=O7.add zQ
 unfold ZB at O7 zQ
 refine (wb ha (by simp only [SM];omega)).bind ((wb hb (by simp only [SM];omega)).bind ?_)
 have hX:zv a=sg a.fG (zv a).natAbs:=by rw [me];rfl
 have hY:zv b=sg b.fG (zv b).natAbs:=by rw [me];rfl
 generalize (zv a).natAbs=x at *
 generalize (zv b).natAbs=y at *
 rw [hX,hY] at hz ⊢
 generalize a.fG=p at *
 generalize b.fG=q at *
 cases hpq:(p == q) with
 | true =>
  have hpq:p=q:=by simpa using hpq
  subst hpq
  have e:sg p x+sg p y=sg p (x+y):=by cases p<;>simp [sg]<;>omega
  rw [e] at hz ⊢
  unfold ZB at hz
  rw [rK] at hz
  refine Gv.aR rfl (Gv.bind (r:=lm (x+y)) (.of (n+2) fun N hN=>abS (by simp only [SM];omega) (by simp only [SM];omega) (by omega) (by omega)) ?_)
  exact (qp _ (by simp only [SM];omega)).bind (Gv.pure _)
 | false =>
  have hpq:q=!p:=by cases p<;>cases q<;>simp_all
  subst hpq
  refine Gv.bd rfl ?_
  refine Gv.bind (r:=Sl x y) (.of (n+2) fun N hN=>XH (by omega) (by simp only [SM];omega) (by simp only [SM];omega)) ?_
  have iQ:=abP (a:=x) (b:=y) (by simp only [SM];omega) (by simp only [SM];omega)
  by_cases hxy:x < y
  ·refine Gv.bd (decide_eq_false (by have:=iQ.2 hxy;omega)) (Gv.bind (r:=lm (y - x)) (.of (n+2) fun N hN=>QX (by omega) (by simp only [SM];omega) (by omega)) ?_)
   have e:sg p x+sg (!p) y=sg (!p) (y - x):=by cases p<;>simp [sg]<;>omega
   rw [e] at hz ⊢
   unfold ZB at hz
   rw [rK] at hz
   exact (qp _ (by simp only [SM];omega)).bind (Gv.pure _)
  ·refine Gv.aR (decide_eq_true (by have:=fun h=>hxy (iQ.1 h);omega)) (Gv.bind (r:=lm (x - y)) (.of (n+2) fun N hN=>QX (by omega) (by simp only [SM];omega) (by omega)) ?_)
   have e:sg p x+sg (!p) y=sg p (x - y):=by cases p<;>simp [sg]<;>omega
   rw [e] at hz ⊢
   unfold ZB at hz
   rw [rK] at hz
   exact (qp _ (by simp only [SM];omega)).bind (Gv.pure _)
theorem IB.opp (ha:IB a n):IB ⟨!a.fG,a.fL⟩ n:=⟨ha.U,ha.len⟩
theorem Oo (ha:IB a n) (hn:SM n):Gv (fun N=>yI N a) (zv a).sign:=by
 refine (wb ha hn).bind ?_
 have hX:zv a=sg a.fG (zv a).natAbs:=by rw [me];rfl
 generalize (zv a).natAbs=x at *
 rw [hX]
 generalize a.fG=p
 by_cases h:x=0
 ·subst h
  refine Gv.aR (by rw [jm];rfl) ((Gv.pure _).eq ?_)
  cases p<;>rfl
 ·refine Gv.bd ?_ ?_
  ·have:=oi.2 h
   simp;exact fun h'=>by rw [h'] at this;simp at this
  ·cases p with
   | true=>exact Gv.aR rfl ((Gv.pure _).eq (by simp only [sg,cond_true];rw [Int.sign_eq_neg_one_of_neg];omega))
   | false=>exact Gv.bd rfl ((Gv.pure _).eq (by simp only [sg,cond_false];rw [Int.sign_eq_one_of_pos];omega))
theorem alQ {z:Int} (h1:-9223372036854775808<=z) (h2:z<=9223372036854775807):Gv (fun N=>yG N z) (Bk z):=by
 have hl:ZB z 4:=ZB.word h1 h2
 unfold ZB at hl
 unfold yG
 by_cases h:z < 0
 ·refine Gv.aR (decide_eq_true h) (Gv.bind (r:=lm z.natAbs) (.of 5 fun N hN=>?_) ?_)
  ·have e:IntKind.u64.wrap (0 - IntKind.u64.wrap z)=((z.natAbs:Nat):Int):=by rw [wrap64,wrap64];omega
   rw [e];exact I7 (by omega) (by omega)
  ·refine (qp true (by simp only [SM];omega)).bind ((Gv.pure _).eq ?_)
   have:sg true z.natAbs=z:=by simp [sg];omega
   rw [this]
 ·refine Gv.bd (decide_eq_false h) (Gv.bind (r:=lm z.natAbs) (.of 5 fun N hN=>?_) ?_)
  ·have e:IntKind.u64.wrap z=((z.natAbs:Nat):Int):=by rw [wrap64];omega
   rw [e];exact I7 (by omega) (by omega)
  ·refine (qp false (by simp only [SM];omega)).bind ((Gv.pure _).eq ?_)
   have:sg false z.natAbs=z:=by simp [sg];omega
   rw [this]
theorem apI {z:Int} (h1:-9223372036854775808<=z) (h2:z<=9223372036854775807):Gv (fun N=>Tg N z) (Bk z):=by
 unfold Tg
 by_cases h:z < 0
 ·refine Gv.aR (decide_eq_true h) (Gv.bind (r:=lm z.natAbs) (.of 5 fun N hN=>?_) ?_)
  ·have e:IntKind.u64.wrap ((IntKind.u64.wrap ((aE (0 - (aE (z+1))))))+1)=((z.natAbs:Nat):Int):=by rw [aX (n:=z+1) (by omega) (by omega),aX (by omega) (by omega),wrap64,wrap64];omega
   rw [e];exact XP (by omega) (by omega)
  ·refine (Gv.pure _).eq ?_
   unfold Bk;rw [decide_eq_true h]
 ·refine Gv.bd (decide_eq_false h) (Gv.bind (r:=lm z.natAbs) (.of 5 fun N hN=>?_) ?_)
  ·have e:IntKind.u64.wrap z=((z.natAbs:Nat):Int):=by rw [wrap64];omega
   rw [e];exact XP (by omega) (by omega)
  ·refine (Gv.pure _).eq ?_
   unfold Bk;rw [decide_eq_false h]
theorem ads (ha:IB a m) (hb:IB b n) (hs:SM (m+n+2)) (h0:zv b≠0):Gv (fun N=>CK N a b) (Bk (zv a / zv b),Bk (zv a % zv b),0):=by
 simp only [SM] at hs
 have O7:=ha.zb
 have zQ:=hb.zb
 unfold ZB at O7 zQ
 refine (wb ha (by simp only [SM];omega)).bind ((wb hb (by simp only [SM];omega)).bind ?_)
 have hX:zv a=sg a.fG (zv a).natAbs:=by rw [me];rfl
 have hY:zv b=sg b.fG (zv b).natAbs:=by rw [me];rfl
 generalize hx:(zv a).natAbs=x at *
 generalize hy:(zv b).natAbs=y at *
 have hy0:y≠0:=by omega
 refine Gv.bd (by have:=oi.2 hy0;simp;exact fun h'=>by rw [h'] at this;simp at this) ?_
 refine Gv.bind (r:=(lm (x / y),lm (x % y))) (.of (m+n+20) fun N hN=>GN hy0 (by simp only [SM];omega) (by omega)) ?_
 have hq:(lm (x / y)).length<=m:=eF (gD (Nat.div_le_self _ _)) O7
 have hr:(lm (x % y)).length<=n:=eF (gD (Nat.le_of_lt (Nat.mod_lt _ (by omega)))) zQ
 have fin:∀ (k r:Nat),(lm k).length<=m+1->(lm r).length<=n->zv a=zv b * sg (!(a.fG == b.fG)) k+r->r < y ->
   Gv (fun N=>sG N a b (lm k) (lm r)) (Bk (zv a / zv b),Bk (zv a % zv b),0):=by
  intro k r hk hr he iQ
  have ahH:zv a % zv b=(r:Int):=by
   rw [he,Int.add_comm,Int.add_mul_emod_self_left]
   have ss:zv b=(y:Int)\/zv b = -(y:Int):=by omega
   rcases ss with h | h
   ·rw [h];exact Int.emod_eq_of_lt (by omega) (by omega)
   ·rw [h,Int.emod_neg];exact Int.emod_eq_of_lt (by omega) (by omega)
  have hdiv:zv a / zv b=sg (!(a.fG == b.fG)) k:=by
   have h1:=Int.mul_ediv_add_emod (zv a) (zv b)
   rw [ahH] at h1
   have h2:zv b * (zv a / zv b)=zv b * sg (!(a.fG == b.fG)) k:=by omega
   exact Int.eq_of_mul_eq_mul_left h0 h2
  refine (qp _ (by simp only [SM];omega)).bind ((qp false (by simp only [SM];omega)).bind ((Gv.pure _).eq ?_))
  rw [ahH,hdiv];rfl
 have hxy:=Nat.div_add_mod x y
 have hml:=Nat.mod_lt x (Nat.pos_of_ne_zero hy0)
 by_cases ahI:a.fG=true/\0 < x % y
 ·obtain ⟨hp,Sn⟩:=ahI
  have hl:=oi.2 (show x % y≠0 by omega)
  refine Gv.aR (by rw [hp,cond_true];show decide ((((lm (x % y)).length:Nat):Int) > 0)=true;exact decide_eq_true (by omega)) ?_
  have hk1:(lm (x / y+1)).length<=m+1:=by
   rw [jf] at hq ⊢
   rw [iK];have:=mZ m;omega
  have e1:([1]:List Int)=lm 1:=by rw [tE (by decide)];simp [jm]
  refine Gv.bind (r:=lm (x / y+1)) (.of (m+5) fun N hN=>by rw [e1];exact abS (by simp only [SM];omega) (by rw [<- e1];decide) (by omega) (by rw [<- e1];simp;omega)) ?_
  refine Gv.bind (r:=lm (y - x % y)) (.of (n+2) fun N hN=>QX (by omega) (by simp only [SM];omega) (by omega)) ?_
  refine fin _ _ hk1 (eF (gD (Nat.sub_le _ _)) zQ) ?_ (by omega)
  rw [hX,hY,hp]
  have anx:(x:Int)=y * (x / y:Nat)+(x % y:Nat):=by exact_mod_cast hxy.symm
  have asq:((y - x % y:Nat):Int)=y - (x % y:Nat):=by omega
  rw [asq]
  generalize (x / y)=k at *
  generalize (x % y)=r at *
  cases b.fG<;>simp only [sg,cond_true,cond_false,Bool.not_true,Bool.not_false,BEq.rfl,show (true == false)=false from rfl]<;>rw [anx]<;>push_cast<;>grind
 ·have hcf:cond a.fG (decide ((((lm (x % y)).length:Nat):Int) > 0)) false=false:=by
   cases hp:a.fG with
   | false=>rfl
   | true =>
    have:x % y=0:=Nat.eq_zero_of_not_pos fun h=>ahI ⟨hp,h⟩
    rw [this,jm];rfl
  refine Gv.bd hcf ?_
  refine fin _ _ (by omega) hr ?_ hml
  rw [hX,hY]
  have anx:(x:Int)=y * (x / y:Nat)+(x % y:Nat):=by exact_mod_cast hxy.symm
  have hz:a.fG=true->x % y=0:=fun hp=>Nat.eq_zero_of_not_pos fun h=>ahI ⟨hp,h⟩
  generalize (x / y)=k at *
  generalize (x % y)=r at *
  cases hp:a.fG<;>cases b.fG<;>simp only [sg,cond_true,cond_false,Bool.not_true,Bool.not_false,BEq.rfl,show (true == false)=false from rfl,show (false == true)=false from rfl]<;>rw [anx]<;>(try have Sn:=hz hp)<;>grind
end
end Go.Den
namespace Go.Den
open Go.Ab
theorem adt {N:Nat} (K:List Int->List Int->Option (List Int)) (hN:4 < N):∀ (y x fuel:Nat),y < fuel->x < 18446744073709551616->y < 18446744073709551616->js N K fuel (x:Int) (y:Int)=some (lm (Nat.gcd x y)):=by
 intro y
 induction y using Nat.strongRecOn with
 | _ y ih =>
  intro x fuel hf hx hy
  obtain ⟨g,rfl⟩:∃ g,fuel=g+1:=⟨fuel - 1,by omega⟩
  rw [js]
  by_cases h:y=0
  ·subst h
   rw [decide_eq_false (by decide),cond_false,I7 hN hx,a9,Nat.gcd_zero_right]
  ·rw [decide_eq_true (by omega),cond_true,if_pos (by omega),Int.tmod_eq_emod_of_nonneg (by omega)]
   have e:((x:Int) % (y:Int))=((x % y:Nat):Int):=by simp
   have iQ:=Nat.mod_lt x (Nat.pos_of_ne_zero h)
   rw [e,ih (x % y) iQ y g (by omega) hy (by omega),Nat.gcd_comm x y,Nat.gcd_rec y x,Nat.gcd_comm]
theorem adu {N:Nat} {k:Nat} (hk:SM (2 * k+2)) (hN:2 * k+20 < N):∀ (y x fuel:Nat),y < fuel->y < N->(lm x).length<=k->(lm y).length<=k->iC N fuel (lm x) (lm y)=some (lm (Nat.gcd x y)):=by
 intro y
 simp only [SM] at hk
 induction y using Nat.strongRecOn with
 | _ y ih =>
  intro x fuel hf hyN hx hy
  obtain ⟨g,rfl⟩:∃ g,fuel=g+1:=⟨fuel - 1,by omega⟩
  rw [iC]
  by_cases h:y=0
  ·subst h
   rw [jm,Nat.gcd_zero_right];rfl
  ·have hl:=oi.2 h
   rw [decide_eq_true (by omega),cond_true,VV (by omega) (by simp only [SM];omega),a9,VV (by omega) (by simp only [SM];omega),a9]
   by_cases h4:(lm x).length<=4/\(lm y).length<=4
   ·rw [if_pos h4.1,if_pos h4.2]
    have b1:=jf.1 h4.1
    have b2:=jf.1 h4.2
    have e4:pw 4=18446744073709551616:=by decide
    exact adt _ (by omega) y x N hyN (by omega) (by omega)
   ·have e:cond (if (lm x).length<=4 then ((x:Int),true) else (0,false)).2 (if (lm y).length<=4 then ((y:Int),true) else (0,false)).2 false=false:=by
     by_cases h1:(lm x).length<=4
     ·have h2:¬ (lm y).length<=4:=fun h2=>h4 ⟨h1,h2⟩
      rw [if_pos h1,if_neg h2];rfl
     ·rw [if_neg h1];rfl
    rw [e,cond_false,GN h (by simp only [SM];omega) (by omega),a9]
    have iQ:=Nat.mod_lt x (Nat.pos_of_ne_zero h)
    rw [ih (x % y) iQ y g (by omega) (by omega) hy (eF (gD (by omega)) hy),Nat.gcd_comm x y,Nat.gcd_rec y x,Nat.gcd_comm]
theorem adv {x y k:Nat} (hx:(lm x).length<=k) (hy:(lm y).length<=k) (hk:SM (2 * k+2)):Gv (fun N=>vn N (lm x) (lm y)) (lm (Nat.gcd x y)) :=
 .of (2 * k+21+y) fun N hN=>adu hk (by omega) y x N (by omega) (by omega) hx hy
def dv (x:aa):Int:=if zv x.fD=0 then 1 else zv x.fD
def qv (x:aa):Rat:=Rat.divInt (zv x.fN) (dv x)
def bL (q:Rat):aa:=⟨Bk q.num,Bk (q.den:Int)⟩
structure RB (q:Rat) (n:Nat):Prop where
 num:ZB q.num n
 den:ZB (q.den:Int) n
structure IR (x:aa) (n:Nat):Prop where
 num:IB x.fN n
 den:IB x.fD n
theorem Al (x:aa):dv x≠0:=by unfold dv;split<;>omega
theorem RB.le {q:Rat} {m n:Nat} (h:RB q m) (hmn:m<=n):RB q n:=⟨h.num.le hmn,h.den.le hmn⟩
theorem IR.le {x:aa} {m n:Nat} (h:IR x m) (hmn:m<=n):IR x n:=⟨h.num.le hmn,h.den.le hmn⟩
theorem RB.ir {q:Rat} {n:Nat} (h:RB q n):IR (bL q) n:=⟨h.num.ib,h.den.ib⟩
theorem anz (q:Rat):dv (bL q)=q.den:=by
 unfold dv bL;simp only [rh];rw [if_neg];have:=q.den_nz;omega
theorem tF (q:Rat):qv (bL q)=q:=by
 unfold qv;rw [anz];simp only [bL,rh];exact Rat.num_divInt_den q
theorem Q5 (a:Int) (b:Nat) (hb:b≠0):(a / (b:Int)).natAbs<=a.natAbs:=Int.natAbs_ediv_le_natAbs a b
theorem GO {a b:Int} {n:Nat} (ha:ZB a n) (hb:ZB b n) (h0:b≠0):RB (Rat.divInt a b) n:=by
 have hg:Int.gcd b a≠0:=fun h=>h0 (Int.gcd_eq_zero_iff.1 h).1
 constructor
 ·rw [Rat.num_divInt]
  refine ha.of_le (eF (Q5 _ _ hg) ?_)
  rw [Int.natAbs_mul,Int.natAbs_sign_of_ne_zero h0];omega
 ·rw [Rat.den_divInt,if_neg h0]
  refine hb.of_le ?_
  rw [Int.natAbs_natCast]
  exact Nat.div_le_self _ _
theorem IR.rb {x:aa} {n:Nat} (h:IR x n) (hn:1<=n):RB (qv x) n:=by
 refine GO h.num.zb ?_ (Al x)
 unfold dv
 split
 ·exact (ZB.small (by decide)).le hn
 ·exact h.den.zb
theorem RB.int {z:Int} {n:Nat} (h:ZB z n) (hn:1<=n):RB (z:Rat) n:=⟨h,(ZB.small (x:=1) (by decide)).le hn⟩
theorem RB.neg {q:Rat} {n:Nat} (h:RB q n):RB (-q) n:=⟨by rw [Rat.neg_num];exact h.num.neg,by rw [Rat.neg_den];exact h.den⟩
theorem nb (q:Rat):q=Rat.divInt q.num q.den:=(Rat.num_divInt_den q).symm
theorem pS (q:Rat):(q.den:Int)≠0:=by have:=q.den_nz;omega
theorem RB.add {p q:Rat} {m n:Nat} (h1:RB p m) (h2:RB q n):RB (p+q) (m+n+1):=by
 rw [nb p,nb q,Rat.divInt_add_divInt _ _ (pS p) (pS q)]
 refine GO ((h1.num.mul h2.den).add ((h2.num.mul h1.den).le (by omega))) ((h1.den.mul h2.den).le (by omega)) ?_
 exact Int.mul_ne_zero (pS p) (pS q)
theorem RB.sub {p q:Rat} {m n:Nat} (h1:RB p m) (h2:RB q n):RB (p - q) (m+n+1):=by rw [Rat.sub_eq_add_neg];exact h1.add h2.neg
theorem RB.mul {p q:Rat} {m n:Nat} (h1:RB p m) (h2:RB q n):RB (p * q) (m+n):=by
 rw [nb p,nb q,Rat.divInt_mul_divInt]
 exact GO (h1.num.mul h2.num) (h1.den.mul h2.den) (Int.mul_ne_zero (pS p) (pS q))
theorem uK {a b c d:Int} (hb:b≠0) (hd:d≠0):Rat.divInt a b / Rat.divInt c d=Rat.divInt (a * d) (b * c):=by
 rw [Rat.div_def,Rat.inv_divInt,Rat.divInt_mul_divInt]
theorem ahJ {q:Rat} (h:q≠0):q.num≠0:=fun h'=>h (Rat.num_eq_zero.1 h')
theorem RB.div {p q:Rat} {m n:Nat} (h1:RB p m) (h2:RB q n) (h0:q≠0):RB (p / q) (m+n):=by
 rw [nb p,nb q,uK (pS p) (pS q)]
 exact GO (h1.num.mul h2.den) (h1.den.mul h2.num) (Int.mul_ne_zero (pS p) (ahJ h0))
section
variable {a b:cX} {x y:aa} {m n:Nat}
theorem tY (ha:IB a n) (hb:IB b n) (h0:zv b≠0) (hs:SM (2 * n+2)):Gv (fun N=>jy N a b) (bL (Rat.divInt (zv a) (zv b))):=by
 simp only [SM] at hs
 have O7:=ha.zb
 have zQ:=hb.zb
 unfold ZB at O7 zQ
 refine (wb ha (by simp only [SM];omega)).bind ((wb hb (by simp only [SM];omega)).bind ?_)
 have hX:zv a=sg a.fG (zv a).natAbs:=by rw [me];rfl
 have hY:zv b=sg b.fG (zv b).natAbs:=by rw [me];rfl
 generalize hxx:(zv a).natAbs=x at *
 generalize hyy:(zv b).natAbs=y at *
 have hy0:y≠0:=by omega
 have hg0:0 < Nat.gcd x y:=Nat.gcd_pos_of_pos_right _ (by omega)
 refine (adv O7 zQ (by simp only [SM];omega)).bind ?_
 have hgl:=oi.2 (show Nat.gcd x y≠0 by omega)
 have hgn:(lm (Nat.gcd x y)).length<=n:=eF (gD (Nat.gcd_le_right _ (by omega))) zQ
 have fin:∀ u v:Nat,u=x / Nat.gcd x y->v=y / Nat.gcd x y->Gv (fun N=>lg N a b (lm u) (lm v)) (bL (Rat.divInt (zv a) (zv b))):=by
  intro u v hu hv
  have hul:(lm u).length<=n:=eF (gD (by rw [hu];exact Nat.div_le_self _ _)) O7
  have hvl:(lm v).length<=n:=eF (gD (by rw [hv];exact Nat.div_le_self _ _)) zQ
  refine (qp _ (by simp only [SM];omega)).bind ((qp false (by simp only [SM];omega)).bind ((Gv.pure _).eq ?_))
  have anA:Int.gcd (zv b) (zv a)=Nat.gcd x y:=by unfold Int.gcd;rw [hxx,hyy,Nat.gcd_comm]
  unfold bL
  rw [Rat.num_divInt,Rat.den_divInt,if_neg h0,anA,hyy]
  have hd:(Nat.gcd x y) ∣ x:=Nat.gcd_dvd_left _ _
  have e1:(zv b).sign * zv a / ((Nat.gcd x y:Nat):Int)=sg (!(a.fG == b.fG)) u:=by
   have hxu:(x:Int)=(Nat.gcd x y:Nat) * (u:Int):=by
    have:x=Nat.gcd x y * u:=by rw [hu,Nat.mul_div_cancel' hd]
    exact_mod_cast this
   have e2:(zv b).sign * zv a=(Nat.gcd x y:Nat) * sg (!(a.fG == b.fG)) u:=by
    rw [hX,hY]
    cases a.fG<;>cases b.fG<;>simp only [sg,cond_true,cond_false,Bool.not_true,Bool.not_false,BEq.rfl,show (true == false)=false from rfl,show (false == true)=false from rfl]
    ·rw [Int.sign_eq_one_of_pos (by omega),Int.one_mul,<- hxu]
    ·rw [Int.sign_eq_neg_one_of_neg (by omega),Int.mul_neg,<- hxu];omega
    ·rw [Int.sign_eq_one_of_pos (by omega),Int.one_mul,Int.mul_neg,<- hxu]
    ·rw [Int.sign_eq_neg_one_of_neg (by omega),<- hxu];omega
   rw [e2,Int.mul_ediv_cancel_left _ (by omega)]
  rw [e1,<- hv];rfl
 have e0:(lm (Nat.gcd x y)).getD 0 0=((Nat.gcd x y % 65536:Nat):Int):=by rw [tE (by omega)];rfl
 refine Gv.if (fun _=>⟨by omega,by omega⟩) ?_
 rw [e0]
 by_cases h1:Nat.gcd x y=1
 ·refine Gv.bd ?_ (fin x y (by rw [h1,Nat.div_one]) (by rw [h1,Nat.div_one]))
  rw [h1,tE (by decide)];simp [jm]
 ·refine Gv.aR ?_ ?_
  ·by_cases h2:(lm (Nat.gcd x y)).length=1
   ·have:=jf.1 (show (lm (Nat.gcd x y)).length<=1 by omega)
    have e1:pw 1=65536:=by decide
    rw [h2]
    have h3:(((Nat.gcd x y % 65536:Nat):Int) != 1)=true:=by simp;omega
    rw [h3];rfl
   ·have h3:((((lm (Nat.gcd x y)).length:Nat):Int) != 1)=true:=by simp;omega
    rw [h3];rfl
  ·refine Gv.bind (r:=(lm (x / Nat.gcd x y),lm (x % Nat.gcd x y))) (.of (2 * n+20) fun N hN=>GN (by omega) (by simp only [SM];omega) (by omega)) ?_
   refine Gv.bind (r:=(lm (y / Nat.gcd x y),lm (y % Nat.gcd x y))) (.of (2 * n+20) fun N hN=>GN (by omega) (by simp only [SM];omega) (by omega)) ?_
   exact fin _ _ rfl rfl
def KI (x:aa):cX:=if zv x.fD=0 then ⟨false,[1]⟩ else x.fD
theorem aai:zv ⟨false,[1]⟩=1:=by decide
theorem mH (x:aa):zv (KI x)=dv x:=by unfold KI dv;split<;>simp [aai]
theorem ahK {n:Nat} (hn:1<=n):IB ⟨false,[1]⟩ n:=⟨U.one (by decide) (by decide),hn⟩
theorem IR.KI (h:IR x n) (hn:1<=n):IB (KI x) n:=by
 unfold Go.Den.KI;split
 ·exact ahK hn
 ·exact h.den
theorem uL (hx:IR x n) (hs:SM n):Gv (fun N=>m6 N x) (KI x):=by
 refine (Oo hx.den hs).bind ?_
 unfold KI
 by_cases h:zv x.fD=0
 ·rw [if_pos h];exact Gv.aR (by rw [h];rfl) (Gv.pure _)
 ·rw [if_neg h]
  exact Gv.bd (by simp;exact h) (Gv.pure _)
theorem GP (hx:IR x n) (hn:1<=n) (hs:SM (2 * n+2)):Gv (fun N=>j9 N x) (bL (qv x)):=by
 have N8:=hs
 simp only [SM] at N8
 refine (uL hx (by simp only [SM];omega)).bind ?_
 refine (tY hx.num (hx.KI hn) (by rw [mH];exact Al x) hs).bind ((Gv.pure _).eq ?_)
 rw [mH];rfl
theorem GQ (hx:IR x n) (hs:SM n):Gv (fun N=>g7 N x) (decide (qv x=0)):=by
 refine (Oo hx.num hs).bind ((Gv.pure _).eq ?_)
 unfold qv
 by_cases h:zv x.fN=0
 ·rw [h,Rat.zero_divInt];rfl
 ·have:Rat.divInt (zv x.fN) (dv x)≠0:=by
   rw [<- Rat.zero_divInt 1,ne_eq,Rat.divInt_eq_divInt_iff (Al x) (by decide)];simpa using h
  rw [decide_eq_false this]
  simp;exact h
theorem Tz (hx:IR x m) (hy:IR y n) (hm:1<=m) (hn:1<=n) (hs:SM (2 * (m+n+1)+2)):Gv (fun N=>g8 N x y) (bL (qv x+qv y)):=by
 simp only [SM] at hs
 refine (GQ hx (by simp only [SM];omega)).bind ?_
 by_cases h1:qv x=0
 ·refine Gv.aR (decide_eq_true h1) ((GP hy hn (by simp only [SM];omega)).bind ((Gv.pure _).eq ?_))
  rw [h1,Rat.zero_add]
 ·refine Gv.bd (decide_eq_false h1) ((GQ hy (by simp only [SM];omega)).bind ?_)
  by_cases h2:qv y=0
  ·refine Gv.aR (decide_eq_true h2) ((GP hx hm (by simp only [SM];omega)).bind ((Gv.pure _).eq ?_))
   rw [h2,Rat.add_zero]
  ·refine Gv.bd (decide_eq_false h2) ((uL hx (by simp only [SM];omega)).bind ((uL hy (by simp only [SM];omega)).bind ?_))
   refine (F4 hx.num (hy.KI hn) (by simp only [SM];omega)).bind ((F4 hy.num (hx.KI hm) (by simp only [SM];omega)).bind ?_)
   have z1:=hx.num.zb.mul (hy.KI hn).zb
   have z2:=hy.num.zb.mul (hx.KI hm).zb
   have z3:=(hx.KI hm).zb.mul (hy.KI hn).zb
   rw [mH] at z1 z2
   rw [mH,mH] at z3
   refine Gv.bind (r:=Bk (zv x.fN * dv y+zv y.fN * dv x)) ?_ ?_
   ·have:=ahG (n:=m+n) (a:=Bk (zv x.fN * zv (KI y))) (b:=Bk (zv y.fN * zv (KI x))) (by rw [mH];exact z1.ib) (by rw [mH];exact (z2.le (by omega)).ib) (by simp only [SM];omega)
    rw [rh,rh,mH,mH] at this
    rw [mH,mH];exact this
   ·refine Gv.bind (r:=Bk (dv x * dv y)) ?_ ?_
    ·have:=F4 (hx.KI hm) (hy.KI hn) (by simp only [SM];omega)
     rwa [mH,mH] at this
    ·have h0:dv x * dv y≠0:=Int.mul_ne_zero (Al x) (Al y)
     refine (tY (n:=m+n+1) (z1.add (z2.le (by omega))).ib (z3.le (by omega)).ib (by rw [rh];exact h0) (by simp only [SM];omega)).bind ((Gv.pure _).eq ?_)
     rw [rh,rh]
     unfold qv
     rw [Rat.divInt_add_divInt _ _ (Al x) (Al y)]
theorem tZ (hx:IR x n) (hn:1<=n) (hs:SM (2 * n+2)):Gv (fun N=>gq N x) (bL (-qv x)):=by
 have N8:=hs
 simp only [SM] at N8
 refine (XU x.fN).bind ((uL hx (by simp only [SM];omega)).bind ?_)
 refine (tY hx.num.opp (hx.KI hn) (by rw [mH];exact Al x) hs).bind ((Gv.pure _).eq ?_)
 rw [XV,mH];unfold qv;rw [Rat.neg_divInt]
theorem TA (hx:IR x m) (hy:IR y n) (hm:1<=m) (hn:1<=n) (hs:SM (2 * (m+n+1)+2)):Gv (fun N=>qQ N x y) (bL (qv x - qv y)):=by
 have N8:=hs
 simp only [SM] at N8
 refine (tZ hy hn (by simp only [SM];omega)).bind ?_
 refine (Tz hx (hy.rb hn).neg.ir hm hn hs).bind ((Gv.pure _).eq ?_)
 rw [tF,Rat.sub_eq_add_neg]
theorem adw (hx:IR x m) (hy:IR y n) (hm:1<=m) (hn:1<=n) (hs:SM (2 * (m+n)+2)):Gv (fun N=>fq N x y) (bL (qv x * qv y)):=by
 simp only [SM] at hs
 refine (F4 hx.num hy.num (by simp only [SM];omega)).bind ((uL hx (by simp only [SM];omega)).bind ((uL hy (by simp only [SM];omega)).bind ?_))
 refine (F4 (hx.KI hm) (hy.KI hn) (by simp only [SM];omega)).bind ?_
 have z1:=hx.num.zb.mul hy.num.zb
 have z3:=(hx.KI hm).zb.mul (hy.KI hn).zb
 have h0:dv x * dv y≠0:=Int.mul_ne_zero (Al x) (Al y)
 refine (tY (n:=m+n) z1.ib z3.ib (by rw [rh,mH,mH];exact h0) (by simp only [SM];omega)).bind ((Gv.pure _).eq ?_)
 rw [rh,rh,mH,mH]
 unfold qv
 rw [Rat.divInt_mul_divInt]
theorem abX (hx:IR x m) (hy:IR y n) (hm:1<=m) (hn:1<=n) (h0:qv y≠0) (hs:SM (2 * (m+n)+2)):Gv (fun N=>qR N x y) (bL (qv x / qv y)):=by
 simp only [SM] at hs
 refine (uL hy (by simp only [SM];omega)).bind ((F4 hx.num (hy.KI hn) (by simp only [SM];omega)).bind ((uL hx (by simp only [SM];omega)).bind ((F4 (hx.KI hm) hy.num (by simp only [SM];omega)).bind ?_)))
 have z1:=hx.num.zb.mul (hy.KI hn).zb
 have z3:=(hx.KI hm).zb.mul hy.num.zb
 have hyn:zv y.fN≠0:=fun h=>h0 (by unfold qv;rw [h,Rat.zero_divInt])
 have h0:dv x * zv y.fN≠0:=Int.mul_ne_zero (Al x) hyn
 refine (tY (n:=m+n) z1.ib z3.ib (by rw [rh,mH];exact h0) (by simp only [SM];omega)).bind ((Gv.pure _).eq ?_)
 rw [rh,rh,mH,mH]
 unfold qv
 rw [uK (Al x) (Al y)]
def uP (q:Rat):Int:=q.num.sign
theorem XW {a b:Int} (hb:b≠0):(Rat.divInt a b).num.sign=a.sign * b.sign:=by
 rw [Rat.num_divInt]
 have hg:Int.gcd b a≠0:=fun h=>hb (Int.gcd_eq_zero_iff.1 h).1
 obtain ⟨c,hc⟩:((Int.gcd b a:Nat):Int) ∣ a:=Int.gcd_dvd_right ..
 have e:b.sign * a / ((Int.gcd b a:Nat):Int)=b.sign * c:=by
  have e0:b.sign * a=((Int.gcd b a:Nat):Int) * (b.sign * c):=by rw [Int.mul_left_comm,<- hc]
  rw [e0,Int.mul_ediv_cancel_left _ (by omega)]
 rw [e,Int.sign_mul,Int.sign_sign]
 have e2:a.sign=c.sign:=by
  have e0:=congrArg Int.sign hc
  rw [Int.sign_mul,Int.sign_eq_one_of_pos (show 0 < ((Int.gcd b a:Nat):Int) by omega),Int.one_mul] at e0
  exact e0
 rw [e2,jk]
theorem M6 (z:Int):z.sign=0\/z.sign=1\/z.sign = -1:=by
 rcases Int.lt_trichotomy z 0 with h | h | h
 ·right;right;exact Int.sign_eq_neg_one_of_neg h
 ·left;rw [h];rfl
 ·right;left;exact Int.sign_eq_one_of_pos h
theorem TC (hx:IR x n) (hn:1<=n) (hs:SM n):Gv (fun N=>n7 N x) (uP (qv x)):=by
 refine (Oo hx.num hs).bind ((uL hx hs).bind ((Oo (hx.KI hn) hs).bind ((Gv.pure _).eq ?_)))
 rw [mH]
 unfold uP qv
 rw [XW (Al x)]
 rcases M6 (zv x.fN) with h | h | h<;>rcases M6 (dv x) with h' | h' | h'<;>rw [h,h']<;>rfl
theorem adx (hx:IR x m) (hy:IR y n) (hm:1<=m) (hn:1<=n) (hs:SM (2 * (m+n+1)+2)):Gv (fun N=>mn N x y) (uP (qv x - qv y)):=by
 have N8:=hs
 simp only [SM] at N8
 refine (TA hx hy hm hn hs).bind ?_
 refine (TC ((hx.rb hm).sub (hy.rb hn)).ir (by omega) (by simp only [SM];omega)).bind ((Gv.pure _).eq ?_)
 rw [tF]
theorem Q6 (z:Int):Rat.divInt z 1=(z:Rat):=by
 apply Rat.ext
 ·rw [Rat.num_divInt];simp
 ·rw [Rat.den_divInt];simp
theorem XX (ha:IB a n) (hn:1<=n) (hs:SM (2 * n+2)):Gv (fun N=>oG N a) (bL (zv a:Rat)):=by
 refine (tY ha (ahK hn) (by rw [aai];decide) hs).bind ((Gv.pure _).eq ?_)
 rw [aai,Q6]
theorem vJ {z:Int} (h1:-9223372036854775808<=z) (h2:z<=9223372036854775807):Gv (fun N=>fo N z) (bL (z:Rat)):=by
 refine (alQ h1 h2).bind ((XX (n:=4) (ZB.word h1 h2).ib (by decide) (by simp)).bind ((Gv.pure _).eq ?_))
 rw [rh]
theorem XY {z:Int} (h1:-9223372036854775808<=z) (h2:z<=9223372036854775807):Gv (fun N=>ER N z) (bL (z:Rat)) :=
 (apI h1 h2).bind ((apI (by decide) (by decide)).bind ((Gv.pure _).eq rfl))
theorem ahL (hx:IR x n) (hn:1<=n) (hs:SM (2 * n+2)):Gv (fun N=>BI N x) (Bk (qv x).floor):=by
 refine (GP hx hn hs).bind ?_
 have hr:=hx.rb hn
 refine (ads (m:=n) (n:=n) hr.num.ib hr.den.ib (by simp only [SM] at *;omega) (by simp only [bL,rh];exact pS _)).bind ((Gv.pure _).eq ?_)
 simp only [bL,rh]
 rw [Rat.floor_def]
theorem ady (hx:IR x m) (hy:IR y n) (hm:1<=m) (hn:1<=n) (h0:qv y≠0) (hs:SM (2 * (m+n)+2)):Gv (fun N=>yL N x y) (bL (qv x / qv y),0):=by
 have N8:=hs
 simp only [SM] at N8
 refine (GQ hy (by simp only [SM];omega)).bind (Gv.bd (decide_eq_false h0) ((abX hx hy hm hn h0 hs).bind (Gv.pure _)))
end
theorem oC {q:Rat}:uP q < 0↔q < 0:=by
 unfold uP;rw [Rat.lt_iff]
 simp
theorem XZ {q:Rat}:uP q=0↔q=0:=by
 unfold uP;rw [Int.sign_eq_zero_iff_zero];exact Rat.num_eq_zero
theorem Oq {q:Rat}:0 < uP q↔0 < q:=by
 unfold uP;rw [Rat.lt_iff]
 simp
end Go.Den
namespace Go.Den
open Go.Ab
def aF {α:Type} (f:Nat->Nat->Option α) (r:α):Prop:=∃ N0,∀ N fuel,N0<=N->N0<=fuel->f N fuel=some r
theorem aF.diag {α:Type} {f:Nat->Nat->Option α} {r:α} (h:aF f r):Gv (fun N=>f N N) r:=let ⟨N0,h0⟩:=h;⟨N0,fun N hN=>h0 N N hN hN⟩
theorem aF.step {α:Type} {f:Nat->Nat->Option α} {r:α} (N1:Nat) (h:∀ N g,N1<=N->N1<=g->f N (g+1)=some r):aF f r :=
 ⟨N1+1,fun N fuel hN hf=>by obtain ⟨g,rfl⟩:∃ g,fuel=g+1:=⟨fuel - 1,by omega⟩;exact h N g (by omega) (by omega)⟩
structure avb (RD:Nat->aa->aa->aa->Option aa) (R:Rat->Rat->Rat->Rat) (A B C:Nat):Prop where
 run:∀ (ch fr acc:Rat) (m:Nat),RB ch A->RB fr B->RB acc m->1<=m->m<=100000000->Gv (fun N=>RD N (bL ch) (bL fr) (bL acc)) (bL (R ch fr acc))
 bnd:∀ (ch fr acc:Rat) (m:Nat),RB ch A->RB fr B->RB acc m->RB (R ch fr acc) (m+C)
section
end
end Go.Den
namespace Go.Den
open Go.Ab
end Go.Den
namespace Go.Den
open Go.Ab
structure RQ (x:aa) (p:Rat) (n:Nat):Prop where
 ir:IR x n
 v:qv x=p
 pos:1<=n
structure ZI (a:cX) (z:Int) (n:Nat):Prop where
 ib:IB a n
 v:zv a=z
theorem RQ.rb {x:aa} {p:Rat} {n:Nat} (h:RQ x p n):RB p n:=h.v ▸ h.ir.rb h.pos
theorem RB.rq {p:Rat} {n:Nat} (h:RB p n) (hn:1<=n):RQ (bL p) p n:=⟨h.ir,tF p,hn⟩
theorem RQ.le {x:aa} {p:Rat} {m n:Nat} (h:RQ x p m) (hmn:m<=n):RQ x p n:=⟨h.ir.le hmn,h.v,eF h.pos hmn⟩
theorem ZI.zb {a:cX} {z:Int} {n:Nat} (h:ZI a z n):ZB z n:=h.v ▸ h.ib.zb
theorem ZB.zi {z:Int} {n:Nat} (h:ZB z n):ZI (Bk z) z n:=⟨h.ib,rh z⟩
theorem ZI.le {a:cX} {z:Int} {m n:Nat} (h:ZI a z m) (hmn:m<=n):ZI a z n:=⟨h.ib.le hmn,h.v⟩
section
variable {a b:cX} {x y:aa} {m n:Nat} {p q:Rat} {z w:Int}
theorem RQ.add (hx:RQ x p m) (hy:RQ y q n) (hs:SM (2 * (m+n+1)+2)):Gv (fun N=>g8 N x y) (bL (p+q)):=by
 have:=Tz hx.ir hy.ir hx.pos hy.pos hs;rwa [hx.v,hy.v] at this
theorem RQ.sub (hx:RQ x p m) (hy:RQ y q n) (hs:SM (2 * (m+n+1)+2)):Gv (fun N=>qQ N x y) (bL (p - q)):=by
 have:=TA hx.ir hy.ir hx.pos hy.pos hs;rwa [hx.v,hy.v] at this
theorem RQ.mul (hx:RQ x p m) (hy:RQ y q n) (hs:SM (2 * (m+n)+2)):Gv (fun N=>fq N x y) (bL (p * q)):=by
 have:=adw hx.ir hy.ir hx.pos hy.pos hs;rwa [hx.v,hy.v] at this
theorem RQ.div (hx:RQ x p m) (hy:RQ y q n) (h0:q≠0) (hs:SM (2 * (m+n)+2)):Gv (fun N=>yL N x y) (bL (p / q),0):=by
 have:=ady hx.ir hy.ir hx.pos hy.pos (by rw [hy.v];exact h0) hs;rwa [hx.v,hy.v] at this
theorem RQ.akt (hx:RQ x p m) (hy:RQ y q n) (h0:q≠0) (hs:SM (2 * (m+n)+2)):Gv (fun N=>qR N x y) (bL (p / q)):=by
 have:=abX hx.ir hy.ir hx.pos hy.pos (by rw [hy.v];exact h0) hs;rwa [hx.v,hy.v] at this
theorem RQ.cmp (hx:RQ x p m) (hy:RQ y q n) (hs:SM (2 * (m+n+1)+2)):Gv (fun N=>mn N x y) (uP (p - q)):=by
 have:=adx hx.ir hy.ir hx.pos hy.pos hs;rwa [hx.v,hy.v] at this
theorem RQ.uP (hx:RQ x p m) (hs:SM m):Gv (fun N=>n7 N x) (uP p):=by
 have:=TC hx.ir hx.pos hs;rwa [hx.v] at this
theorem RQ.low (hx:RQ x p m) (hs:SM (2 * m+2)):Gv (fun N=>j9 N x) (bL p):=by
 have:=GP hx.ir hx.pos hs;rwa [hx.v] at this
theorem RQ.zero (hx:RQ x p m) (hs:SM m):Gv (fun N=>g7 N x) (decide (p=0)):=by
 have:=GQ hx.ir hs;rwa [hx.v] at this
theorem RQ.floor (hx:RQ x p m) (hs:SM (2 * m+2)):Gv (fun N=>BI N x) (Bk p.floor):=by
 have:=ahL hx.ir hx.pos hs;rwa [hx.v] at this
theorem ZI.whole (ha:ZI a z n) (hn:1<=n) (hs:SM (2 * n+2)):Gv (fun N=>oG N a) (bL (z:Rat)):=by
 have:=XX ha.ib hn hs;rwa [ha.v] at this
theorem ZI.add (ha:ZI a z n) (hb:ZI b w n) (hs:SM (n+1)):Gv (fun N=>CI N a b) (Bk (z+w)):=by
 have:=ahG ha.ib hb.ib hs;rwa [ha.v,hb.v] at this
theorem ZI.mul (ha:ZI a z m) (hb:ZI b w n) (hs:SM (m+n)):Gv (fun N=>rz N a b) (Bk (z * w)):=by
 have:=F4 ha.ib hb.ib hs;rwa [ha.v,hb.v] at this
theorem RB.floor {p:Rat} (h:RB p n):ZB p.floor n:=by rw [Rat.floor_def];exact h.num.of_le (Int.natAbs_ediv_le_natAbs _ _)
end
end Go.Den
namespace Go.Den
open Go.Ab
theorem X0 {N:Nat} {a:List Int} (ha:U a) (hs:SM a.length):∀ (n fuel:Nat),n<=a.length->n < fuel->bW (a.take n)=bW a->l5 N a fuel (n:Int)=some (lm (bW a).toNat)
 | 0,fuel,_,hf,hv=>by
  obtain ⟨g,rfl⟩:∃ g,fuel=g+1:=⟨fuel - 1,by omega⟩
  rw [l5,if_pos (fun h=>by cases h)]
  have e:bW a=0:=by rw [<- hv];simp [bW]
  rw [e]
  have e1:cond (decide (((0:Nat):Int) > 0)) (a.getD (aE (((0:Nat):Int) - 1)).toNat 0 == 0) false=false:=rfl
  rw [e1,cond_false,if_pos ⟨by simp,by simp⟩,if_pos (by simp),if_pos (by simp)]
  simp [jm]
 | n+1,fuel,hn,hf,hv=>by
  obtain ⟨g,rfl⟩:∃ g,fuel=g+1:=⟨fuel - 1,by omega⟩
  simp only [SM] at hs
  have e1:aE (((n+1:Nat):Int) - 1)=(n:Int):=by rw [aX (by omega) (by omega)];omega
  have h1:=dC a n (by omega)
  rw [l5,e1,if_pos (fun _=>oX (by omega)),decide_eq_true (by omega),cond_true,ag]
  cases hx:(a.getD n 0 == 0) with
  | true =>
   have Y4:a.getD n 0=0:=eq_of_beq hx
   rw [cond_true]
   exact X0 ha hs n g (by omega) (by omega) (by rw [h1,Y4] at hv;omega)
  | false =>
   have Y4:a.getD n 0≠0:=fun h=>by rw [h] at hx;cases hx
   rw [cond_false,ag,if_pos ⟨Nat.zero_le _,hn⟩,if_pos (by omega),if_pos (by omega),List.nil_append,List.drop_zero,<- hv]
   congr 1
   refine (abN (ha.take _) fun m x he=>?_).symm
   have hl:m.length=n:=by have:=congrArg List.length he;rw [rl] at this;simp at this;omega
   have:(a.take (n+1)).getD n 0=x:=by rw [he,<- hl];simp [List.getD]
   rw [ep,List.getElem?_take_of_lt (by omega),<- ep] at this
   rw [<- this];exact Y4
theorem zo {N:Nat} {a:List Int} (ha:U a) (hs:SM a.length) (hN:a.length < N):pJ N a=some (lm (bW a).toNat) :=
 X0 ha hs a.length N (aN _) hN (by rw [List.take_length])
theorem abY {N:Nat} {a:List Int} (ha:U a) (hs:SM a.length) (hN:a.length < N):∀ (k i fuel:Nat),i+k=a.length->k < fuel->l6 N a fuel (a.take i) (i:Int)=some (lm (bW a).toNat)
 | 0,i,fuel,hi,hf=>by
  obtain ⟨g,rfl⟩:∃ g,fuel=g+1:=⟨fuel - 1,by omega⟩
  have:i=a.length:=by omega
  subst this
  rw [l6,dw,cond_false,List.take_length,zo ha hs hN,a9]
 | k+1,i,fuel,hi,hf=>by
  obtain ⟨g,rfl⟩:∃ g,fuel=g+1:=⟨fuel - 1,by omega⟩
  simp only [SM] at hs
  have h1:=ha.getD i
  rw [l6,dec_lt (by omega),cond_true,if_pos (oX (by omega)),if_pos (by rw [rl];omega),ag,aX (by omega) (by omega),aH (by omega)]
  have e:a.take i ++ [a.getD i 0]=a.take (i+1):=by rw [List.take_add_one];simp [List.getD,show i < a.length by omega]
  rw [e]
  exact abY ha (by simp only [SM];omega) hN k (i+1) g (by omega) (by omega)
theorem anB {N:Nat} {a:List Int} (ha:U a) (hs:SM a.length) (hN:a.length < N):lp N a=some (lm (bW a).toNat):=by
 have:=abY ha hs hN a.length 0 N (by omega) hN
 unfold lp
 simpa using this
theorem abZ {N:Nat} {neg:Bool} {a:List Int} (ha:U a) (hs:SM a.length):∀ (k i fuel:Nat),i+k=a.length->k < fuel->l4 N neg a fuel (a.take i) (i:Int)=some ⟨cond neg (decide (((a.length:Nat):Int) > 0)) false,a⟩
 | 0,i,fuel,hi,hf=>by
  obtain ⟨g,rfl⟩:∃ g,fuel=g+1:=⟨fuel - 1,by omega⟩
  have:i=a.length:=by omega
  subst this
  rw [l4,dw,cond_false,List.take_length]
 | k+1,i,fuel,hi,hf=>by
  obtain ⟨g,rfl⟩:∃ g,fuel=g+1:=⟨fuel - 1,by omega⟩
  simp only [SM] at hs
  have h1:=ha.getD i
  rw [l4,dec_lt (by omega),cond_true,if_pos (oX (by omega)),if_pos (by rw [rl];omega),ag,rJ (by omega) (by omega),aH (by omega)]
  have e:a.take i ++ [a.getD i 0]=a.take (i+1):=by rw [List.take_add_one];simp [List.getD,show i < a.length by omega]
  rw [e]
  exact abZ ha (by simp only [SM];omega) k (i+1) g (by omega) (by omega)
theorem aku (neg:Bool) {k:Nat} (hk:SM (lm k).length):Gv (fun N=>hH N neg (lm k)) (Bk (sg neg k)) :=
 .of ((lm k).length+1) fun N hN=>by
  have:=abZ (N:=N) (neg:=neg) (wQ k) hk (lm k).length 0 N (by omega) (by omega)
  rw [List.take_zero] at this
  unfold hH
  rw [show ((0:Nat):Int)=0 from rfl] at this
  rw [this]
  by_cases h:k=0
  ·subst h;rw [jm,abV];cases neg<;>rfl
  ·rw [ahD _ _ h]
   have:=oi.2 h
   rw [decide_eq_true (by omega)];cases neg<;>rfl
theorem GR (N:Nat) (a:List Int) (i:Nat):pe N a (i:Int)=some (a.getD i 0):=by
 unfold pe
 by_cases h:i < a.length
 ·rw [dec_lt h,cond_true,if_pos (oX h),ag]
 ·rw [decide_eq_false (by omega),cond_false,Ak (by omega)]
theorem sN (a:List Int) (i:Nat):bW (a.take (i+1))=bW (a.take i)+a.getD i 0 * pw i:=by
 by_cases h:i < a.length
 ·exact dC a i h
 ·rw [jv (by omega),jv (by omega),Ak (by omega)];simp
theorem ahM {N:Nat} {a b:List Int} (ha:U a) (hb:U b) (hs:SM (a.length+b.length+2)) (hN:a.length+b.length+2 < N):∀ (k i fuel:Nat) (out:List Int) (c:Int),a.length+b.length+1<=i+k->k < fuel->out.length=i->i<=a.length+b.length+1->U out->0<=c->c<=1 ->
  (a.length < i/\b.length < i->c=0)->bW out+pw i * c=bW (a.take i)+bW (b.take i)->l7 N a b fuel out c (i:Int)=some (lm (bW a+bW b).toNat):=by
 intro k
 simp only [SM] at hs
 induction k with
 | zero =>
  intro i fuel out c hi hf ho WY hU Et zx Wt hinv
  obtain ⟨g,rfl⟩:∃ g,fuel=g+1:=⟨fuel - 1,by omega⟩
  have hc:=Wt ⟨by omega,by omega⟩
  subst hc
  rw [l7,decide_eq_false (by omega),decide_eq_false (by omega),decide_eq_false (by decide)]
  simp only [cond_false]
  rw [zo hU (by simp only [SM];omega) (by omega),a9]
  rw [jv (by omega),jv (by omega)] at hinv
  rw [show bW out=bW a+bW b by omega]
 | succ k ih =>
  intro i fuel out c hi hf ho WY hU Et zx Wt hinv
  obtain ⟨g,rfl⟩:∃ g,fuel=g+1:=⟨fuel - 1,by omega⟩
  rw [l7]
  by_cases hgo:i < a.length\/i < b.length\/0 < c
  ·have e:cond (cond (decide ((i:Int) < ((a.length:Nat):Int))) true (decide ((i:Int) < ((b.length:Nat):Int)))) true (decide (c > 0))=true:=by
    rcases hgo with h | h | h
    ·rw [dec_lt h];rfl
    ·rw [dec_lt h];cases decide ((i:Int) < ((a.length:Nat):Int))<;>rfl
    ·rw [decide_eq_true (show c > 0 by omega)];cases cond (decide ((i:Int) < ((a.length:Nat):Int))) true (decide ((i:Int) < ((b.length:Nat):Int)))<;>rfl
   have h1:=ha.getD i
   have h2:=hb.getD i
   have avc:i<=a.length+b.length:=by
    rcases hgo with h | h | h
    ·omega
    ·omega
    ·have:¬ (a.length < i/\b.length < i):=fun h'=>by have:=Wt h';omega
     omega
   rw [e,cond_true,GR,a9,GR,a9,if_pos (by omega),aX (n:=a.getD i 0+b.getD i 0) (by omega) (by omega),aX (n:=a.getD i 0+b.getD i 0+c) (by omega) (by omega),aH (by omega)]
   generalize hsm:a.getD i 0+b.getD i 0+c=s
   have hs0:0<=s:=by omega
   rw [Int.tmod_eq_emod_of_nonneg hs0,Int.tdiv_eq_ediv_of_nonneg hs0,aX (n:=s / 65536) (by omega) (by omega)]
   refine ih (i+1) g _ _ (by omega) (by omega) (by simp [ho]) (by omega) (hU.append (U.one (by omega) (by omega))) (by omega) (by omega) (fun h=>?_) ?_
   ·have e1:=Ak (show a.length<=i by omega)
    have e2:=Ak (show b.length<=i by omega)
    omega
   ·rw [oh,v8,ho,sN a,sN b,iK]
    have h5:s=s % 65536+65536 * (s / 65536):=by omega
    have h6:pw i * s=pw i * (s % 65536)+pw i * (65536 * (s / 65536)):=by rw [<- jS,<- h5]
    have h7:pw i * s=a.getD i 0 * pw i+b.getD i 0 * pw i+pw i * c:=by rw [<- hsm,jS,jS,jk (pw i) (a.getD i 0),jk (pw i) (b.getD i 0)]
    have h8:65536 * pw i * (s / 65536)=pw i * (65536 * (s / 65536)):=by rw [jk 65536,kV]
    omega
  ·have e:cond (cond (decide ((i:Int) < ((a.length:Nat):Int))) true (decide ((i:Int) < ((b.length:Nat):Int)))) true (decide (c > 0))=false:=by
    rw [decide_eq_false (by omega),decide_eq_false (by omega),decide_eq_false (by omega)];rfl
   have hc:c=0:=by omega
   subst hc
   rw [e,cond_false,zo hU (by simp only [SM];omega) (by omega),a9]
   rw [jv (by omega),jv (by omega)] at hinv
   rw [show bW out=bW a+bW b by omega]
theorem ahN {N a b:Nat} (hs:SM ((lm a).length+(lm b).length+2)) (hN:(lm a).length+(lm b).length+3 < N):CN N (lm a) (lm b)=some (lm (a+b)):=by
 have:=ahM (N:=N) (wQ a) (wQ b) hs (by omega) ((lm a).length+(lm b).length+1) 0 N [] 0 (by omega) (by omega) rfl (by omega) U.nil (by omega) (by omega) (fun _=>rfl) (by simp [bW])
 rw [jR,jR] at this
 exact this
theorem M7 {N:Nat} {a b:List Int} (ha:U a) (hb:U b) (hl:a.length=b.length) (hs:SM a.length):∀ (k fuel:Nat),k<=a.length->k < fuel->ja N a b fuel ((k:Int) - 1)=some (aah a b k)
 | 0,fuel,_,hf=>by
  obtain ⟨g,rfl⟩:∃ g,fuel=g+1:=⟨fuel - 1,by omega⟩
  rw [ja];rfl
 | k+1,fuel,hk,hf=>by
  obtain ⟨g,rfl⟩:∃ g,fuel=g+1:=⟨fuel - 1,by omega⟩
  simp only [SM] at hs
  have e:(((k+1:Nat):Int) - 1)=(k:Int):=by omega
  have h1:=ha.getD k
  have h2:=hb.getD k
  rw [e,ja,decide_eq_true (by omega),cond_true,if_pos (oX (by omega)),if_pos (oX (by omega)),ag,aX (n:=a.getD k 0 - b.getD k 0) (by omega) (by omega),aX (n:=(k:Int) - 1) (by omega) (by omega),M7 ha hb hl (by simp only [SM];omega) k g (by omega) (by omega)]
  rw [aah]
  cases (a.getD k 0 != b.getD k 0)<;>rfl
theorem Kp {N a b:Nat} (hN:(lm a).length < N) (ha:SM (lm a).length) (hb:SM (lm b).length):qi N (lm a) (lm b)=some (Sl a b):=by
 unfold qi Sl
 simp only [SM] at ha hb
 cases hl:((((lm a).length:Nat):Int) != (((lm b).length:Nat):Int)) with
 | true=>rw [cond_true,cond_true,aX (by omega) (by omega)]
 | false =>
  have heq:(lm a).length=(lm b).length:=by simp at hl;omega
  rw [cond_false,cond_false,aX (by omega) (by omega)]
  exact M7 (wQ a) (wQ b) heq ha _ N (aN _) hN
theorem TD {N:Nat} {a b:List Int} (ha:U a) (hb:U b) (hl:b.length<=a.length) (hle:bW b<=bW a) (hs:SM a.length) (hN:a.length+1 < N):∀ (k x fuel:Nat) (out:List Int) (c:Int),x+k=a.length->k < fuel->out.length=x->U out->0<=c->c<=1 ->
  bW out - pw x * c=bW (a.take x) - bW (b.take x)->iG N a b fuel out c (x:Int)=some (lm (bW a - bW b).toNat)
 | 0,x,fuel,out,c,hx,hf,ho,hU,Et,zx,hinv=>by
  obtain ⟨g,rfl⟩:∃ g,fuel=g+1:=⟨fuel - 1,by omega⟩
  have Sm:x=a.length:=by omega
  subst Sm
  rw [iG,dw,cond_false,zo hU (by simp only [SM] at *;omega) (by omega),a9]
  rw [List.take_length,jv hl] at hinv
  have h1:=hU.lt
  rw [ho] at h1
  have hc:c=0:=by
   rcases Int.lt_or_le 0 c with h | h
   ·have:c=1:=by omega
    subst this;omega
   ·omega
  subst hc
  rw [show bW out=bW a - bW b by omega]
 | k+1,x,fuel,out,c,hx,hf,ho,hU,Et,zx,hinv=>by
  obtain ⟨g,rfl⟩:∃ g,fuel=g+1:=⟨fuel - 1,by omega⟩
  simp only [SM] at hs
  have wa:x < a.length:=by omega
  have h1:=ha.getD x
  have h2:=hb.getD x
  rw [iG,dec_lt wa,cond_true,if_pos (oX wa),GR,a9,ag,aX (n:=a.getD x 0 - b.getD x 0) (by omega) (by omega),aX (n:=a.getD x 0 - b.getD x 0 - c) (by omega) (by omega)]
  have fin:∀ q s:Int,0<=q->q<=1->s=a.getD x 0 - b.getD x 0 - c+q * 65536->0<=s->s < 65536->oL N a b out (x:Int) (iG N a b g) q s=some (lm (bW a - bW b).toNat):=by
   intro q s N7 O2 hse hs0 YE
   unfold oL
   rw [if_pos (by omega),aH (by omega)]
   refine TD ha hb hl hle (by simp only [SM];omega) hN k (x+1) g _ _ (by omega) (by omega) (by simp [ho]) (hU.append (U.one hs0 YE)) N7 O2 ?_
   rw [oh,v8,ho,sN a,sN b,iK]
   have h3:pw x * s=a.getD x 0 * pw x - b.getD x 0 * pw x - pw x * c+65536 * pw x * q:=by rw [hse];grind
   omega
  cases iQ:decide (a.getD x 0 - b.getD x 0 - c < 0) with
  | true =>
   have iQ:=xM iQ
   rw [cond_true,aX (by omega) (by omega)]
   exact fin 1 _ (by omega) (by omega) (by omega) (by omega) (by omega)
  | false =>
   have iQ:=xN iQ
   rw [cond_false]
   exact fin 0 _ (by omega) (by omega) (by omega) (by omega) (by omega)
theorem Mw {N a b:Nat} (hab:b<=a) (hs:SM (lm a).length) (hN:(lm a).length+1 < N):tP N (lm a) (lm b)=some (lm (a - b)):=by
 have:=TD (N:=N) (wQ a) (wQ b) (gD hab) (by rw [jR,jR];omega) hs hN (lm a).length 0 N [] 0 (by omega) (by omega) rfl U.nil (by omega) (by omega) (by simp [bW])
 rw [jR,jR] at this
 rw [show (lm (a - b))=lm ((a:Int) - (b:Int)).toNat by congr 1;omega]
 exact this
theorem adz {N:Nat} {a b:List Int} {i:Nat} (ha:U a) (hb:U b) (hi:i < a.length) (hs:SM (a.length+b.length+1)) (K:List Int->Int->Option (List Int)) (R:Option (List Int))
  (hK:∀ out,out.length=a.length+b.length+1->U out->(∀ j,i+1+b.length<=j->out.getD j 0=0)->bW out=bW (a.take (i+1)) * bW b->K out ((i+1:Nat):Int)=R) :
  ∀ (k x fuel:Nat) (out:List Int) (c:Int),x+k=b.length+1->k < fuel->out.length=a.length+b.length+1->U out->0<=c->c < 65536->(x=b.length+1->c=0)->(∀ j,i+b.length<=j->x<=b.length->out.getD j 0=0)->(∀ j,i+1+b.length<=j->out.getD j 0=0) ->
   bW out+pw (i+x) * c=bW (a.take i) * bW b+a.getD i 0 * pw i * bW (b.take x)->kO N a b (i:Int) K fuel out c (x:Int)=R:=by
 intro k
 simp only [SM] at hs
 induction k with
 | zero =>
  intro x fuel out c hx hf ho hU Et zx Wt hz hz2 hinv
  obtain ⟨g,rfl⟩:∃ g,fuel=g+1:=⟨fuel - 1,by omega⟩
  have Sm:x=b.length+1:=by omega
  subst Sm
  have hc:=Wt rfl
  subst hc
  rw [kO,decide_eq_false (by omega),decide_eq_false (by decide)]
  simp only [cond_false]
  rw [aH (by omega)]
  refine hK out ho hU hz2 ?_
  rw [show b.take (b.length+1)=b from jv (by omega)] at hinv
  rw [dC a i hi,fR];omega
 | succ k ih =>
  intro x fuel out c hx hf ho hU Et zx Wt hz hz2 hinv
  obtain ⟨g,rfl⟩:∃ g,fuel=g+1:=⟨fuel - 1,by omega⟩
  rw [kO]
  have h1:=ha.getD i
  have h2:=hb.getD x
  have h3:=hU.getD (i+x)
  by_cases hgo:x < b.length\/0 < c
  ·have e:cond (decide ((x:Int) < ((b.length:Nat):Int))) true (decide (c > 0))=true:=by
    rcases hgo with h | h
    ·rw [dec_lt h];rfl
    ·rw [decide_eq_true (show c > 0 by omega)];cases decide ((x:Int) < ((b.length:Nat):Int))<;>rfl
   have ei:aE ((i:Int)+(x:Int))=((i+x:Nat):Int):=by rw [aX (by omega) (by omega)];omega
   have h4:=QY h1.1 h1.2 h2.1 h2.2
   rw [e,cond_true,ei,if_pos (oX (by omega)),if_pos (oX hi),GR,a9]
   simp only [ag]
   rw [aX (n:=a.getD i 0 * b.getD x 0) (by omega) (by omega),aX (n:=out.getD (i+x) 0+a.getD i 0 * b.getD x 0) (by omega) (by omega),aX (n:=out.getD (i+x) 0+a.getD i 0 * b.getD x 0+c) (by omega) (by omega),aH (by omega)]
   generalize hs2:out.getD (i+x) 0+a.getD i 0 * b.getD x 0+c=s
   have hs0:0<=s:=by omega
   rw [Int.tmod_eq_emod_of_nonneg hs0,Int.tdiv_eq_ediv_of_nonneg hs0,aX (n:=s / 65536) (by omega) (by omega)]
   refine ih (x+1) g _ _ (by omega) (by omega) (by simp [ho]) (hU.set _ (by omega) (by omega)) (by omega) (by omega) (fun h=>?_) (fun j hj hj2=>?_) (fun j hj=>?_) ?_
   ·have e1:=Ak (show b.length<=x by omega)
    have e2:=hz (i+x) (by omega) (by omega)
    rw [e1,e2] at hs2;simp at hs2;omega
   ·rw [getD_set_ne _ _ (by omega)];exact hz j hj (by omega)
   ·rw [getD_set_ne _ _ (by omega)];exact hz2 j hj
   ·rw [qE _ _ _ (by omega),sN b,show i+(x+1)=(i+x)+1 by omega,iK]
    have h5:s=s % 65536+65536 * (s / 65536):=by omega
    have h6:pw (i+x) * s=pw (i+x) * (s % 65536)+pw (i+x) * (65536 * (s / 65536)):=by rw [<- jS,<- h5]
    have h7:pw (i+x) * s=pw (i+x) * c+pw (i+x) * (a.getD i 0 * b.getD x 0)+pw (i+x) * out.getD (i+x) 0:=by rw [<- hs2,jS,jS];omega
    have h8:65536 * pw (i+x) * (s / 65536)=pw (i+x) * (65536 * (s / 65536)):=by rw [jk 65536,kV]
    have h9:(s % 65536 - out.getD (i+x) 0) * pw (i+x)=pw (i+x) * (s % 65536) - pw (i+x) * out.getD (i+x) 0:=by rw [Int.sub_mul,jk,jk (out.getD (i+x) 0)]
    have h10:a.getD i 0 * pw i * (bW (b.take x)+b.getD x 0 * pw x)=a.getD i 0 * pw i * bW (b.take x)+pw (i+x) * (a.getD i 0 * b.getD x 0):=by
     rw [QV];grind
    omega
  ·have e:cond (decide ((x:Int) < ((b.length:Nat):Int))) true (decide (c > 0))=false:=by
    rw [decide_eq_false (by omega),decide_eq_false (by omega)];rfl
   have hc:c=0:=by omega
   subst hc
   rw [e,cond_false,aH (by omega)]
   refine hK out ho hU hz2 ?_
   rw [show b.take x=b from jv (by omega)] at hinv
   rw [dC a i hi,fR];omega
theorem TE {N:Nat} {a b:List Int} (ha:U a) (hb:U b) (hs:SM (a.length+b.length+1)) (hN:a.length+b.length+2 < N):∀ (k x fuel:Nat) (out:List Int),x+k=a.length->k < fuel->out.length=a.length+b.length+1->U out ->
  (∀ j,x+b.length<=j->out.getD j 0=0)->bW out=bW (a.take x) * bW b->kP N a b fuel out (x:Int)=some (lm (bW a * bW b).toNat)
 | 0,x,fuel,out,hx,hf,ho,hU,hz,hinv=>by
  obtain ⟨g,rfl⟩:∃ g,fuel=g+1:=⟨fuel - 1,by omega⟩
  have Sm:x=a.length:=by omega
  subst Sm
  rw [kP,dw,cond_false,zo hU (by simp only [SM] at *;omega) (by omega),a9,hinv,List.take_length]
 | k+1,x,fuel,out,hx,hf,ho,hU,hz,hinv=>by
  obtain ⟨g,rfl⟩:∃ g,fuel=g+1:=⟨fuel - 1,by omega⟩
  have wa:x < a.length:=by omega
  rw [kP,dec_lt wa,cond_true]
  refine adz ha hb wa hs _ _ (fun eY h1 h2 h3 h4=>?_) (b.length+1) 0 N out 0 (by omega) (by omega) ho hU (by omega) (by omega) (fun h=>by omega) (fun j hj _=>hz j hj) (fun j hj=>hz j (by omega)) (by rw [hinv];simp [bW])
  exact TE ha hb hs hN k (x+1) g eY (by omega) (by omega) h1 h2 h3 h4
theorem X1 {N:Nat} {a b:List Int} (ha:U a) (hb:U b) (hs:SM (a.length+b.length+1)) (hN:a.length+b.length+2 < N):nP N a b=some (lm (bW a * bW b).toNat):=by
 unfold nP
 have N8:=hs
 simp only [SM] at N8
 have e:aE (aE (((a.length:Nat):Int)+((b.length:Nat):Int))+1)=((a.length+b.length+1:Nat):Int):=by rw [aX (n:=((a.length:Nat):Int)+((b.length:Nat):Int)) (by omega) (by omega),aX (by omega) (by omega)];omega
 rw [e,if_pos (by omega)]
 exact TE ha hb hs hN a.length 0 N _ (by omega) (by omega) (by simp;omega) (U.replicate _) (fun j _=>jH _ j) (by rw [ma];simp [bW])
theorem adA {N a b:Nat} (hs:SM ((lm a).length+(lm b).length+1)) (hN:(lm a).length+(lm b).length+2 < N):nP N (lm a) (lm b)=some (lm (a * b)):=by
 rw [X1 (wQ a) (wQ b) hs hN,jR,jR,Bc]
theorem akv {N:Nat} {a q:List Int} {b i X:Nat} (hb:0 < b) (hX:X < 65536 * b) (hq:i < q.length) (hs:SM ((lm b).length+(lm X).length+3)) (hi:SM i) (hN:(lm b).length+(lm X).length+65546 < N) (K:List Int->List Int->Int->Option (List Int×List Int)) :
  ∀ (d lo hi fuel:Nat),hi - lo<=d->lo<=hi->hi < 65536->d < fuel->lo * b<=X->X < (hi+1) * b->kx N a (lm b) q (i:Int) (lm X) K fuel (lo:Int) (hi:Int)=K (lm (X % b)) (q.set i ((X / b:Nat):Int)) ((i:Int) - 1):=by
 intro d
 simp only [SM] at hs hi
 have one:∀ m:Nat,m < 65536->nP N (lm b) [(m:Int)]=some (lm (b * m)):=fun m hm=>by
  rw [X1 (wQ b) (U.one (by omega) (by omega)) (by simp only [SM,List.length_singleton];omega) (by simp only [List.length_singleton];omega),jR,v8,Bc]
 have ast:∀ m:Nat,m < 65536->(lm (b * m)).length<=(lm b).length+1:=fun m hm=>by
  rw [jf,iK]
  have:=(jf (n:=b) (k:=(lm b).length)).1 (aN _)
  have h2:=Nat.mul_le_mul_left b (show m<=65535 by omega)
  have:=mZ (lm b).length
  omega
 induction d with
 | zero =>
  intro lo sB fuel hd hle hhi hf h1 h2
  obtain ⟨g,rfl⟩:∃ g,fuel=g+1:=⟨fuel - 1,by omega⟩
  have hlh:sB=lo:=by omega
  subst hlh
  have hdiv:X / b=sB:=by
   have h3:X=sB * b+(X - sB * b):=by omega
   have h4:X - sB * b < b:=by rw [dn,Nat.one_mul] at h2;omega
   exact (M5 h3 h4).1
  have ahH:X % b=X - b * sB:=by
   have:=Nat.div_add_mod X b
   rw [hdiv] at this;omega
  rw [kx,decide_eq_false (by omega),cond_false,if_pos (oX hq)]
  have h5:b * sB<=X:=by rw [py];exact h1
  by_cases h0:0 < sB
  ·rw [decide_eq_true (by omega),cond_true,one sB hhi,a9,Mw h5 (by simp only [SM];omega) (by omega),a9]
   unfold qj
   rw [ag,aX (by omega) (by omega),hdiv,ahH]
  ·have:sB=0:=by omega
   subst this
   rw [decide_eq_false (by decide),cond_false]
   unfold qj
   rw [ag,aX (by omega) (by omega),hdiv,ahH];simp
 | succ d ih =>
  intro lo sB fuel hd hle hhi hf h1 h2
  obtain ⟨g,rfl⟩:∃ g,fuel=g+1:=⟨fuel - 1,by omega⟩
  by_cases iQ:lo < sB
  ·rw [kx,decide_eq_true (by omega),cond_true,aX (n:=(lo:Int)+(sB:Int)) (by omega) (by omega),aX (n:=(lo:Int)+(sB:Int)+1) (by omega) (by omega)]
   have em:((lo:Int)+(sB:Int)+1).tdiv 2=(((lo+sB+1) / 2:Nat):Int):=by rw [Int.tdiv_eq_ediv_of_nonneg (by omega)];omega
   rw [em,aX (n:=(((lo+sB+1) / 2:Nat):Int)) (by omega) (by omega)]
   generalize hm:(lo+sB+1) / 2=m
   have hml:=ast m (by omega)
   rw [one m (by omega),a9,Kp (by omega) (by simp only [SM];omega) (by simp only [SM];omega),a9]
   have hc:Sl (b * m) X<=0↔b * m<=X:=by
    obtain ⟨c,_,h3,h4,h5⟩:=Dl (N:=(lm (b * m)).length+1) (a:=b * m) (b:=X) (by omega) (by simp only [SM];omega) (by simp only [SM];omega)
    rw [<- h5];omega
   by_cases YK:b * m<=X
   ·rw [decide_eq_true (hc.2 YK),cond_true]
    exact ih m sB g (by omega) (by omega) hhi (by omega) (by rw [py];exact YK) h2
   ·rw [decide_eq_false (fun h=>YK (hc.1 h)),cond_false,aX (by omega) (by omega)]
    have e1:((m:Int) - 1)=((m - 1:Nat):Int):=by omega
    rw [e1]
    refine ih lo (m - 1) g (by omega) (by omega) (by omega) (by omega) h1 ?_
    rw [show m - 1+1=m by omega,py];omega
  ·have:=ih lo sB (g+1) (by omega) hle hhi (by omega) h1 h2
   exact this
theorem ab0 {N:Nat} {A b:Nat} (hb:0 < b) (hs:SM (2 * (lm A).length+2 * (lm b).length+10)) (hN:(lm A).length+2 * (lm b).length+65560 < N):∀ (k fuel:Nat) (q:List Int) (r:Nat),k<=(lm A).length->k < fuel->q.length=(lm A).length->U q->r < b ->
  (∀ j,j < k->q.getD j 0=0)->pw k * bW ((lm A).drop k)=bW q * b+r * pw k->ky N (lm A) (lm b) fuel (lm r) q ((k:Int) - 1)=some (lm (A / b),lm (A % b))
 | 0,fuel,q,r,hk,hf,hq,hU,hr,hz,hinv=>by
  obtain ⟨g,rfl⟩:∃ g,fuel=g+1:=⟨fuel - 1,by omega⟩
  have e:decide ((((0:Nat):Int) - 1)>=0)=false:=rfl
  rw [ky,e,cond_false,zo hU (by simp only [SM] at *;omega) (by omega),a9]
  rw [GL,List.drop_zero,jR] at hinv
  have N7:=hU.tD
  obtain ⟨Q,hQ⟩:=Int.eq_ofNat_of_zero_le N7
  rw [hQ] at hinv ⊢
  have h6:A=Q * b+r:=by
   have h9:(A:Int)=Q * b+r:=by omega
   exact_mod_cast h9
  obtain ⟨h7,h8⟩:=M5 h6 hr
  rw [h7,h8];rfl
 | k+1,fuel,q,r,hk,hf,hq,hU,hr,hz,hinv=>by
  obtain ⟨g,rfl⟩:∃ g,fuel=g+1:=⟨fuel - 1,by omega⟩
  have N8:=hs
  simp only [SM] at N8
  have e:(((k+1:Nat):Int) - 1)=(k:Int):=by omega
  have h1:=(wQ A).getD k
  have hrl:(lm r).length<=(lm b).length:=gD (by omega)
  rw [e,ky,decide_eq_true (by omega),cond_true,if_pos (oX (by omega)),if_pos (by omega),ag]
  obtain ⟨D,hD⟩:=Int.eq_ofNat_of_zero_le h1.1
  have hX:lm (bW ([(lm A).getD k 0] ++ lm r)).toNat=lm (D+65536 * r):=by
   have e9:bW ([(lm A).getD k 0] ++ lm r)=((D+65536 * r:Nat):Int):=by rw [oh,v8,jR,hD];simp [pw]
   rw [e9,Int.toNat_natCast]
  have hD2:D < 65536:=by omega
  rw [zo ((U.one h1.1 h1.2).append (wQ r)) (by simp only [SM,gI,List.length_singleton];omega) (by simp only [gI,List.length_singleton];omega),a9,hX]
  have hXb:D+65536 * r < 65536 * b:=by omega
  have hXl:(lm (D+65536 * r)).length<=(lm b).length+1:=by
   rw [jf,iK]
   have:=(jf (n:=b) (k:=(lm b).length)).1 (aN _)
   omega
  have:=akv (N:=N) (a:=lm A) (q:=q) (b:=b) (i:=k) (X:=D+65536 * r) hb hXb (by omega) (by simp only [SM];omega) (by simp only [SM];omega) (by omega) (ky N (lm A) (lm b) g) 65535 0 65535 N (by omega) (by omega) (by omega) (by omega) (by omega) (by omega)
  rw [show ((0:Nat):Int)=0 from rfl,show ((65535:Nat):Int)=65535 from rfl] at this
  rw [this]
  have hdv:(D+65536 * r) / b < 65536:=Nat.div_lt_of_lt_mul (by omega)
  have hml:=Nat.mod_lt (D+65536 * r) hb
  have hdm:=Nat.div_add_mod (D+65536 * r) b
  generalize (D+65536 * r) / b=u at *
  generalize (D+65536 * r) % b=v at *
  refine ab0 hb hs hN k g _ _ (by omega) (by omega) (by simp [hq]) (hU.set _ (by omega) (by omega)) hml (fun j hj=>by rw [getD_set_ne _ _ (by omega)];exact hz j (by omega)) ?_
  rw [qE _ _ _ (by omega),hz k (by omega),Int.sub_zero,rf _ k (by omega),hD]
  rw [iK] at hinv
  have h2:(D:Int)+65536 * r=b * u+v:=by
   have:=congrArg (fun x:Nat=>(x:Int)) hdm
   simp only [Int.natCast_add,Int.natCast_mul] at this
   omega
  have h3:pw k * ((D:Int)+65536 * r)=pw k * (b * u+v):=by rw [h2]
  grind
theorem ab1 {N A b:Nat} (hb:b≠0) (hs:SM (2 * (lm A).length+2 * (lm b).length+10)) (hN:(lm A).length+2 * (lm b).length+65560 < N):qY N (lm A) (lm b)=some (lm (A / b),lm (A % b)):=by
 have N8:=hs
 simp only [SM] at N8
 unfold qY
 rw [if_pos (by omega),aX (by omega) (by omega)]
 have:=ab0 (N:=N) (A:=A) (b:=b) (by omega) hs hN (lm A).length N (List.replicate (lm A).length 0) 0 (aN _) (by omega) (by simp) (U.replicate _) (by omega) (fun j _=>jH _ j) (by rw [List.drop_length,ma];simp [bW])
 rw [jm] at this
 exact this
end Go.Den
namespace Go.Den
open Go.Ab
abbrev LM (n:Nat):Prop:=n < 1000000000000
section
variable {a b:cX} {x y:aa} {m n:Nat} {p q:Rat} {z w:Int}
theorem ZI.read (ha:ZI a z n) (hs:LM n):Gv (fun N=>lp N a.fL) (lm z.natAbs) :=
 .of (n+1) fun N hN=>by
  have:=anB (N:=N) ha.ib.U (by have:=ha.ib.len;simp only [SM,LM] at *;omega) (by have:=ha.ib.len;omega)
  rwa [<- me,ha.v] at this
theorem ZI.VX (ha:ZI a z n):z=sg a.fG z.natAbs:=by
 have h1:=me a
 have:zv a=sg a.fG (zv a).natAbs:=by rw [h1];rfl
 rwa [ha.v] at this
theorem sP {neg:Bool} {k:Nat} (hz:ZB (sg neg k) n) (hs:LM n):Gv (fun N=>hH N neg (lm k)) (Bk (sg neg k)):=by
 unfold ZB at hz
 rw [rK] at hz
 exact aku neg (by simp only [SM,LM] at *;omega)
theorem ahO {N:Nat} {z:Int}:∀ (fuel n:Nat) (out:List Int) (r:Option cX),(lm n).length < fuel->out.length+(lm n).length < 1000->n < 18446744073709551616->((hH N (decide (z < 0)) (out ++ lm n)).bind fun r=>some r)=r->nO N z fuel out (n:Int)=r
 | 0,n,out,r,h,_,_,_=>by omega
 | fuel+1,n,out,r,h,h2,h3,hr=>by
  rw [nO]
  by_cases hn:n=0
  ·subst hn
   rw [jm,List.append_nil] at hr
   exact hr
  ·have e:decide ((n:Int) > 0)=true:=by simp;omega
   rw [tE hn] at h h2
   simp only [px] at h h2
   have e1:((n:Int) / 65536)=((n / 65536:Nat):Int):=by omega
   have e2:((n:Int) % 65536)=((n % 65536:Nat):Int):=by omega
   rw [e,cond_true,if_pos (by omega),Int.tmod_eq_emod_of_nonneg (by omega),Int.tdiv_eq_ediv_of_nonneg (by omega),e1,e2,jJ (by omega) (by omega),aX (by omega) (by omega)]
   refine ahO fuel (n / 65536) _ r (by omega) (by simp;omega) (by omega) ?_
   rw [<- hr,tE hn,qA];rfl
theorem Te (h1:-9223372036854775808<=z) (h2:z<=9223372036854775807):Gv (fun N=>wx N z) (Bk z):=by
 have hl:ZB z 4:=ZB.word h1 h2
 have key:Gv (fun N=>nO N z N [] ((z.natAbs:Nat):Int)) (Bk z):=by
  have hm:Gv (fun N=>(hH N (decide (z < 0)) (lm z.natAbs)).bind fun r=>some r) (Bk z):=by
   by_cases h:z < 0
   ·have e:sg true z.natAbs=z:=by simp [sg];omega
    have:=sP (neg:=true) (k:=z.natAbs) (n:=4) (by rw [e];exact hl) (by decide)
    rw [e] at this
    rw [decide_eq_true h]
    exact this.bind (Gv.pure _)
   ·have e:sg false z.natAbs=z:=by simp [sg];omega
    have:=sP (neg:=false) (k:=z.natAbs) (n:=4) (by rw [e];exact hl) (by decide)
    rw [e] at this
    rw [decide_eq_false h]
    exact this.bind (Gv.pure _)
  obtain ⟨N0,hm⟩:=hm
  refine .of (N0+5) fun N hN=>?_
  unfold ZB at hl
  exact ahO N z.natAbs [] _ (by omega) (by simp;omega) (by omega) (by have:=hm N (by omega);simpa using this)
 unfold wx
 by_cases h:z < 0
 ·have e:IntKind.u64.wrap (0 - IntKind.u64.wrap z)=((z.natAbs:Nat):Int):=by rw [wrap64,wrap64];omega
  refine Gv.aR (decide_eq_true h) ?_
  rw [e];exact key
 ·have e:IntKind.u64.wrap z=((z.natAbs:Nat):Int):=by rw [wrap64];omega
  refine Gv.bd (decide_eq_false h) ?_
  rw [e];exact key
theorem ZI.anC (ha:ZI a z n) (hs:LM n):Gv (fun N=>GH N a) (Bk (-z)):=by
 refine (ha.read hs).bind ?_
 have e:sg (!a.fG) z.natAbs = -z:=by
  have:=ha.VX
  generalize z.natAbs=k at *
  subst this
  cases a.fG<;>simp [sg]
 refine Gv.bind (r:=Bk (-z)) ?_ (Gv.pure _)
 rw [<- e]
 exact sP (n:=n) (by rw [e];exact ha.zb.neg) hs
theorem ZI.aaj (ha:ZI a z n) (hb:ZI b w n) (hs:LM (n+1)):Gv (fun N=>GG N a b) (Bk (z+w)):=by
 simp only [LM] at hs
 have hz:=ha.zb.add hb.zb
 have O7:=ha.zb
 have zQ:=hb.zb
 unfold ZB at O7 zQ
 refine (ha.read (by simp only [LM];omega)).bind ((hb.read (by simp only [LM];omega)).bind ?_)
 have hX:=ha.VX
 have hY:=hb.VX
 clear ha hb
 generalize z.natAbs=x at *
 generalize w.natAbs=y at *
 rw [hX,hY] at hz ⊢
 generalize a.fG=p at *
 generalize b.fG=q at *
 cases hpq:(p == q) with
 | true =>
  have hpq:p=q:=by simpa using hpq
  subst hpq
  have e:sg p x+sg p y=sg p (x+y):=by cases p<;>simp [sg]<;>omega
  rw [e] at hz ⊢
  refine Gv.aR rfl (Gv.bind (r:=lm (x+y)) (.of (2 * n+4) fun N hN=>ahN (by simp only [SM];omega) (by omega)) ?_)
  exact (sP hz (by simp only [LM];omega)).bind (Gv.pure _)
 | false =>
  have hpq:q=!p:=by cases p<;>cases q<;>simp_all
  subst hpq
  refine Gv.bd rfl ?_
  refine Gv.bind (r:=Sl x y) (.of (n+2) fun N hN=>Kp (by omega) (by simp only [SM];omega) (by simp only [SM];omega)) ?_
  have iQ:=abP (a:=x) (b:=y) (by simp only [SM];omega) (by simp only [SM];omega)
  by_cases hxy:x < y
  ·refine Gv.bd (decide_eq_false (by have:=iQ.2 hxy;omega)) (Gv.bind (r:=lm (y - x)) (.of (n+2) fun N hN=>Mw (by omega) (by simp only [SM];omega) (by omega)) ?_)
   have e:sg p x+sg (!p) y=sg (!p) (y - x):=by cases p<;>simp [sg]<;>omega
   rw [e] at hz ⊢
   exact (sP hz (by simp only [LM];omega)).bind (Gv.pure _)
  ·refine Gv.aR (decide_eq_true (by have:=fun h=>hxy (iQ.1 h);omega)) (Gv.bind (r:=lm (x - y)) (.of (n+2) fun N hN=>Mw (by omega) (by simp only [SM];omega) (by omega)) ?_)
   have e:sg p x+sg (!p) y=sg p (x - y):=by cases p<;>simp [sg]<;>omega
   rw [e] at hz ⊢
   exact (sP hz (by simp only [LM];omega)).bind (Gv.pure _)
theorem ZI.Hp (ha:ZI a z m) (hb:ZI b w n) (hs:LM (m+n)):Gv (fun N=>qk N a b) (Bk (z * w)):=by
 simp only [LM] at hs
 have hz:=ha.zb.mul hb.zb
 have O7:=ha.zb
 have zQ:=hb.zb
 unfold ZB at O7 zQ
 refine (ha.read (by simp only [LM];omega)).bind ((hb.read (by simp only [LM];omega)).bind ?_)
 refine Gv.bind (r:=lm (z.natAbs * w.natAbs)) (.of (m+n+3) fun N hN=>adA (by simp only [SM];omega) (by omega)) ?_
 have e:sg (!(a.fG == b.fG)) (z.natAbs * w.natAbs)=z * w:=by rw [sign_eq,<- ha.VX,<- hb.VX]
 have:=sP (neg:=!(a.fG == b.fG)) (k:=z.natAbs * w.natAbs) (n:=m+n) (by rw [e];exact hz) hs
 rw [e] at this
 exact this.bind (Gv.pure _)
theorem X2 {A B:Nat} (ha:(lm A).length<=m) (hb:(lm B).length<=n) (h0:B≠0) (hs:LM (m+n+10)):Gv (fun N=>qY N (lm A) (lm B)) (lm (A / B),lm (A % B)) :=
 .of (m+2 * n+65561) fun N hN=>ab1 h0 (by simp only [SM,LM] at *;omega) (by omega)
end
end Go.Den
namespace Go.Den
open Go.Ab
section
variable {a b:cX} {x y:aa} {m n:Nat} {p q:Rat} {z w:Int}
theorem akw {N k:Nat} (hk:LM (4 * k+30)) (hN:3 * k+65570 < N):∀ (y x fuel:Nat),y < fuel->(lm x).length<=k->(lm y).length<=k->pK N fuel (lm x) (lm y)=some (lm (Nat.gcd x y)):=by
 intro y
 simp only [LM] at hk
 induction y using Nat.strongRecOn with
 | _ y ih =>
  intro x fuel hf hx hy
  obtain ⟨g,rfl⟩:∃ g,fuel=g+1:=⟨fuel - 1,by omega⟩
  rw [pK]
  by_cases h:y=0
  ·subst h
   rw [jm,Nat.gcd_zero_right];rfl
  ·have hl:=oi.2 h
   rw [decide_eq_true (by omega),cond_true,ab1 h (by simp only [SM];omega) (by omega),a9]
   have iQ:=Nat.mod_lt x (Nat.pos_of_ne_zero h)
   rw [ih (x % y) iQ y g (by omega) hy (eF (gD (by omega)) hy),Nat.gcd_comm x y,Nat.gcd_rec y x,Nat.gcd_comm]
theorem akx {x y k:Nat} (hx:(lm x).length<=k) (hy:(lm y).length<=k) (hk:LM (4 * k+30)):Gv (fun N=>GF N (lm x) (lm y)) (lm (Nat.gcd x y)) :=
 .of (3 * k+65571+y) fun N hN=>akw hk (by omega) y x N (by omega) hx hy
theorem ZI.ko (ha:ZI a z n) (hb:ZI b w n) (h0:w≠0) (hs:LM (4 * n+30)):Gv (fun N=>qZ N a b) (bL (Rat.divInt z w)):=by
 simp only [LM] at hs
 have O7:=ha.zb
 have zQ:=hb.zb
 unfold ZB at O7 zQ
 refine (ha.read (by simp only [LM];omega)).bind ((hb.read (by simp only [LM];omega)).bind ?_)
 have hX:=ha.VX
 have hY:=hb.VX
 clear ha hb
 generalize hxx:z.natAbs=x at *
 generalize hyy:w.natAbs=y at *
 have hy0:y≠0:=by omega
 have hg0:0 < Nat.gcd x y:=Nat.gcd_pos_of_pos_right _ (by omega)
 refine Gv.bd (by have:=oi.2 hy0;simp;exact fun h'=>by rw [h'] at this;simp at this) ?_
 refine (akx O7 zQ (by simp only [LM];omega)).bind ?_
 have hgn:(lm (Nat.gcd x y)).length<=n:=eF (gD (Nat.gcd_le_right _ (by omega))) zQ
 refine (X2 O7 hgn (by omega) (by simp only [LM];omega)).bind ((X2 zQ hgn (by omega) (by simp only [LM];omega)).bind ?_)
 generalize hu:x / Nat.gcd x y=u
 generalize hv:y / Nat.gcd x y=v
 have hul:(lm u).length<=n:=eF (gD (by rw [<- hu];exact Nat.div_le_self _ _)) O7
 have hvl:(lm v).length<=n:=eF (gD (by rw [<- hv];exact Nat.div_le_self _ _)) zQ
 refine (sP (neg:=!(a.fG == b.fG)) (k:=u) (n:=n) (by unfold ZB;rw [rK];exact hul) (by simp only [LM];omega)).bind ((sP (neg:=false) (k:=v) (n:=n) (by unfold ZB;rw [rK];exact hvl) (by simp only [LM];omega)).bind ((Gv.pure _).eq ?_))
 have anA:Int.gcd w z=Nat.gcd x y:=by unfold Int.gcd;rw [hxx,hyy,Nat.gcd_comm]
 unfold bL
 rw [Rat.num_divInt,Rat.den_divInt,if_neg h0,anA,hyy,hv]
 have hd:(Nat.gcd x y) ∣ x:=Nat.gcd_dvd_left _ _
 have e1:w.sign * z / ((Nat.gcd x y:Nat):Int)=sg (!(a.fG == b.fG)) u:=by
  have hxu:(x:Int)=(Nat.gcd x y:Nat) * (u:Int):=by
   have:x=Nat.gcd x y * u:=by rw [<- hu,Nat.mul_div_cancel' hd]
   exact_mod_cast this
  have e2:w.sign * z=(Nat.gcd x y:Nat) * sg (!(a.fG == b.fG)) u:=by
   rw [hX,hY]
   cases a.fG<;>cases b.fG<;>simp only [sg,cond_true,cond_false,Bool.not_true,Bool.not_false,BEq.rfl,show (true == false)=false from rfl,show (false == true)=false from rfl]
   ·rw [Int.sign_eq_one_of_pos (by omega),Int.one_mul,<- hxu]
   ·rw [Int.sign_eq_neg_one_of_neg (by omega),Int.mul_neg,<- hxu];omega
   ·rw [Int.sign_eq_one_of_pos (by omega),Int.one_mul,Int.mul_neg,<- hxu]
   ·rw [Int.sign_eq_neg_one_of_neg (by omega),<- hxu];omega
  rw [e2,Int.mul_ediv_cancel_left _ (by omega)]
 rw [e1];rfl
theorem apK:Gv (fun N=>wx N 1) (Bk 1):=Te (by decide) (by decide)
theorem ZI.anE (ha:ZI a z n) (hb:ZI b w n) (h0:w=0) (hs:LM (4 * n+30)):Gv (fun N=>qZ N a b) (bL (z:Rat)):=by
 simp only [LM] at hs
 refine (ha.read (by simp only [LM];omega)).bind ((hb.read (by simp only [LM];omega)).bind ?_)
 refine Gv.aR (by rw [h0];show (((lm 0).length:Nat):Int) == 0;rw [jm];rfl) ?_
 have e:=ha.VX
 have:=sP (neg:=a.fG) (k:=z.natAbs) (n:=n) (by rw [<- e];exact ha.zb) (by simp only [LM];omega)
 rw [<- e] at this
 exact this.bind (apK.bind (Gv.pure _))
theorem RQ.parts (h:RQ x p n):∃ z w,ZI x.fN z n/\ZI x.fD w n/\p=Rat.divInt z (if w=0 then 1 else w) :=
 ⟨zv x.fN,zv x.fD,⟨h.ir.num,rfl⟩,⟨h.ir.den,rfl⟩,h.v.symm⟩
theorem RQ.Q7 (h:RQ x p n) (hs:LM (4 * n+30)):Gv (fun N=>jt N x) (bL p):=by
 obtain ⟨z,w,hz,hw,e⟩:=h.parts
 by_cases h0:w=0
 ·rw [if_pos h0] at e
  refine (hz.anE hw h0 hs).bind ((Gv.pure _).eq ?_)
  rw [e,Q6]
 ·rw [if_neg h0] at e
  refine (hz.ko hw h0 hs).bind ((Gv.pure _).eq ?_)
  rw [e]
theorem adB (p q:Rat):Rat.divInt (p.num * q.den+q.num * p.den) (p.den * q.den)=p+q:=by
 conv=>rhs;rw [nb p,nb q]
 rw [Rat.divInt_add_divInt _ _ (pS p) (pS q)]
theorem RQ.aaj (hx:RQ x p m) (hy:RQ y q n) (hs:LM (4 * (m+n+1)+30)):Gv (fun N=>nQ N x y) (bL (p+q)):=by
 simp only [LM] at hs
 have bx:=hx.rb
 have Ot:=hy.rb
 refine (hx.Q7 (by simp only [LM];omega)).bind ((hy.Q7 (by simp only [LM];omega)).bind ?_)
 refine (bx.num.zi.Hp Ot.den.zi (by simp only [LM];omega)).bind ((Ot.num.zi.Hp bx.den.zi (by simp only [LM];omega)).bind ?_)
 have e1:=(bx.num.mul Ot.den).le (show m+n<=m+n by omega)
 have e2:=(Ot.num.mul bx.den).le (show n+m<=m+n by omega)
 refine (e1.zi.aaj e2.zi (by simp only [LM];omega)).bind ((bx.den.zi.Hp Ot.den.zi (by simp only [LM];omega)).bind ?_)
 refine ((e1.add e2).zi.ko ((bx.den.mul Ot.den).le (show m+n<=m+n+1 by omega)).zi (Int.mul_ne_zero (pS p) (pS q)) (by simp only [LM];omega)).bind ((Gv.pure _).eq ?_)
 rw [adB]
theorem RQ.anC (hx:RQ x p n) (hs:LM (4 * n+30)):Gv (fun N=>xX N x) (bL (-p)):=by
 refine (hx.Q7 hs).bind ((hx.rb.num.zi.anC (by simp only [LM] at *;omega)).bind ((Gv.pure _).eq ?_))
 unfold bL;rw [Rat.neg_num,Rat.neg_den]
theorem RQ.anF (hx:RQ x p m) (hy:RQ y q n) (hs:LM (4 * (m+n+1)+30)):Gv (fun N=>rF N x y) (bL (p - q)):=by
 refine (hy.anC (by simp only [LM] at *;omega)).bind ((hx.aaj (hy.rb.neg.rq hy.pos) hs).bind ((Gv.pure _).eq ?_))
 rw [Rat.sub_eq_add_neg]
theorem RQ.Hp (hx:RQ x p m) (hy:RQ y q n) (hs:LM (4 * (m+n+1)+30)):Gv (fun N=>jE N x y) (bL (p * q)):=by
 simp only [LM] at hs
 have bx:=hx.rb
 have Ot:=hy.rb
 refine (hx.Q7 (by simp only [LM];omega)).bind ((hy.Q7 (by simp only [LM];omega)).bind ?_)
 refine (bx.num.zi.Hp Ot.num.zi (by simp only [LM];omega)).bind ((bx.den.zi.Hp Ot.den.zi (by simp only [LM];omega)).bind ?_)
 refine ((bx.num.mul Ot.num).zi.ko (bx.den.mul Ot.den).zi (Int.mul_ne_zero (pS p) (pS q)) (by simp only [LM];omega)).bind ((Gv.pure _).eq ?_)
 conv=>rhs;rw [nb p,nb q]
 rw [Rat.divInt_mul_divInt]
theorem RQ.ahP (hx:RQ x p m) (hy:RQ y q n) (h0:q≠0) (hs:LM (4 * (m+n+1)+30)):Gv (fun N=>nR N x y) (bL (p / q)):=by
 simp only [LM] at hs
 have bx:=hx.rb
 have Ot:=hy.rb
 refine (hx.Q7 (by simp only [LM];omega)).bind ((hy.Q7 (by simp only [LM];omega)).bind ?_)
 refine (bx.num.zi.Hp Ot.den.zi (by simp only [LM];omega)).bind ((bx.den.zi.Hp Ot.num.zi (by simp only [LM];omega)).bind ?_)
 refine ((bx.num.mul Ot.den).zi.ko (bx.den.mul Ot.num).zi (Int.mul_ne_zero (pS p) (ahJ h0)) (by simp only [LM];omega)).bind ((Gv.pure _).eq ?_)
 conv=>rhs;rw [nb p,nb q]
 rw [uK (pS p) (pS q)]
def F5 (z:Int):Int×Bool:=if -9223372036854775808<=z/\z<=9223372036854775807 then (z,true) else (0,false)
theorem adC {neg:Bool} {k:Nat} (h:k < 18446744073709551616) :
  (cond (cond neg (decide ((k:Int)<=9223372036854775808)) false) (aE (IntKind.u64.wrap (0 - (k:Int))),true) (cond (cond (!neg) (decide ((k:Int)<=9223372036854775807)) false) (aE (k:Int),true) (0,false)))=F5 (sg neg k):=by
 cases neg with
 | true =>
  rw [show sg true k = -(k:Int) from rfl,cond_true,Bool.not_true,cond_false]
  unfold F5
  by_cases h1:(k:Int)<=9223372036854775808
  ·rw [decide_eq_true h1,cond_true,if_pos (by omega)]
   congr 1
   rw [wrap64,abK]
   split<;>omega
  ·rw [decide_eq_false h1,cond_false,if_neg (by omega)];rfl
 | false =>
  rw [show sg false k=(k:Int) from rfl,cond_false,Bool.not_false,cond_true,cond_false]
  unfold F5
  by_cases h1:(k:Int)<=9223372036854775807
  ·rw [decide_eq_true h1,cond_true,if_pos (by omega),aX (by omega) h1]
  ·rw [decide_eq_false h1,cond_false,if_neg (by omega)]
theorem aak {neg:Bool} {k:Nat} (h:k < 18446744073709551616) :
  (cond (cond neg (decide ((k:Int)<=9223372036854775808)) false) (some (aE (IntKind.u64.wrap (0 - (k:Int))),true)) (cond (cond (!neg) (decide ((k:Int)<=9223372036854775807)) false) (some (aE (k:Int),true)) (some (0,false))))=some (F5 (sg neg k)):=by
 rw [<- adC h]
 generalize decide ((k:Int)<=9223372036854775808)=u
 generalize decide ((k:Int)<=9223372036854775807)=v
 cases neg<;>cases u<;>cases v<;>rfl
theorem adE {neg:Bool} {k:Nat} (h:18446744073709551616<=k):F5 (sg neg k)=(0,false):=by
 unfold F5
 rw [if_neg]
 cases neg<;>simp only [sg,cond_true,cond_false]<;>omega
theorem ZI.small (ha:ZI a z n) (hs:SM n):Gv (fun N=>GC N a) (F5 z):=by
 have ht:=wb ha.ib hs
 rw [ha.v] at ht
 have hz:=ha.zb
 unfold ZB at hz
 refine ht.bind (Gv.bind (.of 6 fun N hN=>VV (by omega) (by simp only [SM] at *;omega)) ?_)
 rw [ha.VX,rK]
 generalize z.natAbs=k
 by_cases h:(lm k).length<=4
 ·rw [if_pos h]
  have hk:k < 18446744073709551616:=by
   have:=jf.1 h
   have e4:pw 4=18446744073709551616:=by decide
   omega
  exact Gv.bd rfl ((Gv.pure _).congr fun N=>aak hk)
 ·rw [if_neg h]
  refine Gv.aR rfl ((Gv.pure _).eq (adE ?_).symm)
  have e4:pw 4=18446744073709551616:=by decide
  have:=mt (jf (n:=k) (k:=4)).2 h
  omega
end
end Go.Den
namespace Go.Den
open Go.Ab
section
variable (t s:Nat->Rat) (n:Nat)
def apL (i:Nat) (y:Rat):Rat:=if i+1 < n/\t (i+1) < y then t (i+1) else y
def pc (i:Nat) (y:Rat):Rat:=if apL t n i y<=t i then 0 else apL t n i y - t i
def vs:Nat->Nat->Rat->Rat
 | 0,_,_=>0
 | k+1,i,y=>s i * pc t n i y+vs k (i+1) y
def fs:Nat->Rat
 | 0=>0
 | i+1=>fs i+s i * (t (i+1) - t i)
def ps (x:Rat):Rat:=if x < 0 then 0 else x
def Up:Prop:=∀ i,i+1 < n->t i < t (i+1)
end
section
variable {t s:Nat->Rat} {n:Nat} (up:Up t n)
include up
end
end Go.Den
namespace Go.Den
open Go.Ab
theorem aF.succ {α:Type} {f f':Nat->Nat->Option α} {r:α} (e:∀ N g,f N (g+1)=f' N g) (h:aF f' r):aF f r :=
 let ⟨N0,h0⟩:=h;.step N0 fun N g hN hg=>(e N g).trans (h0 N g hN hg)
theorem aF.bind {α β:Type} {f:Nat->Option α} {k:Nat->Nat->α->Option β} {r:α} {s:β} (h:Gv f r) (h2:aF (fun N g=>k N g r) s):aF (fun N g=>(f N).bind (k N g)) s:=by
 obtain ⟨N0,h⟩:=h
 obtain ⟨N1,h2⟩:=h2
 exact ⟨N0+N1,fun N g hN hg=>by dsimp only;rw [h N (by omega)];exact h2 N g (by omega) (by omega)⟩
theorem aF.aR {α:Type} {f g:Nat->Nat->Option α} {r:α} {q:Bool} (hq:q=true) (h:aF f r):aF (fun N n=>cond q (f N n) (g N n)) r:=by subst hq;exact h
theorem aF.bd {α:Type} {f g:Nat->Nat->Option α} {r:α} {q:Bool} (hq:q=false) (h:aF g r):aF (fun N n=>cond q (f N n) (g N n)) r:=by subst hq;exact h
theorem aF.if {α:Type} {f:Nat->Nat->Option α} {r:α} {p:Prop} [Decidable p] (hp:p) (h:aF f r):aF (fun N n=>if p then f N n else none) r:=by
 obtain ⟨N0,h⟩:=h
 exact ⟨N0,fun N g hN hg=>by dsimp only;rw [if_pos hp];exact h N g hN hg⟩
theorem aF.one {α:Type} {f:Nat->Option α} {r:α} (h:Gv f r):aF (fun N _=>f N) r:=let ⟨N0,h⟩:=h;⟨N0,fun N _ hN _=>h N hN⟩
theorem aF.eq {α:Type} {f:Nat->Nat->Option α} {r s:α} (h:aF f r) (e:r=s):aF f s:=e ▸ h
end Go.Den
namespace Go.Den
open Go.Ab
theorem RB.zero:RB 0 1:=RB.int (z:=0) (ZB.small (by decide)) (by decide)
section
theorem M8 {q:Rat}:decide (uP q < 0)=decide (q < 0):=decide_eq_decide.2 oC
theorem X3 {q:Rat}:decide (uP q > 0)=decide (0 < q):=decide_eq_decide.2 Oq
theorem aal {q:Rat}:decide (uP q>=0)=decide (0<=q):=decide_eq_decide.2 (by
 constructor
 ·intro h;exact Rat.not_lt.1 fun h2=>by have:=oC.2 h2;omega
 ·intro h;exact Int.not_lt.1 fun h2=>by have:=oC.1 h2;grind)
end
end Go.Den
namespace Go.Den
open Go.Ab
theorem Cg {l:List aa} {i:Nat} (h:l.length<=i):l.getD i aa.d=aa.d:=by
 simp [List.getD,List.getElem?_eq_none_iff.2 h]
end Go.Den
namespace Go.Den
open Go.Ab
abbrev MS:Nat:=1000000000000
def Ev (p:Nat->Nat->Prop):Prop:=∃ N0,∀ N g,N0<=N->N0<=g->p N g
theorem Ev.of {p:Nat->Nat->Prop} (N0:Nat) (h:∀ N g,N0<=N->N0<=g->p N g):Ev p:=⟨N0,h⟩
theorem Gv.ev {α:Type} {f:Nat->Option α} {r:α} (h:Gv f r):Ev fun N _=>f N=some r:=let ⟨N0,h0⟩:=h;⟨N0,fun N _ hN _=>h0 N hN⟩
theorem Ev.and {p q:Nat->Nat->Prop} (h:Ev p) (k:Ev q):Ev fun N g=>p N g/\q N g:=by
 obtain ⟨a,ha⟩:=h;obtain ⟨b,hb⟩:=k
 exact ⟨a+b,fun N g h1 h2=>⟨ha N g (by omega) (by omega),hb N g (by omega) (by omega)⟩⟩
theorem Ev.mono {p q:Nat->Nat->Prop} (h:Ev p) (k:∀ N g,p N g->q N g):Ev q:=let ⟨a,ha⟩:=h;⟨a,fun N g h1 h2=>k N g (ha N g h1 h2)⟩
theorem Ev.succ {p:Nat->Nat->Prop} (h:Ev fun N g=>p N (g+1)):Ev p:=by
 obtain ⟨a,ha⟩:=h
 refine ⟨a+1,fun N g h1 h2=>?_⟩
 obtain ⟨g,rfl⟩:∃ g',g=g'+1:=⟨g - 1,by omega⟩
 exact ha N g (by omega) (by omega)
theorem Ev.diag {p:Nat->Nat->Prop} (h:Ev p):Ev fun N _=>p N N:=let ⟨a,ha⟩:=h;⟨a,fun N _ h1 _=>ha N N h1 h1⟩
theorem Ev.true {p:Nat->Nat->Prop} (h:∀ N g,p N g):Ev p:=⟨0,fun N g _ _=>h N g⟩
def ent (A:List (List aa)) (i j:Nat):aa:=(A.getD i []).getD j aa.d
structure X4 (A:List (List aa)) (n w:Nat) (M:Nat->Nat->Rat):Prop where
 len:A.length=n
 row:∀ i,i < n->(A.getD i []).length=w
 ent:∀ i j,i < n->j < w->RQ (ent A i j) (M i j) MS
def pU (M:Nat->Nat->Rat) (i j:Nat) (v:Rat):Nat->Nat->Rat:=fun a b=>if a=i/\b=j then v else M a b
theorem nc {α:Type} (l:List α) (i:Nat) (x d:α) (h:i < l.length):(l.set i x).getD i d=x:=by
 simp [ep,List.getElem?_set_self h]
theorem kn {α:Type} (l:List α) {i j:Nat} (x d:α) (h:i≠j):(l.set i x).getD j d=l.getD j d:=by
 simp [ep,List.getElem?_set_ne h]
theorem X4.set {A:List (List aa)} {n w:Nat} {M:Nat->Nat->Rat} (h:X4 A n w M) {i j:Nat} (hi:i < n) (hj:j < w) {x:aa} {v:Rat} (hx:RQ x v MS) :
  X4 (A.set i ((A.getD i []).set j x)) n w (pU M i j v):=by
 refine ⟨by rw [List.length_set];exact h.len,fun a ha=>?_,fun a b ha hb=>?_⟩
 ·by_cases e:i=a
  ·subst e;rw [nc _ _ _ _ (by rw [h.len];exact hi),List.length_set];exact h.row i hi
  ·rw [kn _ _ _ e];exact h.row a ha
 ·unfold Go.Den.ent pU
  by_cases e:i=a
  ·subst e
   rw [nc _ _ _ _ (by rw [h.len];exact hi)]
   by_cases e2:j=b
   ·subst e2
    rw [nc _ _ _ _ (by rw [h.row i hi];exact hj),if_pos ⟨rfl,rfl⟩];exact hx
   ·rw [kn _ _ _ e2,if_neg (fun q=>e2 q.2.symm)];exact h.ent i b ha hb
  ·rw [kn _ _ _ e,if_neg (fun q=>e q.1.symm)];exact h.ent a b ha hb
theorem X4.congr {A:List (List aa)} {n w:Nat} {M M':Nat->Nat->Rat} (h:X4 A n w M) (e:∀ i j,i < n->j < w->M i j=M' i j):X4 A n w M' :=
 ⟨h.len,h.row,fun i j hi hj=>e i j hi hj ▸ h.ent i j hi hj⟩
def VB (M:Nat->Nat->Rat) (n w s:Nat):Prop:=∀ i j,i < n->j < w->RB (M i j) s
end Go.Den
namespace Go.Den
open Go.Ab
def swp (M:Nat->Nat->Rat) (c d:Nat):Nat->Nat->Rat:=fun i j=>if i=c then M d j else if i=d then M c j else M i j
def gnm (M:Nat->Nat->Rat) (c t:Nat):Nat->Nat->Rat:=fun i j=>if i=c/\j < t then M c j / M c c else M i j
def aam (M:Nat->Nat->Rat) (g:Nat->Rat) (c t:Nat):Nat->Nat->Rat:=fun i j=>if i < t/\i≠c then M i j - g i * M c j else M i j
def stE (M:Nat->Nat->Rat) (n w c d:Nat):Nat->Nat->Rat:=aam (gnm (swp M c d) c w) (fun i=>swp M c d i c) c n
def stR (M:Nat->Nat->Rat) (n c d:Nat):Nat->Nat->Rat:=aam (swp M c d) (fun i=>swp M c d i c / swp M c d c c) c n
structure Prl (M R:Nat->Nat->Rat) (n w c:Nat) (l:Nat->Rat):Prop where
 ne:∀ i,i < n->l i≠0
 eq:∀ i j,i < n->j < w->R i j=l i * M i j
 one:∀ i j,i < n->j < c->M i j=if i=j then 1 else 0
theorem Prl.step {M R:Nat->Nat->Rat} {n w c:Nat} {l:Nat->Rat} (h:Prl M R n w c l) (hc:c < n) (hw:n<=w) {d:Nat} (hd1:c<=d) (hd2:d < n) (h0:M d c≠0) :
  ∃ l',Prl (stE M n w c d) (stR R n c d) n w (c+1) l':=by
 let s:Nat->Nat:=fun i=>if i=c then d else if i=d then c else i
 have hs:∀ i,i < n->s i < n:=fun i hi=>by
  show (if i=c then d else if i=d then c else i) < n
  split
  ·exact hd2
  ·split<;>omega
 have hM:∀ i j,swp M c d i j=M (s i) j:=fun i j=>by
  show (if i=c then M d j else if i=d then M c j else M i j)=M (if i=c then d else if i=d then c else i) j
  split
  ·rfl
  ·split<;>rfl
 have hR:∀ i j,swp R c d i j=R (s i) j:=fun i j=>by
  show (if i=c then R d j else if i=d then R c j else R i j)=R (if i=c then d else if i=d then c else i) j
  split
  ·rfl
  ·split<;>rfl
 have hsc:s c=d:=if_pos rfl
 have hcw:c < w:=by omega
 refine ⟨fun i=>if i=c then l d * M d c else l (s i),fun i hi=>?_,fun i j hi hj=>?_,fun i j hi hj=>?_⟩
 ·split
  ·intro e
   rcases Rat.mul_eq_zero.1 e with e | e
   ·exact h.ne d hd2 e
   ·exact h0 e
  ·exact h.ne _ (hs i hi)
 ·simp only [stE,stR,aam]
  have e1:=h.eq (s i) j (hs i hi) hj
  have e2:=h.eq d j hd2 hj
  have e3:=h.eq (s i) c (hs i hi) hcw
  have e4:=h.eq d c hd2 hcw
  have hl:=h.ne d hd2
  by_cases hic:i=c
  ·have hn:¬ (i < n/\i≠c):=fun q=>q.2 hic
   simp only [hn,if_false,hic,if_true,hR,hsc,e2,gnm,hM,hj,and_self]
   grind
  ·have hn:i < n/\i≠c:=⟨hi,hic⟩
   simp only [hn,hic,if_true,if_false,not_false_eq_true,and_self,ne_eq,hR,hsc,e1,e2,e3,e4,gnm,hM,false_and,hj]
   have:l d * M d c≠0:=fun e=>by
    rcases Rat.mul_eq_zero.1 e with e | e
    ·exact hl e
    ·exact h0 e
   grind
 ·have hz:∀ i,i < n->j < c->M i j=if i=j then 1 else 0:=fun i hi h1=>h.one i j hi h1
  simp only [stE,aam]
  by_cases hjc:j=c
  ·by_cases hic:i=c
   ·have hn:¬ (i < n/\i≠c):=fun q=>q.2 hic
    simp only [hn,if_false,hic,hjc,if_true,gnm,hM,hsc,hcw,and_self]
    grind
   ·have hn:i < n/\i≠c:=⟨hi,hic⟩
    simp only [hn,hic,hjc,if_true,if_false,not_false_eq_true,and_self,ne_eq,gnm,hM,hsc,false_and,hcw]
    grind
  ·have apM:j < c:=by omega
   have hjw:j < w:=by omega
   have hd0:M d j=0:=by rw [hz d hd2 apM,if_neg (by omega)]
   have asx:M (s i) j=if i=j then 1 else 0:=by
    rw [hz (s i) (hs i hi) apM]
    have:(s i=j)↔(i=j):=by
     show ((if i=c then d else if i=d then c else i)=j)↔i=j
     split
     ·omega
     ·split<;>omega
    simp only [this]
   by_cases hic:i=c
   ·have hn:¬ (i < n/\i≠c):=fun q=>q.2 hic
    have hij:¬ c=j:=fun q=>hjc q.symm
    simp only [hn,if_false,hic,if_true,gnm,hM,hsc,hjw,and_self,hd0,hij]
    grind
   ·have hn:i < n/\i≠c:=⟨hi,hic⟩
    simp only [hn,hic,if_true,if_false,not_false_eq_true,and_self,ne_eq,gnm,hM,hsc,false_and,hjw,asx,hd0]
    grind
theorem VB.swp {M:Nat->Nat->Rat} {n w s c d:Nat} (h:VB M n w s) (hc:c < n) (hd:d < n):VB (swp M c d) n w s:=fun i j hi hj=>by
 unfold Go.Den.swp
 split
 ·exact h d j hd hj
 ·split
  ·exact h c j hc hj
  ·exact h i j hi hj
theorem VB.gnm {M:Nat->Nat->Rat} {n w s c t:Nat} (h:VB M n w s) (hc:c < n) (hcw:c < w) (h0:M c c≠0):VB (gnm M c t) n w (s+s):=fun i j hi hj=>by
 unfold Go.Den.gnm
 split
 ·exact (h c j hc hj).div (h c c hc hcw) h0
 ·exact (h i j hi hj).le (by omega)
theorem VB.aam {M:Nat->Nat->Rat} {n w s c t:Nat} {g:Nat->Rat} (h:VB M n w s) (hg:∀ i,i < n->RB (g i) s) (hc:c < n):VB (aam M g c t) n w (s+(s+s)+1):=fun a j ha hj=>by
 unfold Go.Den.aam
 split
 ·exact (h a j ha hj).sub ((hg a ha).mul (h c j hc hj))
 ·exact (h a j ha hj).le (by omega)
end Go.Den
namespace Go.Den
open Go.Ab
theorem Wy {a:Nat} (h:a<=MS+MS+1):SM (2 * a+2):=by simp only [SM,MS] at *;omega
theorem X4.at {A:List (List aa)} {n w:Nat} {M:Nat->Nat->Rat} (h:X4 A n w M) {i j:Nat} (hi:i < n) (hj:j < w):RQ ((A.getD i []).getD j aa.d) (M i j) MS:=h.ent i j hi hj
theorem inl {m n k:Nat} (h:m < n) (e:k=n):0<=(m:Int)/\(m:Int) < ((k:Nat):Int):=⟨by omega,by omega⟩
theorem dlt {m n k:Nat} (h:m < n) (e:k=n):decide ((m:Int) < ((k:Nat):Int))=true:=by simp;omega
theorem dnl {m n k:Nat} (h:n<=m) (e:k=n):decide ((m:Int) < ((k:Nat):Int))=false:=by simp;omega
section
variable {A:List (List aa)} {n w c:Nat} {M:Nat->Nat->Rat}
end
end Go.Den
namespace Go.Den
open Go.Ab
def cZ:Nat->(Nat->Rat)->Rat
 | 0,_=>0
 | n+1,f=>cZ n f+f n
theorem bH {n:Nat} {f g:Nat->Rat} (h:∀ i,i < n->f i=g i):cZ n f=cZ n g:=by
 induction n with
 | zero=>rfl
 | succ n ih=>rw [cZ,cZ,ih fun i hi=>h i (by omega),h n (by omega)]
theorem uM (n:Nat) (f g:Nat->Rat):cZ n (fun i=>f i+g i)=cZ n f+cZ n g:=by
 induction n with
 | zero=>show (0:Rat)=0+0;grind
 | succ n ih=>rw [cZ,cZ,cZ,ih];grind
theorem mI (n:Nat) (c:Rat) (f:Nat->Rat):cZ n (fun i=>c * f i)=c * cZ n f:=by
 induction n with
 | zero=>show (0:Rat)=c * 0;grind
 | succ n ih=>rw [cZ,cZ,ih];grind
theorem nf (n:Nat):cZ n (fun _=>0)=0:=by
 induction n with
 | zero=>rfl
 | succ n ih=>rw [cZ,ih];grind
theorem nT {n j:Nat} (hj:j < n) (f:Nat->Rat) (h:∀ i,i < n->i≠j->f i=0):cZ n f=f j:=by
 induction n with
 | zero=>omega
 | succ n ih =>
  rw [cZ]
  by_cases e:j=n
  ·subst e
   rw [bH (g:=fun _=>0) fun i hi=>h i (by omega) (by omega),nf];grind
  ·rw [ih (by omega) fun i hi gH=>h i (by omega) gH,h n (by omega) (by omega)];grind
theorem zp {n j:Nat} (hj:j < n) (f:Nat->Rat):cZ n f=f j+cZ n (fun i=>if i=j then 0 else f i):=by
 have e:cZ n f=cZ n (fun i=>(if i=j then f j else 0)+(if i=j then 0 else f i)):=bH fun i _=>by
  split
  ·rename_i h;subst h;grind
  ·grind
 rw [e,uM,nT hj (fun i=>if i=j then f j else 0) fun i _ h=>if_neg h,if_pos rfl]
structure bZ where
 jK:Nat->Nat
 fr:Nat->Nat
 a:Nat->Nat->Rat
 b:Nat->Rat
 g:Nat->Rat
 v:Rat
namespace bZ
def row (D:bZ) (k:Nat) (x:Nat->Rat) (i:Nat):Rat:=D.b i+cZ k fun j=>D.a i j * x (D.fr j)
def Wz (D:bZ) (m k:Nat) (x:Nat->Rat):Prop:=∀ i,i < m->x (D.jK i)=D.row k x i
def gv (D:bZ) (k:Nat) (x:Nat->Rat):Rat:=D.v+cZ k fun j=>D.g j * x (D.fr j)
structure WF (D:bZ) (m k:Nat):Prop where
 bi:∀ i i',i < m->i' < m->D.jK i=D.jK i'->i=i'
 fi:∀ j j',j < k->j' < k->D.fr j=D.fr j'->j=j'
 bf:∀ i j,i < m->j < k->D.jK i≠D.fr j
 bl:∀ i,i < m->D.jK i < m+k
 fl:∀ j,j < k->D.fr j < m+k
 al:∀ u,u < m+k->(∃ i,i < m/\D.jK i=u)\/∃ j,j < k/\D.fr j=u
def sj (D:bZ) (i j k:Nat):Rat:=if k=j then 1 / D.a i j else -(D.a i k / D.a i j)
def pb (D:bZ) (i j:Nat):Rat:=-(D.b i / D.a i j)
def lD (D:bZ) (i j:Nat):bZ where
 jK:=fun r=>if r=i then D.fr j else D.jK r
 fr:=fun c=>if c=j then D.jK i else D.fr c
 a:=fun r c=>if r=i then D.sj i j c else if c=j then D.a r j * D.sj i j c else D.a r c+D.a r j * D.sj i j c
 b:=fun r=>if r=i then D.pb i j else D.b r+D.a r j * D.pb i j
 g:=fun c=>if c=j then D.g j * D.sj i j c else D.g c+D.g j * D.sj i j c
 v:=D.v+D.g j * D.pb i j
theorem WF.lD {D:bZ} {m k i j:Nat} (h:D.WF m k) (hi:i < m) (hj:j < k):(D.lD i j).WF m k:=by
 refine ⟨fun r r' hr Jk e=>?_,fun c c' hc sS e=>?_,fun r c hr hc e=>?_,fun r hr=>?_,fun c hc=>?_,fun u hu=>?_⟩
 ·simp only [bZ.lD] at e
  split at e<;>split at e
  ·omega
  ·exact absurd e.symm (h.bf _ _ Jk hj)
  ·exact absurd e (h.bf _ _ hr hj)
  ·exact h.bi _ _ hr Jk e
 ·simp only [bZ.lD] at e
  split at e<;>split at e
  ·omega
  ·exact absurd e (h.bf _ _ hi sS)
  ·exact absurd e.symm (h.bf _ _ hi hc)
  ·exact h.fi _ _ hc sS e
 ·simp only [bZ.lD] at e
  split at e<;>split at e
  ·exact h.bf _ _ hi hj e.symm
  ·rename_i h1 h2;exact h2 (h.fi _ _ hc hj e.symm)
  ·rename_i h1 h2;exact h1 (h.bi _ _ hr hi e)
  ·exact h.bf _ _ hr hc e
 ·simp only [bZ.lD];split
  ·exact h.fl j hj
  ·exact h.bl r hr
 ·simp only [bZ.lD];split
  ·exact h.bl i hi
  ·exact h.fl c hc
 ·rcases h.al u hu with ⟨r,hr,e⟩ | ⟨c,hc,e⟩
  ·by_cases q:r=i
   ·subst q;exact .inr ⟨j,hj,by simp only [bZ.lD,if_pos];exact e⟩
   ·exact .inl ⟨r,hr,by simp only [bZ.lD,if_neg q];exact e⟩
  ·by_cases q:c=j
   ·subst q;exact .inl ⟨i,hi,by simp only [bZ.lD,if_pos];exact e⟩
   ·exact .inr ⟨c,hc,by simp only [bZ.lD,if_neg q];exact e⟩
theorem VY {D:bZ} {k i j:Nat} (hj:j < k) (h0:D.a i j≠0) {x:Nat->Rat} (hs:x (D.jK i)=D.row k x i\/x (D.fr j)=(D.lD i j).row k x i) :
  x (D.fr j)=D.pb i j+cZ k fun c=>D.sj i j c * x ((D.lD i j).fr c):=by
 rcases hs with hs | hs
 ·rw [zp hj]
  have e1:(fun c=>if c=j then (0:Rat) else D.sj i j c * x ((D.lD i j).fr c))=fun c=>(-(1 / D.a i j)) * (if c=j then 0 else D.a i c * x (D.fr c)):=by
   funext c
   by_cases q:c=j
   ·simp only [q,if_true];grind
   ·simp only [bZ.sj,bZ.lD,q,if_false];grind
  rw [e1,mI]
  unfold bZ.row at hs
  rw [zp hj] at hs
  simp only [bZ.sj,bZ.lD,if_true,bZ.pb]
  rw [hs]
  grind
 ·rw [hs]
  simp only [bZ.row,bZ.lD,if_true]
theorem X5 {D:bZ} {k i j:Nat} (hj:j < k) (f:Nat->Rat) {x:Nat->Rat} {p:Rat} (hx:x (D.fr j)=p+cZ k fun c=>D.sj i j c * x ((D.lD i j).fr c)) :
  (f j * p+cZ k fun c=>(if c=j then f j * D.sj i j c else f c+f j * D.sj i j c) * x ((D.lD i j).fr c))=cZ k fun c=>f c * x (D.fr c):=by
 have e1:cZ k (fun c=>(if c=j then f j * D.sj i j c else f c+f j * D.sj i j c) * x ((D.lD i j).fr c))=cZ k (fun c=>(if c=j then 0 else f c * x (D.fr c))+f j * (D.sj i j c * x ((D.lD i j).fr c))):=bH fun c _=>by
  by_cases q:c=j
  ·simp only [q,if_true];grind
  ·simp only [q,if_false,bZ.lD];grind
 rw [e1,uM,mI,zp hj (fun c=>f c * x (D.fr c)),hx]
 grind
theorem Wz.lD {D:bZ} {m k i j:Nat} (hi:i < m) (hj:j < k) (h0:D.a i j≠0) {x:Nat->Rat}:(D.lD i j).Wz m k x↔D.Wz m k x:=by
 have key:∀ r,r≠i->x (D.fr j)=D.pb i j+cZ k (fun c=>D.sj i j c * x ((D.lD i j).fr c))->(D.lD i j).row k x r=D.row k x r:=fun r hr hx=>by
  have e:=X5 hj (fun c=>D.a r c) hx
  simp only [bZ.row]
  rw [<- e]
  simp only [bZ.lD,hr,if_false]
  grind
 constructor
 ·intro h r hr
  have h1:=h i hi
  have h2:x (D.fr j)=(D.lD i j).row k x i:=by rw [<- h1];simp [bZ.lD]
  have hx:=VY hj h0 (.inr h2)
  by_cases q:r=i
  ·subst q
   -- solve for the basic variable
   have e:=hx
   rw [zp hj] at e
   have e1:(fun c=>if c=j then (0:Rat) else D.sj r j c * x ((D.lD r j).fr c))=fun c=>(-(1 / D.a r j)) * (if c=j then 0 else D.a r c * x (D.fr c)):=by
    funext c
    by_cases q:c=j
    ·simp only [q,if_true];grind
    ·simp only [bZ.sj,bZ.lD,q,if_false];grind
   rw [e1,mI] at e
   simp only [bZ.sj,bZ.lD,if_true,bZ.pb] at e
   unfold bZ.row
   rw [zp hj]
   grind
  ·have h3:=h r hr
   rw [key r q hx] at h3
   rw [<- h3]
   simp [bZ.lD,q]
 ·intro h r hr
  have hx:=VY hj h0 (.inl (h i hi))
  by_cases q:r=i
  ·subst q
   simp only [bZ.row,bZ.lD,if_true]
   exact hx
  ·rw [key r q hx,<- h r hr]
   simp [bZ.lD,q]
theorem anH {D:bZ} {m k i j:Nat} (hi:i < m) (hj:j < k) (h0:D.a i j≠0) {x:Nat->Rat} (hs:D.Wz m k x):(D.lD i j).gv k x=D.gv k x:=by
 have hx:=VY hj h0 (.inl (hs i hi))
 have e:=X5 hj D.g hx
 simp only [bZ.gv]
 rw [<- e]
 simp only [bZ.lD]
 grind
def rix (D:bZ):Nat->Nat->Option Nat
 | 0,_=>none
 | m+1,u=>if D.jK m=u then some m else rix D m u
theorem Ou {D:bZ}:∀ {m i:Nat},(∀ i i',i < m->i' < m->D.jK i=D.jK i'->i=i')->i < m->D.rix m (D.jK i)=some i
 | 0,i,_,hi=>by omega
 | m+1,i,h,hi=>by
  rw [rix]
  by_cases e:D.jK m=D.jK i
  ·rw [if_pos e,h m i (by omega) hi e]
  ·rw [if_neg e]
   exact Ou (fun i i' h1 h2=>h i i' (by omega) (by omega)) (Nat.lt_of_le_of_ne (by omega) fun q=>e (by rw [q]))
theorem Kq {D:bZ} {u:Nat}:∀ {m:Nat},(∀ i,i < m->D.jK i≠u)->D.rix m u=none
 | 0,_=>rfl
 | m+1,h=>by rw [rix,if_neg (h m (by omega))];exact Kq fun i hi=>h i (by omega)
def ext (D:bZ) (m k:Nat) (y:Nat->Rat) (u:Nat):Rat:=match D.rix m u with
 | some i=>D.row k y i
 | none=>y u
theorem Am {D:bZ} {m k i:Nat} (h:D.WF m k) (hi:i < m) (y:Nat->Rat):D.ext m k y (D.jK i)=D.row k y i:=by unfold ext;rw [Ou h.bi hi]
theorem Bd {D:bZ} {m k j:Nat} (h:D.WF m k) (hj:j < k) (y:Nat->Rat):D.ext m k y (D.fr j)=y (D.fr j):=by
 unfold ext;rw [Kq fun i hi=>h.bf i j hi hj]
theorem yd {D:bZ} {m k:Nat} (h:D.WF m k) (y:Nat->Rat):D.Wz m k (D.ext m k y):=fun i hi=>by
 rw [Am h hi]
 unfold bZ.row
 congr 1
 exact bH fun j hj=>by rw [Bd h hj]
theorem Q8 {D:bZ} {m k:Nat} (h:D.WF m k) (y:Nat->Rat):D.gv k (D.ext m k y)=D.gv k y:=by
 unfold bZ.gv
 congr 1
 exact bH fun j hj=>by rw [Bd h hj]
def one (u:Nat):Nat->Rat:=fun w=>if w=u then 1 else 0
def zO:Nat->Rat:=fun _=>0
theorem ye (D:bZ) (k i:Nat):D.row k zO i=D.b i:=by
 unfold row zO
 rw [bH (g:=fun _=>0) fun j _=>by grind,nf];grind
theorem row_one {D:bZ} {m k j:Nat} (h:D.WF m k) (hj:j < k) (i:Nat):D.row k (one (D.fr j)) i=D.b i+D.a i j:=by
 unfold row one
 rw [nT hj _ fun c hc gH=>by rw [if_neg fun e=>gH (h.fi _ _ hc hj e)];grind]
 rw [if_pos rfl];grind
theorem VZ (D:bZ) (k:Nat):D.gv k zO=D.v:=by
 unfold gv zO
 rw [bH (g:=fun _=>0) fun j _=>by grind,nf];grind
theorem aao {D:bZ} {m k j:Nat} (h:D.WF m k) (hj:j < k):D.gv k (one (D.fr j))=D.v+D.g j:=by
 unfold gv one
 rw [nT hj _ fun c hc gH=>by rw [if_neg fun e=>gH (h.fi _ _ hc hj e)];grind]
 rw [if_pos rfl];grind
structure KJ (m k:Nat) (D D':bZ):Prop where
 sol:∀ x,D.Wz m k x↔D'.Wz m k x
 gv:∀ x,D.Wz m k x->D.gv k x=D'.gv k x
theorem KJ.refl (m k:Nat) (D:bZ):KJ m k D D:=⟨fun _=>Iff.rfl,fun _ _=>rfl⟩
theorem KJ.symm {m k:Nat} {D D':bZ} (h:KJ m k D D'):KJ m k D' D:=⟨fun x=>(h.sol x).symm,fun x hx=>(h.gv x ((h.sol x).2 hx)).symm⟩
theorem KJ.trans {m k:Nat} {D D' D'':bZ} (h:KJ m k D D') (h':KJ m k D' D''):KJ m k D D'' :=
 ⟨fun x=>(h.sol x).trans (h'.sol x),fun x hx=>(h.gv x hx).trans (h'.gv x ((h.sol x).1 hx))⟩
theorem KJ.lD {m k i j:Nat} {D:bZ} (hi:i < m) (hj:j < k) (h0:D.a i j≠0):KJ m k D (D.lD i j) :=
 ⟨fun _=>(Wz.lD hi hj h0).symm,fun _ hx=>(anH hi hj h0 hx).symm⟩
def F6 (D:bZ) (m u:Nat):Prop:=∃ i,i < m/\D.jK i=u
theorem GS {D:bZ} {m k:Nat} (h:D.WF m k) {u:Nat} (hu:u < m+k) (hn:¬ D.F6 m u):∃ j,j < k/\D.fr j=u:=(h.al u hu).resolve_left hn
theorem F7 {D:bZ} {m k:Nat} {x y:Nat->Rat} (hx:D.Wz m k x) (hf:∀ j,j < k->x (D.fr j)=y (D.fr j)) {i:Nat} (hi:i < m):x (D.jK i)=D.row k y i:=by
 rw [hx i hi];unfold row;congr 1
 exact bH fun j hj=>by rw [hf j hj]
theorem uniq {D D':bZ} {m k:Nat} (h:D.WF m k) (h':D'.WF m k) (e:KJ m k D D') (hb:∀ u,D.F6 m u->D'.F6 m u) :
  (∀ i i',i < m->i' < m->D.jK i=D'.jK i'->D.b i=D'.b i')/\(∀ i j i' j',i < m->i' < m->j < k->j' < k->D.jK i=D'.jK i'->D.fr j=D'.fr j'->D.a i j=D'.a i' j') /\
   (∀ j j',j < k->j' < k->D.fr j=D'.fr j'->D.g j=D'.g j')/\D.v=D'.v:=by
 have hf:∀ j',j' < k->∃ j,j < k/\D.fr j=D'.fr j':=fun j' Gj=>GS h (h'.fl j' Gj) fun q=>by
  obtain ⟨i,hi,e⟩:=hb _ q
  exact h'.bf i j' hi Gj e
 have key:∀ y,(∀ i i',i < m->i' < m->D.jK i=D'.jK i'->D.row k y i=D'.row k y i')/\D.gv k y=D'.gv k y:=fun y=>by
  have hs:=yd h y
  have N8:=(e.sol _).1 hs
  have hfr:∀ j',j' < k->D.ext m k y (D'.fr j')=y (D'.fr j'):=fun j' Gj=>by
   obtain ⟨j,hj,q⟩:=hf j' Gj
   rw [<- q,Bd h hj]
  refine ⟨fun i i' hi sB q=>?_,?_⟩
  ·rw [<- Am h hi y,q]
   exact F7 N8 hfr sB
  ·rw [<- Q8 h y,e.gv _ hs]
   unfold gv;congr 1
   exact bH fun j hj=>by rw [hfr j hj]
 have hb0:∀ i i',i < m->i' < m->D.jK i=D'.jK i'->D.b i=D'.b i':=fun i i' hi sB q=>by
  have:=(key zO).1 i i' hi sB q
  rwa [ye,ye] at this
 have hv:D.v=D'.v:=by have:=(key zO).2;rwa [VZ,VZ] at this
 refine ⟨hb0,fun i j i' j' hi sB hj Gj q1 q2=>?_,fun j j' hj Gj q=>?_,hv⟩
 ·have:=(key (one (D.fr j))).1 i i' hi sB q1
  rw [row_one h hj,q2,row_one h' Gj,hb0 i i' hi sB q1] at this
  grind
 ·have:=(key (one (D.fr j))).2
  rw [aao h hj,q,aao h' Gj,hv] at this
  grind
end bZ
end Go.Den
namespace Go.Den
open Go.Ab
namespace bZ
structure Ov (D:bZ) (k j:Nat):Prop where
 lt:j < k
 pos:0 < D.g j
 min:∀ j',j' < k->0 < D.g j'->D.fr j<=D.fr j'
def ratio (D:bZ) (j i:Nat):Rat:=D.b i / -(D.a i j)
structure Kr (D:bZ) (m j i:Nat):Prop where
 lt:i < m
 neg:D.a i j < 0
 min:∀ i',i' < m->D.a i' j < 0->D.ratio j i < D.ratio j i'\/D.ratio j i=D.ratio j i'/\D.jK i<=D.jK i'
def X6 (D:bZ) (m:Nat):Prop:=∀ i,i < m->0<=D.b i
def Step (m k:Nat) (D D':bZ):Prop:=∃ j i,D.Ov k j/\D.Kr m j i/\D'=D.lD i j
theorem aap {x y a:Rat} (ha:0 < a) (h:x<=y / a):x * a<=y:=by
 have e:y / a * a=y:=by grind
 have:=Rat.mul_le_mul_of_nonneg_right h (Rat.le_of_lt ha)
 rwa [e] at this
theorem Q9 {x a:Rat} (ha:0 < a) (h:0<=x):0<=x / a:=by
 rw [Rat.div_def]
 exact Rat.mul_nonneg h (Rat.le_of_lt (Rat.inv_pos.2 ha))
theorem X7 (D:bZ) (i j:Nat):D.pb i j=D.ratio j i:=by
 unfold pb ratio
 by_cases h:D.a i j=0
 ·rw [h];simp [Rat.div_def]
 ·have:-(D.a i j)≠0:=by grind
  grind
theorem X6.ratio {D:bZ} {m i j:Nat} (h:D.X6 m) (hi:i < m) (hn:D.a i j < 0):0<=D.ratio j i:=Q9 (by grind) (h i hi)
theorem Kr.le {D:bZ} {m j i r:Nat} (h:D.Kr m j i) (hr:r < m) (hn:D.a r j < 0):D.ratio j i<=D.ratio j r:=by
 rcases h.min r hr hn with h1 | ⟨h1,_⟩
 ·exact Rat.le_of_lt h1
 ·rw [h1];exact Rat.le_refl
theorem X6.lD {D:bZ} {m i j:Nat} (h:D.X6 m) (hl:D.Kr m j i):(D.lD i j).X6 m:=fun r hr=>by
 have h0:=h.ratio hl.lt hl.neg
 simp only [bZ.lD,X7]
 split
 ·exact h0
 ·by_cases hn:D.a r j < 0
  ·have h1:=aap (a:=-(D.a r j)) (by grind) (hl.le hr hn)
   have:=h r hr
   grind
  ·have h1:=Rat.mul_nonneg (Rat.not_lt.1 hn) h0
   have:=h r hr
   grind
theorem V2 {D:bZ} {m k i j u:Nat} (h:D.WF m k) (hi:i < m):(D.lD i j).F6 m u↔(D.F6 m u/\u≠D.jK i)\/u=D.fr j:=by
 constructor
 ·rintro ⟨r,hr,e⟩
  simp only [bZ.lD] at e
  split at e
  ·exact .inr e.symm
  ·rename_i hn
   exact .inl ⟨⟨r,hr,e⟩,fun q=>hn (h.bi _ _ hr hi (e.trans q))⟩
 ·rintro (⟨⟨r,hr,e⟩,hn⟩ | e)
  ·exact ⟨r,hr,by simp only [bZ.lD];rw [if_neg fun q=>hn (by rw [<- e,q])];exact e⟩
  ·exact ⟨i,hi,by simp only [bZ.lD,if_pos];exact e.symm⟩
theorem ahQ:∀ (M:Nat) (f:Nat->Nat),(∀ i,f i < M)->∃ i j,i < j/\f i=f j
 | 0,f,h=>absurd (h 0) (fj _)
 | M+1,f,h=>by
  by_cases hM:∃ N,∀ i,N<=i->f i≠M
  ·obtain ⟨N,hN⟩:=hM
   obtain ⟨i,j,h1,h2⟩:=ahQ M (fun i=>f (i+N)) fun i=>by
    have:=h (i+N);have:=hN (i+N) (by omega);omega
   exact ⟨i+N,j+N,by omega,h2⟩
  ·have hM:∀ N,∃ i,N<=i/\f i=M:=fun N=>ue fun q=>hM ⟨N,fun i hi e=>q ⟨i,hi,e⟩⟩
   obtain ⟨i,_,h1⟩:=hM 0
   obtain ⟨j,h2,h3⟩:=hM (i+1)
   exact ⟨i,j,by omega,h1.trans h3.symm⟩
open Classical in
noncomputable def enc (p:Nat->Prop):Nat->Nat
 | 0=>0
 | n+1=>2 * enc p n+if p n then 1 else 0
theorem ahR (p:Nat->Prop):∀ n,enc p n < 2 ^ n
 | 0=>by simp [enc]
 | n+1=>by
  have:=ahR p n
  rw [enc,Nat.pow_succ]
  split<;>omega
theorem V3 {p q:Nat->Prop}:∀ {n:Nat},enc p n=enc q n->∀ u,u < n->(p u↔q u)
 | 0,_,u,hu=>by omega
 | n+1,h,u,hu=>by
  rw [enc,enc] at h
  by_cases e:u=n
  ·subst e
   by_cases h1:p u<;>by_cases h2:q u<;>simp only [h1,h2,if_true,if_false] at h ⊢<;>omega
  ·refine V3 (n:=n) ?_ u (by omega)
   split at h<;>split at h<;>omega
theorem ahS {f:Nat->Nat} {a:Nat}:∀ n,∃ x,a<=x/\x<=a+n/\∀ y,a<=y->y<=a+n->f y<=f x
 | 0=>⟨a,aN _,aN _,fun y h1 h2=>by rw [show y=a by omega];exact aN _⟩
 | n+1=>by
  obtain ⟨x,h1,h2,h3⟩:=ahS (f:=f) (a:=a) n
  by_cases h:f x<=f (a+(n+1))
  ·refine ⟨a+(n+1),by omega,aN _,fun y q1 q2=>?_⟩
   by_cases e:y=a+(n+1)
   ·rw [e];exact aN _
   ·exact eF (h3 y q1 (by omega)) h
  ·refine ⟨x,h1,by omega,fun y q1 q2=>?_⟩
   by_cases e:y=a+(n+1)
   ·rw [e];omega
   ·exact h3 y q1 (by omega)
theorem X8:∀ {n:Nat} {f:Nat->Rat},0 < cZ n f->∃ j,j < n/\0 < f j
 | 0,f,h=>by simp only [cZ] at h;exact absurd h (by decide)
 | n+1,f,h=>by
  by_cases h1:0 < f n
  ·exact ⟨n,by omega,h1⟩
  ·rw [cZ] at h
   obtain ⟨j,hj,h2⟩:=X8 (n:=n) (f:=f) (by grind)
   exact ⟨j,by omega,h2⟩
theorem aaq {m k:Nat} {s:Nat->bZ} (hw:(s 0).WF m k) (hf:(s 0).X6 m) (hs:∀ n,Step m k (s n) (s (n+1))):False:=by
 obtain ⟨J,hJ⟩:=Classical.axiomOfChoice hs
 obtain ⟨I,st⟩:=Classical.axiomOfChoice hJ
 clear hJ hs
 have h0:∀ n,(s n).a (I n) (J n)≠0:=fun n=>by have:=(st n).2.1.neg;grind
 have Ra:∀ n,(s n).WF m k:=fun n=>by
  induction n with
  | zero=>exact hw
  | succ n ih=>rw [(st n).2.2];exact ih.lD (st n).2.1.lt (st n).1.lt
 have hfe:∀ n,(s n).X6 m:=fun n=>by
  induction n with
  | zero=>exact hf
  | succ n ih=>rw [(st n).2.2];exact ih.lD (st n).2.1
 have he:∀ n,KJ m k (s 0) (s n):=fun n=>by
  induction n with
  | zero=>exact .refl _ _ _
  | succ n ih=>rw [(st n).2.2];exact ih.trans (.lD (st n).2.1.lt (st n).1.lt (h0 n))
 have hee:∀ a b,KJ m k (s a) (s b):=fun a b=>(he a).symm.trans (he b)
 have hB:∀ n u,(s (n+1)).F6 m u↔((s n).F6 m u/\u≠(s n).jK (I n))\/u=(s n).fr (J n):=fun n u=>by
  rw [(st n).2.2];exact V2 (Ra n) (st n).2.1.lt
 have apN:∀ n j,j < k->¬ (s n).F6 m ((s n).fr j):=fun n j hj ⟨i,hi,e⟩=>(Ra n).bf i j hi hj e
 -- a basis comes again
 obtain ⟨A,B,hAB,hen⟩:=ahQ (2 ^ (m+k)) (fun n=>enc (fun u=>(s n).F6 m u) (m+k)) fun n=>ahR _ _
 have hbs:∀ u,(s A).F6 m u->(s B).F6 m u:=fun u hu=>by
  obtain ⟨i,hi,e⟩:=id hu
  exact (V3 hen u (e ▸ (Ra A).bl i hi)).1 hu
 have asy:∀ u,(s B).F6 m u->(s A).F6 m u:=fun u hu=>by
  obtain ⟨i,hi,e⟩:=id hu
  exact (V3 hen u (e ▸ (Ra B).bl i hi)).2 hu
 have hv:(s A).v=(s B).v:=(uniq (Ra A) (Ra B) (hee A B) hbs).2.2.2
 have hpb:∀ n,0<=(s n).ratio (J n) (I n):=fun n=>(hfe n).ratio (st n).2.1.lt (st n).2.1.neg
 have hvs:∀ n,(s (n+1)).v=(s n).v+(s n).g (J n) * (s n).ratio (J n) (I n):=fun n=>by rw [(st n).2.2,<- X7];rfl
 have apO:∀ n,(s n).v<=(s (n+1)).v:=fun n=>by
  have:=Rat.mul_nonneg (Rat.le_of_lt (st n).1.pos) (hpb n)
  have:=hvs n
  grind
 have apQ:∀ a d,(s a).v<=(s (a+d)).v:=fun a d=>by
  induction d with
  | zero=>exact Rat.le_refl
  | succ d ih=>exact Rat.le_trans ih (apO _)
 have hb0:∀ n,A<=n->n < B->(s n).ratio (J n) (I n)=0:=fun n h1 h2=>by
  have e1:=apQ A (n - A)
  have e2:=apQ (n+1) (B - (n+1))
  rw [show A+(n - A)=n by omega] at e1
  rw [show n+1+(B - (n+1))=B by omega] at e2
  have e3:=hvs n
  have e4:=hpb n
  have e5:=(st n).1.pos
  have e6:(s n).g (J n) * (s n).ratio (J n) (I n)=0:=by
   have:=Rat.mul_nonneg (Rat.le_of_lt e5) e4
   grind
  rcases Rat.mul_eq_zero.1 e6 with h | h
  ·rw [h] at e5;exact absurd e5 (by decide)
  ·exact h
 have hbi:∀ n,A<=n->n < B->(s n).b (I n)=0:=fun n h1 h2=>by
  have e:=hb0 n h1 h2
  have hn:=(st n).2.1.neg
  unfold ratio at e
  have:(s n).b (I n) / -((s n).a (I n) (J n)) * -((s n).a (I n) (J n))=(s n).b (I n):=by grind
  rw [e] at this
  grind
 -- one point for all
 let x0:=(s A).ext m k zO
 have Y4:∀ n,(s n).Wz m k x0:=fun n=>((hee A n).sol _).1 (yd (Ra A) zO)
 have hxf:∀ d,A+d<=B->∀ j,j < k->x0 ((s (A+d)).fr j)=0:=fun d=>by
  induction d with
  | zero=>intro _ j hj;exact Bd (Ra A) hj zO
  | succ d ih =>
   intro hd j hj
   have ih:=ih (by omega)
   show x0 ((s (A+d+1)).fr j)=0
   rw [(st (A+d)).2.2]
   simp only [bZ.lD]
   split
   ·rw [F7 (y:=zO) (Y4 (A+d)) ih (st (A+d)).2.1.lt,ye]
    exact hbi _ (by omega) (by omega)
   ·exact ih j hj
 have hxf:∀ n,A<=n->n<=B->∀ j,j < k->x0 ((s n).fr j)=0:=fun n h1 h2=>by
  have:=hxf (n - A) (by omega)
  rwa [show A+(n - A)=n by omega] at this
 have hxb:∀ n,A<=n->n<=B->∀ i,i < m->(s n).b i=x0 ((s n).jK i):=fun n h1 h2 i hi=>by
  rw [F7 (y:=zO) (Y4 n) (hxf n h1 h2) hi,ye]
 -- what stays out, what stays in
 have out:∀ a d u,¬ (s a).F6 m u->(∀ n,a<=n->n < a+d->(s n).fr (J n)≠u)->¬ (s (a+d)).F6 m u:=fun a d u h1=>by
  induction d with
  | zero=>intro _;exact h1
  | succ d ih =>
   intro h2 h3
   rcases (hB (a+d) u).1 h3 with ⟨h4,_⟩ | h4
   ·exact ih (fun n q1 q2=>h2 n q1 (by omega)) h4
   ·exact h2 (a+d) (by omega) (by omega) h4.symm
 have inn:∀ a d u,(s a).F6 m u->(∀ n,a<=n->n < a+d->(s n).jK (I n)≠u)->(s (a+d)).F6 m u:=fun a d u h1=>by
  induction d with
  | zero=>intro _;exact h1
  | succ d ih =>
   intro h2
   exact (hB (a+d) u).2 (.inl ⟨ih (fun n q1 q2=>h2 n q1 (by omega)),fun q=>h2 (a+d) (by omega) (by omega) q.symm⟩)
 -- the greatest one that comes in
 obtain ⟨q,O2,cP,gX⟩:=ahS (f:=fun n=>(s n).fr (J n)) (a:=A) (B - A - 1)
 have cP:q < B:=by omega
 have gX:∀ n,A<=n->n < B->(s n).fr (J n)<=(s q).fr (J q):=fun n h1 h2=>gX n h1 (by omega)
 generalize ht:(s q).fr (J q)=t at gX
 have htq:¬ (s q).F6 m t:=ht ▸ apN q _ (st q).1.lt
 have enters:∀ u p,A<=p->p < B->(s p).F6 m u->¬ (s q).F6 m u->∃ n,A<=n/\n < B/\(s n).fr (J n)=u:=fun u p h1 h2 h3 h4=>ue fun gH=>by
  have gH:∀ n,A<=n->n < B->(s n).fr (J n)≠u:=fun n q1 q2 e=>gH ⟨n,q1,q2,e⟩
  have e1:=out q (B - q) u h4 fun n q1 q2=>gH n (by omega) (by omega)
  rw [show q+(B - q)=B by omega] at e1
  have e2:=out A (p - A) u (fun h=>e1 (hbs u h)) fun n q1 q2=>gH n (by omega) (by omega)
  rw [show A+(p - A)=p by omega] at e2
  exact e2 h3
 obtain ⟨p,Ej,DZ,hp3⟩:∃ p,A<=p/\p < B/\(s p).jK (I p)=t:=ue fun gH=>by
  have gH:∀ n,A<=n->n < B->(s n).jK (I n)≠t:=fun n q1 q2 e=>gH ⟨n,q1,q2,e⟩
  have e0:(s (q+1)).F6 m t:=(hB q t).2 (.inr ht.symm)
  have e1:=inn (q+1) (B - (q+1)) t e0 fun n q1 q2=>gH n (by omega) (by omega)
  rw [show q+1+(B - (q+1))=B by omega] at e1
  have e2:=inn A (q - A) t (asy t e1) fun n q1 q2=>gH n (by omega) (by omega)
  rw [show A+(q - A)=q by omega] at e2
  exact htq e2
 -- the direction of the step in which it goes out
 have hjp:=(st p).1.lt
 have y1:=yd (Ra p) (one ((s p).fr (J p)))
 have y0:=yd (Ra p) zO
 have g1:(s p).v+(s p).g (J p)=(s q).gv k ((s p).ext m k (one ((s p).fr (J p)))):=by
  rw [<- (hee p q).gv _ y1,Q8 (Ra p),aao (Ra p) hjp]
 have g0:(s p).v=(s q).gv k ((s p).ext m k zO):=by rw [<- (hee p q).gv _ y0,Q8 (Ra p),VZ]
 let d:Nat->Rat:=fun u=>(s p).ext m k (one ((s p).fr (J p))) u - (s p).ext m k zO u
 have hd:(s p).g (J p)=cZ k fun j=>(s q).g j * d ((s q).fr j):=by
  have e:cZ k (fun j=>(s q).g j * (s p).ext m k (one ((s p).fr (J p))) ((s q).fr j))=cZ k (fun j=>(s q).g j * d ((s q).fr j)+(s q).g j * (s p).ext m k zO ((s q).fr j)):=bH fun j _=>by
   show _=_ * (_ - _)+_
   grind
  rw [uM] at e
  unfold gv at g1 g0
  rw [e] at g1
  rw [g0] at g1
  grind
 obtain ⟨j,hj,ahT⟩:=X8 (by rw [<- hd];exact (st p).1.pos)
 generalize hr:(s q).fr j=r at ahT
 have hrq:¬ (s q).F6 m r:=hr ▸ apN q j hj
 have hru:r < m+k:=hr ▸ (Ra q).fl j hj
 -- Bland's choice at q
 have blq:t<=r\/(s q).g j<=0:=by
  by_cases h:0 < (s q).g j
  ·exact .inl (by rw [<- ht,<- hr];exact (st q).1.min j hj h)
  ·exact .inr (Rat.not_lt.1 h)
 have asB:∀ i,i < m->(s p).jK i=t->(s p).a i (J p) < 0:=fun i hi e=>by
  rw [(Ra p).bi i (I p) hi (st p).2.1.lt (e.trans hp3.symm)];exact (st p).2.1.neg
 rcases (Ra p).al r hru with ⟨i,hi,e⟩ | ⟨c,hc,e⟩
 ·have hdr:d r=(s p).a i (J p):=by
   show (s p).ext m k _ r - (s p).ext m k zO r=_
   rw [<- e,Am (Ra p) hi,Am (Ra p) hi,row_one (Ra p) hjp,ye];grind
  rw [hdr] at ahT
  obtain ⟨n,n1,n2,n3⟩:=enters r p Ej DZ ⟨i,hi,e⟩ hrq
  have hrt:r<=t:=n3 ▸ gX n n1 n2
  by_cases apR:r=t
  ·have h1:=asB i hi (e.trans apR)
   have h2:0 < (s q).g j:=by
    rw [(Ra q).fi j (J q) hj (st q).1.lt (hr.trans (apR.trans ht.symm))];exact (st q).1.pos
   have:=Rat.mul_pos h2 (show 0 < -((s p).a i (J p)) by grind)
   grind
  ·have hg:(s q).g j<=0:=blq.resolve_left (by omega)
   have ha:(s p).a i (J p) < 0:=Rat.not_le.1 fun h=>by
    have:=Rat.mul_nonneg (show 0<=-((s q).g j) by grind) h
    grind
   have hbr:(s p).b i=0:=by
    rw [hxb p Ej (by omega) i hi,e,<- hr];exact hxf q O2 (by omega) j hj
   have hz:(s p).ratio (J p) i=0:=by unfold ratio;rw [hbr];grind
   rcases (st p).2.1.min i hi ha with h | ⟨_,h⟩
   ·rw [hb0 p Ej DZ,hz] at h;exact absurd h (by decide)
   ·rw [hp3,e] at h;omega
 ·have hdr:d r=one ((s p).fr (J p)) r:=by
   show (s p).ext m k _ r - (s p).ext m k zO r=_
   rw [<- e,Bd (Ra p) hc,Bd (Ra p) hc];unfold zO;grind
  rw [hdr] at ahT
  unfold one at ahT
  split at ahT
  ·rename_i hrs
   have hle:r<=t:=hrs ▸ gX p Ej DZ
   have gH:r≠t:=fun h=>(Ra p).bf (I p) (J p) (st p).2.1.lt hjp (by rw [hp3,<- hrs,h])
   have hg:(s q).g j<=0:=blq.resolve_left (by omega)
   grind
  ·grind
theorem ahU {m k:Nat} {D:bZ} (hw:D.WF m k) (hf:D.X6 m):Acc (fun a b=>Step m k b a) D:=ue fun hn=>by
 have nx:∀ x:{ x:bZ // ¬ Acc (fun a b=>Step m k b a) x },∃ y:{ x:bZ // ¬ Acc (fun a b=>Step m k b a) x },Step m k x.1 y.1:=fun x=>ue fun q=>x.2 (.intro _ fun y hy=>ue fun RN=>q ⟨⟨y,RN⟩,hy⟩)
 let s:Nat->{ x:bZ // ¬ Acc (fun a b=>Step m k b a) x }:=fun n=>Nat.rec ⟨D,hn⟩ (fun _ x=>Classical.choose (nx x)) n
 exact aaq (s:=fun n=>(s n).1) hw hf fun n=>Classical.choose_spec (nx (s n))
end bZ
end Go.Den
namespace Go.Den
open Go.Ab
namespace bZ
structure N9 (D:bZ) (m k s:Nat):Prop where
 a:∀ i j,i < m->j < k->RB (D.a i j) s
 b:∀ i,i < m->RB (D.b i) s
 g:∀ j,j < k->RB (D.g j) s
 v:RB D.v s
theorem RB1:RB 1 1:=RB.int (z:=1) (ZB.small (by decide)) (by decide)
theorem N9.sj {D:bZ} {m k s i j:Nat} (h:D.N9 m k s) (h1:1<=s) (hi:i < m) (hj:j < k) (h0:D.a i j≠0) {c:Nat} (hc:c < k):RB (D.sj i j c) (2 * s):=by
 unfold bZ.sj
 split
 ·exact (RB1.div (h.a i j hi hj) h0).le (by omega)
 ·exact ((h.a i c hi hc).div (h.a i j hi hj) h0).neg.le (by omega)
theorem N9.lD {D:bZ} {m k s i j:Nat} (h:D.N9 m k s) (h1:1<=s) (hi:i < m) (hj:j < k) (h0:D.a i j≠0):(D.lD i j).N9 m k (5 * s):=by
 have hp:RB (D.pb i j) (2 * s):=((h.b i hi).div (h.a i j hi hj) h0).neg.le (by omega)
 refine ⟨fun r c hr hc=>?_,fun r hr=>?_,fun c hc=>?_,((h.v).add ((h.g j hj).mul hp)).le (by omega)⟩
 ·have hw:=h.sj h1 hi hj h0 hc
  simp only [bZ.lD]
  split
  ·exact hw.le (by omega)
  ·split
   ·exact ((h.a r j hr hj).mul hw).le (by omega)
   ·exact ((h.a r c hr hc).add ((h.a r j hr hj).mul hw)).le (by omega)
 ·simp only [bZ.lD]
  split
  ·exact hp.le (by omega)
  ·exact ((h.b r hr).add ((h.a r j hr hj).mul hp)).le (by omega)
 ·have hw:=h.sj h1 hi hj h0 hc
  simp only [bZ.lD]
  split
  ·exact ((h.g j hj).mul hw).le (by omega)
  ·exact ((h.g c hc).add ((h.g j hj).mul hw)).le (by omega)
open Classical in
noncomputable def sm (p:Nat->Prop):Nat->Nat
 | 0=>0
 | n+1=>sm p n+if p n then 1 else 0
theorem V4 {p:Nat->Prop}:∀ n,sm p n<=n
 | 0=>aN _
 | n+1=>by have:=V4 (p:=p) n;rw [sm];split<;>omega
theorem F8 {p q:Nat->Prop}:∀ {n:Nat},(∀ i,i < n->q i->p i)->sm q n<=sm p n
 | 0,_=>aN _
 | n+1,h=>by
  have:=F8 (p:=p) (q:=q) (n:=n) fun i hi=>h i (by omega)
  have hn:=h n (by omega)
  rw [sm,sm]
  by_cases h1:q n
  ·simp only [h1,hn h1,if_true];omega
  ·simp only [h1,if_false];omega
theorem ahV {p q:Nat->Prop}:∀ {n i:Nat},(∀ i,i < n->q i->p i)->i < n->p i->¬ q i->sm q n < sm p n
 | 0,i,_,hi,_,_=>by omega
 | n+1,i,h,hi,h1,h2=>by
  have hn:=h n (by omega)
  rw [sm,sm]
  by_cases e:i=n
  ·subst e
   have:=F8 (p:=p) (q:=q) (n:=i) fun i hi=>h i (by omega)
   simp only [h1,h2,if_true,if_false];omega
  ·have:=ahV (p:=p) (q:=q) (n:=n) (i:=i) (fun i hi=>h i (by omega)) (by omega) h1 h2
   by_cases h3:q n
   ·simp only [h3,hn h3,if_true];omega
   ·simp only [h3,if_false];omega
theorem X9 {p:Nat->Prop}:∀ {n:Nat},sm p n=0->∀ i,i < n->¬ p i
 | 0,_,i,hi=>by omega
 | n+1,h,i,hi=>by
  rw [sm] at h
  by_cases e:i=n
  ·subst e;intro hp;simp only [hp,if_true] at h;omega
  ·exact X9 (n:=n) (by omega) i (by omega)
def dir (D:bZ) (m k j:Nat) (u:Nat):Rat:=D.ext m k (one (D.fr j)) u - D.ext m k zO u
theorem aky {D:bZ} {m k i j:Nat} (h:D.WF m k) (hi:i < m) (hj:j < k):D.dir m k j (D.jK i)=D.a i j:=by
 unfold dir;rw [Am h hi,Am h hi,row_one h hj,ye];grind
theorem V5 {D:bZ} {m k c j:Nat} (h:D.WF m k) (hc:c < k) (hj:j < k):D.dir m k j (D.fr c)=if c=j then 1 else 0:=by
 unfold dir;rw [Bd h hc,Bd h hc]
 unfold one zO
 by_cases e:c=j
 ·subst e;rw [if_pos rfl,if_pos rfl];grind
 ·rw [if_neg e,if_neg fun q=>e (h.fi _ _ hc hj q)];grind
theorem Ya {D D':bZ} {m k j:Nat} (h':D'.WF m k) (e:KJ m k D' D) (hz:∀ c,c < k->D'.dir m k j (D.fr c)=0) {i:Nat} (hi:i < m):D'.dir m k j (D.jK i)=0:=by
 have s1:=(e.sol _).1 (yd h' (one (D'.fr j)))
 have s0:=(e.sol _).1 (yd h' zO)
 unfold dir
 rw [F7 s1 (y:=D'.ext m k zO) (fun c hc=>by have:=hz c hc;unfold dir at this;grind) hi,F7 s0 (y:=D'.ext m k zO) (fun _ _=>rfl) hi]
 grind
theorem TF {D D':bZ} {m k:Nat} (h:D.WF m k) (h':D'.WF m k) (e:KJ m k D D') (hb:∀ u,D.F6 m u->D'.F6 m u) {j:Nat} (hj:j < k):∃ j',j' < k/\D'.fr j'=D.fr j:=by
 refine GS h' (h.fl j hj) fun ⟨i',sB,q⟩=>?_
 have:=Ya (D:=D') (D':=D) (j:=j) h e (fun c hc=>?_) sB
 ·rw [q,V5 h hj hj,if_pos rfl] at this;exact absurd this (by decide)
 ·obtain ⟨c',sS,q2⟩:=GS h (h'.fl c hc) fun ⟨i,hi,q3⟩=>by
   obtain ⟨i2,WY,q4⟩:=hb _ ⟨i,hi,q3⟩
   exact h'.bf i2 c WY hc q4
  rw [<- q2,V5 h sS hj,if_neg fun q5=>h'.bf i' c sB hc (by rw [q,<- q2,q5])]
theorem Rb {m k:Nat} {D:bZ} (h:D.WF m k):∀ (n:Nat) {D':bZ} {s:Nat},D'.WF m k->KJ m k D' D->D'.N9 m k s->1<=s->sm (fun i=>¬ D'.F6 m (D.jK i)) m<=n->D.N9 m k (5 ^ n * s)
 | n,D',s,h',e,hs,h1,hc=>by
  by_cases hz:sm (fun i=>¬ D'.F6 m (D.jK i)) m=0
  ·have hb:∀ u,D.F6 m u->D'.F6 m u:=fun u ⟨i,hi,q⟩=>q ▸ Classical.not_not.1 (X9 hz i hi)
   obtain ⟨u1,u2,u3,u4⟩:=uniq h h' e.symm hb
   have hn:s<=5 ^ n * s:=Nat.le_mul_of_pos_left _ (Nat.pow_pos (by decide))
   refine ⟨fun i j hi hj=>?_,fun i hi=>?_,fun j hj=>?_,by rw [u4];exact hs.v.le hn⟩
   ·obtain ⟨i',sB,q⟩:=hb _ ⟨i,hi,rfl⟩
    obtain ⟨j',Gj,q2⟩:=TF h h' e.symm hb hj
    rw [u2 i j i' j' hi sB hj Gj q.symm q2.symm];exact (hs.a _ _ sB Gj).le hn
   ·obtain ⟨i',sB,q⟩:=hb _ ⟨i,hi,rfl⟩
    rw [u1 i i' hi sB q.symm];exact (hs.b _ sB).le hn
   ·obtain ⟨j',Gj,q2⟩:=TF h h' e.symm hb hj
    rw [u3 j j' hj Gj q2.symm];exact (hs.g _ Gj).le hn
  ·obtain ⟨i,hi,hnb⟩:∃ i,i < m/\¬ D'.F6 m (D.jK i):=ue fun q=>hz (by
    have:sm (fun i=>¬ D'.F6 m (D.jK i)) m<=sm (fun _=>False) m:=F8 fun i hi hp=>q ⟨i,hi,hp⟩
    have h0:∀ n,sm (fun _=>False) n=0:=fun n=>by
     induction n with
     | zero=>rfl
     | succ n ih=>rw [sm,ih];simp
    rw [h0] at this;omega)
   obtain ⟨j',Gj,hv⟩:=GS h' (h.bl i hi) hnb
   obtain ⟨r,hr,h0,hnr⟩:∃ r,r < m/\D'.a r j'≠0/\¬ D.F6 m (D'.jK r):=ue fun q=>by
    have:=Ya (D:=D) (D':=D') (j:=j') h' e (fun c hc=>?_) hi
    ·rw [<- hv,V5 h' Gj Gj,if_pos rfl] at this;exact absurd this (by decide)
    ·rcases h'.al _ (h.fl c hc) with ⟨r,hr,q2⟩ | ⟨c',sS,q2⟩
     ·rw [<- q2,aky h' hr Gj]
      refine ue fun q3=>q ⟨r,hr,q3,fun ⟨i2,WY,q4⟩=>h.bf i2 c WY hc (q4.trans q2)⟩
     ·rw [<- q2,V5 h' sS Gj,if_neg fun q3=>h.bf i c hi hc (by rw [<- hv,<- q2,q3])]
   have iQ:sm (fun i=>¬ (D'.lD r j').F6 m (D.jK i)) m < sm (fun i=>¬ D'.F6 m (D.jK i)) m:=by
    refine ahV (i:=i) (fun i' sB hp hq=>hp ((V2 h' hr).2 (.inl ⟨hq,fun q=>hnr ⟨i',sB,q⟩⟩))) hi hnb fun hp=>hp ((V2 h' hr).2 (.inr hv.symm))
   obtain ⟨n,rfl⟩:∃ n',n=n'+1:=⟨n - 1,by omega⟩
   have:=Rb h n (h'.lD hr Gj) ((KJ.lD hr Gj h0).symm.trans e) (hs.lD h1 hr Gj h0) (by omega) (by omega)
   rwa [<- Nat.mul_assoc,<- Nat.pow_succ] at this
theorem size {m k s:Nat} {D D':bZ} (h:D.WF m k) (h':D'.WF m k) (e:KJ m k D' D) (hs:D'.N9 m k s) (h1:1<=s):D.N9 m k (5 ^ m * s):=Rb h m h' e hs h1 (V4 m)
theorem ab5 {p:Nat->Prop} (i0:Nat):∀ n,sm p n<=sm (fun i=>p i/\i≠i0) n+1
 | 0=>by rw [sm];omega
 | n+1=>by
  have ih:=ab5 (p:=p) i0 n
  rw [sm,sm]
  by_cases h1:p n
  ·by_cases h2:n=i0
   ·have:sm p n<=sm (fun i=>p i/\i≠i0) n:=F8 fun i hi hp=>⟨hp,by omega⟩
    rw [if_pos h1,if_neg fun q=>q.2 h2];omega
   ·rw [if_pos h1,if_pos (⟨h1,h2⟩:p n/\n≠i0)];omega
  ·rw [if_neg h1,if_neg fun q=>h1 q.1];omega
theorem V6:∀ (k:Nat) {p:Nat->Prop} {n:Nat} (f:Nat->Nat),(∀ i,i < n->p i->f i < k)->(∀ i i',i < n->i' < n->p i->p i'->f i=f i'->i=i')->sm p n<=k
 | 0,p,n,f,h,_=>by
  have:sm p n<=sm (fun _=>False) n:=F8 fun i hi hp=>absurd (h i hi hp) (fj _)
  have h0:∀ n,sm (fun _=>False) n=0:=fun n=>by
   induction n with
   | zero=>rfl
   | succ n ih=>rw [sm,ih];simp
  rw [h0] at this;exact this
 | k+1,p,n,f,h,hi=>by
  by_cases e:∃ i,i < n/\p i/\f i=k
  ·obtain ⟨i0,h1,h2,h3⟩:=e
   have q:=V6 k (p:=fun i=>p i/\i≠i0) (n:=n) f (fun i m5 ⟨hp,gH⟩=>by
    have:=h i m5 hp
    have h4:f i≠k:=fun q=>gH (hi i i0 m5 h1 hp h2 (q.trans h3.symm))
    omega) fun i i' a b c d=>hi i i' a b c.1 d.1
   have:=ab5 (p:=p) i0 n
   omega
  ·have:=V6 k f (p:=p) (n:=n) (fun i m5 hp=>by
    have:=h i m5 hp
    have h4:f i≠k:=fun q=>e ⟨i,m5,hp,q⟩
    omega) hi
   omega
theorem Yb {m k s e5:Nat} {D D':bZ} (h5:m<=e5\/k<=e5) (h:D.WF m k) (h':D'.WF m k) (e:KJ m k D' D) (hs:D'.N9 m k s) (h1:1<=s):D.N9 m k (5 ^ e5 * s):=by
 refine Rb h e5 h' e hs h1 ?_
 rcases h5 with h5 | h5
 ·exact eF (V4 m) h5
 ·refine eF ?_ h5
  have key:∀ i,∃ j,i < m->¬ D'.F6 m (D.jK i)->j < k/\D'.fr j=D.jK i:=fun i=>by
   by_cases hi:i < m
   ·by_cases hb:D'.F6 m (D.jK i)
    ·exact ⟨0,fun _ q=>absurd hb q⟩
    ·obtain ⟨j,hj,q⟩:=GS h' (h.bl i hi) hb
     exact ⟨j,fun _ _=>⟨hj,q⟩⟩
   ·exact ⟨0,fun q=>absurd q hi⟩
  obtain ⟨f,hf⟩:=Classical.axiomOfChoice key
  refine V6 k f (fun i hi hp=>(hf i hi hp).1) fun i i' hi sB hp wW q=>?_
  have a:=(hf i hi hp).2
  have b:=(hf i' sB wW).2
  rw [q] at a
  exact h.bi i i' hi sB (a.symm.trans b)
end bZ
end Go.Den
namespace Go.Den
open Go.Ab
theorem TG (m n:Nat) (f:Nat->Nat->Rat):cZ m (fun i=>cZ n fun j=>f i j)=cZ n fun j=>cZ m fun i=>f i j:=by
 induction m with
 | zero=>show (0:Rat)=_;rw [show (fun j=>cZ 0 fun i=>f i j)=fun _=>(0:Rat) from rfl,nf]
 | succ m ih=>simp only [cZ];rw [ih,<- uM]
theorem An (m n:Nat) (f:Nat->Rat):cZ (m+n) f=cZ m f+cZ n fun i=>f (m+i):=by
 induction n with
 | zero=>show cZ m f=cZ m f+0;grind
 | succ n ih=>rw [show m+(n+1)=m+n+1 by omega,cZ,cZ,ih];grind
theorem ahW (n:Nat) (f g:Nat->Rat):cZ n (fun i=>f i - g i)=cZ n f - cZ n g:=by
 have e:(fun i=>f i - g i)=fun i=>f i+(-1) * g i:=by funext i;grind
 rw [e,uM,mI];grind
namespace bZ
def sc (t:Rat) (u:Nat):Nat->Rat:=fun w=>if w=u then t else 0
theorem anJ {D:bZ} {m k j:Nat} (h:D.WF m k) (hj:j < k) (t:Rat) (i:Nat):D.row k (sc t (D.fr j)) i=D.b i+D.a i j * t:=by
 unfold row sc
 rw [nT hj _ fun c hc gH=>by rw [if_neg fun e=>gH (h.fi _ _ hc hj e)];grind]
 rw [if_pos rfl]
theorem apT {D:bZ} {m k j:Nat} (h:D.WF m k) (hj:j < k) (t:Rat):D.gv k (sc t (D.fr j))=D.v+D.g j * t:=by
 unfold gv sc
 rw [nT hj _ fun c hc gH=>by rw [if_neg fun e=>gH (h.fi _ _ hc hj e)];grind]
 rw [if_pos rfl]
def gc (D:bZ) (k u:Nat):Rat:=cZ k fun j=>if D.fr j=u then D.g j else 0
theorem ahX {D:bZ} {m k j:Nat} (h:D.WF m k) (hj:j < k):D.gc k (D.fr j)=D.g j:=by
 unfold gc
 rw [nT hj _ fun c hc gH=>if_neg fun e=>gH (h.fi _ _ hc hj e),if_pos rfl]
theorem V7 {D:bZ} {k u:Nat} (h:∀ j,j < k->D.fr j≠u):D.gc k u=0:=by
 unfold gc
 rw [bH (g:=fun _=>0) fun j hj=>if_neg (h j hj),nf]
theorem anK {D:bZ} {m k:Nat} (h:D.WF m k) (x:Nat->Rat):D.gv k x=D.v+cZ (m+k) fun u=>D.gc k u * x u:=by
 unfold gv;congr 1
 have e:(fun u=>D.gc k u * x u)=fun u=>cZ k fun j=>x u * (if D.fr j=u then D.g j else 0):=by
  funext u;rw [mI];unfold gc;grind
 rw [e,TG]
 refine bH fun j hj=>?_
 rw [nT (h.fl j hj) _ fun u _ hu=>by rw [if_neg fun q=>hu q.symm];grind]
 rw [if_pos rfl];grind
section
variable (n m:Nat) (C:Nat->Nat->Rat) (B:Nat->Rat)
def fst (z:Rat):bZ where
 jK:=fun i=>2 * n+i
 fr:=fun j=>if j < 2 * n then j else 2 * n+m
 a:=fun i j=>if j < n then -(C i j) else if j < 2 * n then C i (j - n) else 1
 b:=B
 g:=fun j=>if j < 2 * n then 0 else z
 v:=0
theorem Rc (z:Rat):(fst n m C B z).WF m (2 * n+1):=by
 refine ⟨fun i i' _ _ e=>?_,fun j j' hj Gj e=>?_,fun i j hi hj e=>?_,fun i hi=>?_,fun j hj=>?_,fun u hu=>?_⟩
 ·simp only [fst] at e;omega
 ·simp only [fst] at e;split at e<;>split at e<;>omega
 ·simp only [fst] at e;split at e<;>omega
 ·simp only [fst];omega
 ·simp only [fst];split<;>omega
 ·by_cases h:u < 2 * n
  ·exact .inr ⟨u,by omega,by simp only [fst];rw [if_pos h]⟩
  ·by_cases h2:u=2 * n+m
   ·exact .inr ⟨2 * n,by omega,by simp only [fst];rw [if_neg (by omega)];exact h2.symm⟩
   ·exact .inl ⟨u - 2 * n,by omega,by simp only [fst];omega⟩
def Ef (p:Nat->Rat) (i:Nat):Rat:=cZ n fun j=>C i j * p j
theorem ab6 (z:Rat) (x:Nat->Rat) (i:Nat):(fst n m C B z).row (2 * n+1) x i=B i - Ef n C (fun j=>x j - x (n+j)) i+x (2 * n+m):=by
 unfold row Ef
 have e2:cZ (2 * n) (fun j=>(fst n m C B z).a i j * x ((fst n m C B z).fr j)) = - cZ n fun j=>C i j * (x j - x (n+j)):=by
  rw [show 2 * n=n+n by omega,An]
  have e3:cZ n (fun j=>(fst n m C B z).a i j * x ((fst n m C B z).fr j))=cZ n fun j=>(-1) * (C i j * x j):=bH fun j hj=>by
   simp only [fst];rw [if_pos hj,if_pos (by omega)];grind
  have e4:cZ n (fun j=>(fst n m C B z).a i (n+j) * x ((fst n m C B z).fr (n+j)))=cZ n fun j=>C i j * x (n+j):=bH fun j hj=>by
   simp only [fst];rw [if_neg (by omega),if_pos (by omega),if_pos (by omega),show n+j - n=j by omega]
  rw [e3,e4,mI,show (fun j=>C i j * (x j - x (n+j)))=fun j=>C i j * x j - C i j * x (n+j) by funext j;grind,ahW]
  grind
 rw [cZ,e2]
 have e5:(fst n m C B z).a i (2 * n)=1:=by simp only [fst];rw [if_neg (by omega),if_neg (by omega)]
 have e6:(fst n m C B z).fr (2 * n)=2 * n+m:=by simp only [fst];rw [if_neg (by omega)]
 have e7:(fst n m C B z).b i=B i:=rfl
 rw [e5,e6,e7];grind
theorem ahY (z:Rat) (x:Nat->Rat):(fst n m C B z).gv (2 * n+1) x=z * x (2 * n+m):=by
 unfold gv
 rw [nT (j:=2 * n) (by omega) _ fun j hj gH=>by simp only [fst];rw [if_pos (by omega)];grind]
 have e5:(fst n m C B z).g (2 * n)=z:=by simp only [fst];rw [if_neg (by omega)]
 have e6:(fst n m C B z).fr (2 * n)=2 * n+m:=by simp only [fst];rw [if_neg (by omega)]
 have e7:(fst n m C B z).v=0:=rfl
 rw [e5,e6,e7];grind
theorem Ow (z:Rat) (x:Nat->Rat):(fst n m C B z).Wz m (2 * n+1) x↔∀ i,i < m->x (2 * n+i)=B i - Ef n C (fun j=>x j - x (n+j)) i+x (2 * n+m):=by
 unfold Wz
 constructor
 ·intro h i hi;rw [<- ab6 n m C B z];exact h i hi
 ·intro h i hi;rw [ab6];exact h i hi
theorem Yc (z:Rat) (D:bZ) (x:Nat->Rat) (h:KJ m (2 * n+1) (fst n m C B z) D):D.Wz m (2 * n+1) x↔(fst n m C B 0).Wz m (2 * n+1) x:=by
 rw [<- h.sol,Ow,Ow]
def F9 (y:Nat->Rat) (u:Nat):Rat:=if 2 * n<=u/\u < 2 * n+m then B (u - 2 * n) - Ef n C (fun j=>y j - y (n+j)) (u - 2 * n)+y (2 * n+m) else y u
theorem Rd (z:Rat) (y:Nat->Rat):(fst n m C B z).Wz m (2 * n+1) (F9 n m C B y):=(Ow n m C B z _).2 fun i hi=>by
 have e1:F9 n m C B y (2 * n+i)=B i - Ef n C (fun j=>y j - y (n+j)) i+y (2 * n+m):=by
  unfold F9;rw [if_pos ⟨by omega,by omega⟩,show 2 * n+i - 2 * n=i by omega]
 have e2:F9 n m C B y (2 * n+m)=y (2 * n+m):=by unfold F9;rw [if_neg (by omega)]
 have e3:Ef n C (fun j=>F9 n m C B y j - F9 n m C B y (n+j)) i=Ef n C (fun j=>y j - y (n+j)) i:=by
  unfold Ef
  refine bH fun j hj=>?_
  show C i j * (F9 n m C B y j - F9 n m C B y (n+j))=C i j * (y j - y (n+j))
  unfold F9;rw [if_neg (by omega),if_neg (by omega)]
 rw [e1,e2,e3]
theorem adF {low:Nat} (hl:low < m) (I8:B low < 0) (zC:∀ r,r < m->B low<=B r):((fst n m C B (-1)).lD low (2 * n)).X6 m:=fun r hr=>by
 have e5:∀ r,(fst n m C B (-1)).a r (2 * n)=1:=fun r=>by simp only [fst];rw [if_neg (by omega),if_neg (by omega)]
 have e7:∀ r,(fst n m C B (-1)).b r=B r:=fun _=>rfl
 simp only [bZ.lD,pb,e5,e7]
 have:=zC r hr
 split<;>grind
variable {n m C B} {D:bZ} (hw:D.WF m (2 * n+1)) (he:KJ m (2 * n+1) (fst n m C B (-1)) D)
include hw he in
theorem aar {x:Nat->Rat} (hx:D.Wz m (2 * n+1) x):D.gv (2 * n+1) x = -(x (2 * n+m)):=by
 have:=hw
 rw [<- he.gv x ((he.sol x).2 hx),ahY];grind
theorem Re {m k:Nat} (hw:D.WF m k) {y:Nat->Rat} (hr:∀ i,i < m->0<=D.row k y i) (hy:∀ u,0<=y u) (u:Nat) (hu:u < m+k):0<=D.ext m k y u:=by
 rcases hw.al u hu with ⟨i,hi,e⟩ | ⟨j,hj,e⟩
 ·rw [<- e,Am hw hi];exact hr i hi
 ·rw [<- e,Bd hw hj];exact hy _
theorem Mx {m k:Nat} (hw:D.WF m k) (hf:D.X6 m) (u:Nat) (hu:u < m+k):0<=D.ext m k zO u :=
 Re hw (y:=zO) (fun i hi=>by rw [ye];exact hf i hi) (fun _=>Rat.le_refl) u hu
include hw he in
theorem Rf:D.v = -(D.ext m (2 * n+1) zO (2 * n+m)):=by
 rw [<- aar hw he (yd hw zO),Q8 hw,VZ]
include hw he in
theorem akz (hf:D.X6 m) (apU:(∀ j,j < 2 * n+1->D.g j<=0)\/∃ j,D.Ov (2 * n+1) j/\∀ i,i < m->0<=D.a i j):∀ j,j < 2 * n+1->D.g j<=0:=by
 rcases apU with h | ⟨j,hj,ha⟩
 ·exact h
 ·exfalso
  have hv:D.v<=0:=by rw [Rf hw he];have:=Mx hw hf (2 * n+m) (by omega);grind
  have hp:=hj.pos
  have ht:0<=(1 - D.v) / D.g j:=Q9 hp (by grind)
  have hs:=yd hw (sc ((1 - D.v) / D.g j) (D.fr j))
  have h1:=aar hw he hs
  rw [Q8 hw,apT hw hj.lt] at h1
  have h2:=Re hw (y:=sc ((1 - D.v) / D.g j) (D.fr j)) (fun i hi=>by
   rw [anJ hw hj.lt]
   have:=Rat.mul_nonneg (ha i hi) ht
   have:=hf i hi
   grind) (fun u=>by unfold sc;split<;>grind) (2 * n+m) (by omega)
  have h3:D.g j * ((1 - D.v) / D.g j)=1 - D.v:=by grind
  rw [h3] at h1
  grind
include hw he in
theorem apV (hg:∀ j,j < 2 * n+1->D.g j<=0):(∀ u,D.gc (2 * n+1) u<=0)/\(∀ j,j < n->cZ m (fun i=>-(D.gc (2 * n+1) (2 * n+i)) * C i j)=0)/\cZ m (fun i=>-(D.gc (2 * n+1) (2 * n+i)) * B i)=D.v:=by
 have hgc:∀ u,D.gc (2 * n+1) u<=0:=fun u=>by
  by_cases h:∃ j,j < 2 * n+1/\D.fr j=u
  ·obtain ⟨j,hj,rfl⟩:=h
   rw [ahX hw hj];exact hg j hj
  ·rw [V7 fun j hj e=>h ⟨j,hj,e⟩];exact Rat.le_refl
 generalize hG:D.gc (2 * n+1)=G at hgc ⊢
 have key:∀ y:Nat->Rat,-(y (2 * n+m))=D.v+(cZ (2 * n) (fun u=>G u * y u)+cZ m (fun i=>G (2 * n+i) * (B i - Ef n C (fun j=>y j - y (n+j)) i+y (2 * n+m)))+G (2 * n+m) * y (2 * n+m)):=fun y=>by
  have h1:=aar hw he ((he.sol _).1 (Rd n m C B (-1) y))
  rw [anK hw,hG,show m+(2 * n+1)=(2 * n+m)+1 by omega,cZ,An] at h1
  have e1:∀ u,u < 2 * n->F9 n m C B y u=y u:=fun u hu=>by unfold F9;rw [if_neg (by omega)]
  have e2:F9 n m C B y (2 * n+m)=y (2 * n+m):=by unfold F9;rw [if_neg (by omega)]
  have e3:∀ i,i < m->F9 n m C B y (2 * n+i)=B i - Ef n C (fun j=>y j - y (n+j)) i+y (2 * n+m):=fun i hi=>by
   unfold F9;rw [if_pos ⟨by omega,by omega⟩,show 2 * n+i - 2 * n=i by omega]
  rw [bH (n:=2 * n) (g:=fun u=>G u * y u) fun u hu=>by rw [e1 u hu],bH (n:=m) (g:=fun i=>G (2 * n+i) * (B i - Ef n C (fun j=>y j - y (n+j)) i+y (2 * n+m))) fun i hi=>by rw [e3 i hi],e2] at h1
  exact h1.symm
 have k0:=key zO
 have d0:∀ i,Ef n C (fun j=>zO j - zO (n+j)) i=0:=fun i=>by
  unfold Ef zO
  rw [bH (g:=fun _=>0) fun j _=>by grind,nf]
 have z0:cZ m (fun i=>G (2 * n+i) * (B i - Ef n C (fun j=>zO j - zO (n+j)) i+zO (2 * n+m)))=cZ m fun i=>G (2 * n+i) * B i:=bH fun i _=>by
  rw [d0];unfold zO;grind
 rw [z0,bH (n:=2 * n) (g:=fun _=>0) fun u _=>by unfold zO;grind,nf] at k0
 have k0:cZ m (fun i=>G (2 * n+i) * B i) = -D.v:=by unfold zO at k0;grind
 have un:∀ (u:Nat) (s:Rat),u < 2 * n->(∀ i,i < m->Ef n C (fun j=>one u j - one u (n+j)) i=s * C i (if u < n then u else u - n))->G u=s * cZ m fun i=>G (2 * n+i) * C i (if u < n then u else u - n):=fun u s hu hd=>by
  have k1:=key (one u)
  have z1:one u (2 * n+m)=0:=if_neg (by omega)
  rw [z1,nT hu (fun w=>G w * one u w) fun w _ gH=>by unfold one;rw [if_neg gH];grind] at k1
  rw [bH (n:=m) (g:=fun i=>G (2 * n+i) * B i+(-s) * (G (2 * n+i) * C i (if u < n then u else u - n))) fun i hi=>by rw [hd i hi];grind,uM,mI,k0] at k1
  have:one u u=1:=if_pos rfl
  rw [this] at k1
  grind
 have I8:∀ f:Nat->Rat,cZ m (fun i=>-(G (2 * n+i)) * f i) = -(cZ m fun i=>G (2 * n+i) * f i):=fun f=>by
  rw [show (fun i=>-(G (2 * n+i)) * f i)=fun i=>(-1) * (G (2 * n+i) * f i) by funext i;grind,mI];grind
 refine ⟨hgc,fun j hj=>?_,by rw [I8,k0];grind⟩
 have a1:=un j 1 (by omega) fun i hi=>by
  unfold Ef
  rw [nT hj _ fun c hc gH=>by show C i c * (one j c - one j (n+c))=0;unfold one;rw [if_neg gH,if_neg (by omega)];grind]
  show C i j * (one j j - one j (n+j))=_
  unfold one;rw [if_pos rfl,if_neg (by omega),if_pos hj];grind
 have a2:=un (n+j) (-1) (by omega) fun i hi=>by
  unfold Ef
  rw [nT hj _ fun c hc gH=>by show C i c * (one (n+j) c - one (n+j) (n+c))=0;unfold one;rw [if_neg (by omega),if_neg (by omega)];grind]
  show C i j * (one (n+j) j - one (n+j) (n+j))=_
  unfold one;rw [if_pos rfl,if_neg (by omega),if_neg (by omega),show n+j - n=j by omega];grind
 rw [if_pos hj] at a1
 rw [if_neg (by omega),show n+j - n=j by omega] at a2
 have b1:=hgc j
 have b2:=hgc (n+j)
 rw [I8]
 grind
include hw he in
include hw he in
theorem aas {i:Nat} (hi:i < m) (hb:D.jK i=2 * n+m):∃ j,j < 2 * n+1/\D.a i j≠0:=ue fun hn=>by
 have hz:∀ j,j < 2 * n+1->D.a i j=0:=fun j hj=>ue fun q=>hn ⟨j,hj,q⟩
 have hc:∀ x,D.Wz m (2 * n+1) x->x (2 * n+m)=D.b i:=fun x hx=>by
  rw [<- hb,hx i hi];unfold row
  rw [bH (g:=fun _=>0) fun j hj=>by rw [hz j hj];grind,nf];grind
 have c0:=hc _ ((he.sol _).1 (Rd n m C B (-1) zO))
 have c1:=hc _ ((he.sol _).1 (Rd n m C B (-1) (one (2 * n+m))))
 have:=hw
 unfold F9 at c0 c1
 rw [if_neg (by omega)] at c0 c1
 unfold zO at c0
 unfold one at c1
 rw [if_pos rfl] at c1
 rw [<- c0] at c1
 exact absurd c1 (by decide)
theorem ahZ {m i j:Nat} (hf:D.X6 m) (h0:D.b i=0):(D.lD i j).X6 m:=fun r hr=>by
 have hp:D.pb i j=0:=by unfold pb;rw [h0,Rat.div_def,Rat.zero_mul];rfl
 simp only [bZ.lD,hp]
 have:=hf r hr
 split
 ·exact Rat.le_refl
 ·grind
end
end bZ
end Go.Den
namespace Go.Den
open Go.Ab
section
variable {α:Type}
def I9 (f:Nat->α) (n:Nat):List α:=(List.range n).map f
theorem uN (f:Nat->α) (n:Nat):(I9 f n).length=n:=by simp [I9]
theorem Ox (f:Nat->α) {n i:Nat} (d:α) (h:i < n):(I9 f n).getD i d=f i:=by simp [I9,h]
theorem vK {f g:Nat->α} {n:Nat} (h:∀ i,i < n->f i=g i):I9 f n=I9 g n:=by
 unfold I9;exact List.map_congr_left fun i hi=>h i (zP.1 hi)
theorem Rg {l:List α} {f:Nat->α} {n:Nat} (d:α) (hl:l.length=n) (h:∀ i,i < n->l.getD i d=f i):l=I9 f n:=by
 refine List.ext_getElem (by rw [hl,uN]) fun i h1 h2=>?_
 have:=h i (by omega)
 rw [ep,ud h1,Option.getD_some] at this
 rw [this];simp [I9]
theorem Oy (f:Nat->α) (n i:Nat) (v:α):(I9 f n).set i v=I9 (fun a=>if a=i then v else f a) n:=by
 refine List.ext_getElem (by simp [I9]) fun a h1 h2=>?_
 rw [List.getElem_set]
 by_cases e:i=a
 ·subst e;simp [I9]
 ·rw [if_neg e];simp [I9];intro q;exact absurd q.symm e
end
def LQ (f:Nat->Rat) (n:Nat):List aa:=I9 (fun i=>bL (f i)) n
def LN (f:Nat->Nat) (n:Nat):List Int:=I9 (fun i=>(f i:Int)) n
def LA (a:Nat->Nat->Rat) (m k:Nat):List (List aa):=I9 (fun i=>LQ (a i) k) m
theorem ct (f:Nat->Rat) (n:Nat):(LQ f n).length=n:=uN _ _
theorem gF (f:Nat->Nat) (n:Nat):(LN f n).length=n:=uN _ _
theorem oj (a:Nat->Nat->Rat) (m k:Nat):(LA a m k).length=m:=uN _ _
theorem lO (f:Nat->Rat) {n i:Nat} (d:aa) (h:i < n):(LQ f n).getD i d=bL (f i):=Ox _ _ h
theorem xu (f:Nat->Nat) {n i:Nat} (d:Int) (h:i < n):(LN f n).getD i d=(f i:Int):=Ox _ _ h
theorem Dn (a:Nat->Nat->Rat) {m k i:Nat} (d:List aa) (h:i < m):(LA a m k).getD i d=LQ (a i) k:=Ox _ _ h
theorem wR {f g:Nat->Rat} {n:Nat} (h:∀ i,i < n->f i=g i):LQ f n=LQ g n:=vK fun i hi=>by rw [h i hi]
theorem ah0 {a b:Nat->Nat->Rat} {m k:Nat} (h:∀ i j,i < m->j < k->a i j=b i j):LA a m k=LA b m k:=vK fun i hi=>wR fun j hj=>h i j hi hj
theorem Ja (f:Nat->Rat) (n i:Nat) (q:Rat):(LQ f n).set i (bL q)=LQ (fun a=>if a=i then q else f a) n:=by
 unfold LQ;rw [Oy];exact vK fun a _=>by by_cases e:a=i<;>simp [e]
theorem anL (f:Nat->Nat) (n i q:Nat):(LN f n).set i (q:Int)=LN (fun a=>if a=i then q else f a) n:=by
 unfold LN;rw [Oy];exact vK fun a _=>by by_cases e:a=i<;>simp [e]
theorem ah1 (a:Nat->Nat->Rat) (m k i:Nat) (r:Nat->Rat):(LA a m k).set i (LQ r k)=LA (fun x=>if x=i then r else a x) m k:=by
 unfold LA;rw [Oy];exact vK fun a _=>by by_cases e:a=i<;>simp [e]
theorem RB.q {p:Rat} {s:Nat} (h:RB p s) (hs:s<=MS):RQ (bL p) p MS:=(h.le hs).rq (by decide)
section
variable {k j s:Nat} {f:Rat} {F R:Nat->Rat}
theorem V8 (hk:k<=1000) (hs:5 * s<=MS) (h1:1<=s) (hf:RB f s) (hF:∀ c,c < k->RB (F c) s) (hR:∀ c,c < k->RB (R c) (2 * s)) {c0:List aa} (h0:c0.length=k):∀ (d x:Nat) (G:Nat->Rat),x+d=k ->
  (∀ c,c < k->G c=if c < x then if c=j then f * R j else F c+f * R c else F c) ->
  aF (fun N g=>dB N (j:Int) (bL f) c0 (LQ R k) g (LQ G k) (x:Int)) (LQ (fun c=>if c=j then f * R j else F c+f * R c) k)
 | 0,x,G,hx,hG=>aF.succ (fun N g=>dB.eq_2 ..) (aF.bd (dnl (m:=x) (n:=k) (by omega) h0) ((aF.one (Gv.pure _)).eq (wR fun c hc=>by rw [hG c hc,if_pos (by omega)])))
 | d+1,x,G,hx,hG=>by
  have yf:x < k:=by omega
  have hm:RB (f * R x) (3 * s):=(hf.mul (hR x yf)).le (by omega)
  have hfm:=(hf.q (by omega)).mul ((hR x yf).q (by omega)) (Wy (by decide))
  have eG:G x=F x:=by rw [hG x yf,if_neg (Cs x)]
  refine aF.succ (fun N g=>dB.eq_2 ..) (aF.aR (dlt (n:=k) yf h0) ?_)
  simp only [ag,lO _ _ yf,eG,aH (show x < 9223372036854775807 by omega),iq,Ja]
  by_cases e:x=j
  ·refine aF.aR (by simp [e]) (aF.if (inl yf (ct _ _)) (aF.bind hfm (aF.if (inl yf (ct _ _)) ?_)))
   simp only [Ja]
   refine V8 hk hs h1 hf hF hR h0 d (x+1) _ (by omega) fun c hc=>?_
   by_cases q:c=x
   ·rw [if_pos q,if_pos (by omega),if_pos (q.trans e),e]
   ·rw [if_neg q,hG c hc]
    by_cases q2:c < x
    ·simp only [q2,show c < x+1 by omega,if_true]
    ·rw [if_neg q2,if_neg (by omega)]
  ·refine aF.bd (by simp;omega) (aF.if (inl yf (ct _ _)) (aF.bind (((hR x yf).q (by omega)).zero (by decide)) ?_))
   by_cases z:R x=0
   ·refine aF.bd (by simp [z]) (V8 hk hs h1 hf hF hR h0 d (x+1) _ (by omega) fun c hc=>?_)
    rw [hG c hc]
    by_cases q2:c < x
    ·simp only [q2,show c < x+1 by omega,if_true]
    ·rw [if_neg q2]
     by_cases q:c=x
     ·rw [if_pos (by omega),if_neg (by omega),q,z];grind
     ·rw [if_neg (by omega)]
   ·refine aF.aR (by simp [z]) (aF.if (inl yf (ct _ _)) (aF.bind hfm (aF.bind (((hF x yf).q (by omega)).add (hm.q (by omega)) (Wy (by decide))) ?_)))
    simp only [Ja]
    refine V8 hk hs h1 hf hF hR h0 d (x+1) _ (by omega) fun c hc=>?_
    by_cases q:c=x
    ·rw [if_pos q,if_pos (by omega),if_neg (by omega),q]
    ·rw [if_neg q,hG c hc]
     by_cases q2:c < x
     ·simp only [q2,show c < x+1 by omega,if_true]
     ·rw [if_neg q2,if_neg (by omega)]
theorem ah2 (hk:k<=1000) (hs:5 * s<=MS) (h1:1<=s) (hf:RB f s) (hF:∀ c,c < k->RB (F c) s) (hR:∀ c,c < k->RB (R c) (2 * s)) :
  Gv (fun N=>kb N (j:Int) (bL f) (LQ F k) (LQ R k)) (LQ (fun c=>if c=j then f * R j else F c+f * R c) k) :=
 (V8 hk hs h1 hf hF hR (ct F k) k 0 F (by omega) fun c _=>(if_neg (fj c)).symm).diag
end
def RT (n m k h:Nat) (D:bZ):ow×List Int×List Int×List (List aa)×List aa×List aa :=
 (⟨n,m,LN D.jK m,LN D.fr k,LA D.a m k,LQ D.b m,LQ D.g k,bL D.v,h⟩,LN D.jK m,LN D.fr k,LA D.a m k,LQ D.b m,LQ D.g k)
section
variable {n m k h i j s:Nat} {D:bZ}
theorem Yd (hi:i < m) (hj:j < k) {A:Nat->Nat->Rat} {b:Nat->Rat} (hA:∀ r c,r < m->c < k->r≠i->A r c=(D.lD i j).a r c) (hb:∀ r,r < m->b r=(D.lD i j).b r) {G:Nat->Rat} (hG:∀ c,c < k->G c=(D.lD i j).g c) {v:Rat} (hv:v=(D.lD i j).v) (N:Nat) :
  iX N (i:Int) (j:Int) (n:Int) (m:Int) (h:Int) (LN D.jK m) (LN D.fr k) (LA A m k) (LQ (D.sj i j) k) (LQ b m) (LQ G k) (bL v).fN.fG (bL v).fN.fL (bL v).fD.fG (bL v).fD.fL=some (RT n m k h (D.lD i j)):=by
 unfold iX
 rw [if_pos (inl hj (gF _ _)),if_pos (inl hi (gF _ _))]
 simp only [ag,xu _ _ hi,xu _ _ hj,anL,ah1]
 have e1:=ah0 (a:=fun x=>if x=i then D.sj i j else A x) (b:=(D.lD i j).a) (m:=m) (k:=k) fun r c Jk hc=>by
  by_cases q:r=i
  ·simp only [q,if_true,bZ.lD]
  ·simp only [q,if_false];exact hA r c Jk hc q
 rw [e1,wR hb,wR hG,hv]
 rfl
theorem Ks (hm:m<=1000) (hk:k<=1000) (hi:i < m) (hj:j < k) (hs:5 * s<=MS) (h1:1<=s) (hr:D.N9 m k s) (h0:D.a i j≠0):∀ (d x:Nat) (A:Nat->Nat->Rat) (b:Nat->Rat),x+d=m ->
  (∀ r c,r < m->c < k->A r c=if r < x/\r≠i then (D.lD i j).a r c else D.a r c)->(∀ r,r < m->b r=if r=i\/r < x then (D.lD i j).b r else D.b r) ->
  aF (fun N g=>cV N (i:Int) (j:Int) (n:Int) (m:Int) (bL D.v).fN.fG (bL D.v).fN.fL (bL D.v).fD.fG (bL D.v).fD.fL (h:Int) (LN D.jK m) (LN D.fr k) (LA D.a m k) (LQ D.g k)
   g (LA A m k) (LQ (D.sj i j) k) (LQ b m) (x:Int)) (RT n m k h (D.lD i j))
 | 0,x,A,b,hx,hA,hb=>by
  have hp:RB (D.pb i j) (2 * s):=((hr.b i hi).div (hr.a i j hi hj) h0).neg.le (by omega)
  have ebi:b i=D.pb i j:=by rw [hb i hi,if_pos (.inl rfl)];simp [bZ.lD]
  have hA2:∀ r c,r < m->c < k->r≠i->A r c=(D.lD i j).a r c:=fun r c Jk hc q=>by rw [hA r c Jk hc,if_pos ⟨by omega,q⟩]
  have ss:∀ r,r < m->b r=(D.lD i j).b r:=fun r Jk=>by rw [hb r Jk,if_pos (.inr (by omega))]
  refine aF.succ (fun N g=>cV.eq_2 ..) (aF.bd (dnl (m:=x) (n:=m) (by omega) (oj _ _ _)) ?_)
  simp only [ag,lO _ _ hj,lO _ _ hi,ebi]
  refine aF.if (inl hj (ct _ _)) (aF.bind (((hr.g j hj).q (by omega)).zero (by decide)) ?_)
  by_cases z:D.g j=0
  ·refine aF.bd (by simp [z]) (aF.if (by rw [oj];exact hi) (aF.one ⟨0,fun N _=>Yd hi hj hA2 ss (fun c _=>?_) ?_ N⟩))
   ·simp only [bZ.lD,z]
    by_cases q:c=j
    ·rw [if_pos q,q,z];grind
    ·rw [if_neg q];grind
   ·simp only [bZ.lD,z];grind
  ·refine aF.aR (by simp [z]) (aF.if (inl hi (ct _ _)) (aF.bind (((hr.g j hj).q (by omega)).mul (hp.q (by omega)) (Wy (by decide))) (aF.bind ((hr.v.q (by omega)).add ((((hr.g j hj).mul hp).le (aN _)).q (by omega)) (Wy (by decide)))
    (aF.bind (ah2 hk hs h1 (hr.g j hj) (fun c hc=>hr.g c hc) (fun c hc=>hr.sj h1 hi hj h0 hc)) (aF.if (by rw [ct,ct]) (aF.if (by rw [oj];exact hi) (aF.one ⟨0,fun N _=>Yd hi hj hA2 ss (fun c _=>?_) rfl N⟩)))))))
   simp only [bZ.lD]
   by_cases q:c=j
   ·rw [if_pos q,if_pos q,q]
   ·rw [if_neg q,if_neg q]
 | d+1,x,A,b,hx,hA,hb=>by
  have yx:x < m:=by omega
  have hp:RB (D.pb i j) (2 * s):=((hr.b i hi).div (hr.a i j hi hj) h0).neg.le (by omega)
  have ebi:b i=D.pb i j:=by rw [hb i hi,if_pos (.inl rfl)];simp [bZ.lD]
  refine aF.succ (fun N g=>cV.eq_2 ..) (aF.aR (dlt (n:=m) yx (oj _ _ _)) ?_)
  by_cases e:x=i
  ·simp only [ag,aH (show x < 9223372036854775807 by omega),eK]
   refine aF.aR (by simp [e]) (aF.if (inl yx (oj _ _ _)) (aF.if (inl hj (ct _ _)) (aF.bind (Gv.bd (by simp [e]) (Gv.pure false)) (aF.bd (by simp [e]) (Ks hm hk hi hj hs h1 hr h0 d (x+1) A b (by omega) (fun r c Jk hc=>?_) fun r Jk=>?_)))))
   ·rw [hA r c Jk hc]
    by_cases q:r < x/\r≠i
    ·rw [if_pos q,if_pos ⟨by omega,q.2⟩]
    ·rw [if_neg q,if_neg (by omega)]
   ·rw [hb r Jk]
    by_cases q:r=i\/r < x
    ·rw [if_pos q,if_pos (by omega)]
    ·rw [if_neg q,if_neg (by omega)]
  ·have asE:LQ (A x) k=LQ (D.a x) k:=wR fun c hc=>by rw [hA x c yx hc,if_neg (by omega)]
   have ebx:b x=D.b x:=by rw [hb x yx,if_neg (by omega)]
   simp only [ag,aH (show x < 9223372036854775807 by omega),eK,Dn _ _ yx,asE,lO _ _ yx,lO _ _ hi,ebi,ebx,lO _ _ hj]
   have gH:((x:Int) != (i:Int))=true:=by simp;omega
   refine aF.bd (by simp;omega) (aF.if (by rw [oj];exact yx) (aF.if (inl yx (oj _ _ _)) (aF.if (inl hj (ct _ _)) (aF.bind (Gv.aR gH (((hr.a x j yx hj).q (by omega)).zero (by decide))) ?_))))
   by_cases z:D.a x j=0
   ·refine aF.bd (by simp [z]) (Ks hm hk hi hj hs h1 hr h0 d (x+1) A b (by omega) (fun r c Jk hc=>?_) fun r Jk=>?_)
    ·rw [hA r c Jk hc]
     by_cases q:r < x/\r≠i
     ·rw [if_pos q,if_pos ⟨by omega,q.2⟩]
     ·rw [if_neg q]
      by_cases q2:r=x
      ·rw [if_pos ⟨by omega,by omega⟩,q2]
       simp only [bZ.lD,if_neg e,z]
       split
       ·rename_i q3;rw [q3,z];grind
       ·grind
      ·rw [if_neg (by omega)]
    ·rw [hb r Jk]
     by_cases q:r=i\/r < x
     ·rw [if_pos q,if_pos (by omega)]
     ·rw [if_neg q]
      by_cases q2:r=x
      ·rw [if_pos (by omega),q2]
       simp only [bZ.lD,if_neg e,z];grind
      ·rw [if_neg (by omega)]
   ·refine aF.aR (by rw [gH];simp [z]) (aF.if (inl yx (ct _ _)) (aF.if (inl hi (ct _ _)) (aF.bind (((hr.a x j yx hj).q (by omega)).mul (hp.q (by omega)) (Wy (by decide)))
     (aF.bind (((hr.b x yx).q (by omega)).add ((((hr.a x j yx hj).mul hp).le (aN _)).q (by omega)) (Wy (by decide)))
     (aF.bind (ah2 hk hs h1 (hr.a x j yx hj) (fun c hc=>hr.a x c yx hc) (fun c hc=>hr.sj h1 hi hj h0 hc)) (aF.if (by rw [ct,ct]) ?_))))))
    simp only [ah1,Ja]
    refine Ks hm hk hi hj hs h1 hr h0 d (x+1) _ _ (by omega) (fun r c Jk hc=>?_) fun r Jk=>?_
    ·by_cases q2:r=x
     ·have q4:x < x+1/\x≠i:=⟨by omega,e⟩
      simp only [q2,q4,if_true,if_false,bZ.lD,and_self,ne_eq,not_false_eq_true]
      by_cases q3:c=j
      ·simp only [q3,if_true]
      ·simp only [q3,if_false]
     ·simp only [q2,if_false]
      rw [hA r c Jk hc]
      by_cases q:r < x/\r≠i
      ·rw [if_pos q,if_pos ⟨by omega,q.2⟩]
      ·rw [if_neg q,if_neg (by omega)]
    ·by_cases q2:r=x
     ·rw [if_pos q2,if_pos (by omega),q2]
      simp only [bZ.lD,if_neg e]
     ·rw [if_neg q2,hb r Jk]
      by_cases q:r=i\/r < x
      ·rw [if_pos q,if_pos (by omega)]
      ·rw [if_neg q,if_neg (by omega)]
theorem Rh (hm:m<=1000) (hk:k<=1000) (hi:i < m) (hj:j < k) (hs:5 * s<=MS) (h1:1<=s) (hr:D.N9 m k s) (h0:D.a i j≠0):∀ (d x:Nat) (R:Nat->Rat),x+d=k->(∀ c,c < k->R c=if c < x/\c≠j then D.sj i j c else D.a i c) ->
  aF (fun N g=>eM N (i:Int) (j:Int) (n:Int) (m:Int) (bL D.v).fN.fG (bL D.v).fN.fL (bL D.v).fD.fG (bL D.v).fD.fL (h:Int) (LN D.jK m) (LN D.fr k) (LA D.a m k) (LQ D.b m) (LQ D.g k)
   g (LQ R k) (x:Int)) (RT n m k h (D.lD i j))
 | 0,x,R,hx,hR=>by
  have hp:RB (D.b i / D.a i j) (2 * s):=((hr.b i hi).div (hr.a i j hi hj) h0).le (by omega)
  have hc:=(hr.a i j hi hj).q (show s<=MS by omega)
  refine aF.succ (fun N g=>eM.eq_2 ..) (aF.bd (dnl (m:=x) (n:=k) (by omega) (by simp only [ag,Dn _ _ hi,ct])) ?_)
  simp only [ag,Dn _ _ hi,lO _ _ hi,lO _ _ hj]
  refine aF.bind (vJ (z:=1) (by decide) (by decide)) (aF.bind ((bZ.RB1.q (by decide)).akt hc h0 (Wy (by decide))) (aF.if (inl hj (ct _ _)) (aF.if (inl hi (ct _ _))
   (aF.bind (((hr.b i hi).q (by omega)).akt hc h0 (Wy (by decide))) (aF.bind (by have:=tZ (hp.q (show 2 * s<=MS by omega)).ir (by decide) (Wy (by decide));rwa [tF] at this) ?_)))))
  simp only [Ja]
  have e1:=wR (f:=fun a=>if a=j then (1:Rat) / D.a i j else R a) (g:=D.sj i j) (n:=k) fun c hc=>by
   by_cases q:c=j
   ·rw [if_pos q];unfold bZ.sj;rw [if_pos q]
   ·rw [if_neg q,hR c hc,if_pos ⟨by omega,q⟩]
  have:=(Ks hm hk hi hj hs h1 hr h0 m 0 D.a (fun a=>if a=i then -(D.b i / D.a i j) else D.b a) (by omega) (fun r c _ _=>by rw [if_neg (by omega)]) (fun r Jk=>by
   by_cases q:r=i
   ·rw [if_pos q,if_pos (.inl q)];simp only [bZ.lD,if_pos q];rfl
   ·rw [if_neg q,if_neg (by omega)]) (n:=n) (h:=h)).diag
  rw [<- e1] at this
  exact aF.one this
 | d+1,x,R,hx,hR=>by
  have yf:x < k:=by omega
  have hc:=(hr.a i j hi hj).q (show s<=MS by omega)
  have hd:RB (D.a i x / D.a i j) (2 * s):=((hr.a i x hi yf).div (hr.a i j hi hj) h0).le (by omega)
  have ex:R x=D.a i x:=by rw [hR x yf,if_neg (by omega)]
  refine aF.succ (fun N g=>eM.eq_2 ..) (aF.aR (dlt (n:=k) yf (by simp only [ag,Dn _ _ hi,ct])) ?_)
  simp only [ag,Dn _ _ hi,lO _ _ yf,ex,lO _ _ hj,aH (show x < 9223372036854775807 by omega),kL]
  by_cases e:x=j
  ·refine aF.bd (by simp;omega) (Rh hm hk hi hj hs h1 hr h0 d (x+1) R (by omega) fun c hc=>?_)
   rw [hR c hc]
   by_cases q:c < x/\c≠j
   ·rw [if_pos q,if_pos ⟨by omega,q.2⟩]
   ·rw [if_neg q,if_neg (by omega)]
  ·refine aF.aR (by simp;omega) (aF.if (inl yf (ct _ _)) (aF.bind (((hr.a i x hi yf).q (by omega)).akt hc h0 (Wy (by decide))) (aF.bind (by have:=tZ (hd.q (show 2 * s<=MS by omega)).ir (by decide) (Wy (by decide));rwa [tF] at this) ?_)))
   simp only [Ja]
   refine Rh hm hk hi hj hs h1 hr h0 d (x+1) _ (by omega) fun c hc=>?_
   by_cases q2:c=x
   ·rw [if_pos q2,if_pos ⟨by omega,by omega⟩,q2];unfold bZ.sj;rw [if_neg e]
   ·rw [if_neg q2,hR c hc]
    by_cases q:c < x/\c≠j
    ·rw [if_pos q,if_pos ⟨by omega,q.2⟩]
    ·rw [if_neg q,if_neg (by omega)]
theorem Ri (hm:m<=1000) (hk:k<=1000) (hi:i < m) (hj:j < k) (hs:5 * s<=MS) (h1:1<=s) (hr:D.N9 m k s) (h0:D.a i j≠0) :
  Gv (fun N=>kY N (i:Int) (j:Int) (n:Int) (m:Int) (bL D.v).fN.fG (bL D.v).fN.fL (bL D.v).fD.fG (bL D.v).fD.fL (h:Int) (LN D.jK m) (LN D.fr k) (LA D.a m k) (LQ D.b m) (LQ D.g k)) (RT n m k h (D.lD i j)):=by
 have:=(Rh hm hk hi hj hs h1 hr h0 k 0 (D.a i) (by omega) (fun c _=>by rw [if_neg (by omega)]) (n:=n) (h:=h)).diag
 refine Gv.if (by rw [oj];exact hi) (Gv.if (inl hi (oj _ _ _)) (Gv.if (inl hj (by simp only [ag,Dn _ _ hi,ct])) ?_))
 simp only [ag,Dn _ _ hi]
 exact this
end
end Go.Den
namespace Go.Den
open Go.Ab
section
variable {n m k h j s:Nat} {D:bZ}
def adG (D:bZ) (x:Nat) (eV:Int):Prop:=(eV = -1/\∀ j,j < x->D.g j<=0)\/∃ b:Nat,eV=b/\b < x/\0 < D.g b/\∀ j',j' < x->0 < D.g j'->D.fr b<=D.fr j'
theorem ah3 (hk:k<=1000) (hs:s<=MS) (hr:D.N9 m k s):∀ (d x:Nat) (eV:Int),x+d=k->adG D x eV ->
  ∃ r,aF (fun N g=>b6 N (n:Int) (m:Int) (bL D.v).fN.fG (bL D.v).fN.fL (bL D.v).fD.fG (bL D.v).fD.fL (h:Int) (LN D.jK m) (LN D.fr k) (LA D.a m k) (LQ D.b m) (LQ D.g k) g eV (x:Int)) r/\adG D k r
 | 0,x,eV,hx,hI=>⟨eV,aF.succ (fun N g=>b6.eq_2 ..) (aF.bd (dnl (m:=x) (n:=k) (by omega) (gF _ _)) (aF.one (Gv.pure _))),by rw [show k=x by omega];exact hI⟩
 | d+1,x,eV,hx,hI=>by
  have yf:x < k:=by omega
  have hsg:=((hr.g x yf).q hs).uP (by decide)
  have nx:∀ wT:Int,adG D (x+1) wT->(cond (cond (decide (uP (D.g x) > 0)) (cond (decide (eV < 0)) true (decide ((LN D.fr k).getD x 0 < (LN D.fr k).getD eV.toNat 0))) false) (x:Int) eV)=wT ->
    ∃ r,aF (fun N g=>b6 N (n:Int) (m:Int) (bL D.v).fN.fG (bL D.v).fN.fL (bL D.v).fD.fG (bL D.v).fD.fL (h:Int) (LN D.jK m) (LN D.fr k) (LA D.a m k) (LQ D.b m) (LQ D.g k) (g+1) eV (x:Int)) r/\adG D k r:=fun wT h1 h2=>by
   obtain ⟨r,h3,h4⟩:=ah3 hk hs hr d (x+1) wT (by omega) h1
   refine ⟨r,?_,h4⟩
   have hb:0<=eV->eV < ((k:Nat):Int):=fun h0=>by
    rcases hI with ⟨e,_⟩ | ⟨b,e,hb,_⟩<;>omega
   have:aF (fun N g=>b6 N (n:Int) (m:Int) (bL D.v).fN.fG (bL D.v).fN.fL (bL D.v).fD.fG (bL D.v).fD.fL (h:Int) (LN D.jK m) (LN D.fr k) (LA D.a m k) (LQ D.b m) (LQ D.g k) (g+1) eV (x:Int)) r:=by
    simp only [b6]
    refine aF.aR (dlt (n:=k) yf (gF _ _)) (aF.if (inl yf (ct _ _)) ?_)
    simp only [ag,lO _ _ yf,iY,aH (show x < 9223372036854775807 by omega)]
    refine aF.bind hsg (aF.if (fun _=>inl yf (gF _ _)) (aF.if (fun q=>?_) ?_))
    ·simp at q
     rw [gF];exact ⟨by omega,hb (by omega)⟩
    ·revert h2
     cases (cond (decide (uP (D.g x) > 0)) (cond (decide (eV < 0)) true (decide ((LN D.fr k).getD x 0 < (LN D.fr k).getD eV.toNat 0))) false) with
     | true=>intro h2;refine aF.aR rfl ?_;simp only [cond_true] at h2;rw [h2];exact h3
     | false=>intro h2;refine aF.bd rfl ?_;simp only [cond_false] at h2;rw [h2];exact h3
   exact this
  have fin:∀ {wT:Int},adG D (x+1) wT->(cond (cond (decide (uP (D.g x) > 0)) (cond (decide (eV < 0)) true (decide ((LN D.fr k).getD x 0 < (LN D.fr k).getD eV.toNat 0))) false) (x:Int) eV)=wT ->
    ∃ r,aF (fun N g=>b6 N (n:Int) (m:Int) (bL D.v).fN.fG (bL D.v).fN.fL (bL D.v).fD.fG (bL D.v).fD.fL (h:Int) (LN D.jK m) (LN D.fr k) (LA D.a m k) (LQ D.b m) (LQ D.g k) g eV (x:Int)) r/\adG D k r:=fun h1 h2=>by
   obtain ⟨r,h3,h4⟩:=nx _ h1 h2
   exact ⟨r,aF.succ (fun _ _=>rfl) h3,h4⟩
  by_cases hp:0 < D.g x
  ·have e1:decide (uP (D.g x) > 0)=true:=decide_eq_true (Oq.2 hp)
   rcases hI with ⟨rfl,hb⟩ | ⟨b,rfl,hb,hg,zC⟩
   ·refine fin (wT:=x) (.inr ⟨x,rfl,by omega,hp,fun j' h1 h2=>?_⟩) (by rw [e1];rfl)
    by_cases e:j'=x
    ·rw [e];exact aN _
    ·exact absurd h2 (Rat.not_lt.2 (hb j' (by omega)))
   ·have e2:decide (((b:Nat):Int) < 0)=false:=by simp
    by_cases iQ:D.fr x < D.fr b
    ·refine fin (wT:=x) (.inr ⟨x,rfl,by omega,hp,fun j' h1 h2=>?_⟩) (by
      rw [e1,e2,xu _ _ yf,ag,xu _ _ (show b < k by omega),decide_eq_true (show ((D.fr x:Nat):Int) < ((D.fr b:Nat):Int) by omega)];rfl)
     by_cases e:j'=x
     ·rw [e];exact aN _
     ·have:=zC j' (by omega) h2;omega
    ·refine fin (wT:=b) (.inr ⟨b,rfl,by omega,hg,fun j' h1 h2=>?_⟩) (by
      rw [e1,e2,xu _ _ yf,ag,xu _ _ (show b < k by omega),decide_eq_false (show ¬ ((D.fr x:Nat):Int) < ((D.fr b:Nat):Int) by omega)];rfl)
     by_cases e:j'=x
     ·rw [e];omega
     ·exact zC j' (by omega) h2
  ·have e1:decide (uP (D.g x) > 0)=false:=decide_eq_false fun q=>hp (Oq.1 q)
   refine fin (wT:=eV) ?_ (by rw [e1];rfl)
   rcases hI with ⟨e,hb⟩ | ⟨b,e,hb,hg,zC⟩
   ·refine .inl ⟨e,fun j' h1=>?_⟩
    by_cases e2:j'=x
    ·rw [e2];exact Rat.not_lt.1 hp
    ·exact hb j' (by omega)
   ·refine .inr ⟨b,e,by omega,hg,fun j' h1 h2=>?_⟩
    by_cases e2:j'=x
    ·rw [e2] at h2;exact absurd h2 hp
    ·exact zC j' (by omega) h2
theorem anM (hk:k<=1000) (hs:s<=MS) (hr:D.N9 m k s):∃ r,Gv (fun N=>nF N (n:Int) (m:Int) (bL D.v).fN.fG (bL D.v).fN.fL (bL D.v).fD.fG (bL D.v).fD.fL (h:Int) (LN D.jK m) (LN D.fr k) (LA D.a m k) (LQ D.b m) (LQ D.g k)) r /\
  ((r = -1/\∀ j,j < k->D.g j<=0)\/∃ j:Nat,r=j/\D.Ov k j):=by
 obtain ⟨r,h1,h2⟩:=ah3 hk hs hr k 0 (-1) (by omega) (.inl ⟨rfl,fun j hj=>absurd hj (fj _)⟩) (n:=n) (h:=h)
 refine ⟨r,h1.diag,?_⟩
 rcases h2 with h | ⟨b,e,q1,q2,q3⟩
 ·exact .inl h
 ·exact .inr ⟨b,e,q1,q2,q3⟩
def akA (D:bZ) (j x:Nat) (eV:Int) (least:aa):Prop:=(eV = -1/\∀ i,i < x->0<=D.a i j)\/∃ b:Nat,eV=b/\b < x/\D.a b j < 0/\least=bL (D.ratio j b) /\
 ∀ i',i' < x->D.a i' j < 0->D.ratio j b < D.ratio j i'\/D.ratio j b=D.ratio j i'/\D.jK b<=D.jK i'
theorem ah4 (hm:m<=1000) (hj:j < k) (hs:2 * s<=MS) (hr:D.N9 m k s):∀ (d x:Nat) (eV:Int) (least:aa),x+d=m->akA D j x eV least ->
  ∃ r l,aF (fun N g=>cj N (j:Int) (n:Int) (m:Int) (bL D.v).fN.fG (bL D.v).fN.fL (bL D.v).fD.fG (bL D.v).fD.fL (h:Int) (LN D.jK m) (LN D.fr k) (LA D.a m k) (LQ D.b m) (LQ D.g k) g eV least (x:Int)) r/\akA D j m r l
 | 0,x,eV,least,hx,hI=>⟨eV,least,aF.succ (fun N g=>cj.eq_2 ..) (aF.bd (dnl (m:=x) (n:=m) (by omega) (gF _ _)) (aF.one (Gv.pure _))),by rw [show m=x by omega];exact hI⟩
 | d+1,x,eV,least,hx,hI=>by
  have yx:x < m:=by omega
  have ha:=(hr.a x j yx hj).q (show s<=MS by omega)
  have hsg:=ha.uP (by decide)
  have ng:Gv (fun N=>gq N (bL (D.a x j))) (bL (-(D.a x j))):=by have:=tZ ha.ir (by decide) (Wy (by decide));rwa [tF] at this
  have nx:∀ (wT:Int) (Rj:aa),akA D j (x+1) wT Rj->(0<=D.a x j->wT=eV/\Rj=least) ->
    (D.a x j < 0->∀ c7:Int,(eV < 0/\c7 = -1\/∃ b:Nat,eV=b/\b < m/\c7=uP (D.ratio j x - D.ratio j b)) ->
     cond (cond (decide (c7 < 0)) true (cond (c7 == 0) (decide ((LN D.jK m).getD x 0 < (LN D.jK m).getD eV.toNat 0)) false)) ((x:Int),bL (D.ratio j x)) (eV,least)=(wT,Rj)) ->
    ∃ r l,aF (fun N g=>cj N (j:Int) (n:Int) (m:Int) (bL D.v).fN.fG (bL D.v).fN.fL (bL D.v).fD.fG (bL D.v).fD.fL (h:Int) (LN D.jK m) (LN D.fr k) (LA D.a m k) (LQ D.b m) (LQ D.g k) g eV least (x:Int)) r/\akA D j m r l:=fun wT Rj h1 h2 h5=>by
   obtain ⟨r,l,h3,h4⟩:=ah4 hm hj hs hr d (x+1) wT Rj (by omega) h1
   refine ⟨r,l,aF.succ (fun N g=>cj.eq_2 ..) (aF.aR (dlt (n:=m) yx (gF _ _)) ?_),h4⟩
   simp only [ag,Dn _ _ yx,lO _ _ hj,lO _ _ yx,ct,oj,fC,aH (show x < 9223372036854775807 by omega)]
   refine aF.if yx (aF.if (oX yx) (aF.if (oX hj) (aF.bind hsg ?_)))
   by_cases hz:0<=D.a x j
   ·have e:decide (uP (D.a x j)>=0)=true:=decide_eq_true (Int.not_lt.1 fun q=>by have:=oC.1 q;grind)
    obtain ⟨e1,e2⟩:=h2 hz
    refine aF.aR e ?_
    rw [e1,e2] at h3;exact h3
   ·have I8:D.a x j < 0:=Rat.not_le.1 hz
    have e:decide (uP (D.a x j)>=0)=false:=decide_eq_false fun q=>by have:=oC.2 I8;omega
    have h0:-(D.a x j)≠0:=by grind
    have hov:=((hr.b x yx).q (show s<=MS by omega)).akt (((hr.a x j yx hj).neg).q (show s<=MS by omega)) h0 (Wy (by decide))
    refine aF.bd e (aF.if (oX yx) (aF.bind ng (aF.bind hov ?_)))
    have hJ3:∀ c7:Int,(eV < 0/\c7 = -1\/∃ b:Nat,eV=b/\b < m/\c7=uP (D.ratio j x - D.ratio j b))->aF (fun N g=>gM N (j:Int) (n:Int) (m:Int) (bL D.v).fN.fG (bL D.v).fN.fL (bL D.v).fD.fG (bL D.v).fD.fL (h:Int) (LN D.jK m) (LN D.fr k) (LA D.a m k) (LQ D.b m) (LQ D.g k) eV least (x:Int) (bL (D.b x / -(D.a x j)))
      (cj N (j:Int) (n:Int) (m:Int) (bL D.v).fN.fG (bL D.v).fN.fL (bL D.v).fD.fG (bL D.v).fD.fL (h:Int) (LN D.jK m) (LN D.fr k) (LA D.a m k) (LQ D.b m) (LQ D.g k) g) c7) r:=fun c7 hc=>by
     have h6:=h5 I8 c7 hc
     simp only [gM,fC,ag,aH (show x < 9223372036854775807 by omega)]
     refine aF.if (fun _=>inl yx (gF _ _)) (aF.if (fun q=>?_) ?_)
     ·rw [gF]
      rcases hc with ⟨_,e⟩ | ⟨b,e,hb,_⟩
      ·simp [e] at q
      ·omega
     ·revert h6
      cases (cond (decide (c7 < 0)) true (cond (c7 == 0) (decide ((LN D.jK m).getD x 0 < (LN D.jK m).getD eV.toNat 0)) false)) with
      | true=>intro h6;simp only [cond_true,aG] at h6;refine aF.aR rfl ?_;rw [<- h6.1,<- h6.2] at h3;exact h3
      | false=>intro h6;simp only [cond_false,aG] at h6;refine aF.bd rfl ?_;rw [<- h6.1,<- h6.2] at h3;exact h3
    rcases hI with ⟨e1,_⟩ | ⟨b,e1,hb,hbn,e2,_⟩
    ·exact aF.bd (by simp [e1]) (hJ3 (-1) (.inl ⟨by omega,rfl⟩))
    ·have hbm:b < m:=by omega
     have q1:RB (D.ratio j x) (2 * s):=by unfold bZ.ratio;exact ((hr.b x yx).div (hr.a x j yx hj).neg h0).le (by omega)
     have q2:RB (D.ratio j b) (2 * s):=by unfold bZ.ratio;exact ((hr.b b hbm).div (hr.a b j hbm hj).neg (by grind)).le (by omega)
     refine aF.aR (by simp [e1]) (aF.bind (r:=uP (D.ratio j x - D.ratio j b)) ?_ (hJ3 _ (.inr ⟨b,e1,hbm,rfl⟩)))
     rw [e2]
     exact (q1.q hs).cmp (q2.q hs) (Wy (by decide))
  by_cases hz:0<=D.a x j
  ·refine nx eV least ?_ (fun _=>⟨rfl,rfl⟩) fun q=>by grind
   rcases hI with ⟨e,hb⟩ | ⟨b,e,hb,hg,e3,zC⟩
   ·refine .inl ⟨e,fun j' h1=>?_⟩
    by_cases e2:j'=x
    ·rw [e2];exact hz
    ·exact hb j' (by omega)
   ·refine .inr ⟨b,e,by omega,hg,e3,fun j' h1 h2=>?_⟩
    by_cases e2:j'=x
    ·rw [e2] at h2;grind
    ·exact zC j' (by omega) h2
  ·have I8:D.a x j < 0:=Rat.not_le.1 hz
   rcases hI with ⟨rfl,hb⟩ | ⟨b,rfl,hb,hg,rfl,zC⟩
   ·refine nx x (bL (D.ratio j x)) (.inr ⟨x,rfl,by omega,I8,rfl,fun j' h1 h2=>?_⟩) (fun q=>by grind) fun _ c7 hc=>?_
    ·by_cases e:j'=x
     ·rw [e];exact .inr ⟨rfl,aN _⟩
     ·have:=hb j' (by omega);grind
    ·rcases hc with ⟨_,e⟩ | ⟨b,e,_⟩
     ·rw [e];rfl
     ·omega
   ·have c7e:∀ c7:Int,(((b:Nat):Int) < 0/\c7 = -1\/∃ b':Nat,((b:Nat):Int)=b'/\b' < m/\c7=uP (D.ratio j x - D.ratio j b'))->c7=uP (D.ratio j x - D.ratio j b):=fun c7 hc=>by
     rcases hc with ⟨e,_⟩ | ⟨b',e,_,e2⟩
     ·omega
     ·rw [e2,show b'=b by omega]
    have hbm:b < m:=by omega
    by_cases h1:D.ratio j x < D.ratio j b
    ·refine nx x (bL (D.ratio j x)) (.inr ⟨x,rfl,by omega,I8,rfl,fun j' q1 q2=>?_⟩) (fun q=>by grind) fun _ c7 hc=>?_
     ·by_cases e:j'=x
      ·rw [e];exact .inr ⟨rfl,aN _⟩
      ·rcases zC j' (by omega) q2 with q3 | ⟨q3,_⟩
       ·exact .inl (by grind)
       ·exact .inl (by grind)
     ·rw [c7e c7 hc,decide_eq_true (oC.2 (show D.ratio j x - D.ratio j b < 0 by grind))];rfl
    ·have hnn:decide (uP (D.ratio j x - D.ratio j b) < 0)=false:=decide_eq_false fun q=>by have:=oC.1 q;grind
     by_cases h2:D.ratio j x=D.ratio j b
     ·have hz0:(uP (D.ratio j x - D.ratio j b) == 0)=true:=by rw [beq_iff_eq];exact XZ.2 (by grind)
      by_cases h3:D.jK x < D.jK b
      ·refine nx x (bL (D.ratio j x)) (.inr ⟨x,rfl,by omega,I8,rfl,fun j' q1 q2=>?_⟩) (fun q=>by grind) fun _ c7 hc=>?_
       ·by_cases e:j'=x
        ·rw [e];exact .inr ⟨rfl,aN _⟩
        ·rcases zC j' (by omega) q2 with q3 | ⟨q3,q4⟩
         ·exact .inl (by grind)
         ·exact .inr ⟨by grind,by omega⟩
       ·rw [c7e c7 hc,hnn,hz0,xu _ _ yx,ag,xu _ _ hbm,decide_eq_true (show ((D.jK x:Nat):Int) < ((D.jK b:Nat):Int) by omega)];rfl
      ·refine nx b (bL (D.ratio j b)) (.inr ⟨b,rfl,by omega,hg,rfl,fun j' q1 q2=>?_⟩) (fun q=>by grind) fun _ c7 hc=>?_
       ·by_cases e:j'=x
        ·rw [e];exact .inr ⟨h2.symm,by omega⟩
        ·exact zC j' (by omega) q2
       ·rw [c7e c7 hc,hnn,hz0,xu _ _ yx,ag,xu _ _ hbm,decide_eq_false (show ¬ ((D.jK x:Nat):Int) < ((D.jK b:Nat):Int) by omega)];rfl
     ·have hz0:(uP (D.ratio j x - D.ratio j b) == 0)=false:=by
       rw [beq_eq_false_iff_ne];intro q;have:=XZ.1 q;grind
      refine nx b (bL (D.ratio j b)) (.inr ⟨b,rfl,by omega,hg,rfl,fun j' q1 q2=>?_⟩) (fun q=>by grind) fun _ c7 hc=>?_
      ·by_cases e:j'=x
       ·rw [e];exact .inl (by grind)
       ·exact zC j' (by omega) q2
      ·rw [c7e c7 hc,hnn,hz0];rfl
theorem anN (hm:m<=1000) (hj:j < k) (hs:2 * s<=MS) (hr:D.N9 m k s):∃ r,Gv (fun N=>oy N (j:Int) (n:Int) (m:Int) (bL D.v).fN.fG (bL D.v).fN.fL (bL D.v).fD.fG (bL D.v).fD.fL (h:Int) (LN D.jK m) (LN D.fr k) (LA D.a m k) (LQ D.b m) (LQ D.g k)) r /\
  ((r = -1/\∀ i,i < m->0<=D.a i j)\/∃ i:Nat,r=i/\D.Kr m j i):=by
 obtain ⟨r,l,h1,h2⟩:=ah4 hm hj hs hr m 0 (-1) _ (by omega) (.inl ⟨rfl,fun j hj=>absurd hj (fj _)⟩) (n:=n) (h:=h)
 refine ⟨r,h1.diag,?_⟩
 rcases h2 with h | ⟨b,e,q1,q2,_,q3⟩
 ·exact .inl h
 ·exact .inr ⟨b,e,q1,q2,q3⟩
def Stop (D:bZ) (m k:Nat) (r:Int):Prop:=(r = -1/\∀ j,j < k->D.g j<=0)\/∃ j:Nat,r=j/\D.Ov k j/\∀ i,i < m->0<=D.a i j
theorem ah5 {e5:Nat} (h5:m<=e5\/k<=e5) (hm:m<=1000) (hk:k<=1000) {D0:bZ} (h0:D0.WF m k) (Sn:D0.N9 m k s) (h1:1<=s) (hs:5 * (5 ^ e5 * s)<=MS) (hw:D.WF m k) (hf:D.X6 m) (he:bZ.KJ m k D0 D) :
  ∃ D' r,D'.WF m k/\D'.X6 m/\bZ.KJ m k D0 D'/\Stop D' m k r/\aF (fun N g=>eN N g (n:Int) (m:Int) (LN D.jK m) (LN D.fr k) (LA D.a m k) (LQ D.b m) (LQ D.g k) (bL D.v).fN.fG (bL D.v).fN.fL (bL D.v).fD.fG (bL D.v).fD.fL (h:Int)) (r,RT n m k h D'):=by
 induction bZ.ahU hw hf with
 | intro D _ ih =>
  have hr:=bZ.Yb h5 hw h0 he Sn h1
  have YE:1<=5 ^ e5 * s:=eF h1 (Nat.le_mul_of_pos_left _ (Nat.pow_pos (by decide)))
  obtain ⟨r,e1,e2⟩:=anM hk (by omega) hr (n:=n) (h:=h)
  rcases e2 with ⟨rfl,e2⟩ | ⟨j,rfl,e2⟩
  ·exact ⟨D,-1,hw,hf,he,.inl ⟨rfl,e2⟩,aF.succ (fun N g=>eN.eq_2 ..) (aF.bind e1 (aF.aR (by decide) (aF.one (Gv.pure _))))⟩
  ·obtain ⟨r,e3,e4⟩:=anN hm e2.lt (by omega) hr (n:=n) (h:=h)
   rcases e4 with ⟨rfl,e4⟩ | ⟨i,rfl,e4⟩
   ·exact ⟨D,j,hw,hf,he,.inr ⟨j,rfl,e2,e4⟩,aF.succ (fun N g=>eN.eq_2 ..) (aF.bind e1 (aF.bd (by simp) (aF.bind e3 (aF.aR (by decide) (aF.one (Gv.pure _))))))⟩
   ·have gH:D.a i j≠0:=by have:=e4.neg;grind
    obtain ⟨D',r,q1,q2,q3,q4,q5⟩:=ih (D.lD i j) ⟨j,i,e2,e4,rfl⟩ (hw.lD e4.lt e2.lt) (hf.lD e4) (he.trans (.lD e4.lt e2.lt gH))
    refine ⟨D',r,q1,q2,q3,q4,aF.succ (fun N g=>eN.eq_2 ..) (aF.bind e1 (aF.bd (by simp) (aF.bind e3 (aF.bd (by simp) (aF.bind (Ri hm hk e4.lt e2.lt hs YE hr gH) ?_)))))⟩
    simp only [RT,gF,oj,ct]
    exact aF.if trivial (aF.if trivial (aF.if trivial (aF.if trivial (aF.if trivial q5))))
end
end Go.Den
