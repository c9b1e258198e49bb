/- Abstract values over the heap of the machine, and functions read off its code (part 2). No conditions. -/
import Derived.Test.YtlgddcmiekcdiaaGreatCa
import Derived.Laws.IdiomStrings
import Derived.MapKept
import Derived.Carry
set_option linter.unusedVariables false
set_option linter.unusedSimpArgs false
namespace Go.Ab
def Mw (w:World) (σ:cz) (μ:Mu) (b:Nat):Prop:=(∃ k o pl,ar σ k=some o∧μ k=some pl∧0 < pl.cap∧pl.bR=b)∨∃ k i x v,fJ w μ σ k i x v∧ptrTo v b
def u5 (w:World) (S:Nat→Prop) (σ:cz) (μ:Mu) (m:Nat):Env:=⟨w,S,Mw w σ μ,μ,m⟩
def Sound (P:Program) (f:FuncId) (args:List AV) (σ:cz) (m:Nat) (res:AV) (dm:cz):Prop :=
 ∀ (w:World) (S:Nat→Prop) (μ:Mu) (vs:Array Value),Good (u5 w S σ μ m) σ S μ w→(∀ k,m≤k→μ k=none)→RL w S μ vs args →
  Calls P f vs w fun e w'=>∃ v S' cu,e=.returned v∧Good (u5 w S σ μ m) dm S' cu w'∧an w' S' cu v res
section
variable {E:Env} {nk:Nat} {σ:cz} {S:Nat→Prop} {μ:Mu} {w:World}
theorem fJ.of (g:Good E σ S μ w) {k i:Nat} {o:Ob} {x:Nat×Nat×(Nat→List AV)} (ho:ar σ k=some o) (hr:rowOf o i=some x) {pl:Place} (hm:μ k=some pl):∃ v,fJ w μ σ k i x v:=by
 obtain ⟨h1,h2,h3⟩:=ca hr
 obtain ⟨hH,c,T,eM,b9⟩:=g.rep.ob k o ho
 rw [hm] at eM;cases eM
 have hl:=b9.qK i h2
 rw [h3] at hl
 obtain ⟨v,q1,q2⟩:=bW b9 (i:=i) (j:=0) h2 (by simp at hl;omega)
 exact ⟨v,o,pl,ho,hr,hm,by rw [b9.sz];simpa using q2⟩
theorem eJ.Kq {o:Ob} {pl:Place} {c:Array Value} {T:TypeId} {cu:Mu} (h:eJ w S μ o pl c T) (hv:o.sz≠0) (VD:∀ k p,μ k=some p→cu k=some p) (i:Nat) (cs:List AV) (hl:cs.length=o.sz)
  (hc:∀ j x v,i < o.len→cs[j]?=some x→c[i * o.sz+j]?=some v→an w S cu v x):eJ w S cu ⟨false,o.sz,o.len,false,fun m=>if m=i then cs else o.get m⟩ pl c T:=by
 refine ⟨h.sz,h.bR,h.cap,h.len,h.out,fun m hm=>?_,fun m j x v hm hx pW=>?_,fun hz=>absurd hz hv⟩
 ·show (if m=i then cs else o.get m).length=o.sz
  split
  ·exact hl
  ·exact h.qK m hm
 ·have Su:(if m=i then cs else o.get m)[j]?=some x:=hx
  show an w S cu v x
  by_cases x9:m=i
  ·grind
  ·rw [if_neg x9] at Su
   exact (fy (h.rep m j x v hm Su pW)).mono (fun _ h=>h) (fun _ _=>rfl) VD
theorem Good.VE (g:Good E σ S μ w) (hk:μ nk=none) (qW:E.m0≤nk) {k i:Nat} {o:Ob} {x:Nat×Nat×(Nat→List AV)} (ho:ar σ k=some o) (hr:rowOf o i=some x) :
  ∃ q:Place,Ext w S μ w S (bz μ nk q)∧Good E (sset (sset σ k ⟨false,o.sz,o.len,false,fun m=>if m=i then [.os nk 0 x.2.1] else o.get m⟩) nk ⟨false,x.1,x.2.1,true,x.2.2⟩) S (bz μ nk q) w:=by
 obtain ⟨ya,hi,nR⟩:=ca hr
 obtain ⟨pl,c,T,hm,b9⟩:=g.rep.ob k o ho
 have ua:k≠nk:=fun h=>by simp_all
 have oX:o.sz=1:=by have:=b9.qK i hi;rw [nR] at this;simpa using this.symm
 obtain ⟨v,hv⟩:=fJ.of g ho hr hm
 obtain ⟨a,cap,rfl,h1,h2,h3⟩:=g.mx.row _ _ _ _ hv
 -- the place of the row
 have hq:∃ q:Place,q.sz=x.1∧cap=q.cap∧(0 < cap→a=some ⟨q.bR,0,none⟩)∧(0 < q.cap→0 < cap)∧(∃ c' T',eJ w S fw ⟨false,x.1,x.2.1,true,x.2.2⟩ q c' T')∧(0 < q.cap→E.fp q.bR∨E.w0.heap.size≤q.bR):=by
  rcases Nat.eq_zero_or_pos cap with hc | hc
  ·refine ⟨⟨0,0,x.1⟩,rfl,hc,fun h=>by omega,fun h=>absurd h (Nat.lt_irrefl _),⟨#[],0,rfl,fun h=>absurd h (Nat.lt_irrefl _),by simp,by show x.2.1≤0;omega,fun h=>absurd h (Nat.lt_irrefl _),fun j hj=>absurd hj (by show ¬ j < x.2.1;omega),fun j l y u hj=>absurd hj (by show ¬ j < x.2.1;omega),fun hz=>absurd hz (by simp_all)⟩,fun h=>absurd h (Nat.lt_irrefl _)⟩
  ·grind
 obtain ⟨q,q1,q2,q3,q4,⟨c',T',q5⟩,q6⟩:=hq
 have L9:∀ n p,μ n=some p→bz μ nk q n=some p:=fun n p h=>by
  grind [bz]
 have Hp:0 < q.cap→ptrTo (.slice a x.2.1 cap) q.bR:=fun h=>⟨_,_,by rw [q3 (q4 h)],q4 h⟩
 have ext:Ext w S μ w S (bz μ nk q):=⟨a7 _,fun _ h=>h,fun _ _=>rfl,L9⟩
 let o':Ob:=⟨false,o.sz,o.len,false,fun m=>if m=i then [.os nk 0 x.2.1] else o.get m⟩
 let oq:Ob:=⟨false,x.1,x.2.1,true,x.2.2⟩
 have F5:∀ n y,ar (sset (sset σ k o') nk oq) n=some y→(n=nk∧y=oq)∨(n≠nk∧n=k∧y=o')∨(n≠nk∧n≠k∧ar σ n=some y):=by
  intro n y h
  rw [aP] at h
  by_cases hn:nk=n
  ·simp_all
  ·rw [if_neg hn,aP] at h
   grind
 have F6:∀ n p,n≠nk→bz μ nk q n=some p→μ n=some p:=fun n p hn h=>by simp_all [bz,if_neg]
 have Mx:∀ p,bz μ nk q nk=some p→p=q:=fun p h=>by unfold bz at h;simp_all
 have hold:∀ n y,ar (sset (sset σ k o') nk oq) n=some y→n≠nk→∃ y',ar σ n=some y':=fun n y h hn=>by
  grind
 refine ⟨q,ext,⟨g.fr,g.S0,g.S1,g.S2,⟨fun n y h=>?_,fun n n' y y' p p' iI h h' hp qL hc ml=>?_⟩,fun n y p h hp hc=>?_,fun n hn=>?_,?_⟩⟩
 ·rcases F5 n y h with ⟨rfl,rfl⟩ | ⟨hn,rfl,rfl⟩ | ⟨hn,UP,h⟩
  ·refine ⟨q,c',T',by simp [bz],q5.sz,q5.bR,q5.cap,q5.len,q5.out,q5.qK,fun j l y u hj hy hu=>q5.rep j l y u hj hy hu,fun hz=>absurd hz (by grind)⟩
  ·refine ⟨pl,c,T,L9 _ _ hm,b9.Kq (by omega) L9 i [.os nk 0 x.2.1] (by rw [oX];rfl) fun j y u _ hy hu=>?_⟩
   cases j with
   | succ j=>simp at hy
   | zero =>
    simp at hy
    subst hy
    obtain ⟨o2,p2,b1,b2,b3,b4⟩:=hv
    rw [ho] at b1;cases b1
    rw [hm] at b3;cases b3
    have Az:c[i * o.sz+0]?=some (.slice a x.2.1 cap):=by
     have:=cell_of_row w pl.bR (i * pl.sz) _ _ _ ((b9.bR (by have:=b9.len;omega)).trans (congrArg some (dS (by omega) c T)))
     rw [this,b9.sz] at b4
     exact b4
    rw [Az] at hu;cases hu
    exact .os q (by simp [bz]) (fun hc=>by rw [q3 hc];simp) h1 (by omega)
  ·obtain ⟨p,c2,T2,BN,Kn⟩:=g.rep.ob n y h
   exact ⟨p,c2,T2,L9 _ _ BN,Kn.ext ext (fun _=>rfl) Kn.out⟩
 ·by_cases hn:n=nk<;>by_cases ET:n'=nk
  ·exact absurd (hn.trans ET.symm) iI
  ·subst hn
   cases Mx p hp
   obtain ⟨y2,D1⟩:=hold n' y' h' ET
   exact fun e=>g.mx.obj _ _ _ _ _ hv (Hp hc) n' y2 p' D1 (F6 _ _ ET qL) ml e.symm
  ·subst ET
   cases Mx p' qL
   obtain ⟨y2,D1⟩:=hold n y h hn
   exact g.mx.obj _ _ _ _ _ hv (Hp ml) n y2 p D1 (F6 _ _ hn hp) hc
  ·obtain ⟨y2,D1⟩:=hold n y h hn
   obtain ⟨Sv,OU⟩:=hold n' y' h' ET
   exact g.rep.ne n n' y2 Sv p p' iI D1 OU (F6 _ _ hn hp) (F6 _ _ ET qL) hc ml
 ·by_cases hn:n=nk
  ·subst hn
   cases Mx p hp
   exact q6 hc
  ·obtain ⟨y2,D1⟩:=hold n y h hn
   exact g.own n y2 p D1 (F6 _ _ hn hp) hc
 ·unfold bz;rw [if_neg (by omega)];exact g.Bw n hn
 ·have key:∀ n j y u,fJ w (bz μ nk q) (sset (sset σ k o') nk oq) n j y u→fJ w μ σ n j y u∧¬ (n=k∧j=i):=by
   rintro n j y u ⟨o2,p2,b1,b2,b3,b4⟩
   rcases F5 n o2 b1 with ⟨rfl,rfl⟩ | ⟨hn,rfl,rfl⟩ | ⟨hn,UP,h⟩
   ·rw [h2.2 j] at b2;cases b2
   ·obtain ⟨_,e2,e3⟩:=ca b2
    have e3:(if j=i then [AV.os nk 0 x.2.1] else o.get j)=[.mr y.1 y.2.1 y.2.2]:=e3
    split at e3
    ·cases e3
    ·rename_i Ma
     exact ⟨⟨o,p2,ho,iX ya e2 e3,F6 _ _ hn b3,b4⟩,fun h=>Ma h.2⟩
   ·exact ⟨⟨o2,p2,h,b2,F6 _ _ hn b3,b4⟩,fun h=>UP h.1⟩
  refine ⟨fun n j y u h=>g.mx.row _ _ _ _ (key n j y u h).1,fun n j y u b h hb n' y' p' h1 h2 h3 he=>?_,fun n j y u b n' j' y' u' h h' hb wD=>g.mx.two _ _ _ _ _ _ _ _ _ (key _ _ _ _ h).1 (key _ _ _ _ h').1 hb wD⟩
  obtain ⟨pW,iI⟩:=key n j y u h
  by_cases hn:n'=nk
  ·subst hn
   cases Mx p' h2
   obtain ⟨e1,e2⟩:=g.mx.two _ _ _ _ _ _ _ _ _ pW hv hb (he ▸ Hp h3)
   exact iI ⟨e1,e2⟩
  ·obtain ⟨y2,D1⟩:=hold n' y' h1 hn
   exact g.mx.obj _ _ _ _ _ pW hb n' y2 p' D1 (F6 _ _ hn h2) h3 he
theorem Good.cls (g:Good E σ S μ w) {k q i:Nat} {o oq:Ob} (ho:ar σ k=some o) (OV:ar σ q=some oq) (UK:k≠q) (ya:o.var=false) (VF:oq.var=false) (P3:oq.pr=true) (VG:1≤oq.sz)
  (hi:i < o.len) (nR:o.get i=[.os q 0 oq.len]) (Dq:∀ j,rowOf oq j=none) :
  Good E (sset (r9 σ q) k ⟨false,o.sz,o.len,false,fun m=>if m=i then [.mr oq.sz oq.len oq.get] else o.get m⟩) S μ w:=by
 obtain ⟨pl,c,T,hm,b9⟩:=g.rep.ob k o ho
 obtain ⟨pq,cq,Tq,Qy,Kr⟩:=g.rep.ob q oq OV
 have oX:o.sz=1:=by have:=b9.qK i hi;rw [nR] at this;simpa using this.symm
 let o':Ob:=⟨false,o.sz,o.len,false,fun m=>if m=i then [.mr oq.sz oq.len oq.get] else o.get m⟩
 have F5:∀ n y,ar (sset (r9 σ q) k o') n=some y→n≠q∧((n=k∧y=o')∨(n≠k∧ar σ n=some y)):=by
  intro n y h
  rw [aP] at h
  by_cases hn:k=n
  ·simp_all
  ·rw [if_neg hn,dY] at h
   grind
 have hold:∀ n y,ar (sset (r9 σ q) k o') n=some y→n≠q∧∃ y',ar σ n=some y':=fun n y h=>by
  grind
 -- the cell that names the row
 have Az:∃ a cap,c[i * o.sz+0]?=some (.slice a oq.len cap)∧w.cell? ⟨pl.bR,i * pl.sz,none⟩=some (.slice a oq.len cap)∧oq.len≤cap∧cap≤pq.cap∧(0 < cap→a=some ⟨pq.bR,0,none⟩):=by
  obtain ⟨u,b1,b2⟩:=bW b9 (i:=i) (j:=0) hi (by omega)
  have:=fy (b9.rep i 0 (.os q 0 oq.len) u hi (by rw [nR];rfl) b1)
  cases this with
  | os hH eM e1 e2 e3 =>
   rename_i cap a
   rw [Qy] at eM;cases eM
   exact ⟨a,cap,b1,by rw [b9.sz];simpa using b2,e2,by omega,fun h=>by rw [e1 h];simp⟩
 obtain ⟨a,cap,d1,d2,d3,d4,d5⟩:=Az
 have td:FT E.fp E.w0.heap.size w S (.slice a oq.len cap) (oq.sz,oq.len,oq.get):=by
  refine ⟨a,cap,rfl,d3,⟨VG,fun j=>?_⟩,fun hc=>⟨pq.bR,cq,Tq,d5 hc,⟨rfl,fun _=>?_,?_,d3,fun _=>Kr.out (by omega),Kr.qK,fun j l y u hj hy hu=>?_,fun hz=>absurd hz (by show oq.sz≠0;omega)⟩,g.own q oq pq OV Qy (by omega)⟩⟩
  ·cases hr:rowOf ⟨false,oq.sz,oq.len,true,oq.get⟩ j with
   | none=>rfl
   | some y =>
    obtain ⟨_,r2,r3⟩:=ca hr
    have:=iX VF r2 r3
    simp_all
  ·exact Kr.bR (by omega)
  ·exact gp (cG _ d4) Kr.cap
  ·have:=Kr.rep j l y u hj hy hu
   simp_all
 have key:∀ n j y u,fJ w μ (sset (r9 σ q) k o') n j y u→(fJ w μ σ n j y u∧¬ (n=k∧j=i))∨(n=k∧j=i∧y=(oq.sz,oq.len,oq.get)∧u=.slice a oq.len cap):=by
  rintro n j y u ⟨o2,p2,b1,b2,b3,b4⟩
  obtain ⟨h0,⟨rfl,rfl⟩ | ⟨hn,h1⟩⟩:=F5 n o2 b1
  ·rw [hm] at b3;cases b3
   obtain ⟨_,e2,e3⟩:=ca b2
   have e4:(if j=i then [AV.mr oq.sz oq.len oq.get] else o.get j)=[.mr y.1 y.2.1 y.2.2]:=e3
   clear e3
   by_cases Ma:j=i
   ·simp_all
   ·rw [if_neg Ma] at e4
    have e3:=e4
    exact .inl ⟨⟨o,pl,ho,iX ya e2 e3,hm,b4⟩,fun h=>Ma h.2⟩
  ·exact .inl ⟨⟨o2,p2,h1,b2,b3,b4⟩,fun h=>hn h.1⟩
 have Hp:∀ b,ptrTo (.slice a oq.len cap) b→pq.bR=b∧0 < pq.cap:=by
  rintro b ⟨l,cp,e,hc⟩
  injection e with e1 e2 e3
  subst e3
  rw [d5 hc] at e1
  injection e1 with e1
  injection e1 with e1
  exact ⟨e1,by omega⟩
 refine ⟨g.fr,g.S0,g.S1,g.S2,⟨fun n y h=>?_,fun n n' y y' p p' iI h h' hp qL hc ml=>?_⟩,fun n y p h hp hc=>?_,g.Bw,?_⟩
 ·obtain ⟨h0,⟨rfl,rfl⟩ | ⟨hn,h1⟩⟩:=F5 n y h
  ·exact ⟨pl,c,T,hm,b9.Kq (by omega) (fun _ _ h=>h) i _ (by rw [oX];rfl) fun j y u _ hy hu=>by
    cases j with
    | zero=>simp at hy;subst hy;exact .mr
    | succ j=>simp at hy⟩
  ·exact g.rep.ob n y h1
 ·obtain ⟨_,y2,D1⟩:=hold n y h
  obtain ⟨_,Sv,OU⟩:=hold n' y' h'
  exact g.rep.ne n n' y2 Sv p p' iI D1 OU hp qL hc ml
 ·obtain ⟨_,y2,D1⟩:=hold n y h
  exact g.own n y2 p D1 hp hc
 ·refine ⟨fun n j y u h=>?_,fun n j y u b h hb n' y' p' h1 h2 h3 he=>?_,fun n j y u b n' j' y' u' h h' hb wD=>?_⟩
  ·rcases key n j y u h with ⟨h,_⟩ | ⟨_,_,rfl,rfl⟩
   ·exact g.mx.row _ _ _ _ h
   ·exact td
  ·obtain ⟨VH,y2,D1⟩:=hold n' y' h1
   rcases key n j y u h with ⟨h,_⟩ | ⟨_,_,rfl,rfl⟩
   ·exact g.mx.obj _ _ _ _ _ h hb n' y2 p' D1 h2 h3 he
   ·obtain ⟨e1,e2⟩:=Hp b hb
    exact g.rep.ne n' q y2 oq p' pq VH D1 OV h2 Qy h3 e2 (he.trans e1.symm)
  ·rcases key n j y u h with ⟨h,_⟩ | ⟨n1,j1,rfl,rfl⟩<;>rcases key n' j' y' u' h' with ⟨h',_⟩ | ⟨n2,j2,rfl,rfl⟩
   ·exact g.mx.two _ _ _ _ _ _ _ _ _ h h' hb wD
   ·obtain ⟨e1,e2⟩:=Hp b wD
    exact (g.mx.obj _ _ _ _ _ h hb q oq pq OV Qy e2 e1).elim
   ·obtain ⟨e1,e2⟩:=Hp b hb
    exact (g.mx.obj _ _ _ _ _ h' wD q oq pq OV Qy e2 e1).elim
   ·exact ⟨n1.trans n2.symm,j1.trans j2.symm⟩
end
mutual
def AV.iH (f:Nat→Option Nat):AV→AV
 | .op k i j=>match f k with
  | some k'=>.op k' i j
  | none=>.k6
 | .os k off len=>match f k with
  | some k'=>.os k' off len
  | none=>.k6
 | .agg cs=>.agg (AV.rr f cs)
 | .tup cs=>.tup (AV.rr f cs)
 | .fn g a b=>.fn g (AV.rr f a) (AV.rr f b)
 | .when b x=>.when b (x.iH f)
 | .mp k=>match f k with
  | some k'=>.mp k'
  | none=>.k6
 | .bn n=>.bn n
 | .pt b cs=>.pt b cs
 | .atom v=>.atom v
 | .sl n g=>.sl n g
 | .rp c o=>.rp c o
 | .ov _ _ _ _ _=>.k6
 | .za _ _ _=>.k6
 | .nq st x=>.nq st (x.iH f)
 | .nil=>.nil
 | .k6=>.k6
 | .mr sz n g=>.mr sz n g
def AV.rr (f:Nat→Option Nat):List AV→List AV
 | []=>[]
 | c :: cs=>c.iH f :: AV.rr f cs
end
theorem tl (f:Nat→Option Nat) (cs:List AV):AV.rr f cs=cs.map (·.iH f):=by
 induction cs with
 | nil=>rfl
 | cons c cs ih=>simp [AV.rr,ih]
theorem an.iH {w:World} {S:Nat→Prop} {μ:Mu} {v:Value} {x:AV} (h:an w S μ v x) :
  ∀ {cu:Mu} {f:Nat→Option Nat},(∀ k k' pl,f k=some k'→μ k=some pl→cu k'=some pl)→an w S cu v (x.iH f):=by
 induction h with
 | atom v=>exact fun _=>.atom v
 | agg h1 h2 ih =>
  intro cu f hf
  simp only [AV.iH,tl]
  refine .agg (by simp [h1]) fun j c v hc hv=>?_
  grind
 | tup h1 h2 ih =>
  intro cu f hf
  simp only [AV.iH,tl]
  refine .tup (by simp [h1]) fun j c v hc hv=>?_
  grind
 | sl b off sz f h1 h2 h3 h4 h5 _=>exact fun _=>.sl b off sz f h1 h2 h3 h4 h5
 | rp b o f h1 h2 h3 _=>exact fun _=>.rp b o f h1 h2 h3
 | @op μ k i j pl h =>
  grind [AV.iH,op,k6]
 | @os μ k off len cap a pl h h1 h2 h3 =>
  grind [AV.iH,os,k6]
 | fn h1 h2 _ _ Jg Jh =>
  intro cu f hf
  simp only [AV.iH,tl]
  refine .fn (by simp [h1]) (by simp [h2]) (fun j c v hc hv=>?_) (fun j c v hc hv=>?_)
  ·grind
  grind
 | when _ hu ih=>exact fun hf=>.when (fun hb=>ih hb hf) hu
 | @mp μ k pl h =>
  grind [AV.iH,mp,k6]
 | bn b h=>exact fun _=>.bn b h
 | pt h1 h2 _ =>
  intro cu f hf
  exact .pt (fun hb=>by have:=h1 hb;cases this with
   | rp b o f q1 q2 q3=>exact .rp b o f q1 q2 q3) h2
 | ov=>exact fun _=>.k6
 | za=>exact fun _=>.k6
 | nq _ h1 h2 ih=>exact fun hf=>.nq (ih hf) h1 h2
 | nil=>exact fun _=>.nil
 | k6=>exact fun _=>.k6
 | mr=>exact fun _=>.mr
def Ob.iH (f:Nat→Option Nat) (o:Ob):Ob :=
 match o.pr with
 | true=>o
 | false=>{ o with get:=fun i=>AV.rr f (o.get i) }
theorem Ob.p6 (f:Nat→Option Nat) (o:Ob):(o.iH f).sz=o.sz:=by grind [Ob.iH]
theorem Ob.v5 (f:Nat→Option Nat) (o:Ob):(o.iH f).len=o.len:=by grind [Ob.iH]
theorem Ob.zo (f:Nat→Option Nat) (o:Ob):(o.iH f).pr=o.pr:=by grind [Ob.iH]
theorem Ks {f:Nat→Option Nat} {cs:List AV} {sz n:Nat} {g:Nat→List AV} (h:AV.rr f cs=[.mr sz n g]):cs=[.mr sz n g]:=by
 cases cs with
 | nil=>cases h
 | cons c cs =>
  cases cs with
  | cons d ds=>simp [AV.rr] at h
  | nil =>
   simp only [AV.rr,List.cons.injEq,and_true] at h
   cases c with
   | op=>grind [AV.iH]
   | os=>grind [AV.iH]
   | mp=>grind [AV.iH]
   | mr=>simpa [AV.iH] using h
   | _=>cases h
theorem nT (f:Nat→Option Nat) (o:Ob) (i:Nat) (x:Nat×Nat×(Nat→List AV)):rowOf (o.iH f) i=some x↔rowOf o i=some x:=by
 unfold Ob.iH
 split
 ·exact Iff.rfl
 ·constructor
  ·intro h
   obtain ⟨h1,h2,h3⟩:=ca h
   grind [iX,Ks]
  ·intro h
   obtain ⟨h1,h2,h3⟩:=ca h
   exact iX h1 h2 (by show AV.rr f (o.get i)=_;rw [h3];rfl)
theorem eJ.iH {w:World} {S:Nat→Prop} {μ cu:Mu} {o:Ob} {pl:Place} {c:Array Value} {T:TypeId} (h:eJ w S μ o pl c T) {f:Nat→Option Nat}
  (hf:∀ k k' pl,f k=some k'→μ k=some pl→cu k'=some pl):eJ w S cu (o.iH f) pl c T:=by
 refine ⟨(Ob.p6 f o).symm ▸ h.sz,(Ob.p6 f o).symm ▸ h.bR,(Ob.p6 f o).symm ▸ h.cap,(Ob.v5 f o).symm ▸ h.len,h.out,?_,?_,fun hz=>?_⟩
 rotate_left 2
 ·rw [Ob.p6] at hz
  obtain ⟨h0,h1,h2,h3,h4⟩:=h.mp hz
  grind [Ob.iH]
 ·intro i hi
  rw [Ob.v5] at hi
  rw [Ob.p6,← h.qK i hi]
  grind [Ob.iH,tl]
 ·intro i j x v hi hx hv
  rw [Ob.v5] at hi
  rw [Ob.p6] at hv
  rw [Ob.zo]
  unfold Ob.iH at hx
  split at hx
  ·rename_i hp
   have:=h.rep i j x v hi hx hv
   simp_all
  ·rename_i hp
   simp only [tl,List.getElem?_map,aE] at hx
   obtain ⟨y,hy,rfl⟩:=hx
   have:=h.rep i j y v hi hy hv
   rw [hp] at this ⊢
   exact this.iH hf
def idx:List Nat→Nat→Option Nat
 | [],_=>none
 | a :: r,k=>match Nat.beq a k with
  | true=>some 0
  | false=>(idx r k).map (·+1)
theorem la:∀ (ks:List Nat) (k i:Nat),idx ks k=some i→ks[i]?=some k
 | [],k,i,h=>by simp [idx] at h
 | a :: r,k,i,h=>by
  simp only [idx] at h
  split at h
  ·rename_i hb
   cases h
   simp [bj hb]
  ·simp only [aE] at h
   obtain ⟨i',pM,rfl⟩:=h
   simpa using la r k i' pM
mutual
def AV.eu (σ:cz) (ks:List Nat):AV→Option (AV×List Nat×List Prop)
 | .op k i j=>match idx ks k with
  | some n=>some (.op n i j,[],[])
  | none=>some (.k6,[],[])
 | .os k off len=>match idx ks k with
  | some n=>some (.os n off len,[],[])
  | none=>match ar σ k with
   | some o=>match o.pr with
    | true=>some (.sl len (fun i=>o.get (a8 off i)),[k],[off+len≤o.len])
    | false=>none
   | none=>none
 | .agg cs=>(AV.nP σ ks cs).map fun (a,b,c)=>(.agg a,b,c)
 | .tup cs=>(AV.nP σ ks cs).map fun (a,b,c)=>(.tup a,b,c)
 | .fn g x y=>match AV.nP σ ks x,AV.nP σ ks y with
  | some (a,b,c),some (a',b',c')=>some (.fn g a a',b ++ b',c ++ c')
  | _,_=>none
 | .when _ _=>none
 | .ov _ _ _ _ _=>none
 | .za _ _ _=>none
 | .nq _ _=>none
 | .mp k=>(idx ks k).map fun n=>(.mp n,[],[])
 | .bn n=>some (.bn n,[],[])
 | .pt b cs=>some (.pt b cs,[],[])
 | .atom v=>some (.atom v,[],[])
 | .sl n g=>some (.sl n g,[],[])
 | .rp c o=>some (.rp c o,[],[])
 | .nil=>some (.nil,[],[])
 | .k6=>some (.k6,[],[])
 | .mr _ _ _=>none
def AV.nP (σ:cz) (ks:List Nat):List AV→Option (List AV×List Nat×List Prop)
 | []=>some ([],[],[])
 | c :: cs=>match c.eu σ ks,AV.nP σ ks cs with
  | some (a,b,p),some (a',b',p')=>some (a :: a',b ++ b',p ++ p')
  | _,_=>none
end
def iZ (μ:Mu) (ks:List Nat):Mu:=fun i=>(ks[i]?).bind μ
def u6 (μ:Mu) (bs:List Nat) (b:Nat):Prop:=∃ k∈bs,∃ pl,μ k=some pl∧0 < pl.cap∧pl.bR=b
theorem yc {μ:Mu} {ks:List Nat}:∀ k i pl,idx ks k=some i→μ k=some pl→iZ μ ks i=some pl:=by
 intro k i pl h hm
 simp [iZ,la ks k i h,hm]
section
variable {P:Program} {E:Env} {nk:Nat} {σ:cz} {S:Nat→Prop} {μ:Mu} {w:World}
theorem Kt (g:Good E σ S μ w) {ks:List Nat} {v:Value} {x:AV} (h:an w S μ v x):∀ (S':Nat→Prop),(∀ b,S b→S' b)→∀ {y:AV} {bs:List Nat} {ps:List Prop},
  x.eu σ ks=some (y,bs,ps)→aV ps→(∀ b,u6 μ bs b→S' b)→an w S' (iZ μ ks) v y:=by
 have lists:∀ {μ:Mu} {vs:Array Value} {cs:List AV} (S':Nat→Prop),
   (∀ (j:Nat) (c:AV) (v:Value),cs[j]?=some c→vs[j]?=some v→∀ {y:AV} {bs:List Nat} {ps:List Prop},c.eu σ ks=some (y,bs,ps)→aV ps→(∀ b,u6 μ bs b→S' b)→an w S' (iZ μ ks) v y) →
   ∀ {ys:List AV} {bs:List Nat} {ps:List Prop},AV.nP σ ks cs=some (ys,bs,ps)→aV ps→(∀ b,u6 μ bs b→S' b) →
   ys.length=cs.length∧∀ (j:Nat) (c:AV) (v:Value),ys[j]?=some c→vs[j]?=some v→an w S' (iZ μ ks) v c:=by
  intro μ vs cs S' h
  have gen:∀ (cs:List AV) (o:Nat),(∀ (j:Nat) (c:AV) (v:Value),cs[j]?=some c→vs[o+j]?=some v→∀ {y:AV} {bs:List Nat} {ps:List Prop},c.eu σ ks=some (y,bs,ps)→aV ps→(∀ b,u6 μ bs b→S' b)→an w S' (iZ μ ks) v y) →
   ∀ {ys:List AV} {bs:List Nat} {ps:List Prop},AV.nP σ ks cs=some (ys,bs,ps)→aV ps→(∀ b,u6 μ bs b→S' b) →
   ys.length=cs.length∧∀ (j:Nat) (c:AV) (v:Value),ys[j]?=some c→vs[o+j]?=some v→an w S' (iZ μ ks) v c:=by
   intro cs
   induction cs with
   | nil =>
    intro o _ ys bs ps h _ _
    simp [AV.nP] at h
    simp_all
   | cons c cs ih =>
    intro o hh ys bs ps h hp hb
    simp only [AV.nP] at h
    split at h
    ·rename_i a b p a' b' p' h1 h2
     simp only [aA,ax] at h
     obtain ⟨rfl,rfl,rfl⟩:=h
     obtain ⟨xk,wE⟩:=aV.app hp
     have RI:=ih (o+1) (fun j c v hc hv=>hh (j+1) c v (by simpa using hc) (by grind)) h2 wE (fun q hq=>hb q (by obtain ⟨k,hk,r⟩:=hq;exact ⟨k,by simp [hk],r⟩))
     refine ⟨by simp [RI.1],?_⟩
     intro j c' v hc hv
     cases j with
     | zero =>
      simp at hc;subst hc
      exact hh 0 c v (by simp) hv h1 xk (fun q hq=>hb q (by obtain ⟨k,hk,r⟩:=hq;exact ⟨k,by simp [hk],r⟩))
     | succ j=>grind
    ·cases h
  intro ys bs ps h1 h2 h3
  have:=gen cs 0 (fun j c v hc hv=>h j c v hc (by simpa using hv)) h1 h2 h3
  exact ⟨this.1,fun j c v hc hv=>this.2 j c v hc (by simpa using hv)⟩
 intro S' hS
 have h0:=h
 clear h
 have key:∀ {AB:Mu} {v:Value} {x:AV},an w S AB v x→AB=μ→∀ {y:AV} {bs:List Nat} {ps:List Prop},x.eu σ ks=some (y,bs,ps)→aV ps→(∀ b,u6 μ bs b→S' b)→an w S' (iZ μ ks) v y:=by
  intro AB v x h
  induction h with
  | atom v=>intro _ y bs ps h _ _;simp [AV.eu] at h;obtain ⟨rfl,_,_⟩:=h;exact .atom v
  | agg h1 h2 ih =>
   intro e y bs ps h hp hb
   subst e
   simp only [AV.eu,aE] at h
   obtain ⟨⟨a,b,c⟩,h,e⟩:=h
   simp only [ax] at e
   obtain ⟨rfl,rfl,rfl⟩:=e
   obtain ⟨q1,q2⟩:=lists S' (fun j c v hc hv=>ih j c v hc hv rfl) h hp hb
   exact .agg (h1.trans q1.symm) q2
  | tup h1 h2 ih =>
   intro e y bs ps h hp hb
   subst e
   simp only [AV.eu,aE] at h
   obtain ⟨⟨a,b,c⟩,h,e⟩:=h
   simp only [ax] at e
   obtain ⟨rfl,rfl,rfl⟩:=e
   obtain ⟨q1,q2⟩:=lists S' (fun j c v hc hv=>ih j c v hc hv rfl) h hp hb
   exact .tup (h1.trans q1.symm) q2
  | @sl AB a len cap get b off sz f h1 h2 h3 h4 h5 _ =>
   intro _ y bs ps h _ _
   simp [AV.eu] at h;obtain ⟨rfl,_,_⟩:=h
   have:=(an.sl (μ:=iZ μ ks) b off sz f h1 h2 h3 h4 h5)
   exact this.mono hS (fun _ _=>rfl) (fun _ _ h=>h)
  | @rp AB cs off b o f h1 h2 h3 _ =>
   intro _ y bs ps h _ _
   simp [AV.eu] at h;obtain ⟨rfl,_,_⟩:=h
   have:=(an.rp (μ:=iZ μ ks) (off:=off) b o f h1 h2 h3)
   exact this.mono hS (fun _ _=>rfl) (fun _ _ h=>h)
  | @op AB k i j pl hm =>
   intro e y bs ps h _ _
   subst e
   simp only [AV.eu] at h
   split at h
   ·rename_i n hn
    simp at h;obtain ⟨rfl,_,_⟩:=h
    exact .op pl (yc _ _ _ hn hm)
   ·simp at h;obtain ⟨rfl,_,_⟩:=h
    exact .k6
  | @os AB k off len cap a pl hm h1 h2 h3 =>
   intro e y bs ps h hp hb
   subst e
   simp only [AV.eu] at h
   split at h
   ·rename_i n hn
    simp at h;obtain ⟨rfl,_,_⟩:=h
    exact .os pl (yc _ _ _ hn hm) h1 h2 h3
   ·split at h
    ·rename_i o ho
     split at h
     ·rename_i Hc
      simp only [aA,ax] at h
      obtain ⟨hy,rfl,rfl⟩:=h
      have hle:=hp.1
      obtain ⟨hH,c,T,eM,b9⟩:=g.rep.ob k o ho
      rw [hm] at eM;cases eM
      have OH:y=.sl len fun i=>o.get (off+i):=by
       rw [← hy]
       simp only [cl]
      rw [OH]
      refine .sl pl.bR (off * pl.sz) o.sz (fun i j=>(c[(off+i) * o.sz+j]?).getD undef) ?_ (fun i hi=>b9.qK _ (by omega)) ?_ ?_ h2
      ·intro hl
       exact ⟨h1 (by omega),hb _ ⟨k,by simp,pl,hm,by omega,rfl⟩⟩
      ·intro i j hi hj
       obtain ⟨v,q1,q2⟩:=bW b9 (i:=off+i) (by omega) hj
       rw [q1,b9.sz,← bL,q2];rfl
      ·intro i j c' hi ml
       obtain ⟨v,q1,q2⟩:=bW b9 (i:=off+i) (by omega) (by have:=(cJ.1 ml).1;rwa [b9.qK _ (by omega)] at this)
       rw [q1]
       have:=b9.rep _ j c' v (by omega) ml q1
       rw [Hc] at this
       exact an.mono (S:=S) (S':=S') hS (fun _ _=>rfl) this (fun _ _ h=>h)
     ·cases h
    ·cases h
  | fn h1 h2 _ _ Jg Jh =>
   intro e y bs ps h hp hb
   subst e
   simp only [AV.eu] at h
   split at h
   ·rename_i a b c a' b' c' e1 e2
    simp only [aA,ax] at h
    obtain ⟨rfl,rfl,rfl⟩:=h
    obtain ⟨xk,wE⟩:=aV.app hp
    obtain ⟨q1,q2⟩:=lists S' (fun j c v hc hv=>Jg j c v hc hv rfl) e1 xk (fun q hq=>hb q (by obtain ⟨k,hk,r⟩:=hq;exact ⟨k,by simp [hk],r⟩))
    obtain ⟨r1,r2⟩:=lists S' (fun j c v hc hv=>Jh j c v hc hv rfl) e2 wE (fun q hq=>hb q (by obtain ⟨k,hk,r⟩:=hq;exact ⟨k,by simp [hk],r⟩))
    exact .fn (h1.trans q1.symm) (h2.trans r1.symm) q2 r2
   ·cases h
  | when=>intro _ y bs ps h;simp [AV.eu] at h
  | ov=>intro _ y bs ps h;simp [AV.eu] at h
  | za=>intro _ y bs ps h;simp [AV.eu] at h
  | nq=>intro _ y bs ps h;simp [AV.eu] at h
  | @mp AB k pl hm =>
   intro e y bs ps h _ _
   subst e
   simp only [AV.eu,aE,ax] at h
   obtain ⟨n,hn,rfl,_,_⟩:=h
   exact .mp pl (yc _ _ _ hn hm)
  | bn b hb=>intro _ y bs ps h _ _;simp [AV.eu] at h;obtain ⟨rfl,_,_⟩:=h;exact .bn b hb
  | pt h1 h2 _ =>
   intro _ y bs ps h _ _
   simp [AV.eu] at h;obtain ⟨rfl,_,_⟩:=h
   refine .pt (fun hb=>?_) h2
   have:=h1 hb
   cases this with
   | rp b o f q1 q2 q3 =>
    have:=(an.rp (μ:=iZ μ ks) (off:=0) b o f q1 q2 q3)
    exact this.mono hS (fun _ _=>rfl) (fun _ _ h=>h)
  | nil=>intro _ y bs ps h _ _;simp [AV.eu] at h;obtain ⟨rfl,_,_⟩:=h;exact .nil
  | k6=>intro _ y bs ps h _ _;simp [AV.eu] at h;obtain ⟨rfl,_,_⟩:=h;exact .k6
  | mr=>intro _ y bs ps h;simp [AV.eu] at h
 intro y bs ps h1 h2 h3
 exact key h0 rfl h1 h2 h3
end
end Go.Ab
namespace Go.Ab
structure YC where
 l:Nat
 as:List AV
 k:Nat
 o:Ob
 o':Ob
structure l8 where
 ks:List Nat
 same:Bool
 res:AV
 mc:cz
 dec:Nat
 uB:Bool
 y:Option YC
def Sw:Option l8→Option YC
 | none=>none
 | some o=>o.y
def Sx:Option l8→Nat
 | none=>0
 | some o=>o.dec
def Sy:Option l8→AV
 | none=>.k6
 | some o=>o.res
structure R where
 D2:List Prop
 val:AV
 Hd:List Nat
 ko:oZ
def F7 (P:Program) (g:FuncId):Bool :=
 match P.funcs[g]? with
 | some fn=>fn.body.isSome && !(fn.name == "runtime.NumGoroutine")
 | none=>false
def canon (σ:cz) (ks:List Nat):Nat→List Nat→Option cz
 | _,[]=>some []
 | i,k :: r=>match ar σ k,canon σ ks (i+1) r with
  | some o,some t=>some ((i,o.iH (idx ks)) :: t)
  | _,_=>none
def back (ks:List Nat) (nk n:Nat):Option Nat :=
 match ks[n]? with
 | some k=>some k
 | none=>match Nat.blt n (ks.length+16) with
  | true=>some (nk+(n - ks.length))
  | false=>none
def wY (ks:List Nat) (nk:Nat) (dm:cz):Nat→List Nat→oZ
 | _,[]=>[]
 | i,k :: r=>(k,(ar dm i).map (Ob.iH (back ks nk))) :: wY ks nk dm (i+1) r
def yd (ks:List Nat) (nk:Nat):cz→oZ
 | []=>[]
 | (n,o) :: r=>match Nat.ble ks.length n with
  | true=>(nk+(n - ks.length),some (o.iH (back ks nk))) :: yd ks nk r
  | false=>yd ks nk r
def kP:List Nat→Bool
 | []=>true
 | k :: r=>(idx r k).isNone && kP r
def BU (n:Nat):cz→Bool
 | []=>true
 | (k,_) :: r=>Nat.blt k n && BU n r
def Ob.flat (o:Ob):Bool:=o.var && Nat.beq o.len 1 && Nat.ble 1 o.sz && AV.uS (o.get 0)
mutual
def AV.FL:AV→Bool
 | .atom _ | .op _ _ _ | .os _ _ _ | .mp _ | .bn _ | .nil=>true
 | .agg cs | .tup cs=>AV.Jq cs
 | .fn _ a b=>AV.Jq a && AV.Jq b
 | _=>false
def AV.Jq:List AV→Bool
 | []=>true
 | c :: cs=>c.FL && AV.Jq cs
end
theorem BV {cs:List AV} (h:AV.Jq cs=true) {j:Nat} {c:AV} (hc:cs[j]?=some c):c.FL=true:=by
 induction cs generalizing j with
 | nil=>simp at hc
 | cons x xs ih =>
  simp only [AV.Jq,aR] at h
  grind
theorem an.FL {w:World} {S:Nat→Prop} {μ:Mu} {v:Value} {x:AV} (h:an w S μ v x):x.FL=true→∀ w' S',an w' S' μ v x:=by
 induction h with
 | atom v=>grind [atom]
 | agg h1 _ ih=>grind [agg,BV,AV.FL]
 | tup h1 _ ih=>grind [tup,BV,AV.FL]
 | op pl h=>grind [op]
 | os pl h h1 h2 h3=>grind [os]
 | fn h1 h2 _ _ Jg Jh =>
  intro hp w' S'
  simp only [AV.FL,aR] at hp
  grind [fn,BV]
 | mp pl h=>grind [mp]
 | bn b h=>grind [bn]
 | nil=>exact fun _ _ _=>.nil
 | sl=>grind [AV.FL]
 | rp=>grind [AV.FL]
 | «when»=>grind [AV.FL]
 | pt=>grind [AV.FL]
 | ov=>grind [AV.FL]
 | za=>grind [AV.FL]
 | nq=>grind [AV.FL]
 | k6=>grind [AV.FL]
 | mr=>grind [AV.FL]
def qX (o:Ob):Option (List Prop) :=
 match o.flat with
 | true=>some []
 | false=>match o.pr && Nat.ble 1 o.sz with
  | true=>some [∀ i,i < o.len→AV.uS (o.get i)=true]
  | false=>none
def ye (lone:Bool):cz→Option (List Prop)
 | []=>some []
 | (_,o) :: r=>match lone with
  | true=>some []
  | false=>match qX o,ye lone r with
   | some p,some q=>some (p ++ q)
   | _,_=>none
mutual
def AV.closed (f:Nat→Option Nat):AV→Bool
 | .op k _ _=>(f k).isSome
 | .os k _ _=>(f k).isSome
 | .mp k=>(f k).isSome
 | .ov _ _ _ _ _ | .za _ _ _ | .mr _ _ _=>false
 | .agg cs | .tup cs=>AV.tn f cs
 | .fn _ a b=>AV.tn f a && AV.tn f b
 | .when _ x=>x.closed f
 | .nq _ x=>x.closed f
 | _=>true
def AV.tn (f:Nat→Option Nat):List AV→Bool
 | []=>true
 | c :: cs=>c.closed f && AV.tn f cs
end
def Ob.closed (f:Nat→Option Nat) (o:Ob):Bool:=o.pr || (o.var && Nat.beq o.len 1 && AV.tn f (o.get 0))
def BW:List AV→Bool
 | [.mr _ _ _]=>true
 | _=>false
theorem D3 {f:Nat→Option Nat} {l:List AV} (h:BW l=true):AV.rr f l=l:=by
 unfold BW at h
 split at h
 ·rfl
 ·cases h
def zp (ks:List Nat) (lone:Bool) (o:Ob):Option (List Prop) :=
 match o.flat || (lone && o.closed (idx ks)) with
 | true=>some []
 | false=>match o.pr with
  | true=>qX o
  | false=>match lone && !o.var with
   | true=>some [∀ i,i < o.len→BW (o.get i)=true]
   | false=>none
def u7 (σ:cz) (ks:List Nat) (lone:Bool):List Nat→Option (List Prop)
 | []=>some []
 | k :: r=>match ar σ k with
  | some o=>match zp ks lone o,u7 σ ks lone r with
   | some p,some q=>some (p ++ q)
   | _,_=>none
  | none=>none
mutual
theorem BX {f g:Nat→Option Nat} (J0:∀ k i,f k=some i→g i=some k):∀ (x:AV),x.closed f=true→(x.iH f).iH g=x
 | .op k i j,h=>by
  obtain ⟨n,hn⟩:=Option.isSome_iff_exists.1 (by simpa [AV.closed] using h)
  simp [AV.iH,hn,J0 k n hn]
 | .os k i j,h=>by
  obtain ⟨n,hn⟩:=Option.isSome_iff_exists.1 (by simpa [AV.closed] using h)
  simp [AV.iH,hn,J0 k n hn]
 | .agg cs,h=>by simp only [AV.iH];rw [pN J0 cs (by simpa [AV.closed] using h)]
 | .tup cs,h=>by simp only [AV.iH];rw [pN J0 cs (by simpa [AV.closed] using h)]
 | .fn q a b,h=>by
  simp only [AV.closed,aR] at h
  simp only [AV.iH];rw [pN J0 a h.1,pN J0 b h.2]
 | .when b x,h=>by simp only [AV.iH];rw [BX J0 x (by simpa [AV.closed] using h)]
 | .nq b x,h=>by simp only [AV.iH];rw [BX J0 x (by simpa [AV.closed] using h)]
 | .mp k,h=>by
  obtain ⟨n,hn⟩:=Option.isSome_iff_exists.1 (by simpa [AV.closed] using h)
  simp [AV.iH,hn,J0 k n hn]
 | .ov _ _ _ _ _,h=>by simp [AV.closed] at h
 | .za _ _ _,h=>by simp [AV.closed] at h
 | .mr _ _ _,h=>by simp [AV.closed] at h
 | .bn _,_=>rfl
 | .pt _ _,_=>rfl
 | .atom _,_=>rfl
 | .sl _ _,_=>rfl
 | .rp _ _,_=>rfl
 | .nil,_=>rfl
 | .k6,_=>rfl
theorem pN {f g:Nat→Option Nat} (J0:∀ k i,f k=some i→g i=some k):∀ (cs:List AV),AV.tn f cs=true→AV.rr g (AV.rr f cs)=cs
 | [],_=>rfl
 | c :: cs,h=>by
  simp only [AV.tn,aR] at h
  simp only [AV.rr]
  rw [BX J0 c h.1,pN J0 cs h.2]
end
theorem BZ:∀ (ks:List Nat),kP ks=true→∀ (i j k:Nat),ks[i]?=some k→ks[j]?=some k→i=j
 | [],_,i,j,k,h,_=>by simp at h
 | a :: r,h,i,j,k,hi,hj=>by
  simp only [kP,aR] at h
  have none:∀ n:Nat,r[n]?=some a→False:=by
   intro n hn
   have:∀ (l:List Nat) (n:Nat),l[n]?=some a→(idx l a).isSome=true:=by
    intro l
    induction l with
    | nil=>intro n hn;simp at hn
    | cons b l ih =>
     intro n hn
     simp only [idx]
     cases hb:Nat.beq b a with
     | true=>rfl
     | false =>
      cases n with
      | zero=>simp at hn;rw [hn] at hb;simp at hb
      | succ n=>simpa using ih n (by simpa using hn)
   have:=this r n hn
   rw [Option.isNone_iff_eq_none] at h
   rw [h.1] at this
   cases this
  cases i with
  | zero =>
   simp at hi;subst hi
   cases j with
   | zero=>rfl
   | succ j=>exact (none j (by simpa using hj)).elim
  | succ i =>
   cases j with
   | zero=>simp at hj;subst hj;exact (none i (by simpa using hi)).elim
   | succ j=>rw [BZ r h.2 i j k (by simpa using hi) (by simpa using hj)]
theorem kr:∀ (ks:List Nat) (k:Nat),idx ks k=none→∀ i:Nat,ks[i]?≠some k
 | [],k,_,i=>by simp
 | a :: r,k,h,i=>by
  simp only [idx] at h
  split at h
  ·cases h
  ·rename_i hb
   have h':idx r k=none:=by simpa using h
   cases i with
   | zero=>intro e;simp_all
   | succ i=>simpa using kr r k h' i
theorem D4 {σ:cz} {ks:List Nat}:∀ (l:List Nat) (i:Nat) (ru:cz),canon σ ks i l=some ru →
  ∀ n,ar ru n=if i≤n then ((l[n - i]?).bind (ar σ)).map (Ob.iH (idx ks)) else none
 | [],i,ru,h,n=>by grind [canon,ar]
 | k :: r,i,ru,h,n=>by
  simp only [canon] at h
  split at h
  ·rename_i o t ho ht
   cases h
   simp only [ar]
   by_cases Im:i=n
   ·simp_all
   ·rw [mQ Im]
    show ar t n=_
    rw [D4 r (i+1) t ht n]
    grind
  ·cases h
theorem v7 {σ:cz} {ks:List Nat}:∀ (l:List Nat) (i:Nat) (ru:cz),canon σ ks i l=some ru→∀ k∈l,∃ o,ar σ k=some o
 | [],i,ru,h,k,hk=>by simp at hk
 | a :: r,i,ru,h,k,hk=>by
  simp only [canon] at h
  split at h
  ·rename_i o t ho ht
   rcases jW.1 hk with rfl | hk
   ·exact ⟨o,ho⟩
   ·exact v7 r (i+1) t ht k hk
  ·cases h
theorem zr {ks:List Nat} {nk:Nat} {dm:cz}:∀ (l:List Nat) (i:Nat) (σ:cz) (n:Nat),(∀ a b k:Nat,l[a]?=some k→l[b]?=some k→a=b) →
  ar (dL σ (wY ks nk dm i l)) n=match idx l n with
   | some j=>(ar dm (i+j)).map (Ob.iH (back ks nk))
   | none=>ar σ n
 | [],i,σ,n,_=>by simp [wY,dL,idx]
 | k :: r,i,σ,n,hd=>by
  have P4:∀ a b k:Nat,r[a]?=some k→r[b]?=some k→a=b:=fun a b q ha hb=>by
   have:=hd (a+1) (b+1) q (by simpa using ha) (by simpa using hb)
   omega
  have Sp:idx r k=none:=by
   cases hq:idx r k with
   | none=>rfl
   | some j =>
    have:=la r k j hq
    have:=hd 0 (j+1) k (by simp) (by simpa using this)
    omega
  simp only [wY]
  have step:ar (dL σ ((k,(ar dm i).map (Ob.iH (back ks nk))) :: wY ks nk dm (i+1) r)) n=match idx r n with
    | some j=>(ar dm (i+1+j)).map (Ob.iH (back ks nk))
    | none=>if k=n then (ar dm i).map (Ob.iH (back ks nk)) else ar σ n:=by
   cases hs:(ar dm i).map (Ob.iH (back ks nk)) with
   | some o =>
    simp only [dL]
    rw [zr r (i+1) _ n P4,aP]
   | none =>
    simp only [dL]
    rw [zr r (i+1) _ n P4,dY]
  rw [step]
  simp only [idx]
  by_cases ua:k=n
  ·subst ua
   rw [Sp,oV rfl]
   simp
  ·rw [mQ ua]
   cases hq:idx r n with
   | none=>simp [ua]
   | some j=>simp only [Option.map_some];rw [show i+1+j=i+(j+1) by omega]
def sc (z:Bool) (bs:List Nat):oZ:=match z with
 | true=>bs.map fun k=>(k,none)
 | false=>[]
theorem ku (z:Bool):∀ (bs:List Nat) (σ:cz) (n:Nat),ar (dL σ (sc z bs)) n=if z=true∧n∈bs then none else ar σ n:=by
 cases z with
 | false=>grind [sc,dL]
 | true =>
  intro bs
  induction bs with
  | nil=>grind [sc,dL]
  | cons k r ih =>
   intro σ n
   have:=ih (r9 σ k) n
   simp only [sc,List.map_cons,dL] at this ⊢
   rw [this,dY]
   by_cases h:k=n
   ·subst h;simp
   ·have h':¬ n=k:=fun e=>h e.symm
    simp [h,h']
theorem eB:∀ (u v:oZ) (σ:cz),dL σ (u ++ v)=dL (dL σ u) v
 | [],v,σ=>rfl
 | (k,some o) :: r,v,σ=>by simp only [List.cons_append,dL];exact eB r v _
 | (k,none) :: r,v,σ=>by simp only [List.cons_append,dL];exact eB r v _
def EU (n:Nat):cz→Bool
 | []=>true
 | (k,_) :: r=>Nat.ble n k && EU n r
theorem D5 {n:Nat}:∀ {τ:cz},EU n τ=true→∀ j,j < n→ar τ j=none
 | [],_,_,_=>rfl
 | (k,o) :: r,h,j,hj=>by
  simp only [EU,aR] at h
  simp only [ar]
  rw [mQ (by have:=Nat.le_of_ble_eq_true h.1;omega)]
  exact D5 h.2 j hj
theorem B0:∀ (σ τ:cz) (n:Nat),ar (σ ++ τ) n=match ar σ n with
  | some o=>some o
  | none=>ar τ n
 | [],τ,n=>rfl
 | (k,o) :: r,τ,n=>by
  simp only [List.cons_append,ar]
  split
  ·rfl
  ·exact B0 r τ n
def BB (P:Program) (ob:FuncId→List AV→cz→Nat→AV→cz→Prop) (nk:Nat) (σ:cz) (f:AV) (args:List AV) (aY:l8):Option R :=
 match f with
 | .fn (.func g) first cap=>match F7 P g,AV.nP σ aY.ks (first ++ (args ++ cap)),canon σ aY.ks 0 aY.ks with
  | true,some (as,bs,ps),some ru=>match kP aY.ks && (bs.isEmpty || aY.uB || aY.res.FL) with
   | true=>match aY.same with
    | true=>match aY.mc with
     | []=>match u7 σ aY.ks (bs.isEmpty || aY.uB) aY.ks with
      | some qs=>some ⟨ob g as ru aY.ks.length aY.res ru :: (qs ++ ps),aY.res.iH (back aY.ks nk),aY.ks ++ bs,sc aY.uB bs⟩
      | none=>none
     | q :: τ=>match bs.isEmpty || aY.uB,u7 σ aY.ks true aY.ks,EU aY.ks.length (q :: τ) && BU (aY.ks.length+16) (q :: τ) && kP ((q :: τ).map (·.1)) with
      | true,some qs,true=>some ⟨ob g as ru aY.ks.length aY.res (ru ++ q :: τ) :: (qs ++ ps),aY.res.iH (back aY.ks nk),aY.ks ++ bs,yd aY.ks nk (q :: τ) ++ sc aY.uB bs⟩
      | _,_,_=>none
    | false=>match BU (aY.ks.length+16) aY.mc && kP (aY.mc.map (·.1)),ye (bs.isEmpty || aY.uB) aY.mc with
     | true,some qs=>some ⟨ob g as ru aY.ks.length aY.res aY.mc :: (qs ++ ps),aY.res.iH (back aY.ks nk),aY.ks ++ bs,wY aY.ks nk aY.mc 0 aY.ks ++ (yd aY.ks nk aY.mc ++ sc aY.uB bs)⟩
     | _,_=>none
   | false=>none
  | _,_,_=>none
 | _=>none
def B1 (P:Program) (nk:Nat) (σ:cz) (f:AV) (args:List AV) (aY:l8):Option R:=BB P (Sound P) nk σ f args aY
theorem sd {ks:List Nat} {nk:Nat}:∀ (τ σ:cz) (n:Nat),BU (ks.length+16) τ=true→(n < nk∨nk+16≤n)→ar (dL σ (yd ks nk τ)) n=ar σ n
 | [],σ,n,_,_=>rfl
 | (k,o) :: r,σ,n,hl,hn=>by
  simp only [BU,aR] at hl
  have hk:k < ks.length+16:=by
   have:=hl.1
   simp only [Nat.blt,Nat.ble_eq] at this
   exact this
  simp only [yd]
  split
  ·rename_i hb
   have hb:=Nat.le_of_ble_eq_true hb
   simp only [dL]
   rw [sd r _ n hl.2 hn,aP,if_neg (by omega)]
  ·exact sd r σ n hl.2 hn
theorem F8:∀ (τ:cz) (n:Nat) (o:Ob),ar τ n=some o→n∈τ.map (·.1)
 | [],n,o,h=>by simp [ar] at h
 | (k,x) :: r,n,o,h=>by
  simp only [ar] at h
  split at h
  ·simp_all
  ·exact List.mem_cons_of_mem _ (F8 r n o h)
theorem yf {ks:List Nat} {nk:Nat}:∀ (τ σ:cz) (j:Nat),kP (τ.map (·.1))=true→ar (dL σ (yd ks nk τ)) (nk+j)=match ar τ (ks.length+j) with
   | some o=>some (o.iH (back ks nk))
   | none=>ar σ (nk+j)
 | [],σ,j,_=>rfl
 | (k,o) :: r,σ,j,hd=>by
  simp only [List.map_cons,kP,aR,Option.isNone_iff_eq_none] at hd
  simp only [yd,ar]
  by_cases hk:k=ks.length+j
  ·subst hk
   rw [oV rfl]
   have Dq:ar r (ks.length+j)=none:=by
    cases hs:ar r (ks.length+j) with
    | none=>rfl
    | some x =>
     obtain ⟨i,hi⟩:=List.getElem?_of_mem (F8 r _ x hs)
     grind [kr]
   have Sz:Nat.ble ks.length (ks.length+j)=true:=Nat.ble_eq_true_of_le (by omega)
   rw [Sz]
   simp only [dL]
   rw [yf r _ j hd.2,Dq]
   simp_all [aP,if_pos]
  ·rw [mQ hk]
   split
   ·rename_i hb
    have hb:=Nat.le_of_ble_eq_true hb
    simp only [dL]
    rw [yf r _ j hd.2]
    split
    ·rfl
    ·rw [aP,if_neg (by omega)]
   ·exact yf r σ j hd.2
mutual
theorem Jr {σ:cz} {ks:List Nat}:∀ (x y:AV) (bs:List Nat) (ps:List Prop),x.eu σ ks=some (y,bs,ps)→∀ k∈bs,idx ks k=none∧∃ o,ar σ k=some o
 | .op k i j,y,bs,ps,h=>by
  simp only [AV.eu] at h
  grind
 | .os k off len,y,bs,ps,h=>by
  simp only [AV.eu] at h
  grind
 | .agg cs,y,bs,ps,h=>by
  simp only [AV.eu,aE] at h
  obtain ⟨⟨a,b,c⟩,h,e⟩:=h
  simp only [ax] at e
  obtain ⟨rfl,rfl,rfl⟩:=e
  exact nU cs a b c h
 | .tup cs,y,bs,ps,h=>by
  simp only [AV.eu,aE] at h
  obtain ⟨⟨a,b,c⟩,h,e⟩:=h
  simp only [ax] at e
  obtain ⟨rfl,rfl,rfl⟩:=e
  exact nU cs a b c h
 | .fn g x z,y,bs,ps,h=>by
  simp only [AV.eu] at h
  split at h
  ·rename_i a b c a' b' c' e1 e2
   simp only [aA,ax] at h
   obtain ⟨_,rfl,_⟩:=h
   intro k hk
   rcases List.mem_append.1 hk with hk | hk
   ·exact nU x a b c e1 k hk
   ·exact nU z a' b' c' e2 k hk
  ·cases h
 | .when _ _,y,bs,ps,h=>by simp [AV.eu] at h
 | .ov _ _ _ _ _,y,bs,ps,h=>by simp [AV.eu] at h
 | .za _ _ _,y,bs,ps,h=>by simp [AV.eu] at h
 | .nq _ _,y,bs,ps,h=>by simp [AV.eu] at h
 | .mr _ _ _,y,bs,ps,h=>by simp [AV.eu] at h
 | .mp k,y,bs,ps,h=>by
  simp only [AV.eu,aE,ax] at h
  grind
 | .bn _,y,bs,ps,h=>by simp [AV.eu] at h;simp_all
 | .pt _ _,y,bs,ps,h=>by simp [AV.eu] at h;simp_all
 | .atom _,y,bs,ps,h=>by simp [AV.eu] at h;simp_all
 | .sl _ _,y,bs,ps,h=>by simp [AV.eu] at h;simp_all
 | .rp _ _,y,bs,ps,h=>by simp [AV.eu] at h;simp_all
 | .nil,y,bs,ps,h=>by simp [AV.eu] at h;simp_all
 | .k6,y,bs,ps,h=>by simp [AV.eu] at h;simp_all
theorem nU {σ:cz} {ks:List Nat}:∀ (xs ys:List AV) (bs:List Nat) (ps:List Prop),AV.nP σ ks xs=some (ys,bs,ps)→∀ k∈bs,idx ks k=none∧∃ o,ar σ k=some o
 | [],ys,bs,ps,h=>by simp [AV.nP] at h;simp_all
 | c :: cs,ys,bs,ps,h=>by
  simp only [AV.nP] at h
  split at h
  ·rename_i a b p a' b' p' e1 e2
   simp only [aA,ax] at h
   obtain ⟨_,rfl,_⟩:=h
   intro k hk
   rcases List.mem_append.1 hk with hk | hk
   ·exact Jr c a b p e1 k hk
   ·exact nU cs a' b' p' e2 k hk
  ·cases h
end
end Go.Ab
namespace Go.Ab
section
variable {P:Program} {E:Env} {nk:Nat} {σ:cz} {S:Nat→Prop} {μ:Mu} {w:World}
theorem RL.append {vs us:Array Value} {cs ds:List AV} (h:RL w S μ vs cs) (k:RL w S μ us ds):RL w S μ (vs ++ us) (cs ++ ds):=by
 refine ⟨by simp [h.1,k.1],?_⟩
 intro j c v hc hv
 have h1:=h.1
 by_cases hj:j < cs.length
 ·rw [gH hj] at hc
  rw [Array.getElem?_append_left (by omega)] at hv
  exact h.2 j c v hc hv
 ·rw [iW (by omega)] at hc
  rw [Array.getElem?_append_right (by omega),h1] at hv
  exact k.2 _ c v hc hv
theorem My (g:Good E σ S μ w) {ks:List Nat} {vs:Array Value} {cs ys:List AV} {bs:List Nat} {ps:List Prop} (h:RL w S μ vs cs) (S':Nat→Prop) (hS:∀ b,S b→S' b)
  (hl:AV.nP σ ks cs=some (ys,bs,ps)) (hp:aV ps) (hb:∀ b,u6 μ bs b→S' b):RL w S' (iZ μ ks) vs ys:=by
 have:=Kt g (ks:=ks) (an.agg h.1 h.2) S' hS (y:=.agg ys) (bs:=bs) (ps:=ps) (by simp [AV.eu,hl]) hp hb
 cases this with
 | agg h1 h2=>exact ⟨h1,h2⟩
theorem Ip {w':World} {S' xX:Nat→Prop} {cu BM:Mu} {o:Ob} {pl:Place} {c:Array Value} {T:TypeId} (h:eJ w' S' cu o pl c T) (hf:o.flat=true) (ho:0 < pl.cap→¬ xX pl.bR) :
  eJ w' xX BM o pl c T:=by
 unfold Ob.flat at hf
 simp only [aR] at hf
 have hl:=bj hf.1.1.2
 have UQ:=Nat.le_of_ble_eq_true hf.1.2
 refine { h with out:=ho,rep:=?_,mp:=fun hz=>absurd hz (by omega) }
 intro i j x v hi hx hv
 have:i=0:=by omega
 subst this
 exact (h.rep 0 j x v hi hx hv).flat (r8 hf.2 hx) _ _ _
mutual
theorem Js:∀ (x:AV),x.flat=true→x.pure=true
 | .atom _,_=>rfl
 | .nil,_=>rfl
 | .bn _,_=>rfl
 | .pt _ _,h=>by simp [AV.flat] at h
 | .mp _,h=>by simp [AV.flat] at h
 | .ov _ _ _ _ _,h=>by simp [AV.flat] at h
 | .za _ _ _,h=>by simp [AV.flat] at h
 | .nq _ _,h=>by simp [AV.flat] at h
 | .agg cs,h=>nW cs h
 | .tup cs,h=>nW cs h
 | .fn _ a b,h=>by
  simp only [AV.flat,aR] at h
  simp only [AV.pure,aR]
  exact ⟨nW a h.1,nW b h.2⟩
 | .sl _ _,h=>by simp [AV.flat] at h
 | .rp _ _,h=>by simp [AV.flat] at h
 | .op _ _ _,h=>by simp [AV.flat] at h
 | .os _ _ _,h=>by simp [AV.flat] at h
 | .when _ _,h=>by simp [AV.flat] at h
 | .k6,h=>by simp [AV.flat] at h
 | .mr _ _ _,h=>by simp [AV.flat] at h
theorem nW:∀ (cs:List AV),AV.uS cs=true→AV.jQ cs=true
 | [],_=>rfl
 | c :: cs,h=>by
  simp only [AV.uS,aR] at h
  simp only [AV.jQ,aR]
  exact ⟨Js c h.1,nW cs h.2⟩
end
mutual
theorem B2 {f:Nat→Option Nat}:∀ (x:AV),x.pure=true→x.iH f=x
 | .op _ _ _,h=>by simp [AV.pure] at h
 | .os _ _ _,h=>by simp [AV.pure] at h
 | .mp _,h=>by simp [AV.pure] at h
 | .ov _ _ _ _ _,h=>by simp [AV.pure] at h
 | .za _ _ _,h=>by simp [AV.pure] at h
 | .mr _ _ _,h=>by simp [AV.pure] at h
 | .bn _,_=>rfl
 | .pt _ _,_=>rfl
 | .agg cs,h=>by simp only [AV.iH];rw [pO cs h]
 | .tup cs,h=>by simp only [AV.iH];rw [pO cs h]
 | .fn q a b,h=>by
  simp only [AV.pure,aR] at h
  simp only [AV.iH];rw [pO a h.1,pO b h.2]
 | .when b x,h=>by simp only [AV.iH];rw [B2 x h]
 | .nq b x,h=>by simp only [AV.iH];rw [B2 x h]
 | .atom _,_=>rfl
 | .sl _ _,_=>rfl
 | .rp _ _,_=>rfl
 | .nil,_=>rfl
 | .k6,_=>rfl
theorem pO {f:Nat→Option Nat}:∀ (cs:List AV),AV.jQ cs=true→AV.rr f cs=cs
 | [],_=>rfl
 | c :: cs,h=>by
  simp only [AV.jQ,aR] at h
  simp only [AV.rr]
  rw [B2 c h.1,pO cs h.2]
end
theorem Iq {w':World} {S':Nat→Prop} {cu:Mu} {o o':Ob} {pl:Place} {c:Array Value} {T:TypeId} (h:eJ w' S' cu o' pl c T) (z1:o'.sz=o.sz) (z2:o'.len=o.len) (z3:o'.pr=o.pr)
  (hl:o.len=1) (h0:o'.get 0=o.get 0):eJ w' S' cu o pl c T:=by
 have q1:∀ i,i < o.len→o.get i=o'.get i:=fun i hi=>by
  simp_all
 refine ⟨h.sz.trans z1,z1 ▸ h.bR,z1 ▸ h.cap,z2 ▸ h.len,h.out,?_,?_,fun hz=>by rw [← h0,← z3];exact h.mp (z1.trans hz)⟩
 ·intro i hi
  rw [q1 i hi,← z1]
  exact h.qK i (by omega)
 ·intro i j x v hi hx hv
  rw [q1 i hi] at hx
  rw [← z3]
  exact h.rep i j x v (by omega) hx (by rw [z1];exact hv)
theorem Mz {w':World} {S':Nat→Prop} {cu:Mu} {o o':Ob} {pl:Place} {c:Array Value} {T:TypeId} (h:eJ w' S' cu o' pl c T) (z1:o'.sz=o.sz) (z2:o'.len=o.len) (z3:o'.pr=o.pr)
  (Hc:o.pr=false) (q1:∀ i,i < o.len→o.get i=o'.get i):eJ w' S' cu o pl c T:=by
 refine ⟨h.sz.trans z1,z1 ▸ h.bR,z1 ▸ h.cap,z2 ▸ h.len,h.out,?_,?_,fun hz=>?_⟩
 ·intro i hi
  rw [q1 i hi,← z1]
  exact h.qK i (by omega)
 ·intro i j x v hi hx hv
  rw [q1 i hi] at hx
  rw [← z3]
  exact h.rep i j x v (by omega) hx (by rw [z1];exact hv)
 ·have:=(h.mp (z1.trans hz)).2.2.2.1
  simp_all
theorem B3 {w':World} {S' xX:Nat→Prop} {cu BM:Mu} {o:Ob} {pl:Place} {c:Array Value} {T:TypeId} (h:eJ w' S' cu o pl c T) {ps:List Prop} (hf:qX o=some ps) (hp:aV ps) (ho:0 < pl.cap→¬ xX pl.bR) :
  eJ w' xX BM o pl c T:=by
 unfold qX at hf
 split at hf
 ·grind [Ip]
 ·split at hf
  ·rename_i hb
   cases hf
   simp only [aR] at hb
   have UQ:=Nat.le_of_ble_eq_true hb.2
   refine { h with out:=ho,rep:=?_,mp:=fun hz=>absurd hz (by omega) }
   intro i j x v hi hx hv
   exact (h.rep i j x v hi hx hv).flat (r8 (hp.1 i hi) hx) _ _ _
  ·cases hf
theorem yg {w':World} {S' xX:Nat→Prop} {cu:Mu} {o:Ob} {pl:Place} {c:Array Value} {T:TypeId} (h:eJ w' S' cu o pl c T) (hS:∀ b,S' b→xX b) (ho:0 < pl.cap→¬ xX pl.bR):eJ w' xX cu o pl c T :=
 { h with
  out:=ho
  rep:=fun i j x v hi hx hv=>an.mono hS (fun _ _=>rfl) (h.rep i j x v hi hx hv) (fun _ _ h=>h)
  mp:=fun hz=>let ⟨m0,m1,m2,m3,m4⟩:=h.mp hz
   ⟨m0,m1,m2,m3,fun j x v hx hv=>an.mono hS (fun _ _=>rfl) (m4 j x v hx hv) (fun _ _ h=>h)⟩ }
theorem Ir {w':World} {S' xX:Nat→Prop} {cu BM:Mu} {o:Ob} {pl:Place} {c:Array Value} {T:TypeId} {ks:List Nat} {nk:Nat} {lone:Bool} (h:eJ w' S' cu (o.iH (idx ks)) pl c T)
  {ps:List Prop} (FM:zp ks lone o=some ps) (hp:aV ps) (hS:lone=true→∀ b,S' b→xX b) (ho:0 < pl.cap→¬ xX pl.bR)
  (hm:∀ k k' pl,back ks nk k=some k'→cu k=some pl→BM k'=some pl):eJ w' xX BM o pl c T:=by
 unfold zp at FM
 split at FM
 case h_2 =>
  split at FM
  ·grind [idx,Ob.iH,B3]
  ·rename_i Hc
   split at FM
   case h_2=>cases FM
   rename_i hl
   cases FM
   simp only [aR,Bool.not_eq_true'] at hl
   have h2:=h.iH hm
   refine yg (Mz h2 (by rw [Ob.p6,Ob.p6]) (by grind [Ob.v5]) (by rw [Ob.zo,Ob.zo]) Hc fun i hi=>?_) (hS hl.1) ho
   have hr:BW (o.get i)=true:=hp.1 i hi
   simp_all [Ob.iH,D3]
 rename_i hq
 cases hf:o.flat with
 | true =>
  have SA:=hf
  unfold Ob.flat at SA
  simp only [aR] at SA
  have hl:=bj SA.1.1.2
  refine Ip (Iq h (Ob.p6 _ _) (Ob.v5 _ _) (Ob.zo _ _) hl ?_) hf ho
  grind [Ob.iH,pO,nW]
 | false =>
  rw [hf,Bool.false_or,aR] at hq
  have hS:=hS hq.1
  have h2:=h.iH hm
  have uc:∀ k i,idx ks k=some i→back ks nk i=some k:=fun k i hk=>by
   grind [back,la]
  have h3:eJ w' S' BM o pl c T:=by
   have hc:=hq.2
   unfold Ob.closed at hc
   cases hp:o.pr with
   | true =>
    grind [idx,back,Ob.iH]
   | false =>
    rw [hp,Bool.false_or] at hc
    simp only [aR] at hc
    refine Iq h2 (by rw [Ob.p6,Ob.p6]) (by grind [Ob.v5]) (by rw [Ob.zo,Ob.zo]) (bj hc.1.2) ?_
    simp only [Ob.iH,hp]
    grind [pN]
  exact yg h3 hS ho
theorem tp {σ:cz} {ks:List Nat} {lone:Bool}:∀ (l:List Nat) (qs:List Prop),u7 σ ks lone l=some qs→aV qs→∀ k∈l,∀ o,ar σ k=some o→∃ ps,zp ks lone o=some ps∧aV ps
 | [],_,_,_,k,hk=>by simp at hk
 | a :: r,qs,h,hq,k,hk=>by
  intro o ho
  simp only [u7] at h
  split at h
  ·rename_i o1 ud
   split at h
   ·rename_i p q h1 h2
    cases h
    obtain ⟨q1,q2⟩:=aV.app hq
    rcases jW.1 hk with rfl | hk
    ·simp_all
    ·exact tp r q h2 q2 k hk o ho
   ·cases h
  ·cases h
theorem pk {lone:Bool}:∀ (σ:cz) (qs:List Prop),ye lone σ=some qs→aV qs→∀ k o,ar σ k=some o→lone=true∨∃ ps,qX o=some ps∧aV ps
 | [],_,_,_,k,o,h=>by simp [ar] at h
 | (a,x) :: r,qs,h,hq,k,o,hk=>by
  simp only [ye] at h
  split at h
  ·exact .inl rfl
  ·split at h
   ·rename_i p q h1 h2
    cases h
    obtain ⟨q1,q2⟩:=aV.app hq
    simp only [ar] at hk
    split at hk
    ·simp_all
    ·exact pk r q h2 q2 k o hk
   ·cases h
theorem rv {o:Ob} {ps:List Prop} (h:qX o=some ps) (hp:aV ps) (i:Nat):rowOf o i=none:=by
 unfold qX at h
 split at h
 ·simp_all [Ob.flat,aR,uT]
 ·split at h
  ·cases h
   cases hr:rowOf o i with
   | none=>rfl
   | some x =>
    obtain ⟨_,h2,h3⟩:=ca hr
    have:=hp.1 i h2
    rw [h3] at this;cases this
  ·cases h
theorem EV {ks:List Nat} {o:Ob} {ps:List Prop} (h:zp ks false o=some ps) (hp:aV ps) (i:Nat):rowOf o i=none:=by
 unfold zp at h
 rw [Bool.false_and,Bool.or_false] at h
 split at h
 ·simp_all [rv,qX,trivial]
 ·split at h
  ·exact rv h hp i
  simp_all
theorem F9 (g:Good E σ S μ w) (xl:∀ j,j < 16→μ (nk+j)=none) (qW:E.m0≤nk) {f:AV} {args:List AV} {aY:l8} {r:R} {fv:Value} (hf:an w S μ fv f) {yh:Array Value} (ha:RL w S μ yh args)
  (hz:aY.uB=true→∀ b,¬ E.fp b) {ob:FuncId→List AV→cz→Nat→AV→cz→Prop}
  (b9:∀ gid as bs ru res dm vs,ob gid as ru aY.ks.length res dm→Good (u5 w (fun b=>S b∨u6 μ bs b) ru (iZ μ aY.ks) aY.ks.length) ru (fun b=>S b∨u6 μ bs b) (iZ μ aY.ks) w→(∀ k,aY.ks.length≤k→iZ μ aY.ks k=none) →
   RL w (fun b=>S b∨u6 μ bs b) (iZ μ aY.ks) vs as→Calls P gid vs w fun e w'=>∃ v S' cu,e=.returned v∧Good (u5 w (fun b=>S b∨u6 μ bs b) ru (iZ μ aY.ks) aY.ks.length) dm S' cu w'∧an w' S' cu v res)
  (h:BB P ob nk σ f args aY=some r) (hp:aV r.D2) :
  ∃ gid vs,(do let d ← Deferred.ofValue fv yh;invoke d.target d.args:Sem Next).run P w=.ok (.enter gid vs) w ∧
   Calls P gid vs w fun e w'=>∃ v S' cu,e=.returned v∧Ext w S μ w' S' cu∧Good E (dL σ r.ko) S' cu w'∧(∀ k,(k < nk∨nk+16≤k)→μ k=none→cu k=none)∧an w' S' cu v r.val:=by
 unfold BB at h
 split at h
 case h_2=>cases h
 rename_i gid first cap
 split at h
 case h_2=>cases h
 rename_i as bs ps ru B4 Oa MA
 split at h
 case h_2=>cases h
 rename_i Qz
 rw [aR] at Qz
 obtain ⟨RJ,Jt⟩:=Qz
 have MB:=BZ aY.ks RJ
 cases hf with
 | fn f1 f2 f3 f4 =>
 rename_i RK RM
 refine ⟨gid,RK ++ yh ++ RM,?_,?_⟩
 ·unfold F7 at B4
  split at B4
  ·rename_i fn QA
   simp only [aR,Bool.not_eq_true'] at B4
   have hb:¬ fn.body=none:=by intro hh;rw [hh] at B4;simp at B4
   have iI:¬ fn.name = "runtime.NumGoroutine":=by simpa using B4.2
   simp [Deferred.ofValue,invoke,callFunc,QA,iI,hb]
  ·cases B4
 have OW:=nU _ _ _ _ Oa
 have MC:=D4 aY.ks 0 ru MA
 simp only [Nat.zero_le,if_true,Nat.sub_zero] at MC
 -- the state in which the callee begins
 have VI:aV ps:=by
  split at h
  ·split at h
   ·split at h
    ·cases h;exact (aV.app hp.2).2
    ·cases h
   ·split at h
    ·cases h;exact (aV.app hp.2).2
    ·cases h
  ·split at h
   ·cases h;exact (aV.app hp.2).2
   ·cases h
 have uC:RL w (fun b=>S b∨u6 μ bs b) (iZ μ aY.ks) (RK ++ yh ++ RM) as:=by
  have RN:RL w S μ (RK ++ yh ++ RM) (first ++ (args ++ cap)):=by
   have:=RL.append (w:=w) (S:=S) (μ:=μ) ⟨f1,f3⟩ (RL.append ha ⟨f2,f4⟩)
   rwa [← Array.append_assoc] at this
  exact My g RN _ (fun _ h=>.inl h) Oa VI (fun _ h=>.inr h)
 have fY:∀ k o pl,ar σ k=some o→μ k=some pl→0 < pl.cap→pl.bR < w.heap.size:=fun k o pl ho hm hc=>by
  obtain ⟨hH,c,T,eM,b9⟩:=g.rep.ob k o ho
  rw [hm] at eM;cases eM
  exact eA (b9.bR hc)
 have QB:∀ k o pl,ar σ k=some o→μ k=some pl→0 < pl.cap→¬ S pl.bR:=fun k o pl ho hm hc=>by
  obtain ⟨hH,c,T,eM,b9⟩:=g.rep.ob k o ho
  rw [hm] at eM;cases eM
  exact b9.out hc
 have AD:∀ i o',ar ru i=some o'→∃ k o,aY.ks[i]?=some k∧ar σ k=some o∧o'=o.iH (idx aY.ks):=by
  intro i o' h
  rw [MC] at h
  simp only [aE,Option.bind_eq_some_iff] at h
  obtain ⟨o,⟨k,hk,ho⟩,rfl⟩:=h
  exact ⟨k,o,hk,ho,rfl⟩
 have Is:∀ i j x v,fJ w (iZ μ aY.ks) ru i j x v→∃ k,aY.ks[i]?=some k∧fJ w μ σ k j x v:=by
  rintro i j x v ⟨o',pl,h1,h2,h3,h4⟩
  obtain ⟨k,o,hk,ho,rfl⟩:=AD i o' h1
  exact ⟨k,hk,o,pl,ho,(nT _ _ _ _).1 h2,by simpa [iZ,hk] using h3,h4⟩
 have Ku:∀ b,Mw w ru (iZ μ aY.ks) b→(∃ (k i:Nat) (o:Ob) (pl:Place),aY.ks[i]?=some k∧ar σ k=some o∧μ k=some pl∧0 < pl.cap∧pl.bR=b) ∨
   ∃ (k i j:Nat) (x:Nat×Nat×(Nat→List AV)) (v:Value),aY.ks[i]?=some k∧fJ w μ σ k j x v∧ptrTo v b:=by
  rintro b (⟨i,o',pl,hi,hm,hc,hb⟩ | ⟨i,j,x,v,hv,hb⟩)
  ·obtain ⟨k,o,hk,ho,_⟩:=AD i o' hi
   refine .inl ⟨k,i,o,pl,hk,ho,?_,hc,hb⟩
   simpa [iZ,hk] using hm
  ·obtain ⟨k,hk,pW⟩:=Is i j x v hv
   exact .inr ⟨k,i,j,x,v,hk,pW,hb⟩
 have Kv:∀ k i x v b,fJ w μ σ k i x v→ptrTo v b→¬ u6 μ bs b:=by
  rintro k i x v b hv hb ⟨k',mE,hH,eM,ml,he⟩
  obtain ⟨_,o2,Aw⟩:=OW k' mE
  exact g.mx.obj _ _ _ _ _ hv hb k' o2 hH Aw eM ml he
 have g0:Good (u5 w (fun b=>S b∨u6 μ bs b) ru (iZ μ aY.ks) aY.ks.length) ru (fun b=>S b∨u6 μ bs b) (iZ μ aY.ks) w:=by
  refine ⟨Fr.refl _ _,fun _ h=>h,?_,fun _ h=>.inl h,⟨?_,?_⟩,fun k o pl hk hm hc=>.inl (.inl ⟨k,o,pl,hk,hm,hc,rfl⟩),fun _ _=>rfl,?_⟩
  ·rintro b (hb | ⟨k,hk,pl,hm,hc,rfl⟩)
   ·exact g.S1 b hb
   ·obtain ⟨_,o,ho⟩:=OW k hk
    exact fY k o pl ho hm hc
  ·intro i o' hi
   obtain ⟨k,o,hk,ho,rfl⟩:=AD i o' hi
   obtain ⟨pl,c,T,hm,b9⟩:=g.rep.ob k o ho
   refine ⟨pl,c,T,by simp [iZ,hk,hm],?_⟩
   have h1:=b9.iH (f:=idx aY.ks) (cu:=iZ μ aY.ks) (fun a b pl ha hb=>yc a b pl ha hb)
   refine h1.ext (w':=w) ⟨a7 _,fun _ h=>.inl h,fun _ _=>rfl,fun _ _ h=>h⟩ (fun _=>rfl) ?_
   rintro hc (hS | ⟨k',mE,hH,eM,ml,he⟩)
   ·exact b9.out hc hS
   ·obtain ⟨Dq,o2,Aw⟩:=OW k' mE
    have iI:k≠k':=fun h=>kr _ _ Dq i (h ▸ hk)
    exact g.rep.ne k k' o o2 pl hH iI ho Aw hm eM hc ml he.symm
  ·intro i i' o o' pl hH iI hi pM hm eM hc ml
   obtain ⟨k,oo,hk,ho,_⟩:=AD i o hi
   obtain ⟨k',VJ,mE,tc,_⟩:=AD i' o' pM
   have Kw:k≠k':=fun h=>iI (MB i i' k hk (h ▸ mE))
   exact g.rep.ne k k' oo VJ pl hH Kw ho tc (by simpa [iZ,hk] using hm) (by simpa [iZ,mE] using eM) hc ml
  ·refine g.mx.tr (fun i=>aY.ks.getD i 0) (fun i j x v h=>?_) (fun i j x v i' j' x' v' h h' e=>?_) (fun _ h=>.inl h) (fun _ _=>rfl) (fun i j x v b hv h hb=>?_) (fun i o' pl h1 h2 h3=>?_)
   ·obtain ⟨k,hk,hv⟩:=Is i j x v h
    show fJ w μ σ (aY.ks.getD i 0) j x v
    rw [ft,hk];exact hv
   ·obtain ⟨k,hk,_⟩:=Is i j x v h
    obtain ⟨k',mE,_⟩:=Is i' j' x' v' h'
    have e:aY.ks.getD i 0=aY.ks.getD i' 0:=e
    rw [ft,ft,hk,mE] at e
    have e:k=k':=e
    exact MB i i' k hk (e ▸ mE)
   ·obtain ⟨q1,q2,q3,_⟩:=g.mx.bR h hb
    exact ⟨rfl,fun hs=>hs.elim q2 (Kv _ _ _ _ _ h hb),fun _=>.inl (.inr ⟨i,j,x,v,hv,hb⟩)⟩
   ·obtain ⟨k,o,hk,ho,_⟩:=AD i o' h1
    exact .inl ⟨k,o,pl,ho,by simpa [iZ,hk] using h2,h3,rfl⟩
 have Kx:∀ k,aY.ks.length≤k→iZ μ aY.ks k=none:=fun k hk=>by simp [iZ,n8 hk]
 -- behind the call
 have ua:∀ k o,ar σ k=some o→k < nk∨nk+16≤k:=by
  intro k o ho
  rcases Nat.lt_or_ge k nk with h1 | h1
  ·exact .inl h1
  ·rcases Nat.lt_or_ge k (nk+16) with h2 | h2
   ·obtain ⟨pl,c,T,hm,_⟩:=g.rep.ob k o ho
    have:=xl (k - nk) (by omega)
    rw [show nk+(k - nk)=k by omega,hm] at this
    cases this
   ·exact .inr h2
 have fin:∀ (dm:cz) (Hq:cz),ob gid as ru aY.ks.length aY.res dm →
   (∀ n,idx aY.ks n=none→(n < nk∨nk+16≤n)→ar Hq n=if aY.uB=true∧n∈bs then none else ar σ n) →
   (∀ j,j < 16→∀ o,ar Hq (nk+j)=some o→∃ o1,ar dm (aY.ks.length+j)=some o1∧o=o1.iH (back aY.ks nk)) →
   (∀ (w':World) (S' xX:Nat→Prop) (cu:Mu),((bs.isEmpty || aY.uB)=true→∀ b,S' b→xX b)→∀ j,j < 16→∀ o1 pl c T,ar dm (aY.ks.length+j)=some o1→eJ w' S' cu o1 pl c T→(0 < pl.cap→¬ xX pl.bR)→eJ w' xX cu o1 pl c T) →
   (∀ (w':World) (S' xX:Nat→Prop) (cu Ga:Mu),Good (u5 w (fun b=>S b∨u6 μ bs b) ru (iZ μ aY.ks) aY.ks.length) dm S' cu w'→((bs.isEmpty || aY.uB)=true→∀ b,S' b→xX b) →
    (∀ k k' pl,back aY.ks nk k=some k'→cu k=some pl→Ga k'=some pl)→∀ (k i:Nat) (o:Ob) (pl:Place),aY.ks[i]?=some k→ar Hq k=some o→μ k=some pl→(0 < pl.cap→¬ xX pl.bR)→∃ c T,eJ w' xX Ga o pl c T) →
   (∀ (k i:Nat) (o:Ob),aY.ks[i]?=some k→ar Hq k=some o→(∃ o1,ar σ k=some o1)∧∃ o2,ar dm i=some o2) →
   (∀ (k i:Nat) (o:Ob),aY.ks[i]?=some k→ar Hq k=some o→∀ j x,rowOf o j=some x→∃ o2,ar dm i=some o2∧rowOf o2 j=some x) →
   ((bs.isEmpty || aY.uB)=false→∀ n o,ar dm n=some o→∀ i,rowOf o i=none) →
   Calls P gid (RK ++ yh ++ RM) w fun e w'=>∃ v S' cu,e=.returned v∧Ext w S μ w' S' cu∧Good E Hq S' cu w'∧(∀ k,(k < nk∨nk+16≤k)→μ k=none→cu k=none)∧an w' S' cu v (aY.res.iH (back aY.ks nk)):=by
  intro dm Hq OX EW Mk QC SB MD QD OY
  refine (b9 gid as bs ru _ _ _ OX g0 Kx uC).mono ?_
  rintro e w' ⟨v,S',cu,rfl,g',hv⟩
  have Gb:∀ b,b < w.heap.size→(∀ (k i:Nat) (o:Ob) (pl:Place),aY.ks[i]?=some k→ar σ k=some o→μ k=some pl→0 < pl.cap→pl.bR≠b) →
    (∀ (k i j:Nat) (x:Nat×Nat×(Nat→List AV)) (v:Value),aY.ks[i]?=some k→fJ w μ σ k j x v→¬ ptrTo v b)→w'.heap[b]?=w.heap[b]?:=by
   intro b hb Dq SC
   refine g'.fr.bR b hb fun ME=>?_
   rcases Ku b ME with ⟨k,i,o,pl,hk,ho,hm,hc,he⟩ | ⟨k,i,j,x,v,hk,hv,he⟩
   ·exact Dq k i o pl hk ho hm hc he
   ·exact SC k i j x v hk hv he
  have UR:∀ b,S b→w'.heap[b]?=w.heap[b]?:=fun b hb=>Gb b (g.S1 b hb) (fun k i o pl hk ho hm hc he=>QB k o pl ho hm hc (he ▸ hb)) fun k i j x v hk hv he=>(g.mx.bR hv he).2.1 hb
  let Ga:Mu:=fun k=>if nk≤k∧k < nk+16 then cu (aY.ks.length+(k - nk)) else μ k
  have B5:∀ k,(k < nk∨nk+16≤k)→Ga k=μ k:=fun k hk=>by
   show (if nk≤k∧k < nk+16 then _ else _)=_
   rw [if_neg (by omega)]
  have EX:∀ j,j < 16→Ga (nk+j)=cu (aY.ks.length+j):=fun j hj=>by
   show (if nk≤nk+j∧nk+j < nk+16 then _ else _)=_
   rw [if_pos (by omega)];congr 1;omega
  have MF:∀ k pl,μ k=some pl→Ga k=some pl:=by
   intro k pl hk
   have hn:k < nk∨nk+16≤k:=by
    rcases Nat.lt_or_ge k nk with h1 | h1
    ·exact .inl h1
    ·rcases Nat.lt_or_ge k (nk+16) with h2 | h2
     ·have:=xl (k - nk) (by omega)
      rw [show nk+(k - nk)=k by omega,hk] at this
      cases this
     ·exact .inr h2
   rw [B5 k hn];exact hk
  have uc:∀ k k' pl,back aY.ks nk k=some k'→cu k=some pl→Ga k'=some pl:=by
   intro k k' pl hk hm
   unfold back at hk
   split at hk
   ·rename_i q hq
    cases hk
    have fY:k < aY.ks.length:=(cJ.1 hq).1
    rw [g'.Bw k fY] at hm
    have:iZ μ aY.ks k=some pl:=hm
    refine MF _ _ ?_
    simpa [iZ,show aY.ks[k]?=some _ from hq] using this
   ·rename_i hq
    split at hk
    ·rename_i hb
     cases hk
     have fY:k < aY.ks.length+16:=by
      simp only [Nat.blt,Nat.ble_eq] at hb;exact hb
     have SD:aY.ks.length≤k:=List.getElem?_eq_none_iff.1 hq
     rw [EX _ (by omega),show aY.ks.length+(k - aY.ks.length)=k by omega];exact hm
    ·cases hk
  let SF:Nat→Prop:=fun b=>S b∨(aY.uB=true∧u6 μ bs b)∨(S' b∧w.heap.size≤b)
  have US:∀ b,SF b→S' b:=by
   rintro b (h1 | ⟨_,h1⟩ | ⟨h1,_⟩)
   ·exact g'.S0 b (.inl h1)
   ·exact g'.S0 b (.inr h1)
   ·exact h1
  have RO:(bs.isEmpty || aY.uB)=true→∀ b,S' b→SF b:=by
   intro he b hb
   rcases g'.S2 b hb with (h1 | h0) | h1
   ·exact .inl h1
   ·rcases Bool.or_eq_true_iff.1 he with he | he
    ·obtain ⟨k,hk,_⟩:=h0
     rw [List.isEmpty_iff] at he;rw [he] at hk;simp at hk
    ·exact .inr (.inl ⟨he,h0⟩)
   ·exact .inr (.inr ⟨hb,h1⟩)
  have hold:∀ k o,ar Hq k=some o→(k < nk∨nk+16≤k)→∃ o1,ar σ k=some o1:=by
   intro k o ho hn
   cases hi:idx aY.ks k with
   | none =>
    rw [EW k hi hn] at ho
    split at ho
    ·cases ho
    ·exact ⟨o,ho⟩
   | some i=>exact (MD k i o (la _ _ _ hi) ho).1
  have VK:∀ k o,ar Hq k=some o→aY.uB=true→k ∉ bs:=by
   intro k o ho JW hk
   obtain ⟨Dq,o2,Aw⟩:=OW k hk
   rw [EW k Dq (ua k o2 Aw),if_pos ⟨JW,hk⟩] at ho
   cases ho
  have It:∀ k o0 o pl,ar Hq k=some o0→ar σ k=some o→μ k=some pl→0 < pl.cap→¬ SF pl.bR:=by
   rintro k o0 o pl ou ho hm hc (h1 | ⟨JW,k',mE,hH,eM,ml,he⟩ | ⟨_,h1⟩)
   ·exact QB k o pl ho hm hc h1
   ·obtain ⟨_,o2,Aw⟩:=OW k' mE
    have iI:k≠k':=fun h=>VK k o0 ou JW (h ▸ mE)
    exact g.rep.ne k k' o o2 pl hH iI ho Aw hm eM hc ml he.symm
   ·have:=fY k o pl ho hm hc;omega
  -- a new object, as the callee has left it
  have Hr:∀ j,j < 16→∀ o,ar Hq (nk+j)=some o→∃ o1 pl c T,ar dm (aY.ks.length+j)=some o1∧o=o1.iH (back aY.ks nk)∧cu (aY.ks.length+j)=some pl∧eJ w' S' cu o1 pl c T:=by
   intro j hj o ho
   obtain ⟨o1,h1,h2⟩:=Mk j hj o ho
   obtain ⟨pl,c,T,h3,h4⟩:=g'.rep.ob _ o1 h1
   exact ⟨o1,pl,c,T,h1,h2,h3,h4⟩
  have u9:∀ k,(k < nk∨nk+16≤k)∨∃ j,j < 16∧k=nk+j:=fun k=>by
   rcases Nat.lt_or_ge k nk with h1 | h1
   ·exact .inl (.inl h1)
   ·rcases Nat.lt_or_ge k (nk+16) with h2 | h2
    ·exact .inr ⟨k - nk,by omega,by omega⟩
    ·exact .inl (.inr h2)
  -- the block of a new object is none of the caller's
  have Oc:∀ j o1 pl,ar dm (aY.ks.length+j)=some o1→cu (aY.ks.length+j)=some pl→0 < pl.cap →
    (∃ (k i:Nat) (o:Ob) (hH:Place),aY.ks[i]?=some k∧ar σ k=some o∧μ k=some hH∧0 < hH.cap∧hH.bR=pl.bR) ∨
    (∃ (k i j:Nat) (x:Nat×Nat×(Nat→List AV)) (v:Value),aY.ks[i]?=some k∧fJ w μ σ k j x v∧ptrTo v pl.bR)∨w.heap.size≤pl.bR:=by
   intro j o1 pl h1 h2 h3
   rcases g'.own _ o1 pl h1 h2 h3 with h4 | h4
   ·exact (Ku _ h4).elim .inl fun h=>.inr (.inl h)
   ·exact .inr (.inr h4)
  -- new and old ones lie apart
  have Ky:∀ j,j < 16→∀ k o o' pl hH,ar Hq (nk+j)=some o→ar Hq k=some o'→(k < nk∨nk+16≤k)→Ga (nk+j)=some pl→Ga k=some hH→0 < pl.cap→0 < hH.cap→pl.bR≠hH.bR:=by
   intro j hj k o o' pl hH ho tc hn hm eM hc ml he
   obtain ⟨o1,xY,c1,T1,h1,h2,h3,h4⟩:=Hr j hj o ho
   rw [EX j hj,h3] at hm;cases hm
   rw [B5 k hn] at eM
   cases hi:idx aY.ks k with
   | some i =>
    have J1:=la _ _ _ hi
    obtain ⟨_,o2,Aw⟩:=MD k i o' J1 tc
    have He:i < aY.ks.length:=(cJ.1 J1).1
    have x9:cu i=some hH:=by
     rw [g'.Bw i He]
     show iZ μ aY.ks i=_
     simp [iZ,J1,eM]
    exact g'.rep.ne (aY.ks.length+j) i o1 o2 pl hH (by omega) h1 Aw h3 x9 hc ml he
   | none =>
    obtain ⟨o3,Hb⟩:=hold k o' tc hn
    rcases Oc j o1 pl h1 h3 hc with ⟨k2,i2,o4,MG,q1,q2,q3,q4,q5⟩ | ⟨k2,i2,j2,x2,v2,q1,q2,q3⟩ | h5
    ·have iI:k2≠k:=fun h=>kr _ _ hi i2 (h ▸ q1)
     exact g.rep.ne k2 k o4 o3 MG hH iI q2 Hb q3 eM q4 ml (q5.trans he)
    ·exact g.mx.obj _ _ _ _ _ q2 q3 k o3 hH Hb eM ml he.symm
    ·have:=fY k o3 hH Hb eM ml
     omega
  have ext:Ext w S μ w' SF Ga:=⟨g'.fr.size,fun _ h=>.inl h,UR,MF⟩
  -- the rows
  have cls:∀ k i x v,fJ w' Ga Hq k i x v→(idx aY.ks k=none∧(k < nk∨nk+16≤k)∧fJ w μ σ k i x v)∨((bs.isEmpty || aY.uB)=true∧∃ q,back aY.ks nk q=some k∧fJ w' cu dm q i x v):=by
   rintro k i x v ⟨o,pl,h1,h2,h3,h4⟩
   have Oe:∀ n o2,ar dm n=some o2→rowOf o2 i=some x→(bs.isEmpty || aY.uB)=true:=by
    intro n o2 Aw dg
    cases Kz:(bs.isEmpty || aY.uB) with
    | true=>rfl
    | false=>rw [OY Kz n o2 Aw i] at dg;cases dg
   rcases u9 k with hn | ⟨j,hj,rfl⟩
   ·cases hi:idx aY.ks k with
    | none =>
     have ou:=h1
     rw [EW k hi hn] at ou
     split at ou
     ·cases ou
     rw [B5 k hn] at h3
     obtain ⟨pj,c,T,hm,b9⟩:=g.rep.ob k o ou
     rw [h3] at hm;cases hm
     refine .inl ⟨rfl,hn,o,pl,ou,h2,h3,?_⟩
     have hc:0 < pl.cap:=by have:=(ca h2).2.1;have:=b9.len;omega
     rw [← h4]
     refine (oj (Gb _ (eA (b9.bR hc)) ?_ ?_) _).symm
     ·intro k' i' o' hH mE tc eM ml he
      have iI:k'≠k:=fun h=>kr _ _ hi i' (h ▸ mE)
      exact g.rep.ne k' k o' o hH pl iI tc ou eM h3 ml hc he
     ·intro k' i' j' x' v' mE pW he
      exact g.mx.obj _ _ _ _ _ pW he k o pl ou h3 hc rfl
    | some i0 =>
     have J1:=la _ _ _ hi
     obtain ⟨o2,Aw,dg⟩:=QD k i0 o J1 h1 i x h2
     have He:i0 < aY.ks.length:=(cJ.1 J1).1
     refine .inr ⟨Oe i0 o2 Aw dg,i0,by unfold back;rw [J1],o2,pl,Aw,dg,?_,h4⟩
     rw [g'.Bw i0 He]
     rw [B5 k hn] at h3
     show iZ μ aY.ks i0=_
     simp [iZ,J1,h3]
   ·obtain ⟨o1,q1,q2⟩:=Mk j hj o h1
    rw [q2] at h2
    have dg:=(nT _ _ _ _).1 h2
    refine .inr ⟨Oe _ o1 q1 dg,aY.ks.length+j,?_,o1,pl,q1,dg,by rw [← EX j hj];exact h3,h4⟩
    unfold back
    rw [n8 (by omega)]
    have:Nat.blt (aY.ks.length+j) (aY.ks.length+16)=true:=by simp only [Nat.blt,Nat.ble_eq];omega
    rw [this]
    simp
  have QE:∀ k i x v b,fJ w μ σ k i x v→ptrTo v b→idx aY.ks k=none→w'.heap[b]?=w.heap[b]?∧¬ SF b:=by
   intro k i x v b hv hb hi
   obtain ⟨q1,q2,q3,_⟩:=g.mx.bR hv hb
   refine ⟨Gb b q1 (fun k' i' o' hH mE tc eM ml he=>g.mx.obj _ _ _ _ _ hv hb k' o' hH tc eM ml he) (fun k' i' j' x' v' mE pW he=>?_),?_⟩
   ·obtain ⟨e1,_⟩:=g.mx.two _ _ _ _ _ _ _ _ _ hv pW hb he
    exact kr _ _ hi i' (e1 ▸ mE)
   ·rintro (h1 | ⟨_,h1⟩ | ⟨_,h1⟩)
    ·exact q2 h1
    ·exact Kv _ _ _ _ _ hv hb h1
    ·omega
  have KA:∀ k i x v b,fJ w μ σ k i x v→ptrTo v b→idx aY.ks k=none→∀ b',(Mw w ru (iZ μ aY.ks) b'∨w.heap.size≤b')→b'≠b:=by
   rintro k i x v b hv hb hi b' (h1 | h1) rfl
   ·rcases Ku _ h1 with ⟨k2,i2,o4,MG,q1,q2,q3,q4,q5⟩ | ⟨k2,i2,j2,x2,v2,q1,q2,q3⟩
    ·exact g.mx.obj _ _ _ _ _ hv hb k2 o4 MG q2 q3 q4 q5
    ·obtain ⟨e1,_⟩:=g.mx.two _ _ _ _ _ _ _ _ _ hv q2 hb q3
     exact kr _ _ hi i2 (e1 ▸ q1)
   ·have:=(g.mx.bR hv hb).1;omega
  have SE:MX E.fp E.w0.heap.size w' SF Ga Hq:=by
   refine ⟨fun k i x v h=>?_,fun k i x v b h hb k' o' hH h1 h2 h3=>?_,fun k i x v b k' i' x' v' h h' hb wD=>?_⟩
   ·rcases cls k i x v h with ⟨hi,hn,hv⟩ | ⟨Kz,q,hq,hv⟩
    ·exact (g.mx.row _ _ _ _ hv).ext (fun _ h=>.inl h) UR fun b hb=>let ⟨a1,a2⟩:=QE _ _ _ _ _ hv hb hi;⟨a1,a2,fun h=>h⟩
    ·refine (g'.mx.row _ _ _ _ hv).ext (RO Kz) (fun _ _=>rfl) fun b hb=>⟨rfl,fun hs=>(g'.mx.bR hv hb).2.1 (US b hs),?_⟩
     rintro (h1 | h1)
     ·rcases Ku _ h1 with ⟨k2,i2,o4,MG,q1,q2,q3,q4,q5⟩ | ⟨k2,i2,j2,x2,v2,q1,q2,q3⟩
      ·rw [← q5];exact g.own k2 o4 MG q2 q3 q4
      ·exact (g.mx.bR q2 q3).2.2.1
     ·exact .inr (gp g.fr.size h1)
   ·rcases cls k i x v h with ⟨hi,hn,hv⟩ | ⟨Kz,q,hq,hv⟩
    ·rcases u9 k' with ET | ⟨j',wF,rfl⟩
     ·obtain ⟨o2,Aw⟩:=hold k' o' h1 ET
      rw [B5 k' ET] at h2
      exact g.mx.obj _ _ _ _ _ hv hb k' o2 hH Aw h2 h3
     ·obtain ⟨o1,xY,c1,T1,q1,q2,q3,q4⟩:=Hr j' wF o' h1
      rw [EX j' wF,q3] at h2;cases h2
      exact KA _ _ _ _ _ hv hb hi _ (g'.own _ o1 hH q1 q3 h3)
    ·rcases u9 k' with ET | ⟨j',wF,rfl⟩
     ·rw [B5 k' ET] at h2
      cases hi:idx aY.ks k' with
      | some i2 =>
       have J1:=la _ _ _ hi
       obtain ⟨_,o2,Aw⟩:=MD k' i2 o' J1 h1
       have He:i2 < aY.ks.length:=(cJ.1 J1).1
       have x9:cu i2=some hH:=by
        rw [g'.Bw i2 He]
        show iZ μ aY.ks i2=_
        simp [iZ,J1,h2]
       exact g'.mx.obj _ _ _ _ _ hv hb i2 o2 hH Aw x9 h3
      | none =>
       obtain ⟨o3,Hb⟩:=hold k' o' h1 ET
       intro he
       rcases (g'.mx.bR hv hb).2.2.1 with h4 | h4
       ·rcases Ku _ h4 with ⟨k2,i2,o4,MG,q1,q2,q3,q4,q5⟩ | ⟨k2,i2,j2,x2,v2,q1,q2,q3⟩
        ·have iI:k2≠k':=fun h=>kr _ _ hi i2 (h ▸ q1)
         exact g.rep.ne k2 k' o4 o3 MG hH iI q2 Hb q3 h2 q4 h3 (q5.trans he.symm)
        ·exact g.mx.obj _ _ _ _ _ q2 q3 k' o3 hH Hb h2 h3 he
       ·have:=fY k' o3 hH Hb h2 h3
        have h4:w.heap.size≤b:=h4
        omega
     ·obtain ⟨o1,xY,c1,T1,q1,q2,q3,q4⟩:=Hr j' wF o' h1
      rw [EX j' wF,q3] at h2;cases h2
      exact g'.mx.obj _ _ _ _ _ hv hb _ o1 hH q1 q3 h3
   ·rcases cls k i x v h with ⟨hi,hn,hv⟩ | ⟨Kz,q,hq,hv⟩<;>rcases cls k' i' x' v' h' with ⟨pM,ET,pW⟩ | ⟨VL,q',Jp,pW⟩
    ·exact g.mx.two _ _ _ _ _ _ _ _ _ hv pW hb wD
    ·exact (KA _ _ _ _ _ hv hb hi _ (g'.mx.bR pW wD).2.2.1 rfl).elim
    ·exact (KA _ _ _ _ _ pW wD pM _ (g'.mx.bR hv hb).2.2.1 rfl).elim
    ·obtain ⟨e1,e2⟩:=g'.mx.two _ _ _ _ _ _ _ _ _ hv pW hb wD
     rw [e1,Jp] at hq
     exact ⟨(Option.some.inj hq).symm,e2⟩
  refine ⟨v,SF,Ga,rfl,ext,⟨?_,fun b h=>.inl (g.S0 b h),?_,?_,⟨?_,?_⟩,?_,fun k hk=>by rw [B5 k (.inl (by omega))];exact g.Bw k hk,SE⟩,fun k hn h=>by rw [B5 k hn];exact h,?_⟩
  ·refine ⟨g'.fr.os.trans g.fr.os,g'.fr.tape.trans g.fr.tape,g'.fr.output.trans g.fr.output,gp g.fr.size g'.fr.size,fun b hb SG=>?_⟩
   rw [← g.fr.bR b hb SG]
   refine Gb b (nb hb g.fr.size) ?_ ?_
   ·intro k i o pl hk ho hm hc he
    rcases g.own k o pl ho hm hc with h1 | h1
    ·exact SG (he ▸ h1)
    ·have:pl.bR=b:=he
     omega
   ·intro k i j x v hk hv he
    rcases (g.mx.bR hv he).2.2.1 with h1 | h1
    ·exact SG h1
    ·omega
  ·rintro b (hb | ⟨_,k,hk,pl,hm,hc,rfl⟩ | ⟨hb,_⟩)
   ·exact nb (g.S1 b hb) g'.fr.size
   ·obtain ⟨_,o,ho⟩:=OW k hk
    exact nb (fY k o pl ho hm hc) g'.fr.size
   ·exact g'.S1 b hb
  ·rintro b (hb | ⟨JW,k,hk,pl,hm,hc,rfl⟩ | ⟨_,hb⟩)
   ·exact g.S2 b hb
   ·obtain ⟨_,o,ho⟩:=OW k hk
    rcases g.own k o pl ho hm hc with h1 | h1
    ·exact (hz JW _ h1).elim
    ·exact .inr h1
   ·exact .inr (gp g.fr.size hb)
  ·intro k o ho
   rcases u9 k with hn | ⟨j,hj,rfl⟩
   ·cases hi:idx aY.ks k with
    | none =>
     have ou:=ho
     rw [EW k hi hn] at ho
     split at ho
     ·cases ho
     obtain ⟨pl,c,T,hm,b9⟩:=g.rep.ob k o ho
     refine ⟨pl,c,T,MF _ _ hm,b9.ext ext ?_ (It k o o pl ou ho hm)⟩
     intro hc
     refine Gb _ (eA (b9.bR hc)) ?_ (fun k' i' j' x' v' mE pW he=>g.mx.obj _ _ _ _ _ pW he k o pl ho hm hc rfl)
     intro k' i' o' hH mE tc eM ml he
     have iI:k'≠k:=fun h=>kr _ _ hi i' (h ▸ mE)
     exact g.rep.ne k' k o' o hH pl iI tc ho eM hm ml hc he
    | some i =>
     have hk:=la _ _ _ hi
     obtain ⟨⟨o1,ud⟩,_⟩:=MD k i o hk ho
     obtain ⟨pl,c,T,hm,_⟩:=g.rep.ob k o1 ud
     obtain ⟨c',T',b9⟩:=SB w' S' SF cu Ga g' RO uc k i o pl hk ho hm (It k o o1 pl ho ud hm)
     exact ⟨pl,c',T',MF _ _ hm,b9⟩
   ·obtain ⟨o1,pl,c,T,h1,h2,h3,h4⟩:=Hr j hj o ho
    have h5:=QC w' S' SF cu RO j hj o1 pl c T h1 h4 (fun hc hb=>h4.out hc (US _ hb))
    exact ⟨pl,c,T,by rw [EX j hj];exact h3,by rw [h2];exact h5.iH uc⟩
  ·intro k k' o o' pl hH iI ho tc hm eM hc ml
   rcases u9 k with hn | ⟨j,hj,rfl⟩
   ·rcases u9 k' with ET | ⟨j',wF,rfl⟩
    ·obtain ⟨o1,ud⟩:=hold k o ho hn
     obtain ⟨o2,Aw⟩:=hold k' o' tc ET
     rw [B5 k hn] at hm
     rw [B5 k' ET] at eM
     exact g.rep.ne k k' o1 o2 pl hH iI ud Aw hm eM hc ml
    ·exact fun he=>Ky j' wF k o' o hH pl tc ho hn eM hm ml hc he.symm
   ·rcases u9 k' with ET | ⟨j',wF,rfl⟩
    ·exact Ky j hj k' o o' pl hH ho tc ET hm eM hc ml
    ·obtain ⟨o1,xY,c1,T1,h1,h2,h3,h4⟩:=Hr j hj o ho
     obtain ⟨o2,pj,c2,T2,k1,k2,k3,k4⟩:=Hr j' wF o' tc
     rw [EX j hj,h3] at hm;cases hm
     rw [EX j' wF,k3] at eM;cases eM
     exact g'.rep.ne _ _ o1 o2 pl hH (by omega) h1 k1 h3 k3 hc ml
  ·intro k o pl ho hm hc
   rcases u9 k with hn | ⟨j,hj,rfl⟩
   ·obtain ⟨o1,ud⟩:=hold k o ho hn
    rw [B5 k hn] at hm
    exact g.own k o1 pl ud hm hc
   ·obtain ⟨o1,xY,c1,T1,h1,h2,h3,h4⟩:=Hr j hj o ho
    rw [EX j hj,h3] at hm;cases hm
    rcases Oc j o1 pl h1 h3 hc with ⟨k2,i2,o4,MG,q1,q2,q3,q4,q5⟩ | ⟨k2,i2,j2,x2,v2,q1,q2,q3⟩ | h5
    ·rw [← q5];exact g.own k2 o4 MG q2 q3 q4
    ·exact (g.mx.bR q2 q3).2.2.1
    ·exact .inr (gp g.fr.size h5)
  ·cases he:(bs.isEmpty || aY.uB) with
   | true=>exact (hv.iH (f:=back aY.ks nk) uc).mono (RO he) (fun _ _=>rfl) (fun _ _ h=>h)
   | false =>
    rw [he,Bool.false_or] at Jt
    exact (hv.FL Jt w' SF).iH (f:=back aY.ks nk) uc
 split at h
 ·split at h
  ·split at h
   ·rename_i qs FM
    cases h
    obtain ⟨hq,_⟩:=aV.app hp.2
    have OZ:∀ k i:Nat,aY.ks[i]?=some k→∀ o,ar (dL σ (sc aY.uB bs)) k=some o→ar σ k=some o:=fun k i hk o ho=>by
     rw [ku] at ho
     split at ho
     ·cases ho
     ·exact ho
    refine fin ru _ hp.1 (fun n _ _=>ku _ _ _ _) ?_ ?_ ?_ ?_ ?_ ?_
    ·intro j hj o ho
     have ho:ar (dL σ (sc aY.uB bs)) (nk+j)=some o:=ho
     rw [ku] at ho
     split at ho
     ·cases ho
     ·rcases ua _ o ho with h1 | h1<;>omega
    ·intro w' S' xX cu _ j hj o1 pl c T h1
     obtain ⟨k,o,hk,_⟩:=AD _ o1 h1
     rw [n8 (by omega)] at hk;cases hk
    ·intro w' S' xX cu Ga g' hS uc k i o pl hk ho hm MH
     have ho:=OZ k i hk o ho
     obtain ⟨Ko,P5,JZ⟩:=tp _ _ FM hq k (List.mem_of_getElem? hk) o ho
     have SH:ar ru i=some (o.iH (idx aY.ks)):=by rw [MC];simp [hk,ho]
     obtain ⟨pj,c,T,BN,b9⟩:=g'.rep.ob i _ SH
     have fY:i < aY.ks.length:=(cJ.1 hk).1
     rw [g'.Bw i fY] at BN
     have:μ k=some pj:=by simpa [u5,iZ,hk] using BN
     rw [hm] at this;cases this
     exact ⟨c,T,Ir b9 P5 JZ hS MH uc⟩
    ·intro k i o hk ho
     have ho:=OZ k i hk o ho
     exact ⟨⟨o,ho⟩,o.iH (idx aY.ks),by rw [MC];simp [hk,ho]⟩
    ·intro k i o hk ho j x hx
     have ho:=OZ k i hk o ho
     exact ⟨o.iH (idx aY.ks),by rw [MC];simp [hk,ho],(nT _ _ _ _).2 hx⟩
    ·intro Kz n o' tc i
     obtain ⟨k,o,hk,ho,rfl⟩:=AD n o' tc
     obtain ⟨Ko,P5,JZ⟩:=tp _ _ FM hq k (List.mem_of_getElem? hk) o ho
     rw [Kz] at P5
     cases hr:rowOf (o.iH (idx aY.ks)) i with
     | none=>rfl
     | some x =>
      have:=(nT _ _ _ _).1 hr
      rw [EV P5 JZ] at this;cases this
   ·cases h
  ·rename_i q τ VM
   split at h
   ·rename_i qs Dt FM Of
    cases h
    obtain ⟨hq,_⟩:=aV.app hp.2
    simp only [aR] at Of
    obtain ⟨⟨SD,QF⟩,SI⟩:=Of
    have Iu:∀ k i:Nat,aY.ks[i]?=some k→k < nk∨nk+16≤k:=fun k i hk=>by
     obtain ⟨o,ho⟩:=v7 aY.ks 0 ru MA k (List.mem_of_getElem? hk)
     exact ua k o ho
    have OZ:∀ k i:Nat,aY.ks[i]?=some k→∀ o,ar (dL σ (yd aY.ks nk (q :: τ) ++ sc aY.uB bs)) k=some o→ar σ k=some o:=fun k i hk o ho=>by
     rw [eB,ku] at ho
     split at ho
     ·cases ho
     ·rw [sd _ _ _ QF (Iu k i hk)] at ho;exact ho
    have O0:∀ i:Nat,i < aY.ks.length→ar (ru ++ q :: τ) i=ar ru i:=fun i hi=>by
     rw [B0]
     cases hs:ar ru i with
     | some o=>rfl
     | none=>exact D5 SD i hi
    have QG:∀ j:Nat,ar (ru ++ q :: τ) (aY.ks.length+j)=ar (q :: τ) (aY.ks.length+j):=fun j=>by
     rw [B0]
     have:ar ru (aY.ks.length+j)=none:=by rw [MC];simp
     rw [this]
    refine fin (ru ++ q :: τ) _ hp.1 ?_ ?_ ?_ ?_ ?_ ?_ ?_
    ·intro n hn P6
     show ar (dL σ (yd aY.ks nk (q :: τ) ++ sc aY.uB bs)) n=_
     rw [eB,ku,sd _ _ _ QF P6]
    ·intro j hj o ho
     have ho:ar (dL σ (yd aY.ks nk (q :: τ) ++ sc aY.uB bs)) (nk+j)=some o:=ho
     rw [eB,ku] at ho
     split at ho
     ·cases ho
     rw [yf _ _ _ SI] at ho
     split at ho
     ·rename_i o1 ud
      cases ho
      exact ⟨o1,(QG j).trans ud,rfl⟩
     ·rcases ua _ o ho with h1 | h1<;>omega
    ·intro w' S' xX cu hS j hj o1 pl c T h1 h2 h3
     exact yg h2 (hS Dt) h3
    ·intro w' S' xX cu Ga g' hS uc k i o pl hk ho hm MH
     have ho:=OZ k i hk o ho
     obtain ⟨Ko,P5,JZ⟩:=tp _ _ FM hq k (List.mem_of_getElem? hk) o ho
     have fY:i < aY.ks.length:=(cJ.1 hk).1
     have SH:ar (ru ++ q :: τ) i=some (o.iH (idx aY.ks)):=by rw [O0 i fY,MC];simp [hk,ho]
     obtain ⟨pj,c,T,BN,b9⟩:=g'.rep.ob i _ SH
     rw [g'.Bw i fY] at BN
     have:μ k=some pj:=by simpa [u5,iZ,hk] using BN
     rw [hm] at this;cases this
     exact ⟨c,T,Ir b9 P5 JZ (fun _=>hS Dt) MH uc⟩
    ·intro k i o hk ho
     have ho:=OZ k i hk o ho
     exact ⟨⟨o,ho⟩,o.iH (idx aY.ks),by rw [O0 i (cJ.1 hk).1,MC];simp [hk,ho]⟩
    ·intro k i o hk ho j x hx
     have ho:=OZ k i hk o ho
     exact ⟨o.iH (idx aY.ks),by rw [O0 i (cJ.1 hk).1,MC];simp [hk,ho],(nT _ _ _ _).2 hx⟩
    ·intro MI
     rw [Dt] at MI;cases MI
   ·cases h
 ·split at h
  ·rename_i qs FM Kz
   cases h
   obtain ⟨hq,_⟩:=aV.app hp.2
   rw [aR] at FM
   have Qn:∀ n,ar (dL σ (wY aY.ks nk aY.mc 0 aY.ks)) n=match idx aY.ks n with
     | some j=>(ar aY.mc (0+j)).map (Ob.iH (back aY.ks nk))
     | none=>ar σ n:=fun n=>zr aY.ks 0 σ n MB
   have SJ:∀ k i:Nat,aY.ks[i]?=some k→idx aY.ks k=some i:=by
    intro k i hk
    cases hi:idx aY.ks k with
    | none=>exact (kr _ _ hi i hk).elim
    | some j=>rw [MB i j k hk (la _ _ _ hi)]
   have Iu:∀ k i:Nat,aY.ks[i]?=some k→k < nk∨nk+16≤k:=fun k i hk=>by
    obtain ⟨o,ho⟩:=v7 aY.ks 0 ru MA k (List.mem_of_getElem? hk)
    exact ua k o ho
   have KB:∀ k i:Nat,aY.ks[i]?=some k→∀ o,ar (dL σ (wY aY.ks nk aY.mc 0 aY.ks ++ (yd aY.ks nk aY.mc ++ sc aY.uB bs))) k=some o→(ar aY.mc i).map (Ob.iH (back aY.ks nk))=some o:=by
    intro k i hk o ho
    rw [eB,eB,ku] at ho
    split at ho
    ·cases ho
    rw [sd _ _ _ FM.1 (Iu k i hk),Qn k,SJ k i hk] at ho
    simpa using ho
   refine fin aY.mc _ hp.1 ?_ ?_ ?_ ?_ ?_ ?_ ?_
   ·intro n hn P6
    show ar (dL σ (wY aY.ks nk aY.mc 0 aY.ks ++ (yd aY.ks nk aY.mc ++ sc aY.uB bs))) n=_
    rw [eB,eB,ku,sd _ _ _ FM.1 P6,Qn n,hn]
   ·intro j hj o ho
    have ho:ar (dL σ (wY aY.ks nk aY.mc 0 aY.ks ++ (yd aY.ks nk aY.mc ++ sc aY.uB bs))) (nk+j)=some o:=ho
    rw [eB,eB,ku] at ho
    split at ho
    ·cases ho
    rw [yf _ _ _ FM.2] at ho
    split at ho
    ·rename_i o1 ud
     cases ho
     exact ⟨o1,ud,rfl⟩
    ·rw [Qn] at ho
     cases hi:idx aY.ks (nk+j) with
     | some i =>
      rcases Iu _ i (la _ _ _ hi) with h1 | h1<;>omega
     | none =>
      rw [hi] at ho
      rcases ua _ o ho with h1 | h1<;>omega
   ·intro w' S' xX cu hS j hj o1 pl c T h1 h2 h3
    rcases pk _ _ Kz hq _ o1 h1 with hl | ⟨Ko,hf,ME⟩
    ·exact yg h2 (hS hl) h3
    ·exact B3 h2 hf ME h3
   ·intro w' S' xX cu Ga g' hS uc k i o pl hk ho hm MH
    have ho:=KB k i hk o ho
    simp only [aE] at ho
    obtain ⟨o1,ud,rfl⟩:=ho
    obtain ⟨pj,c,T,BN,b9⟩:=g'.rep.ob i _ ud
    have fY:i < aY.ks.length:=(cJ.1 hk).1
    rw [g'.Bw i fY] at BN
    have:μ k=some pj:=by simpa [u5,iZ,hk] using BN
    rw [hm] at this;cases this
    refine ⟨c,T,?_⟩
    rcases pk _ _ Kz hq _ o1 ud with hl | ⟨Ko,hf,ME⟩
    ·exact (yg b9 (hS hl) MH).iH uc
    ·exact (B3 (BM:=cu) b9 hf ME MH).iH uc
   ·intro k i o hk ho
    have ho:=KB k i hk o ho
    simp only [aE] at ho
    obtain ⟨o1,ud,_⟩:=ho
    exact ⟨v7 aY.ks 0 ru MA k (List.mem_of_getElem? hk),o1,ud⟩
   ·intro k i o hk ho j x hx
    have ho:=KB k i hk o ho
    simp only [aE] at ho
    obtain ⟨o1,ud,rfl⟩:=ho
    exact ⟨o1,ud,(nT _ _ _ _).1 hx⟩
   ·intro MI n o1 ud i
    rcases pk _ _ Kz hq _ o1 ud with hl | ⟨Ko,hf,ME⟩
    ·rw [MI] at hl;cases hl
    ·exact rv hf ME i
  ·cases h
def O1:List AV→Bool
 | [.atom v]=>match v with
  | .int k _=>match k with
   | .u8=>true
   | _=>false
  | _=>false
 | _=>false
def RP:List AV→Int
 | [.atom v]=>match v with
  | .int _ x=>x
  | _=>0
 | _=>0
def strOf (n:Nat) (g:Nat→List AV):ByteArray:=⟨((List.range n).map fun i=>UInt8.ofNat (RP (g i)).toNat).toArray⟩
theorem MJ {l:List AV} (h:O1 l=true):l=[.atom (.int .u8 (RP l))]:=by
 unfold O1 at h
 split at h
 ·split at h
  ·split at h
   ·rfl
   ·cases h
  ·cases h
 ·cases h
def v8 (P:Program) (σ:cz) (src dst:TypeId) (x:AV):Option (List Prop×AV×List Nat) :=
 match P.underlying src,P.underlying dst with
 | some .string,some (.slice e)=>match P.underlying e,x with
  | some (.int .u8),.atom (.string b)=>some ([],.sl b.size (fun i=>[.atom (.int .u8 (xi b i))]),[])
  | _,_=>none
 | some (.slice e),some .string=>match P.underlying e,sa σ 1 x with
  | some (.int .u8),some (n,g,_,ps,rd)=>some ((∀ i,i < n→O1 (g i)=true) :: ps,.atom (.string (strOf n g)),rd)
  | _,_=>none
 | _,_=>none
theorem foldl_push (l:List Int):∀ (r:ByteArray),l.foldl (fun r n=>r.push (UInt8.ofNat n.toNat)) r=⟨r.data ++ (l.map fun n=>UInt8.ofNat n.toNat).toArray⟩:=by
 induction l with
 | nil=>intro r;simp
 | cons b l ih =>
  simp_all
theorem KC (g:Good E σ S μ w) {src dst:TypeId} {x:AV} {v:Value} (hx:an w S μ v x) {ps:List Prop} {val:AV} {rd:List Nat} (h:v8 P σ src dst x=some (ps,val,rd)) (hp:aV ps) :
  Step P E nk σ S μ w (convert src dst v) val []:=by
 unfold v8 at h
 split at h
 ·rename_i e hs hd
  split at h
  ·rename_i b he
   simp only [aA,ax] at h
   obtain ⟨rfl,rfl,rfl⟩:=h
   have:=b8 hx;subst this
   have jC:=run_bytes_of_string w src dst e b hs hd he
   have ga:=g.drew.Ji (.cells (bytesRow b (grownCap w b.size 0 e)) e ((bytesRow b (grownCap w b.size 0 e)).size,(bytesRow b (grownCap w b.size 0 e)).size+1))
   refine ⟨_,_,_,_,jC,(Ext.drew w S μ).trans ga.1,ga.2,fun _ _ h=>h,?_⟩
   refine .sl w.heap.size 0 1 (fun i _=>.int .u8 (xi b i)) (fun _=>⟨rfl,.inr rfl⟩) (fun i hi=>rfl) ?_ ?_ ?_
   ·intro i j hi hj
    have hj:j=0:=by omega
    subst hj
    have:=World.cell?_alloc_mark w.drew (bytesRow b (grownCap w b.size 0 e)) e ((bytesRow b (grownCap w b.size 0 e)).size,(bytesRow b (grownCap w b.size 0 e)).size+1) i
    simp_all [Nat.zero_add,Nat.mul_one,Nat.add_zero,bytesRow,Array.getElem?_append,xi,ByteArray.getElem_eq_getElem_data,getElem?_pos]
   ·intro i j c hi hc
    cases j with
    | zero=>simp at hc;subst hc;exact .atom _
    | succ j=>simp at hc
   ·simp [grownCap,Question.cut]
  ·cases h
 ·rename_i e hs hd
  split at h
  ·rename_i n gt pr qs Il he sb
   simp only [aA,ax] at h
   obtain ⟨rfl,rfl,rfl⟩:=h
   obtain ⟨hu,qL⟩:=hp
   obtain ⟨news,hn⟩:=uZ g (P:=P) hx sb qL
   have VN:∃ a len cap,v=.slice a len cap:=by
    unfold sa at sb
    split at sb
    ·cases hx;exact ⟨_,_,_,rfl⟩
    ·cases hx;exact ⟨_,_,_,rfl⟩
    ·cases hx;exact ⟨_,_,_,rfl⟩
    ·cases sb
   obtain ⟨a,len,cap,rfl⟩:=VN
   have hlen:len=n:=by
    have:=hn.len w
    simpa [Builtin.lenOf] using this
   subst hlen
   have N9:news=((List.range len).map fun i=>Value.int .u8 (RP (gt i))):=by
    have oX:news.length=len:=by simpa using hn.size
    apply List.ext_getElem?
    intro i
    by_cases hi:i < len
    ·have h1:news[i]?=some (news[i]'(by omega)):=n7 _
     have hg:=MJ (hu i hi)
     have h2:=hn.rep i 0 _ _ hi (by rw [hg];rfl) (by simpa only [Nat.mul_one,Nat.add_zero] using h1)
     grind [b8]
    ·simp_all
   have SK:(((List.range len).map fun i=>RP (gt i)).foldl (fun r n=>r.push (UInt8.ofNat n.toNat)) ByteArray.empty)=strOf len gt:=by
    rw [foldl_push]
    have h0:ByteArray.empty.data=#[]:=rfl
    rw [h0];simp [strOf]
   refine Step.pure g (v:=.string (strOf len gt)) ?_ (.atom _)
   rw [run_convert_bytes_string w src dst e a len cap hs he hd]
   cases a with
   | none =>
    have:len=0:=by
     rcases Nat.eq_zero_or_pos len with h0 | h0
     ·exact h0
     ·have:=hn.cells w rfl
      simp_all [Builtin.firstCells,congrArg,List.length]
    subst this
    rfl
   | some a =>
    rw [← SK]
    refine run_bytesToString w a len cap _ ?_
    have:=hn.cells w rfl
    grind [Builtin.firstCells,Function.comp_def]
  ·cases h
 ·cases h
open Go.MapKept
def wZ (P:Program) (kt:TypeId) (a b:AV):Option Bool :=
 match a,b with
 | .atom a,.atom b=>match a,b with
  | .string s,.string t=>some (pY s t)
  | .int k x,.int k' y=>match decide (k=k') with
   | true=>some (x == y)
   | false=>none
  | _,_=>none
 | .agg ys,.agg xs=>match Nat.beq ys.length xs.length with
  | true=>zf P 64 kt (.agg xs) (.agg ys)
  | false=>none
 | _,_=>none
def look (P:Program) (kt:TypeId):List AV→AV→Option (Option AV)
 | k :: v :: r,x=>match wZ P kt k x with
  | some true=>some (some v)
  | some false=>look P kt r x
  | none=>none
 | [_],_=>none
 | [],_=>some none
def EY (P:Program) (kt:TypeId):List AV→AV→AV→Option (List AV)
 | k :: v :: r,x,y=>match wZ P kt k x with
  | some true=>some (k :: y :: r)
  | some false=>(EY P kt r x y).map fun l=>k :: v :: l
  | none=>none
 | [_],_,_=>none
 | [],x,y=>some [x,y]
def allI (k:IntKind):List AV→Bool
 | []=>true
 | .atom (.int k' _) :: r=>match decide (k'=k) with
  | true=>allI k r
  | false=>false
 | _ :: _=>false
def ia (P:Program) (d:TypeDesc) (x:AV):Bool :=
 match d,x with
 | .string,.atom v=>match v with
  | .string _=>true
  | _=>false
 | .int k,.atom v=>match v with
  | .int k' _=>decide (k'=k)
  | _=>false
 | .array n e,.agg xs=>match P.underlying e,qM P e with
  | some (.int k),some m=>Nat.beq m 1 && Nat.beq xs.length n && allI k xs
  | _,_=>false
 | _,_=>false
def rz (R:Value→AV→Prop):List MapEntry→List AV→Prop
 | [],[]=>True
 | e :: es,k :: v :: cs=>R e.key k∧R e.val v∧rz R es cs
 | _,_=>False
theorem Hs (c:Array Value) (i:Nat) (hi:i < c.size / 2):(eP c)[i]?=some ⟨c[2 * i]?.getD undef,c[2 * i+1]?.getD undef,i⟩:=by
 simp [eP,hi]
theorem vb (c:Array Value):(eP c).size=c.size / 2:=by simp [eP]
theorem Iv {R:Value→AV→Prop} {c:Array Value} {cs:List AV} (h1:c.size % 2=0) (h2:c.size=cs.length) (h3:∀ (j:Nat) x v,cs[j]?=some x→c[j]?=some v→R v x):rz R (eP c).toList cs:=by
 have key:∀ (n o:Nat),2 * (o+n)=c.size→rz R ((List.range' o n).map fun i=>(⟨c[2 * i]?.getD undef,c[2 * i+1]?.getD undef,i⟩:MapEntry)) (cs.drop (2 * o)):=by
  intro n
  induction n with
  | zero=>intro o h;rw [List.drop_of_length_le (by omega)];trivial
  | succ n ih =>
   intro o h
   have e1:2 * o < cs.length:=by omega
   have e2:2 * o+1 < cs.length:=by omega
   rw [List.range'_succ,List.map_cons,List.drop_eq_getElem_cons e1,List.drop_eq_getElem_cons e2]
   have d1:c[2 * o]?=some c[2 * o]:=gG _
   have d2:c[2 * o+1]?=some c[2 * o+1]:=gG _
   have RI:=ih (o+1) (by omega)
   rw [show 2 * (o+1)=2 * o+1+1 by omega] at RI
   refine ⟨?_,?_,RI⟩
   ·grind
   grind
 have:=key (c.size / 2) 0 (by omega)
 have e:(eP c).toList=(List.range' 0 (c.size / 2)).map fun i=>(⟨c[2 * i]?.getD undef,c[2 * i+1]?.getD undef,i⟩:MapEntry):=by
  unfold eP
  rw [Array.toList_map,Array.toList_range,List.range_eq_range']
 rw [e];exact this
theorem Iw (a b:ByteArray):(a == b)=pY a b:=by
 have hl:∀ x:ByteArray,x.toList=x.data.toList:=fun x=>ByteArray.toList_eq x
 rw [Bool.eq_iff_iff,bytes_beq]
 unfold pY
 rw [hl,hl,beq_iff_eq]
 constructor
 ·rintro rfl;rfl
 ·intro h
  cases a;simp_all
theorem tq {d:TypeDesc} {kt:TypeId} {kv ev:Value} {v:Value} {k:AV} {b:Bool} (hx:ia P d (.atom v)=true) {w w':World} {S S':Nat→Prop} {μ cu:Mu} (h1:an w S μ kv (.atom v)) (h2:an w' S' cu ev k) (h:wZ P kt k (.atom v)=some b) :
  IsKey d kv∧Instr.sameNow d kv ev=some b∧(b=true→ev=kv):=by
 have:=b8 h1;subst this
 cases k with
 | atom u =>
  have:=b8 h2;subst this
  cases d<;>cases kv<;>simp [ia] at hx
  ·rename_i k0 k' n
   subst hx
   cases ev<;>simp [wZ] at h
   rename_i ka a
   by_cases hk:ka=k'
   ·subst hk
    rw [decide_eq_true rfl] at h
    simp only [aA] at h
    subst h
    refine ⟨rfl,?_,?_⟩
    ·simp only [Instr.sameNow,if_true]
     grind
    simp
   simp_all
  ·cases ev<;>simp [wZ] at h
   rename_i s a
   subst h
   refine ⟨trivial,?_,?_⟩
   ·simp only [Instr.sameNow,Iw]
    congr 1
    unfold pY;grind
   ·intro hb
    rw [← Iw,bytes_beq] at hb
    rw [hb]
 | _=>simp [wZ] at h
theorem Gc {d:TypeDesc} {kv v:Value} (hx:ia P d (.atom v)=true) {w:World} {S:Nat→Prop} {μ:Mu} (h1:an w S μ kv (.atom v)):IsKey d kv:=by
 have:=b8 h1;subst this
 cases d<;>cases kv<;>simp [ia] at hx
 ·exact hx
 ·trivial
theorem v9 {d:TypeDesc} {xs:List AV} (hx:ia P d (.agg xs)=true):∃ n e k,d=.array n e∧P.underlying e=some (.int k)∧qM P e=some 1∧xs.length=n∧allI k xs=true:=by
 cases d<;>simp [ia] at hx
 rename_i n e
 split at hx
 ·rename_i k m h1 h2
  simp only [aR] at hx
  have hm:=bj hx.1.1
  subst hm
  exact ⟨n,e,k,rfl,h1,h2,bj hx.1.2,hx.2⟩
 ·cases hx
theorem Ix {k:IntKind}:∀ {xs:List AV},allI k xs=true→∀ i,i < xs.length→∃ a,xs[i]?=some (.atom (.int k a))
 | [],_,i,h=>by simp at h
 | .atom (.int k' a) :: r,h,i,hi=>by
  unfold allI at h
  split at h
  ·rename_i hk
   have hk:=pe hk
   subst hk
   cases i with
   | zero=>exact ⟨a,rfl⟩
   | succ i=>simpa using Ix h i (by simpa using hi)
  ·cases h
theorem yi {k:IntKind} {xs:List AV} (h:allI k xs=true) {w:World} {S:Nat→Prop} {μ:Mu} {kv:Value} (hr:an w S μ kv (.agg xs)):∃ vs:Array Value,kv=.agg vs∧vs.size=xs.length∧∀ i,i < xs.length→∃ a,xs[i]?=some (.atom (.int k a))∧vs[i]?=some (.int k a):=by
 obtain ⟨vs,rfl,h1,h2⟩:=lF hr
 refine ⟨vs,rfl,h1,fun i hi=>?_⟩
 obtain ⟨a,ha⟩:=Ix h i hi
 have hv:vs[i]?=some vs[i]:=gG _
 have:=b8 (h2 i _ _ ha hv)
 exact ⟨a,ha,by rw [hv,this]⟩
theorem wa {k:IntKind}:∀ {xs:List AV},allI k xs=true→AV.jQ xs=true
 | [],_=>rfl
 | .atom (.int k' a) :: r,h=>by
  unfold allI at h
  split at h
  ·simpa [AV.jQ,AV.pure] using wa h
  ·cases h
theorem D6 {d:TypeDesc} {kt:TypeId} {kv xv:Value} (hx:ia P d (.atom xv)=true) {w w':World} {S S':Nat→Prop} {μ cu:Mu} (h1:an w S μ kv (.atom xv)):∀ (es:List MapEntry) (cs:List AV) (i:Nat) (r:Option AV),rz (an w' S' cu) es cs→look P kt cs (.atom xv)=some r →
  (r=none∧Instr.findNow d kv es i=some none)∨∃ (j:Nat) (e:MapEntry) (v:AV),r=some v∧Instr.findNow d kv es i=some (some (i+j,e.val))∧an w' S' cu e.val v
 | [],[],i,r,_,h=>by simp only [look,aA] at h;exact .inl ⟨h.symm,rfl⟩
 | e :: es,k :: v :: cs,i,r,hR,h=>by
  obtain ⟨r1,r2,r3⟩:=hR
  simp only [look] at h
  split at h
  ·rename_i hq
   cases h
   obtain ⟨_,q2,_⟩:=tq hx h1 r1 hq
   exact .inr ⟨0,e,v,rfl,by simp [Instr.findNow,q2],r2⟩
  ·rename_i hq
   obtain ⟨_,q2,_⟩:=tq hx h1 r1 hq
   rcases D6 hx h1 es cs (i+1) r r3 h with ⟨a,b⟩ | ⟨j,e',v',a,b,c⟩
   ·grind [Instr.findNow]
   ·exact .inr ⟨j+1,e',v',a,by grind [Instr.findNow],c⟩
  ·cases h
 | [],_ :: _,_,_,hR,_=>by simp [rz] at hR
 | _ :: _,[],_,_,hR,_=>by simp [rz] at hR
 | _ :: _,[_],_,_,hR,_=>by simp [rz] at hR
theorem Gd {d:TypeDesc} {kt:TypeId} {kv xv:Value} {y:AV} (hx:ia P d (.atom xv)=true) {w w':World} {S S':Nat→Prop} {μ cu:Mu} (h1:an w S μ kv (.atom xv)):∀ (es:List MapEntry) (cs:List AV) (i:Nat) (D7:List AV),rz (an w' S' cu) es cs→EY P kt cs (.atom xv) y=some D7 →
  (Instr.findNow d kv es i=some none∧D7=cs ++ [.atom xv,y])∨∃ (j:Nat) (e:MapEntry),Instr.findNow d kv es i=some (some (i+j,e.val))∧es[j]?=some e∧e.key=kv∧D7=cs.set (2 * j+1) y
 | [],[],i,D7,_,h=>by simp only [EY,aA] at h;exact .inl ⟨rfl,h.symm⟩
 | e :: es,k :: v :: cs,i,D7,hR,h=>by
  obtain ⟨r1,r2,r3⟩:=hR
  simp only [EY] at h
  split at h
  ·rename_i hq
   cases h
   obtain ⟨_,q2,q3⟩:=tq hx h1 r1 hq
   exact .inr ⟨0,e,by simp [Instr.findNow,q2],rfl,q3 rfl,rfl⟩
  ·rename_i hq
   obtain ⟨_,q2,_⟩:=tq hx h1 r1 hq
   simp only [aE] at h
   obtain ⟨l,hl,rfl⟩:=h
   rcases Gd hx h1 es cs (i+1) l r3 hl with ⟨a,b⟩ | ⟨j,e',a,b,c,q⟩
   ·grind [Instr.findNow]
   ·exact .inr ⟨j+1,e',by grind [Instr.findNow],by simpa using b,c,by grind⟩
  ·cases h
 | [],_ :: _,_,_,hR,_=>by simp [rz] at hR
 | _ :: _,[],_,_,hR,_=>by simp [rz] at hR
 | _ :: _,[_],_,_,hR,_=>by simp [rz] at hR
theorem KD {e:TypeId} {k:IntKind} (hu:P.underlying e=some (.int k)):∀ (D n i:Nat) (xs ys:List AV),wV P D e 1 xs ys i n=some true→∀ j,i≤j→j < i+n→xs[j]?=ys[j]?∧(xs[j]?).isSome=true:=by
 intro D
 induction D with
 | zero =>
  grind [wV]
 | succ D ih =>
  intro n i xs ys h j h1 h2
  cases n with
  | zero=>omega
  | succ n =>
   simp only [wV,Nat.mul_one] at h
   split at h
   ·rename_i a c _ ha hc
    split at h
    ·rename_i p q hp hq
     simp only [aA,aR] at h
     obtain ⟨rfl,rfl⟩:=h
     by_cases hj:j=i
     ·subst hj
      have cell:∀ (l:List AV) (z:AV),hI P e l j=some z→l[j]?=some z:=fun l z hz=>by
       grind [hI]
      rw [cell _ _ ha,cell _ _ hc]
      cases D with
      | zero=>simp [zf] at hp
      | succ D =>
       simp only [zf,hu] at hp
       grind
     ·exact ih n (i+1) xs ys hq j (by omega) (by omega)
    ·cases h
   ·cases h
theorem wb {d:TypeDesc} {kt:TypeId} (hd:P.underlying kt=some d) {xs:List AV} (hx:ia P d (.agg xs)=true) {w:World} {S:Nat→Prop} {kv ev:Value} {k:AV} {b:Bool} (h1:an w S fw kv (.agg xs)) (h2:an w S fw ev k) (h:wZ P kt k (.agg xs)=some b) :
  (Op.equal kt kv ev).run P w=.ok b w∧(b=true→ev=kv):=by
 cases k with
 | agg ys =>
  unfold wZ at h
  simp only at h
  split at h
  ·rename_i hl
   have hl:=bj hl
   refine ⟨(FX 64).1 Op.maxDepth kt _ _ _ _ _ (by decide) h1 h2 h,fun hb=>?_⟩
   subst hb
   obtain ⟨n,e,kk,rfl,hu,hs,hn,uC⟩:=v9 hx
   obtain ⟨vs,rfl,Dr,AN⟩:=yi uC h1
   obtain ⟨us,rfl,Jl,FY⟩:=lF h2
   simp only [zf,hd,hs] at h
   have pX:=KD hu _ _ _ _ _ h
   congr 1
   apply Array.ext
   ·omega
   ·intro i Xi QH
    have hi:i < xs.length:=by omega
    obtain ⟨a,O2,Mb⟩:=AN i hi
    obtain ⟨hq,_⟩:=pX i (Nat.zero_le _) (by omega)
    rw [O2] at hq
    have:=b8 (FY i _ us[i] hq.symm (gG _))
    rw [this]
    rw [gG QH] at Mb
    exact (Option.some.inj Mb).symm
  ·cases h
 | _=>simp [wZ] at h
theorem Gf {d:TypeDesc} {kt:TypeId} (hd:P.underlying kt=some d) {xs:List AV} (hx:ia P d (.agg xs)=true) {w:World} {S:Nat→Prop} {kv:Value} (h1:an w S fw kv (.agg xs)):∀ (es:List MapEntry) (cs:List AV) (i:Nat) (r:Option AV),rz (an w S fw) es cs→look P kt cs (.agg xs)=some r →
  (r=none∧(Instr.findAsking kt kv es i).run P w=.ok none w)∨∃ (j:Nat) (e:MapEntry) (v:AV),r=some v∧(Instr.findAsking kt kv es i).run P w=.ok (some (i+j,e.val)) w∧an w S fw e.val v
 | [],[],i,r,_,h=>by simp_all [look,aA,Instr.findAsking]
 | e :: es,k :: v :: cs,i,r,hR,h=>by
  obtain ⟨r1,r2,r3⟩:=hR
  simp only [look] at h
  split at h
  ·rename_i hq
   cases h
   obtain ⟨q2,_⟩:=wb hd hx h1 r1 hq
   exact .inr ⟨0,e,v,rfl,by simp [Instr.findAsking,q2,Result.andThen],r2⟩
  ·rename_i hq
   obtain ⟨q2,_⟩:=wb hd hx h1 r1 hq
   rcases Gf hd hx h1 es cs (i+1) r r3 h with ⟨a,b⟩ | ⟨j,e',v',a,b,c⟩
   ·simp_all [Instr.findAsking,Result.andThen]
   ·exact .inr ⟨j+1,e',v',a,by simp [Instr.findAsking,q2,Result.andThen,b];omega,c⟩
  ·cases h
 | [],_ :: _,_,_,hR,_=>by simp [rz] at hR
 | _ :: _,[],_,_,hR,_=>by simp [rz] at hR
 | _ :: _,[_],_,_,hR,_=>by simp [rz] at hR
theorem Iy {d:TypeDesc} {kt:TypeId} (hd:P.underlying kt=some d) {xs:List AV} {y:AV} (hx:ia P d (.agg xs)=true) {w:World} {S:Nat→Prop} {kv:Value} (h1:an w S fw kv (.agg xs)):∀ (es:List MapEntry) (cs:List AV) (i:Nat) (D7:List AV),rz (an w S fw) es cs→EY P kt cs (.agg xs) y=some D7 →
  ((Instr.findAsking kt kv es i).run P w=.ok none w∧D7=cs ++ [.agg xs,y])∨∃ (j:Nat) (e:MapEntry),(Instr.findAsking kt kv es i).run P w=.ok (some (i+j,e.val)) w∧es[j]?=some e∧e.key=kv∧D7=cs.set (2 * j+1) y
 | [],[],i,D7,_,h=>by simp_all [EY,aA,Instr.findAsking]
 | e :: es,k :: v :: cs,i,D7,hR,h=>by
  obtain ⟨r1,r2,r3⟩:=hR
  simp only [EY] at h
  split at h
  ·rename_i hq
   cases h
   obtain ⟨q2,q3⟩:=wb hd hx h1 r1 hq
   exact .inr ⟨0,e,by simp [Instr.findAsking,q2,Result.andThen],rfl,q3 rfl,rfl⟩
  ·rename_i hq
   obtain ⟨q2,_⟩:=wb hd hx h1 r1 hq
   simp only [aE] at h
   obtain ⟨l,hl,rfl⟩:=h
   rcases Iy hd hx h1 es cs (i+1) l r3 hl with ⟨a,b⟩ | ⟨j,e',a,b,c,q⟩
   ·simp_all [Instr.findAsking,Result.andThen]
   ·exact .inr ⟨j+1,e',by simp [Instr.findAsking,q2,Result.andThen,a];omega,by simpa using b,c,by grind⟩
  ·cases h
 | [],_ :: _,_,_,hR,_=>by simp [rz] at hR
 | _ :: _,[],_,_,hR,_=>by simp [rz] at hR
 | _ :: _,[_],_,_,hR,_=>by simp [rz] at hR
theorem yj {kt:TypeId} {n:Nat} {e:TypeId} (hd:P.underlying kt=some (.array n e)) {w:World} {vs:Array Value} {es:List MapEntry} {a:Option (Nat×Value)} (h:(Instr.findAsking kt (.agg vs) es 0).run P w=.ok a w):(Instr.findKey kt (.agg vs) es).run P w=.ok a w:=by
 cases es with
 | nil =>
  simp_all [Instr.findAsking,Instr.findKey,run_underlying,Result.andThen,Instr.findNow]
 | cons z es=>simp_all [Instr.findKey,run_underlying,Result.andThen,Instr.findNow,Instr.sameNow]
theorem KE {d:TypeDesc} {kt:TypeId} (hd:P.underlying kt=some d) {x:AV} (hx:ia P d x=true) {w:World} {S:Nat→Prop} {μ:Mu} {kv:Value} (h1:an w S μ kv x) {es:List MapEntry} {cs:List AV} {r:Option AV} (hR:rz (an w S fw) es cs) (h:look P kt cs x=some r) :
  (r=none∧(Instr.findKey kt kv es).run P w=.ok none w)∨∃ (j:Nat) (e:MapEntry) (v:AV),r=some v∧(Instr.findKey kt kv es).run P w=.ok (some (j,e.val)) w∧an w S fw e.val v:=by
 cases x with
 | atom xv =>
  rcases D6 hx h1 es cs 0 r hR h with ⟨a,b⟩ | ⟨j,e,v,a,b,c⟩
  ·grind [run_findKey]
  ·exact .inr ⟨j,e,v,a,by simp_all [Nat.zero_add,run_findKey],c⟩
 | agg xs =>
  obtain ⟨n,e,k,rfl,_,_,_,uC⟩:=v9 hx
  have Og:an w S fw kv (.agg xs):=h1.pure (wa uC) fw
  obtain ⟨vs,rfl,_,_⟩:=yi uC Og
  rcases Gf hd hx Og es cs 0 r hR h with ⟨a,b⟩ | ⟨j,e,v,a,b,c⟩
  ·grind [yj]
  ·exact .inr ⟨j,e,v,a,by rw [Nat.zero_add] at b;exact yj hd b,c⟩
 | _=>grind [ia]
theorem MK {d:TypeDesc} {kt:TypeId} (hd:P.underlying kt=some d) {x y:AV} (hx:ia P d x=true) {w:World} {S:Nat→Prop} {μ:Mu} {kv:Value} (h1:an w S μ kv x) {es:List MapEntry} {cs D7:List AV} (hR:rz (an w S fw) es cs) (h:EY P kt cs x y=some D7) :
  ((Instr.findKey kt kv es).run P w=.ok none w∧D7=cs ++ [x,y])∨∃ (j:Nat) (e:MapEntry),(Instr.findKey kt kv es).run P w=.ok (some (j,e.val)) w∧es[j]?=some e∧e.key=kv∧D7=cs.set (2 * j+1) y:=by
 cases x with
 | atom xv =>
  rcases Gd hx h1 (y:=y) es cs 0 D7 hR h with ⟨a,b⟩ | ⟨j,e,a,b⟩
  ·grind [run_findKey]
  ·exact .inr ⟨j,e,by simp_all [Nat.zero_add,run_findKey],b⟩
 | agg xs =>
  obtain ⟨n,e,k,rfl,_,_,_,uC⟩:=v9 hx
  have Og:an w S fw kv (.agg xs):=h1.pure (wa uC) fw
  obtain ⟨vs,rfl,_,_⟩:=yi uC Og
  rcases Iy hd hx Og (y:=y) es cs 0 D7 hR h with ⟨a,b⟩ | ⟨j,e,a,b⟩
  ·grind [yj]
  ·exact .inr ⟨j,e,by rw [Nat.zero_add] at a;exact yj hd a,b⟩
 | _=>grind [ia]
theorem KF {d:TypeDesc} {x:AV} (hx:ia P d x=true):x.pure=true:=by
 cases x with
 | atom xv=>rfl
 | agg xs=>grind [v9,AV.pure,wa]
 | _=>grind [ia]
theorem D8 {d:TypeDesc} {kt:TypeId} (hd:P.underlying kt=some d) {x:AV} (hx:ia P d x=true) {w:World} {S:Nat→Prop} {μ:Mu} {kv:Value} (h1:an w S μ kv x) (b:Bool):(Instr.checkKey b 10000 kt kv).run P w=.ok () w:=by
 cases x with
 | atom xv=>grind [run_checkKey,Gc]
 | agg xs =>
  obtain ⟨n,e,k,rfl,hu,hs,hn,uC⟩:=v9 hx
  obtain ⟨vs,rfl,Dr,AN⟩:=yi uC h1
  obtain ⟨us,VO,Jl,FY⟩:=lF h1
  cases VO
  have loop:∀ (m i:Nat),i+m=n→(forIn (m:=Sem) (List.range' i m) PUnit.unit fun i _=>do
    let z ← sizeOf e
    let q ← part e vs (i * z)
    Instr.checkKey b 9999 e q
    pure (ForInStep.yield PUnit.unit)).run P w=.ok PUnit.unit w:=by
   intro m
   induction m with
   | zero=>intro i _;simp
   | succ m ih =>
    intro i Xj
    have hi:i < xs.length:=by omega
    obtain ⟨a,O2,Mb⟩:=AN i hi
    have hc:hI P e xs i=some (.atom (.int k a)):=by
     unfold hI
     rw [hu,hs]
     exact O2
    obtain ⟨v,r1,r2⟩:=hO Dr FY hc (fun n' ET=>by grind)
    have:=b8 r2;subst this
    have VP:(Instr.checkKey b 9999 e (.int k a)).run P w=.ok () w:=run_checkKey hu (show IsKey (.int k) (.int k a) from rfl) b 9998
    rw [List.range'_succ,List.forIn_cons]
    simp only [bc,df hs,Nat.mul_one,r1,VP,b7]
    simpa using ih (i+1) (by omega)
  unfold Instr.checkKey
  simp only [bc,run_underlying hd,b7]
  simp_all
 | _=>grind [ia]
theorem Ju {d:TypeDesc} {x:AV} (hx:ia P d x=true) {w:World} {S:Nat→Prop} {μ:Mu} {kv:Value} (h1:an w S μ kv x):(Instr.keyThatStays kv kv).run P w=.ok kv w:=by
 cases x with
 | atom xv=>exact run_keyThatStays (Gc hx h1)
 | agg xs =>
  obtain ⟨n,e,k,rfl,hu,hs,hn,uC⟩:=v9 hx
  obtain ⟨vs,rfl,Dr,AN⟩:=yi uC h1
  have:Instr.sameBits 10000 (.agg vs) (.agg vs)=true:=by
   have hz:∀ l:List Value,(∀ v,v∈l→∃ a,v=.int k a)→(l.zip l).all (fun (x,y)=>Instr.sameBits 9999 x y)=true:=by
    intro l
    induction l with
    | nil=>intro _;rfl
    | cons a l ih =>
     intro h
     obtain ⟨z,rfl⟩:=h a (.head _)
     simp only [List.zip_cons_cons,List.all_cons,aR]
     exact ⟨by simp [Instr.sameBits],ih fun v hv=>h v (.tail _ hv)⟩
   simp only [Instr.sameBits,beq_self_eq_true,Bool.true_and]
   refine hz _ fun v hv=>?_
   obtain ⟨i,hi,rfl⟩:=List.getElem_of_mem hv
   have hi:i < vs.size:=by simpa using hi
   obtain ⟨a,_,ha⟩:=AN i (by omega)
   rw [gG hi] at ha
   exact ⟨a,by simpa using Option.some.inj ha⟩
  simp [Instr.keyThatStays,this]
 | _=>cases d<;>simp [ia] at hx
theorem Gg (c:Array Value) (h:c.size % 2=0) (a b:Value):eP ((c.push a).push b)=(eP c).push ⟨a,b,c.size / 2⟩:=by
 apply Array.ext
 ·simp [eP];omega
 ·intro i h1 h2
  have hs:i < (c.size+1+1) / 2:=by simpa [eP] using h1
  by_cases hi:i < c.size / 2
  ·rw [Array.getElem_push_lt (by rw [vb];exact hi)]
   have e1:2 * i < c.size:=by omega
   have e2:2 * i+1 < c.size:=by omega
   simp [eP,Array.getElem?_push,e1,e2,Nat.ne_of_lt e1,Nat.ne_of_lt e2,show ¬ 2 * i=c.size+1 by omega,show ¬ 2 * i+1=c.size+1 by omega]
  ·have:i=c.size / 2:=by omega
   subst this
   have e1:2 * (c.size / 2)=c.size:=by omega
   simp [eP,Array.getElem_push,Array.getElem?_push,e1]
theorem Ht (c:Array Value) (j:Nat) (e:MapEntry) (he:(eP c)[j]?=some e) (v:Value):eP (c.setIfInBounds (2 * j+1) v)=(eP c).modify j fun q=>{ q with key:=e.key,val:=v }:=by
 have hj:j < c.size / 2:=by
  have:=(Array.getElem?_eq_some_iff.1 he).1
  rwa [vb] at this
 rw [Hs c j hj] at he
 cases he
 apply Array.ext
 ·simp [eP]
 ·intro i h1 h2
  have hi:i < c.size / 2:=by simpa [eP] using h1
  rw [Array.getElem_modify]
  by_cases O3:j=i
  ·subst O3
   simp [eP,Array.getElem?_setIfInBounds,show ¬ 2 * j+1=2 * j by omega,show 2 * j+1 < c.size by omega]
  ·rw [if_neg O3]
   simp [eP,Array.getElem?_setIfInBounds,show ¬ 2 * j+1=2 * i by omega,show ¬ 2 * j=2 * i by omega,O3]
def se (P:Program) (σ:cz) (t:TypeId) (m x:AV) (ok:Bool) (aY:l8):Option (List Prop×AV×List Nat) :=
 match m,P.underlying t with
 | .mp k,some (.map kt et)=>match P.underlying kt,ar σ k,oY P et with
  | some d,some o,some z=>match ia P d x && Nat.beq o.sz 0 with
   | true=>match ok with
    | false=>some ([(look P kt (o.get 0) x).map (fun r=>r.getD (ofConst z))=some aY.res],aY.res,[k])
    | true=>some ([(look P kt (o.get 0) x).map (fun r=>AV.tup [r.getD (ofConst z),.atom (.bool r.isSome)])=some aY.res],aY.res,[k])
   | false=>none
  | _,_,_=>none
 | _,_=>none
def sf (P:Program) (σ:cz) (t:TypeId) (m x y:AV) (aY:l8):Option (List Prop×oZ×List Nat) :=
 match m,P.underlying t,aY.res with
 | .mp k,some (.map kt _),.tup cs=>match P.underlying kt,ar σ k with
  | some d,some o=>match ia P d x && Nat.beq o.sz 0 && Nat.beq o.len 0 && y.pure with
   | true=>some ([EY P kt (o.get 0) x y=some cs],[(k,some ⟨o.var,o.sz,o.len,true,fun _=>cs⟩)],[k])
   | false=>none
  | _,_=>none
 | _,_,_=>none
theorem D9 (g:Good E σ S μ w) {k:Nat} {o:Ob} (ho:ar σ k=some o) (hz:o.sz=0) {v:Value} (hv:an w S μ v (.mp k)) :
  ∃ pl c T,μ k=some pl∧eJ w S μ o pl c T∧v=.map (some pl.bR):=by
 obtain ⟨pl,c,T,hm,b9⟩:=g.rep.ob k o ho
 cases hv with
 | mp hH eM=>grind
theorem Jv (g:Good E σ S μ w) {t:TypeId} {m x:AV} {ok:Bool} {aY:l8} {vm vx:Value} (hm:an w S μ vm m) (hx:an w S μ vx x) {ps:List Prop} {val:AV} {rd:List Nat}
  (h:se P σ t m x ok aY=some (ps,val,rd)) (hp:aV ps):∃ v,(Instr.lookup t vm vx ok).run P w=.ok v w∧an w S μ v val:=by
 unfold se at h
 split at h
 ·rename_i k kt et ht
  split at h
  ·rename_i d o z hd ho hz
   split at h
   ·rename_i hb
    simp only [aR] at hb
    have O4:=bj hb.2
    obtain ⟨pl,c,T,rn,b9,rfl⟩:=D9 g ho O4 hm
    obtain ⟨hc,m1,m2,m3,m4⟩:=b9.mp O4
    have Gh:w.heap[pl.bR]?=some (.map (eP c) (c.size / 2)):=(b9.bR hc).trans (by rw [xe O4])
    have O5:=Iv m1 m2 m4
    have KG:=fun b=>D8 hd hb.1 hx b
    have main:∀ r,look P kt (o.get 0) x=some r→∃ v,an w S μ v (r.getD (ofConst z))∧(Instr.lookup t (.map (some pl.bR)) vx ok).run P w=.ok (if ok then .tuple #[v,.bool r.isSome] else v) w:=by
     intro r hr
     rcases KE hd hb.1 hx O5 hr with ⟨rfl,q⟩ | ⟨j,e,v,rfl,q1,q2⟩
     ·refine ⟨z,DT w S μ z,?_⟩
      simp [Instr.lookup,run_underlying ht,Go.MapKept.run_getObj_map Gh,KG,q,DU hz,Result.andThen]
     ·refine ⟨e.val,fy (pr:=true) q2,?_⟩
      simp [Instr.lookup,run_underlying ht,Go.MapKept.run_getObj_map Gh,KG,q1,Result.andThen]
    split at h
    ·simp only [aA,ax] at h
     obtain ⟨rfl,rfl,rfl⟩:=h
     obtain ⟨xk,_⟩:=hp
     simp only [aE] at xk
     obtain ⟨r,hr,dg⟩:=xk
     obtain ⟨v,h1,h2⟩:=main r hr
     exact ⟨v,by simpa using h2,by rw [← dg];exact h1⟩
    ·simp only [aA,ax] at h
     obtain ⟨rfl,rfl,rfl⟩:=h
     obtain ⟨xk,_⟩:=hp
     simp only [aE] at xk
     obtain ⟨r,hr,dg⟩:=xk
     obtain ⟨v,h1,h2⟩:=main r hr
     refine ⟨.tuple #[v,.bool r.isSome],by simpa using h2,?_⟩
     rw [← dg]
     refine .tup rfl fun j c v' hc hv=>?_
     match j with
     | 0=>simp at hc hv;subst hc hv;exact h1
     | 1=>simp at hc hv;subst hc hv;exact .atom _
     | j+2=>simp at hc
   ·cases h
  ·cases h
 ·cases h
theorem Ea (g:Good E σ S μ w) {t:TypeId} {m x y:AV} {aY:l8} {vm vx vy:Value} (hm:an w S μ vm m) (hx:an w S μ vx x) (hy:an w S μ vy y) {ps:List Prop} {ko:oZ} {rd:List Nat}
  (h:sf P σ t m x y aY=some (ps,ko,rd)) (hp:aV ps):∃ w',(Instr.mapUpdate t vm vx vy).run P w=.ok () w'∧Ext w S μ w' S μ∧Good E (dL σ ko) S μ w':=by
 unfold sf at h
 split at h
 ·rename_i k kt et cs ht Jt
  split at h
  ·rename_i d o hd ho
   split at h
   ·rename_i hb
    simp only [aA,ax] at h
    obtain ⟨rfl,rfl,rfl⟩:=h
    simp only [aR] at hb
    obtain ⟨⟨⟨oW,nh⟩,JY⟩,Mr⟩:=hb
    have O4:=bj nh
    have F0:=bj JY
    obtain ⟨xk,_⟩:=hp
    obtain ⟨pl,c,T,rn,b9,rfl⟩:=D9 g ho O4 hm
    obtain ⟨hc,m1,m2,m3,m4⟩:=b9.mp O4
    have Gh:w.heap[pl.bR]?=some (.map (eP c) (c.size / 2)):=(b9.bR hc).trans (by rw [xe O4])
    have O5:=Iv m1 m2 m4
    have KG:=fun b=>D8 hd oW hx b
    have QI:=Ju oW hx
    have VQ:x.pure=true:=KF oW
    -- the block that is written
    have fin:∀ (c':Array Value),c'.size % 2=0→c'.size=cs.length→(∀ (j:Nat) x v,cs[j]?=some x→c'[j]?=some v→an w S fw v x) →
      (Instr.mapUpdate t (.map (some pl.bR)) vx vy).run P w=.ok () { w with heap:=w.heap.setIfInBounds pl.bR (.map (eP c') (c'.size / 2)) } →
      ∃ w',(Instr.mapUpdate t (.map (some pl.bR)) vx vy).run P w=.ok () w'∧Ext w S μ w' S μ∧Good E (dL σ [(k,some ⟨o.var,o.sz,o.len,true,fun _=>cs⟩)]) S μ w':=by
     intro c' e1 e2 e3 jC
     refine ⟨_,jC,?_⟩
     have Jw:=heap_set (o':=.map (eP c') (c'.size / 2)) Gh
     refine g.Mj (w':={ w with heap:=w.heap.setIfInBounds pl.bR (.map (eP c') (c'.size / 2)) }) ho rn hc b9 rfl rfl rfl (by simp) (fun b hb=>Jw.2 b hb) ⟨o.var,o.sz,o.len,true,fun _=>cs⟩ (nj fun i hi=>absurd hi (by show ¬ i < o.len;omega)) (fun ex=>⟨c',T,b9.sz,fun _=>?_,?_,by simp_all,b9.out,fun i hi=>absurd hi (by show ¬ i < o.len;omega),fun i j x v hi=>absurd hi (by show ¬ i < o.len;omega),fun _=>⟨hc,e1,e2,rfl,fun j x v hx hv=>(e3 j x v hx hv).mono ex.EI ex.bR (fun _ _ h=>h)⟩⟩)
     ·grind [xd,xe]
     ·simp_all
    rcases MK hd oW hx (y:=y) O5 xk with ⟨q1,q2⟩ | ⟨j,e,q1,q2,q3,q4⟩
    ·refine fin ((c.push vx).push vy) (by simp;omega) (by rw [q2];simp;omega) ?_ ?_
     ·intro j x' v' ub pW
      rw [q2] at ub
      by_cases hj:j < c.size
      ·grind
      ·rw [iW (by omega)] at ub
       by_cases UJ:j=c.size
       ·subst UJ
        rw [show c.size - (o.get 0).length=0 by omega] at ub
        rw [Array.getElem?_push,if_neg (by simp),Array.getElem?_push,if_pos rfl] at pW
        simp at ub pW
        subst ub pW
        exact hx.pure VQ fw
       ·by_cases VR:j=c.size+1
        ·subst VR
         rw [show c.size+1 - (o.get 0).length=1 by omega] at ub
         rw [Array.getElem?_push,if_pos (by simp)] at pW
         simp at ub pW
         subst ub pW
         exact hy.pure Mr fw
        ·rw [n8 (by simp;omega)] at ub;cases ub
     ·rw [Gg c m1]
      have e:((c.push vx).push vy).size / 2=c.size / 2+1:=by simp;omega
      rw [e]
      simp [Instr.mapUpdate,run_underlying ht,Go.MapKept.run_getObj_map Gh,KG,q1,Go.MapKept.run_setObj_map _ Gh,Result.andThen]
    ·have P7:(eP c)[j]?=some e:=by simpa using q2
     have hj:j < c.size / 2:=by
      have:=(Array.getElem?_eq_some_iff.1 P7).1
      rwa [vb] at this
     refine fin (c.setIfInBounds (2 * j+1) vy) (by simpa using m1) (by rw [q4];simpa using m2) ?_ ?_
     ·intro i x' v' ub pW
      rw [q4,List.getElem?_set] at ub
      rw [Array.getElem?_setIfInBounds] at pW
      by_cases hi:2 * j+1=i
      ·subst hi
       rw [if_pos rfl,if_pos (by omega)] at ub
       rw [if_pos rfl,if_pos (by omega)] at pW
       simp at ub pW
       subst ub pW
       exact hy.pure Mr fw
      ·rw [if_neg hi] at ub pW
       exact m4 i x' v' ub pW
     ·rw [Ht c j e P7 vy]
      simp [Instr.mapUpdate,run_underlying ht,Go.MapKept.run_getObj_map Gh,KG,q1,P7,q3,QI,Go.MapKept.run_setObj_map _ Gh,Result.andThen]
   ·cases h
  ·cases h
 ·cases h
theorem Hu (g:Good E σ S μ w) (xl:∀ j,j < 16→μ (nk+j)=none) (qW:E.m0≤nk) {f:AV} {args:List AV} {aY:l8} {r:R} {fv:Value} (hf:an w S μ fv f) {yh:Array Value} (ha:RL w S μ yh args)
  (hz:aY.uB=true→∀ b,¬ E.fp b) (h:B1 P nk σ f args aY=some r) (hp:aV r.D2) :
  ∃ gid vs,(do let d ← Deferred.ofValue fv yh;invoke d.target d.args:Sem Next).run P w=.ok (.enter gid vs) w ∧
   Calls P gid vs w fun e w'=>∃ v S' cu,e=.returned v∧Ext w S μ w' S' cu∧Good E (dL σ r.ko) S' cu w'∧(∀ k,(k < nk∨nk+16≤k)→μ k=none→cu k=none)∧an w' S' cu v r.val :=
 F9 (ob:=Sound P) g xl qW hf ha hz (fun _ _ _ _ _ _ vs hs g0 hn uC=>hs w _ _ vs g0 hn uC) h hp
end
end Go.Ab
