/- Abstract values over the heap of the machine, and functions read off its code (part 2). No conditions. -/
import Derived.Test.YthnmoifahladaaaGreatCa
import Derived.Laws.IdiomStrings
import Derived.MapKept
import Derived.Carry
set_option linter.unusedVariables false
set_option linter.unusedSimpArgs false
namespace Go.Ab
def ajB (w:World) (σ:eE) (μ:Mu) (b:Nat):Prop:=(∃ k o pl,au σ k=some o/\μ k=some pl/\0 < pl.cap/\pl.dD=b)\/∃ k i x v,kr w μ σ k i x v/\ptrTo v b
def Eu (w:World) (S:Nat->Prop) (σ:eE) (μ:Mu) (m:Nat):Env:=⟨w,S,ajB w σ μ,μ,m⟩
def Sound (P:Program) (f:FuncId) (args:List AV) (σ:eE) (m:Nat) (res:AV) (gj:eE):Prop :=
 ∀ (w:World) (S:Nat->Prop) (μ:Mu) (vs:Array Value),Good (Eu w S σ μ m) σ S μ w->(∀ k,m<=k->μ k=none)->RL w S μ vs args ->
  Calls P f vs w fun e w'=>∃ v S' eB,e=.returned v/\Good (Eu w S σ μ m) gj S' eB w'/\ak w' S' eB v res
section
variable {E:Env} {nk:Nat} {σ:eE} {S:Nat->Prop} {μ:Mu} {w:World}
theorem kr.of (g:Good E σ S μ w) {k i:Nat} {o:Ob} {x:Nat×Nat×(Nat->List AV)} (ho:au σ k=some o) (hr:rowOf o i=some x) {pl:Place} (hm:μ k=some pl):∃ v,kr w μ σ k i x v:=by
 obtain ⟨h1,h2,h3⟩:=dW hr
 obtain ⟨mf,c,T,jl,dS⟩:=g.rep.ob k o ho
 rw [hm] at jl;cases jl
 have hl:=dS.zw i h2
 rw [h3] at hl
 obtain ⟨v,q1,q2⟩:=dL dS (i:=i) (j:=0) h2 (by simp at hl;omega)
 exact ⟨v,o,pl,ho,hr,hm,by rw [dS.sz];simpa using q2⟩
theorem jq.aeN {o:Ob} {pl:Place} {c:Array Value} {T:TypeId} {eB:Mu} (h:jq w S μ o pl c T) (hv:o.sz≠0) (hμ:∀ k p,μ k=some p->eB k=some p) (i:Nat) (cs:List AV) (hl:cs.length=o.sz)
  (hc:∀ j x v,i < o.len->cs[j]?=some x->c[i * o.sz+j]?=some v->ak w S eB v x):jq w S eB ⟨false,o.sz,o.len,false,fun m=>if m=i then cs else o.get m⟩ pl c T:=by
 refine ⟨h.sz,h.dD,h.cap,h.len,h.out,fun m hm=>?_,fun m j x v hm hx yB=>?_,fun hz=>absurd hz hv⟩
 ·show (if m=i then cs else o.get m).length=o.sz
  split
  ·exact hl
  ·exact h.zw m hm
 ·have hx2:(if m=i then cs else o.get m)[j]?=some x:=hx
  show ak w S eB v x
  by_cases Jq:m=i
  ·grind
  ·rw [if_neg Jq] at hx2
   exact (j6 (h.rep m j x v hm hx2 yB)).mono (fun _ h=>h) (fun _ _=>rfl) hμ
theorem Good.opn (g:Good E σ S μ w) (hk:μ nk=none) (zR:E.m0<=nk) {k i:Nat} {o:Ob} {x:Nat×Nat×(Nat->List AV)} (ho:au σ k=some o) (hr:rowOf o i=some x) :
  ∃ q:Place,Ext w S μ w S (cK μ nk q)/\Good E (sset (sset σ k ⟨false,o.sz,o.len,false,fun m=>if m=i then [.os nk 0 x.2.1] else o.get m⟩) nk ⟨false,x.1,x.2.1,true,x.2.2⟩) S (cK μ nk q) w:=by
 obtain ⟨Jr,hi,ui⟩:=dW hr
 obtain ⟨pl,c,T,hm,dS⟩:=g.rep.ob k o ho
 have Dy:k≠nk:=fun h=>by simp_all
 have xB:o.sz=1:=by have:=dS.zw i hi;rw [ui] at this;simpa using this.symm
 obtain ⟨v,hv⟩:=kr.of g ho hr hm
 obtain ⟨a,cap,rfl,h1,h2,h3⟩:=g.mx.row _ _ _ _ hv
 -- the place of the row
 have hq:∃ q:Place,q.sz=x.1/\cap=q.cap/\(0 < cap->a=some ⟨q.dD,0,none⟩)/\(0 < q.cap->0 < cap)/\(∃ c' T',jq w S kF ⟨false,x.1,x.2.1,true,x.2.2⟩ q c' T')/\(0 < q.cap->E.fp q.dD\/E.w0.heap.size<=q.dD):=by
  rcases Nat.eq_zero_or_pos cap with hc | hc
  ·refine ⟨⟨0,0,x.1⟩,rfl,hc,fun h=>by omega,fun h=>absurd h (Cs _),⟨#[],0,rfl,fun h=>absurd h (Cs _),by simp,by show x.2.1<=0;omega,fun h=>absurd h (Cs _),fun j hj=>absurd hj (by show ¬ j < x.2.1;omega),fun j l y u hj=>absurd hj (by show ¬ j < x.2.1;omega),fun hz=>absurd hz (by simp_all)⟩,fun h=>absurd h (Cs _)⟩
  ·grind
 obtain ⟨q,q1,q2,q3,q4,⟨c',T',q5⟩,q6⟩:=hq
 have hmu:∀ n p,μ n=some p->cK μ nk q n=some p:=fun n p h=>by
  grind [cK]
 have YQ:0 < q.cap->ptrTo (.slice a x.2.1 cap) q.dD:=fun h=>⟨_,_,by rw [q3 (q4 h)],q4 h⟩
 have ext:Ext w S μ w S (cK μ nk q):=⟨aN _,fun _ h=>h,fun _ _=>rfl,hmu⟩
 let o':Ob:=⟨false,o.sz,o.len,false,fun m=>if m=i then [.os nk 0 x.2.1] else o.get m⟩
 let oq:Ob:=⟨false,x.1,x.2.1,true,x.2.2⟩
 have WN:∀ n y,au (sset (sset σ k o') nk oq) n=some y->(n=nk/\y=oq)\/(n≠nk/\n=k/\y=o')\/(n≠nk/\n≠k/\au σ n=some y):=by
  intro n y h
  rw [bj] at h
  by_cases hn:nk=n
  ·simp_all
  ·rw [if_neg hn,bj] at h
   grind
 have WO:∀ n p,n≠nk->cK μ nk q n=some p->μ n=some p:=fun n p hn h=>by simp_all [cK,if_neg]
 have ajC:∀ p,cK μ nk q nk=some p->p=q:=fun p h=>by unfold cK at h;simp_all
 have hold:∀ n y,au (sset (sset σ k o') nk oq) n=some y->n≠nk->∃ y',au σ n=some y':=fun n y h hn=>by
  grind
 refine ⟨q,ext,⟨g.fr,g.S0,g.S1,g.S2,⟨fun n y h=>?_,fun n n' y y' p p' gH h h' hp wW hc sS=>?_⟩,fun n y p h hp hc=>?_,fun n hn=>?_,?_⟩⟩
 ·rcases WN n y h with ⟨rfl,rfl⟩ | ⟨hn,rfl,rfl⟩ | ⟨hn,hn2,h⟩
  ·refine ⟨q,c',T',by simp [cK],q5.sz,q5.dD,q5.cap,q5.len,q5.out,q5.zw,fun j l y u hj hy hu=>q5.rep j l y u hj hy hu,fun hz=>absurd hz (by grind)⟩
  ·refine ⟨pl,c,T,hmu _ _ hm,dS.aeN (by omega) hmu i [.os nk 0 x.2.1] (by rw [xB];rfl) fun j y u _ hy hu=>?_⟩
   cases j with
   | succ j=>simp at hy
   | zero =>
    simp at hy
    subst hy
    obtain ⟨o2,p2,b1,b2,b3,b4⟩:=hv
    rw [ho] at b1;cases b1
    rw [hm] at b3;cases b3
    have MM:c[i * o.sz+0]?=some (.slice a x.2.1 cap):=by
     have:=cell_of_row w pl.dD (i * pl.sz) _ _ _ ((dS.dD (by have:=dS.len;omega)).trans (congrArg some (gY (by omega) c T)))
     rw [this,dS.sz] at b4
     exact b4
    rw [MM] at hu;cases hu
    exact .os q (by simp [cK]) (fun hc=>by rw [q3 hc];simp) h1 (by omega)
  ·obtain ⟨p,c2,T2,OG,aeK⟩:=g.rep.ob n y h
   exact ⟨p,c2,T2,hmu _ _ OG,aeK.ext ext (fun _=>rfl) aeK.out⟩
 ·by_cases hn:n=nk<;>by_cases T9:n'=nk
  ·exact absurd (hn.trans T9.symm) gH
  ·subst hn
   cases ajC p hp
   obtain ⟨y2,RN⟩:=hold n' y' h' T9
   exact fun e=>g.mx.obj _ _ _ _ _ hv (YQ hc) n' y2 p' RN (WO _ _ T9 wW) sS e.symm
  ·subst T9
   cases ajC p' wW
   obtain ⟨y2,RN⟩:=hold n y h hn
   exact g.mx.obj _ _ _ _ _ hv (YQ sS) n y2 p RN (WO _ _ hn hp) hc
  ·obtain ⟨y2,RN⟩:=hold n y h hn
   obtain ⟨y2',amn⟩:=hold n' y' h' T9
   exact g.rep.ne n n' y2 y2' p p' gH RN amn (WO _ _ hn hp) (WO _ _ T9 wW) hc sS
 ·by_cases hn:n=nk
  ·subst hn
   cases ajC p hp
   exact q6 hc
  ·obtain ⟨y2,RN⟩:=hold n y h hn
   exact g.own n y2 p RN (WO _ _ hn hp) hc
 ·unfold cK;rw [if_neg (by omega)];exact g.Oc n hn
 ·have key:∀ n j y u,kr w (cK μ nk q) (sset (sset σ k o') nk oq) n j y u->kr w μ σ n j y u/\¬ (n=k/\j=i):=by
   rintro n j y u ⟨o2,p2,b1,b2,b3,b4⟩
   rcases WN n o2 b1 with ⟨rfl,rfl⟩ | ⟨hn,rfl,rfl⟩ | ⟨hn,hn2,h⟩
   ·rw [h2.2 j] at b2;cases b2
   ·obtain ⟨_,e2,e3⟩:=dW b2
    have e3:(if j=i then [AV.os nk 0 x.2.1] else o.get j)=[.mr y.1 y.2.1 y.2.2]:=e3
    split at e3
    ·cases e3
    ·rename_i hji
     exact ⟨⟨o,p2,ho,nh Jr e2 e3,WO _ _ hn b3,b4⟩,fun h=>hji h.2⟩
   ·exact ⟨⟨o2,p2,h,b2,WO _ _ hn b3,b4⟩,fun h=>hn2 h.1⟩
  refine ⟨fun n j y u h=>g.mx.row _ _ _ _ (key n j y u h).1,fun n j y u b h hb n' y' p' h1 h2 h3 he=>?_,fun n j y u b n' j' y' u' h h' hb zQ=>g.mx.two _ _ _ _ _ _ _ _ _ (key _ _ _ _ h).1 (key _ _ _ _ h').1 hb zQ⟩
  obtain ⟨yB,gH⟩:=key n j y u h
  by_cases hn:n'=nk
  ·subst hn
   cases ajC p' h2
   obtain ⟨e1,e2⟩:=g.mx.two _ _ _ _ _ _ _ _ _ yB hv hb (he ▸ YQ h3)
   exact gH ⟨e1,e2⟩
  ·obtain ⟨y2,RN⟩:=hold n' y' h1 hn
   exact g.mx.obj _ _ _ _ _ yB hb n' y2 p' RN (WO _ _ hn h2) h3 he
theorem Good.cls (g:Good E σ S μ w) {k q i:Nat} {o oq:Ob} (ho:au σ k=some o) (hoq:au σ q=some oq) (hkq:k≠q) (Jr:o.var=false) (hvq:oq.var=false) (hpq:oq.pr=true) (hsq:1<=oq.sz)
  (hi:i < o.len) (ui:o.get i=[.os q 0 oq.len]) (Ei:∀ j,rowOf oq j=none) :
  Good E (sset (Bm σ q) k ⟨false,o.sz,o.len,false,fun m=>if m=i then [.mr oq.sz oq.len oq.get] else o.get m⟩) S μ w:=by
 obtain ⟨pl,c,T,hm,dS⟩:=g.rep.ob k o ho
 obtain ⟨pq,cq,Tq,hmq,aeO⟩:=g.rep.ob q oq hoq
 have xB:o.sz=1:=by have:=dS.zw i hi;rw [ui] at this;simpa using this.symm
 let o':Ob:=⟨false,o.sz,o.len,false,fun m=>if m=i then [.mr oq.sz oq.len oq.get] else o.get m⟩
 have WN:∀ n y,au (sset (Bm σ q) k o') n=some y->n≠q/\((n=k/\y=o')\/(n≠k/\au σ n=some y)):=by
  intro n y h
  rw [bj] at h
  by_cases hn:k=n
  ·simp_all
  ·rw [if_neg hn,im] at h
   grind
 have hold:∀ n y,au (sset (Bm σ q) k o') n=some y->n≠q/\∃ y',au σ n=some y':=fun n y h=>by
  grind
 -- the cell that names the row
 have MM:∃ a cap,c[i * o.sz+0]?=some (.slice a oq.len cap)/\w.cell? ⟨pl.dD,i * pl.sz,none⟩=some (.slice a oq.len cap)/\oq.len<=cap/\cap<=pq.cap/\(0 < cap->a=some ⟨pq.dD,0,none⟩):=by
  obtain ⟨u,b1,b2⟩:=dL dS (i:=i) (j:=0) hi (by omega)
  have:=j6 (dS.rep i 0 (.os q 0 oq.len) u hi (by rw [ui];rfl) b1)
  cases this with
  | os mf jl e1 e2 e3 =>
   rename_i cap a
   rw [hmq] at jl;cases jl
   exact ⟨a,cap,b1,by rw [dS.sz];simpa using b2,e2,by omega,fun h=>by rw [e1 h];simp⟩
 obtain ⟨a,cap,d1,d2,d3,d4,d5⟩:=MM
 have Ct:WA E.fp E.w0.heap.size w S (.slice a oq.len cap) (oq.sz,oq.len,oq.get):=by
  refine ⟨a,cap,rfl,d3,⟨hsq,fun j=>?_⟩,fun hc=>⟨pq.dD,cq,Tq,d5 hc,⟨rfl,fun _=>?_,?_,d3,fun _=>aeO.out (by omega),aeO.zw,fun j l y u hj hy hu=>?_,fun hz=>absurd hz (by show oq.sz≠0;omega)⟩,g.own q oq pq hoq hmq (by omega)⟩⟩
  ·cases hr:rowOf ⟨false,oq.sz,oq.len,true,oq.get⟩ j with
   | none=>rfl
   | some y =>
    obtain ⟨_,r2,r3⟩:=dW hr
    have:=nh hvq r2 r3
    simp_all
  ·exact aeO.dD (by omega)
  ·exact eF (dN _ d4) aeO.cap
  ·have:=aeO.rep j l y u hj hy hu
   simp_all
 have key:∀ n j y u,kr w μ (sset (Bm σ q) k o') n j y u->(kr w μ σ n j y u/\¬ (n=k/\j=i))\/(n=k/\j=i/\y=(oq.sz,oq.len,oq.get)/\u=.slice a oq.len cap):=by
  rintro n j y u ⟨o2,p2,b1,b2,b3,b4⟩
  obtain ⟨h0,⟨rfl,rfl⟩ | ⟨hn,h1⟩⟩:=WN n o2 b1
  ·rw [hm] at b3;cases b3
   obtain ⟨_,e2,e3⟩:=dW b2
   have e4:(if j=i then [AV.mr oq.sz oq.len oq.get] else o.get j)=[.mr y.1 y.2.1 y.2.2]:=e3
   clear e3
   by_cases hji:j=i
   ·simp_all
   ·rw [if_neg hji] at e4
    have e3:=e4
    exact .inl ⟨⟨o,pl,ho,nh Jr e2 e3,hm,b4⟩,fun h=>hji h.2⟩
  ·exact .inl ⟨⟨o2,p2,h1,b2,b3,b4⟩,fun h=>hn h.1⟩
 have YQ:∀ b,ptrTo (.slice a oq.len cap) b->pq.dD=b/\0 < pq.cap:=by
  rintro b ⟨l,cp,e,hc⟩
  injection e with e1 e2 e3
  subst e3
  rw [d5 hc] at e1
  injection e1 with e1
  injection e1 with e1
  exact ⟨e1,by omega⟩
 refine ⟨g.fr,g.S0,g.S1,g.S2,⟨fun n y h=>?_,fun n n' y y' p p' gH h h' hp wW hc sS=>?_⟩,fun n y p h hp hc=>?_,g.Oc,?_⟩
 ·obtain ⟨h0,⟨rfl,rfl⟩ | ⟨hn,h1⟩⟩:=WN n y h
  ·exact ⟨pl,c,T,hm,dS.aeN (by omega) (fun _ _ h=>h) i _ (by rw [xB];rfl) fun j y u _ hy hu=>by
    cases j with
    | zero=>simp at hy;subst hy;exact .mr
    | succ j=>simp at hy⟩
  ·exact g.rep.ob n y h1
 ·obtain ⟨_,y2,RN⟩:=hold n y h
  obtain ⟨_,y2',amn⟩:=hold n' y' h'
  exact g.rep.ne n n' y2 y2' p p' gH RN amn hp wW hc sS
 ·obtain ⟨_,y2,RN⟩:=hold n y h
  exact g.own n y2 p RN hp hc
 ·refine ⟨fun n j y u h=>?_,fun n j y u b h hb n' y' p' h1 h2 h3 he=>?_,fun n j y u b n' j' y' u' h h' hb zQ=>?_⟩
  ·rcases key n j y u h with ⟨h,_⟩ | ⟨_,_,rfl,rfl⟩
   ·exact g.mx.row _ _ _ _ h
   ·exact Ct
  ·obtain ⟨hnq,y2,RN⟩:=hold n' y' h1
   rcases key n j y u h with ⟨h,_⟩ | ⟨_,_,rfl,rfl⟩
   ·exact g.mx.obj _ _ _ _ _ h hb n' y2 p' RN h2 h3 he
   ·obtain ⟨e1,e2⟩:=YQ b hb
    exact g.rep.ne n' q y2 oq p' pq hnq RN hoq h2 hmq h3 e2 (he.trans e1.symm)
  ·rcases key n j y u h with ⟨h,_⟩ | ⟨n1,j1,rfl,rfl⟩<;>rcases key n' j' y' u' h' with ⟨h',_⟩ | ⟨n2,j2,rfl,rfl⟩
   ·exact g.mx.two _ _ _ _ _ _ _ _ _ h h' hb zQ
   ·obtain ⟨e1,e2⟩:=YQ b zQ
    exact (g.mx.obj _ _ _ _ _ h hb q oq pq hoq hmq e2 e1).elim
   ·obtain ⟨e1,e2⟩:=YQ b hb
    exact (g.mx.obj _ _ _ _ _ h' zQ q oq pq hoq hmq e2 e1).elim
   ·exact ⟨n1.trans n2.symm,j1.trans j2.symm⟩
end
mutual
def AV.mO (f:Nat->Option Nat):AV->AV
 | .op k i j=>match f k with
  | some k'=>.op k' i j
  | none=>.rk
 | .os k off len=>match f k with
  | some k'=>.os k' off len
  | none=>.rk
 | .agg cs=>.agg (AV.Ay f cs)
 | .tup cs=>.tup (AV.Ay f cs)
 | .fn g a b=>.fn g (AV.Ay f a) (AV.Ay f b)
 | .when b x=>.when b (x.mO f)
 | .mp k=>match f k with
  | some k'=>.mp k'
  | none=>.rk
 | .bn n=>.bn n
 | .pt b cs=>.pt b cs
 | .atom v=>.atom v
 | .sl n g=>.sl n g
 | .rp c o=>.rp c o
 | .ov _ _ _ _ _=>.rk
 | .KG _ _ _=>.rk
 | .nq st x=>.nq st (x.mO f)
 | .nil=>.nil
 | .rk=>.rk
 | .mr sz n g=>.mr sz n g
def AV.Ay (f:Nat->Option Nat):List AV->List AV
 | []=>[]
 | c :: cs=>c.mO f :: AV.Ay f cs
end
theorem CB (f:Nat->Option Nat) (cs:List AV):AV.Ay f cs=cs.map (·.mO f):=by
 induction cs with
 | nil=>rfl
 | cons c cs ih=>simp [AV.Ay,ih]
theorem ak.mO {w:World} {S:Nat->Prop} {μ:Mu} {v:Value} {x:AV} (h:ak w S μ v x) :
  ∀ {eB:Mu} {f:Nat->Option Nat},(∀ k k' pl,f k=some k'->μ k=some pl->eB k'=some pl)->ak w S eB v (x.mO f):=by
 induction h with
 | atom v=>exact fun _=>.atom v
 | agg h1 h2 ih =>
  intro eB f hf
  simp only [AV.mO,CB]
  refine .agg (by simp [h1]) fun j c v hc hv=>?_
  grind
 | tup h1 h2 ih =>
  intro eB f hf
  simp only [AV.mO,CB]
  refine .tup (by simp [h1]) fun j c v hc hv=>?_
  grind
 | sl b off sz f h1 h2 h3 h4 h5 _=>exact fun _=>.sl b off sz f h1 h2 h3 h4 h5
 | rp b o f h1 h2 h3 _=>exact fun _=>.rp b o f h1 h2 h3
 | @op μ k i j pl h =>
  grind [AV.mO,op,rk]
 | @os μ k off len cap a pl h h1 h2 h3 =>
  grind [AV.mO,os,rk]
 | fn h1 h2 _ _ ih1 ih2 =>
  intro eB f hf
  simp only [AV.mO,CB]
  refine .fn (by simp [h1]) (by simp [h2]) (fun j c v hc hv=>?_) (fun j c v hc hv=>?_)
  ·grind
  grind
 | when _ hu ih=>exact fun hf=>.when (fun hb=>ih hb hf) hu
 | @mp μ k pl h =>
  grind [AV.mO,mp,rk]
 | bn b h=>exact fun _=>.bn b h
 | pt h1 h2 _ =>
  intro eB f hf
  exact .pt (fun hb=>by have:=h1 hb;cases this with
   | rp b o f q1 q2 q3=>exact .rp b o f q1 q2 q3) h2
 | ov=>exact fun _=>.rk
 | KG=>exact fun _=>.rk
 | nq _ h1 h2 ih=>exact fun hf=>.nq (ih hf) h1 h2
 | nil=>exact fun _=>.nil
 | rk=>exact fun _=>.rk
 | mr=>exact fun _=>.mr
def Ob.mO (f:Nat->Option Nat) (o:Ob):Ob :=
 match o.pr with
 | true=>o
 | false=>{ o with get:=fun i=>AV.Ay f (o.get i) }
theorem Ob.yD (f:Nat->Option Nat) (o:Ob):(o.mO f).sz=o.sz:=by grind [Ob.mO]
theorem Ob.Gh (f:Nat->Option Nat) (o:Ob):(o.mO f).len=o.len:=by grind [Ob.mO]
theorem Ob.KR (f:Nat->Option Nat) (o:Ob):(o.mO f).pr=o.pr:=by grind [Ob.mO]
theorem aeP {f:Nat->Option Nat} {cs:List AV} {sz n:Nat} {g:Nat->List AV} (h:AV.Ay f cs=[.mr sz n g]):cs=[.mr sz n g]:=by
 cases cs with
 | nil=>cases h
 | cons c cs =>
  cases cs with
  | cons d ds=>simp [AV.Ay] at h
  | nil =>
   simp only [AV.Ay,List.cons.injEq,and_true] at h
   cases c with
   | op=>grind [AV.mO]
   | os=>grind [AV.mO]
   | mp=>grind [AV.mO]
   | mr=>simpa [AV.mO] using h
   | _=>cases h
theorem vd (f:Nat->Option Nat) (o:Ob) (i:Nat) (x:Nat×Nat×(Nat->List AV)):rowOf (o.mO f) i=some x↔rowOf o i=some x:=by
 unfold Ob.mO
 split
 ·exact Iff.rfl
 ·constructor
  ·intro h
   obtain ⟨h1,h2,h3⟩:=dW h
   grind [nh,aeP]
  ·intro h
   obtain ⟨h1,h2,h3⟩:=dW h
   exact nh h1 h2 (by show AV.Ay f (o.get i)=_;rw [h3];rfl)
theorem jq.mO {w:World} {S:Nat->Prop} {μ eB:Mu} {o:Ob} {pl:Place} {c:Array Value} {T:TypeId} (h:jq w S μ o pl c T) {f:Nat->Option Nat}
  (hf:∀ k k' pl,f k=some k'->μ k=some pl->eB k'=some pl):jq w S eB (o.mO f) pl c T:=by
 refine ⟨(Ob.yD f o).symm ▸ h.sz,(Ob.yD f o).symm ▸ h.dD,(Ob.yD f o).symm ▸ h.cap,(Ob.Gh f o).symm ▸ h.len,h.out,?_,?_,fun hz=>?_⟩
 rotate_left 2
 ·rw [Ob.yD] at hz
  obtain ⟨h0,h1,h2,h3,h4⟩:=h.mp hz
  grind [Ob.mO]
 ·intro i hi
  rw [Ob.Gh] at hi
  rw [Ob.yD,<- h.zw i hi]
  grind [Ob.mO,CB]
 ·intro i j x v hi hx hv
  rw [Ob.Gh] at hi
  rw [Ob.yD] at hv
  rw [Ob.KR]
  unfold Ob.mO at hx
  split at hx
  ·rename_i hp
   have:=h.rep i j x v hi hx hv
   simp_all
  ·rename_i hp
   simp only [CB,List.getElem?_map,aW] at hx
   obtain ⟨y,hy,rfl⟩:=hx
   have:=h.rep i j y v hi hy hv
   rw [hp] at this ⊢
   exact this.mO hf
def idx:List Nat->Nat->Option Nat
 | [],_=>none
 | a :: r,k=>match Nat.beq a k with
  | true=>some 0
  | false=>(idx r k).map (·+1)
theorem qH:∀ (ks:List Nat) (k i:Nat),idx ks k=some i->ks[i]?=some k
 | [],k,i,h=>by simp [idx] at h
 | a :: r,k,i,h=>by
  simp only [idx] at h
  split at h
  ·rename_i hb
   cases h
   simp [cw hb]
  ·simp only [aW] at h
   obtain ⟨i',sB,rfl⟩:=h
   simpa using qH r k i' sB
mutual
def AV.iR (σ:eE) (ks:List Nat):AV->Option (AV×List Nat×List Prop)
 | .op k i j=>match idx ks k with
  | some n=>some (.op n i j,[],[])
  | none=>some (.rk,[],[])
 | .os k off len=>match idx ks k with
  | some n=>some (.os n off len,[],[])
  | none=>match au σ k with
   | some o=>match o.pr with
    | true=>some (.sl len (fun i=>o.get (bB off i)),[k],[off+len<=o.len])
    | false=>none
   | none=>none
 | .agg cs=>(AV.uW σ ks cs).map fun (a,b,c)=>(.agg a,b,c)
 | .tup cs=>(AV.uW σ ks cs).map fun (a,b,c)=>(.tup a,b,c)
 | .fn g x y=>match AV.uW σ ks x,AV.uW σ ks y with
  | some (a,b,c),some (a',b',c')=>some (.fn g a a',b ++ b',c ++ c')
  | _,_=>none
 | .when _ _=>none
 | .ov _ _ _ _ _=>none
 | .KG _ _ _=>none
 | .nq _ _=>none
 | .mp k=>(idx ks k).map fun n=>(.mp n,[],[])
 | .bn n=>some (.bn n,[],[])
 | .pt b cs=>some (.pt b cs,[],[])
 | .atom v=>some (.atom v,[],[])
 | .sl n g=>some (.sl n g,[],[])
 | .rp c o=>some (.rp c o,[],[])
 | .nil=>some (.nil,[],[])
 | .rk=>some (.rk,[],[])
 | .mr _ _ _=>none
def AV.uW (σ:eE) (ks:List Nat):List AV->Option (List AV×List Nat×List Prop)
 | []=>some ([],[],[])
 | c :: cs=>match c.iR σ ks,AV.uW σ ks cs with
  | some (a,b,p),some (a',b',p')=>some (a :: a',b ++ b',p ++ p')
  | _,_=>none
end
def nj (μ:Mu) (ks:List Nat):Mu:=fun i=>(ks[i]?).bind μ
def Ew (μ:Mu) (bs:List Nat) (b:Nat):Prop:=∃ k∈bs,∃ pl,μ k=some pl/\0 < pl.cap/\pl.dD=b
theorem Js {μ:Mu} {ks:List Nat}:∀ k i pl,idx ks k=some i->μ k=some pl->nj μ ks i=some pl:=by
 intro k i pl h hm
 simp [nj,qH ks k i h,hm]
section
variable {P:Program} {E:Env} {nk:Nat} {σ:eE} {S:Nat->Prop} {μ:Mu} {w:World}
theorem aeQ (g:Good E σ S μ w) {ks:List Nat} {v:Value} {x:AV} (h:ak w S μ v x):∀ (S':Nat->Prop),(∀ b,S b->S' b)->∀ {y:AV} {bs:List Nat} {ps:List Prop},
  x.iR σ ks=some (y,bs,ps)->bm ps->(∀ b,Ew μ bs b->S' b)->ak w S' (nj μ ks) v y:=by
 have lists:∀ {μ:Mu} {vs:Array Value} {cs:List AV} (S':Nat->Prop),
   (∀ (j:Nat) (c:AV) (v:Value),cs[j]?=some c->vs[j]?=some v->∀ {y:AV} {bs:List Nat} {ps:List Prop},c.iR σ ks=some (y,bs,ps)->bm ps->(∀ b,Ew μ bs b->S' b)->ak w S' (nj μ ks) v y) ->
   ∀ {ys:List AV} {bs:List Nat} {ps:List Prop},AV.uW σ ks cs=some (ys,bs,ps)->bm ps->(∀ b,Ew μ bs b->S' b) ->
   ys.length=cs.length/\∀ (j:Nat) (c:AV) (v:Value),ys[j]?=some c->vs[j]?=some v->ak w S' (nj μ ks) v c:=by
  intro μ vs cs S' h
  have gen:∀ (cs:List AV) (o:Nat),(∀ (j:Nat) (c:AV) (v:Value),cs[j]?=some c->vs[o+j]?=some v->∀ {y:AV} {bs:List Nat} {ps:List Prop},c.iR σ ks=some (y,bs,ps)->bm ps->(∀ b,Ew μ bs b->S' b)->ak w S' (nj μ ks) v y) ->
   ∀ {ys:List AV} {bs:List Nat} {ps:List Prop},AV.uW σ ks cs=some (ys,bs,ps)->bm ps->(∀ b,Ew μ bs b->S' b) ->
   ys.length=cs.length/\∀ (j:Nat) (c:AV) (v:Value),ys[j]?=some c->vs[o+j]?=some v->ak w S' (nj μ ks) v c:=by
   intro cs
   induction cs with
   | nil =>
    intro o _ ys bs ps h _ _
    simp [AV.uW] at h
    simp_all
   | cons c cs ih =>
    intro o hh ys bs ps h hp hb
    simp only [AV.uW] at h
    split at h
    ·rename_i a b p a' b' p' h1 h2
     simp only [aL,aG] at h
     obtain ⟨rfl,rfl,rfl⟩:=h
     obtain ⟨Ej,DZ⟩:=bm.app hp
     have ih':=ih (o+1) (fun j c v hc hv=>hh (j+1) c v (by simpa using hc) (by grind)) h2 DZ (fun q hq=>hb q (by obtain ⟨k,hk,r⟩:=hq;exact ⟨k,by simp [hk],r⟩))
     refine ⟨by simp [ih'.1],?_⟩
     intro j c' v hc hv
     cases j with
     | zero =>
      simp at hc;subst hc
      exact hh 0 c v (by simp) hv h1 Ej (fun q hq=>hb q (by obtain ⟨k,hk,r⟩:=hq;exact ⟨k,by simp [hk],r⟩))
     | succ j=>grind
    ·cases h
  intro ys bs ps h1 h2 h3
  have:=gen cs 0 (fun j c v hc hv=>h j c v hc (by simpa using hv)) h1 h2 h3
  exact ⟨this.1,fun j c v hc hv=>this.2 j c v hc (by simpa using hv)⟩
 intro S' hS
 have h0:=h
 clear h
 have key:∀ {MO:Mu} {v:Value} {x:AV},ak w S MO v x->MO=μ->∀ {y:AV} {bs:List Nat} {ps:List Prop},x.iR σ ks=some (y,bs,ps)->bm ps->(∀ b,Ew μ bs b->S' b)->ak w S' (nj μ ks) v y:=by
  intro MO v x h
  induction h with
  | atom v=>intro _ y bs ps h _ _;simp [AV.iR] at h;obtain ⟨rfl,_,_⟩:=h;exact .atom v
  | agg h1 h2 ih =>
   intro e y bs ps h hp hb
   subst e
   simp only [AV.iR,aW] at h
   obtain ⟨⟨a,b,c⟩,h,e⟩:=h
   simp only [aG] at e
   obtain ⟨rfl,rfl,rfl⟩:=e
   obtain ⟨q1,q2⟩:=lists S' (fun j c v hc hv=>ih j c v hc hv rfl) h hp hb
   exact .agg (h1.trans q1.symm) q2
  | tup h1 h2 ih =>
   intro e y bs ps h hp hb
   subst e
   simp only [AV.iR,aW] at h
   obtain ⟨⟨a,b,c⟩,h,e⟩:=h
   simp only [aG] at e
   obtain ⟨rfl,rfl,rfl⟩:=e
   obtain ⟨q1,q2⟩:=lists S' (fun j c v hc hv=>ih j c v hc hv rfl) h hp hb
   exact .tup (h1.trans q1.symm) q2
  | @sl MO a len cap get b off sz f h1 h2 h3 h4 h5 _ =>
   intro _ y bs ps h _ _
   simp [AV.iR] at h;obtain ⟨rfl,_,_⟩:=h
   have:=(ak.sl (μ:=nj μ ks) b off sz f h1 h2 h3 h4 h5)
   exact this.mono hS (fun _ _=>rfl) (fun _ _ h=>h)
  | @rp MO cs off b o f h1 h2 h3 _ =>
   intro _ y bs ps h _ _
   simp [AV.iR] at h;obtain ⟨rfl,_,_⟩:=h
   have:=(ak.rp (μ:=nj μ ks) (off:=off) b o f h1 h2 h3)
   exact this.mono hS (fun _ _=>rfl) (fun _ _ h=>h)
  | @op MO k i j pl hm =>
   intro e y bs ps h _ _
   subst e
   simp only [AV.iR] at h
   split at h
   ·rename_i n hn
    simp at h;obtain ⟨rfl,_,_⟩:=h
    exact .op pl (Js _ _ _ hn hm)
   ·simp at h;obtain ⟨rfl,_,_⟩:=h
    exact .rk
  | @os MO k off len cap a pl hm h1 h2 h3 =>
   intro e y bs ps h hp hb
   subst e
   simp only [AV.iR] at h
   split at h
   ·rename_i n hn
    simp at h;obtain ⟨rfl,_,_⟩:=h
    exact .os pl (Js _ _ _ hn hm) h1 h2 h3
   ·split at h
    ·rename_i o ho
     split at h
     ·rename_i YD
      simp only [aL,aG] at h
      obtain ⟨hy,rfl,rfl⟩:=h
      have hle:=hp.1
      obtain ⟨mf,c,T,jl,dS⟩:=g.rep.ob k o ho
      rw [hm] at jl;cases jl
      have hgt:y=.sl len fun i=>o.get (off+i):=by
       rw [<- hy]
       simp only [dc]
      rw [hgt]
      refine .sl pl.dD (off * pl.sz) o.sz (fun i j=>(c[(off+i) * o.sz+j]?).getD undef) ?_ (fun i hi=>dS.zw _ (by omega)) ?_ ?_ h2
      ·intro hl
       exact ⟨h1 (by omega),hb _ ⟨k,by simp,pl,hm,by omega,rfl⟩⟩
      ·intro i j hi hj
       obtain ⟨v,q1,q2⟩:=dL dS (i:=off+i) (by omega) hj
       rw [q1,dS.sz,<- dn,q2];rfl
      ·intro i j c' hi sS
       obtain ⟨v,q1,q2⟩:=dL dS (i:=off+i) (by omega) (by have:=(fe.1 sS).1;rwa [dS.zw _ (by omega)] at this)
       rw [q1]
       have:=dS.rep _ j c' v (by omega) sS q1
       rw [YD] at this
       exact ak.mono (S:=S) (S':=S') hS (fun _ _=>rfl) this (fun _ _ h=>h)
     ·cases h
    ·cases h
  | fn h1 h2 _ _ ih1 ih2 =>
   intro e y bs ps h hp hb
   subst e
   simp only [AV.iR] at h
   split at h
   ·rename_i a b c a' b' c' e1 e2
    simp only [aL,aG] at h
    obtain ⟨rfl,rfl,rfl⟩:=h
    obtain ⟨Ej,DZ⟩:=bm.app hp
    obtain ⟨q1,q2⟩:=lists S' (fun j c v hc hv=>ih1 j c v hc hv rfl) e1 Ej (fun q hq=>hb q (by obtain ⟨k,hk,r⟩:=hq;exact ⟨k,by simp [hk],r⟩))
    obtain ⟨r1,r2⟩:=lists S' (fun j c v hc hv=>ih2 j c v hc hv rfl) e2 DZ (fun q hq=>hb q (by obtain ⟨k,hk,r⟩:=hq;exact ⟨k,by simp [hk],r⟩))
    exact .fn (h1.trans q1.symm) (h2.trans r1.symm) q2 r2
   ·cases h
  | when=>intro _ y bs ps h;simp [AV.iR] at h
  | ov=>intro _ y bs ps h;simp [AV.iR] at h
  | KG=>intro _ y bs ps h;simp [AV.iR] at h
  | nq=>intro _ y bs ps h;simp [AV.iR] at h
  | @mp MO k pl hm =>
   intro e y bs ps h _ _
   subst e
   simp only [AV.iR,aW,aG] at h
   obtain ⟨n,hn,rfl,_,_⟩:=h
   exact .mp pl (Js _ _ _ hn hm)
  | bn b hb=>intro _ y bs ps h _ _;simp [AV.iR] at h;obtain ⟨rfl,_,_⟩:=h;exact .bn b hb
  | pt h1 h2 _ =>
   intro _ y bs ps h _ _
   simp [AV.iR] at h;obtain ⟨rfl,_,_⟩:=h
   refine .pt (fun hb=>?_) h2
   have:=h1 hb
   cases this with
   | rp b o f q1 q2 q3 =>
    have:=(ak.rp (μ:=nj μ ks) (off:=0) b o f q1 q2 q3)
    exact this.mono hS (fun _ _=>rfl) (fun _ _ h=>h)
  | nil=>intro _ y bs ps h _ _;simp [AV.iR] at h;obtain ⟨rfl,_,_⟩:=h;exact .nil
  | rk=>intro _ y bs ps h _ _;simp [AV.iR] at h;obtain ⟨rfl,_,_⟩:=h;exact .rk
  | mr=>intro _ y bs ps h;simp [AV.iR] at h
 intro y bs ps h1 h2 h3
 exact key h0 rfl h1 h2 h3
end
end Go.Ab
namespace Go.Ab
structure YC where
 l:Nat
 as:List AV
 k:Nat
 o:Ob
 o':Ob
structure rS where
 ks:List Nat
 same:Bool
 res:AV
 sq:eE
 dec:Nat
 D1:Bool
 y:Option YC
def aqY:Option rS->Option YC
 | none=>none
 | some o=>o.y
def aqZ:Option rS->Nat
 | none=>0
 | some o=>o.dec
def aq0:Option rS->AV
 | none=>.rk
 | some o=>o.res
structure R where
 SC:List Prop
 val:AV
 YF:List Nat
 pU:xD
def WQ (P:Program) (g:FuncId):Bool :=
 match P.funcs[g]? with
 | some fn=>fn.body.isSome && !(fn.name == "runtime.NumGoroutine")
 | none=>false
def canon (σ:eE) (ks:List Nat):Nat->List Nat->Option eE
 | _,[]=>some []
 | i,k :: r=>match au σ k,canon σ ks (i+1) r with
  | some o,some t=>some ((i,o.mO (idx ks)) :: t)
  | _,_=>none
def back (ks:List Nat) (nk n:Nat):Option Nat :=
 match ks[n]? with
 | some k=>some k
 | none=>match Nat.blt n (ks.length+16) with
  | true=>some (nk+(n - ks.length))
  | false=>none
def Ht (ks:List Nat) (nk:Nat) (gj:eE):Nat->List Nat->xD
 | _,[]=>[]
 | i,k :: r=>(k,(au gj i).map (Ob.mO (back ks nk))) :: Ht ks nk gj (i+1) r
def Jt (ks:List Nat) (nk:Nat):eE->xD
 | []=>[]
 | (n,o) :: r=>match Nat.ble ks.length n with
  | true=>(nk+(n - ks.length),some (o.mO (back ks nk))) :: Jt ks nk r
  | false=>Jt ks nk r
def qq:List Nat->Bool
 | []=>true
 | k :: r=>(idx r k).isNone && qq r
def ON (n:Nat):eE->Bool
 | []=>true
 | (k,_) :: r=>Nat.blt k n && ON n r
def Ob.flat (o:Ob):Bool:=o.var && Nat.beq o.len 1 && Nat.ble 1 o.sz && AV.Dx (o.get 0)
mutual
def AV.Wv:AV->Bool
 | .atom _ | .op _ _ _ | .os _ _ _ | .mp _ | .bn _ | .nil=>true
 | .agg cs | .tup cs=>AV.acR cs
 | .fn _ a b=>AV.acR a && AV.acR b
 | _=>false
def AV.acR:List AV->Bool
 | []=>true
 | c :: cs=>c.Wv && AV.acR cs
end
theorem OO {cs:List AV} (h:AV.acR cs=true) {j:Nat} {c:AV} (hc:cs[j]?=some c):c.Wv=true:=by
 induction cs generalizing j with
 | nil=>simp at hc
 | cons x xs ih =>
  simp only [AV.acR,a7] at h
  grind
theorem ak.Wv {w:World} {S:Nat->Prop} {μ:Mu} {v:Value} {x:AV} (h:ak w S μ v x):x.Wv=true->∀ w' S',ak w' S' μ v x:=by
 induction h with
 | atom v=>grind [atom]
 | agg h1 _ ih=>grind [agg,OO,AV.Wv]
 | tup h1 _ ih=>grind [tup,OO,AV.Wv]
 | op pl h=>grind [op]
 | os pl h h1 h2 h3=>grind [os]
 | fn h1 h2 _ _ ih1 ih2 =>
  intro hp w' S'
  simp only [AV.Wv,a7] at hp
  grind [fn,OO]
 | mp pl h=>grind [mp]
 | bn b h=>grind [bn]
 | nil=>exact fun _ _ _=>.nil
 | sl=>grind [AV.Wv]
 | rp=>grind [AV.Wv]
 | when=>grind [AV.Wv]
 | pt=>grind [AV.Wv]
 | ov=>grind [AV.Wv]
 | KG=>grind [AV.Wv]
 | nq=>grind [AV.Wv]
 | rk=>grind [AV.Wv]
 | mr=>grind [AV.Wv]
def zS (o:Ob):Option (List Prop) :=
 match o.flat with
 | true=>some []
 | false=>match o.pr && Nat.ble 1 o.sz with
  | true=>some [∀ i,i < o.len->AV.Dx (o.get i)=true]
  | false=>none
def Ju (lone:Bool):eE->Option (List Prop)
 | []=>some []
 | (_,o) :: r=>match lone with
  | true=>some []
  | false=>match zS o,Ju lone r with
   | some p,some q=>some (p ++ q)
   | _,_=>none
mutual
def AV.closed (f:Nat->Option Nat):AV->Bool
 | .op k _ _=>(f k).isSome
 | .os k _ _=>(f k).isSome
 | .mp k=>(f k).isSome
 | .ov _ _ _ _ _ | .KG _ _ _ | .mr _ _ _=>false
 | .agg cs | .tup cs=>AV.CC f cs
 | .fn _ a b=>AV.CC f a && AV.CC f b
 | .when _ x=>x.closed f
 | .nq _ x=>x.closed f
 | _=>true
def AV.CC (f:Nat->Option Nat):List AV->Bool
 | []=>true
 | c :: cs=>c.closed f && AV.CC f cs
end
def Ob.closed (f:Nat->Option Nat) (o:Ob):Bool:=o.pr || (o.var && Nat.beq o.len 1 && AV.CC f (o.get 0))
def dT:List AV->Bool
 | [.mr _ _ _]=>true
 | _=>false
theorem SD {f:Nat->Option Nat} {l:List AV} (h:dT l=true):AV.Ay f l=l:=by
 unfold dT at h
 split at h
 ·rfl
 ·cases h
def KS (ks:List Nat) (lone:Bool) (o:Ob):Option (List Prop) :=
 match o.flat || (lone && o.closed (idx ks)) with
 | true=>some []
 | false=>match o.pr with
  | true=>zS o
  | false=>match lone && !o.var with
   | true=>some [∀ i,i < o.len->dT (o.get i)=true]
   | false=>none
def Ex (σ:eE) (ks:List Nat) (lone:Bool):List Nat->Option (List Prop)
 | []=>some []
 | k :: r=>match au σ k with
  | some o=>match KS ks lone o,Ex σ ks lone r with
   | some p,some q=>some (p ++ q)
   | _,_=>none
  | none=>none
mutual
theorem OP {f g:Nat->Option Nat} (hfg:∀ k i,f k=some i->g i=some k):∀ (x:AV),x.closed f=true->(x.mO f).mO g=x
 | .op k i j,h=>by
  obtain ⟨n,hn⟩:=Option.isSome_iff_exists.1 (by simpa [AV.closed] using h)
  simp [AV.mO,hn,hfg k n hn]
 | .os k i j,h=>by
  obtain ⟨n,hn⟩:=Option.isSome_iff_exists.1 (by simpa [AV.closed] using h)
  simp [AV.mO,hn,hfg k n hn]
 | .agg cs,h=>by simp only [AV.mO];rw [yj hfg cs (by simpa [AV.closed] using h)]
 | .tup cs,h=>by simp only [AV.mO];rw [yj hfg cs (by simpa [AV.closed] using h)]
 | .fn q a b,h=>by
  simp only [AV.closed,a7] at h
  simp only [AV.mO];rw [yj hfg a h.1,yj hfg b h.2]
 | .when b x,h=>by simp only [AV.mO];rw [OP hfg x (by simpa [AV.closed] using h)]
 | .nq b x,h=>by simp only [AV.mO];rw [OP hfg x (by simpa [AV.closed] using h)]
 | .mp k,h=>by
  obtain ⟨n,hn⟩:=Option.isSome_iff_exists.1 (by simpa [AV.closed] using h)
  simp [AV.mO,hn,hfg k n hn]
 | .ov _ _ _ _ _,h=>by simp [AV.closed] at h
 | .KG _ _ _,h=>by simp [AV.closed] at h
 | .mr _ _ _,h=>by simp [AV.closed] at h
 | .bn _,_=>rfl
 | .pt _ _,_=>rfl
 | .atom _,_=>rfl
 | .sl _ _,_=>rfl
 | .rp _ _,_=>rfl
 | .nil,_=>rfl
 | .rk,_=>rfl
theorem yj {f g:Nat->Option Nat} (hfg:∀ k i,f k=some i->g i=some k):∀ (cs:List AV),AV.CC f cs=true->AV.Ay g (AV.Ay f cs)=cs
 | [],_=>rfl
 | c :: cs,h=>by
  simp only [AV.CC,a7] at h
  simp only [AV.Ay]
  rw [OP hfg c h.1,yj hfg cs h.2]
end
theorem OQ:∀ (ks:List Nat),qq ks=true->∀ (i j k:Nat),ks[i]?=some k->ks[j]?=some k->i=j
 | [],_,i,j,k,h,_=>by simp at h
 | a :: r,h,i,j,k,hi,hj=>by
  simp only [qq,a7] at h
  have none:∀ n:Nat,r[n]?=some a->False:=by
   intro n hn
   have:∀ (l:List Nat) (n:Nat),l[n]?=some a->(idx l a).isSome=true:=by
    intro l
    induction l with
    | nil=>intro n hn;simp at hn
    | cons b l ih =>
     intro n hn
     simp only [idx]
     cases hb:Nat.beq b a with
     | true=>rfl
     | false =>
      cases n with
      | zero=>simp at hn;rw [hn] at hb;simp at hb
      | succ n=>simpa using ih n (by simpa using hn)
   have:=this r n hn
   rw [Option.isNone_iff_eq_none] at h
   rw [h.1] at this
   cases this
  cases i with
  | zero =>
   simp at hi;subst hi
   cases j with
   | zero=>rfl
   | succ j=>exact (none j (by simpa using hj)).elim
  | succ i =>
   cases j with
   | zero=>simp at hj;subst hj;exact (none i (by simpa using hi)).elim
   | succ j=>rw [OQ r h.2 i j k (by simpa using hi) (by simpa using hj)]
theorem pV:∀ (ks:List Nat) (k:Nat),idx ks k=none->∀ i:Nat,ks[i]?≠some k
 | [],k,_,i=>by simp
 | a :: r,k,h,i=>by
  simp only [idx] at h
  split at h
  ·cases h
  ·rename_i hb
   have h':idx r k=none:=by simpa using h
   cases i with
   | zero=>intro e;simp_all
   | succ i=>simpa using pV r k h' i
theorem SE {σ:eE} {ks:List Nat}:∀ (l:List Nat) (i:Nat) (Az:eE),canon σ ks i l=some Az ->
  ∀ n,au Az n=if i<=n then ((l[n - i]?).bind (au σ)).map (Ob.mO (idx ks)) else none
 | [],i,Az,h,n=>by grind [canon,au]
 | k :: r,i,Az,h,n=>by
  simp only [canon] at h
  split at h
  ·rename_i o t ho ht
   cases h
   simp only [au]
   by_cases m5:i=n
   ·simp_all
   ·rw [tH m5]
    show au t n=_
    rw [SE r (i+1) t ht n]
    grind
  ·cases h
theorem Gi {σ:eE} {ks:List Nat}:∀ (l:List Nat) (i:Nat) (Az:eE),canon σ ks i l=some Az->∀ k∈l,∃ o,au σ k=some o
 | [],i,Az,h,k,hk=>by simp at hk
 | a :: r,i,Az,h,k,hk=>by
  simp only [canon] at h
  split at h
  ·rename_i o t ho ht
   rcases lG.1 hk with rfl | hk
   ·exact ⟨o,ho⟩
   ·exact Gi r (i+1) t ht k hk
  ·cases h
theorem KT {ks:List Nat} {nk:Nat} {gj:eE}:∀ (l:List Nat) (i:Nat) (σ:eE) (n:Nat),(∀ a b k:Nat,l[a]?=some k->l[b]?=some k->a=b) ->
  au (gS σ (Ht ks nk gj i l)) n=match idx l n with
   | some j=>(au gj (i+j)).map (Ob.mO (back ks nk))
   | none=>au σ n
 | [],i,σ,n,_=>by simp [Ht,gS,idx]
 | k :: r,i,σ,n,hd=>by
  have hd':∀ a b k:Nat,r[a]?=some k->r[b]?=some k->a=b:=fun a b q ha hb=>by
   have:=hd (a+1) (b+1) q (by simpa using ha) (by simpa using hb)
   omega
  have hnk:idx r k=none:=by
   cases hq:idx r k with
   | none=>rfl
   | some j =>
    have:=qH r k j hq
    have:=hd 0 (j+1) k (by simp) (by simpa using this)
    omega
  simp only [Ht]
  have step:au (gS σ ((k,(au gj i).map (Ob.mO (back ks nk))) :: Ht ks nk gj (i+1) r)) n=match idx r n with
    | some j=>(au gj (i+1+j)).map (Ob.mO (back ks nk))
    | none=>if k=n then (au gj i).map (Ob.mO (back ks nk)) else au σ n:=by
   cases hs:(au gj i).map (Ob.mO (back ks nk)) with
   | some o =>
    simp only [gS]
    rw [KT r (i+1) _ n hd',bj]
   | none =>
    simp only [gS]
    rw [KT r (i+1) _ n hd',im]
  rw [step]
  simp only [idx]
  by_cases Dy:k=n
  ·subst Dy
   rw [hnk,xA rfl]
   simp
  ·rw [tH Dy]
   cases hq:idx r n with
   | none=>simp [Dy]
   | some j=>simp only [Option.map_some];rw [show i+1+j=i+(j+1) by omega]
def Bp (z:Bool) (bs:List Nat):xD:=match z with
 | true=>bs.map fun k=>(k,none)
 | false=>[]
theorem pW (z:Bool):∀ (bs:List Nat) (σ:eE) (n:Nat),au (gS σ (Bp z bs)) n=if z=true/\n∈bs then none else au σ n:=by
 cases z with
 | false=>grind [Bp,gS]
 | true =>
  intro bs
  induction bs with
  | nil=>grind [Bp,gS]
  | cons k r ih =>
   intro σ n
   have:=ih (Bm σ k) n
   simp only [Bp,List.map_cons,gS] at this ⊢
   rw [this,im]
   by_cases h:k=n
   ·subst h;simp
   ·have h':¬ n=k:=fun e=>h e.symm
    simp [h,h']
theorem iW:∀ (u v:xD) (σ:eE),gS σ (u ++ v)=gS (gS σ u) v
 | [],v,σ=>rfl
 | (k,some o) :: r,v,σ=>by simp only [List.cons_append,gS];exact iW r v _
 | (k,none) :: r,v,σ=>by simp only [List.cons_append,gS];exact iW r v _
def Ua (n:Nat):eE->Bool
 | []=>true
 | (k,_) :: r=>Nat.ble n k && Ua n r
theorem SG {n:Nat}:∀ {τ:eE},Ua n τ=true->∀ j,j < n->au τ j=none
 | [],_,_,_=>rfl
 | (k,o) :: r,h,j,hj=>by
  simp only [Ua,a7] at h
  simp only [au]
  rw [tH (by have:=Nat.le_of_ble_eq_true h.1;omega)]
  exact SG h.2 j hj
theorem OS:∀ (σ τ:eE) (n:Nat),au (σ ++ τ) n=match au σ n with
  | some o=>some o
  | none=>au τ n
 | [],τ,n=>rfl
 | (k,o) :: r,τ,n=>by
  simp only [List.cons_append,au]
  split
  ·rfl
  ·exact OS r τ n
def Oh (P:Program) (ob:FuncId->List AV->eE->Nat->AV->eE->Prop) (nk:Nat) (σ:eE) (f:AV) (args:List AV) (bz:rS):Option R :=
 match f with
 | .fn (.func g) first cap=>match WQ P g,AV.uW σ bz.ks (first ++ (args ++ cap)),canon σ bz.ks 0 bz.ks with
  | true,some (as,bs,ps),some Az=>match qq bz.ks && (bs.isEmpty || bz.D1 || bz.res.Wv) with
   | true=>match bz.same with
    | true=>match bz.sq with
     | []=>match Ex σ bz.ks (bs.isEmpty || bz.D1) bz.ks with
      | some qs=>some ⟨ob g as Az bz.ks.length bz.res Az :: (qs ++ ps),bz.res.mO (back bz.ks nk),bz.ks ++ bs,Bp bz.D1 bs⟩
      | none=>none
     | q :: τ=>match bs.isEmpty || bz.D1,Ex σ bz.ks true bz.ks,Ua bz.ks.length (q :: τ) && ON (bz.ks.length+16) (q :: τ) && qq ((q :: τ).map (·.1)) with
      | true,some qs,true=>some ⟨ob g as Az bz.ks.length bz.res (Az ++ q :: τ) :: (qs ++ ps),bz.res.mO (back bz.ks nk),bz.ks ++ bs,Jt bz.ks nk (q :: τ) ++ Bp bz.D1 bs⟩
      | _,_,_=>none
    | false=>match ON (bz.ks.length+16) bz.sq && qq (bz.sq.map (·.1)),Ju (bs.isEmpty || bz.D1) bz.sq with
     | true,some qs=>some ⟨ob g as Az bz.ks.length bz.res bz.sq :: (qs ++ ps),bz.res.mO (back bz.ks nk),bz.ks ++ bs,Ht bz.ks nk bz.sq 0 bz.ks ++ (Jt bz.ks nk bz.sq ++ Bp bz.D1 bs)⟩
     | _,_=>none
   | false=>none
  | _,_,_=>none
 | _=>none
def OT (P:Program) (nk:Nat) (σ:eE) (f:AV) (args:List AV) (bz:rS):Option R:=Oh P (Sound P) nk σ f args bz
theorem Bq {ks:List Nat} {nk:Nat}:∀ (τ σ:eE) (n:Nat),ON (ks.length+16) τ=true->(n < nk\/nk+16<=n)->au (gS σ (Jt ks nk τ)) n=au σ n
 | [],σ,n,_,_=>rfl
 | (k,o) :: r,σ,n,hl,hn=>by
  simp only [ON,a7] at hl
  have hk:k < ks.length+16:=by
   have:=hl.1
   simp only [Nat.blt,Nat.ble_eq] at this
   exact this
  simp only [Jt]
  split
  ·rename_i hb
   have hb:=Nat.le_of_ble_eq_true hb
   simp only [gS]
   rw [Bq r _ n hl.2 hn,bj,if_neg (by omega)]
  ·exact Bq r σ n hl.2 hn
theorem WR:∀ (τ:eE) (n:Nat) (o:Ob),au τ n=some o->n∈τ.map (·.1)
 | [],n,o,h=>by simp [au] at h
 | (k,x) :: r,n,o,h=>by
  simp only [au] at h
  split at h
  ·simp_all
  ·exact List.mem_cons_of_mem _ (WR r n o h)
theorem Jv {ks:List Nat} {nk:Nat}:∀ (τ σ:eE) (j:Nat),qq (τ.map (·.1))=true->au (gS σ (Jt ks nk τ)) (nk+j)=match au τ (ks.length+j) with
   | some o=>some (o.mO (back ks nk))
   | none=>au σ (nk+j)
 | [],σ,j,_=>rfl
 | (k,o) :: r,σ,j,hd=>by
  simp only [List.map_cons,qq,a7,Option.isNone_iff_eq_none] at hd
  simp only [Jt,au]
  by_cases hk:k=ks.length+j
  ·subst hk
   rw [xA rfl]
   have Ei:au r (ks.length+j)=none:=by
    cases hs:au r (ks.length+j) with
    | none=>rfl
    | some x =>
     obtain ⟨i,hi⟩:=List.getElem?_of_mem (WR r _ x hs)
     grind [pV]
   have aq1:Nat.ble ks.length (ks.length+j)=true:=Nat.ble_eq_true_of_le (by omega)
   rw [aq1]
   simp only [gS]
   rw [Jv r _ j hd.2,Ei]
   simp_all [bj,if_pos]
  ·rw [tH hk]
   split
   ·rename_i hb
    have hb:=Nat.le_of_ble_eq_true hb
    simp only [gS]
    rw [Jv r _ j hd.2]
    split
    ·rfl
    ·rw [bj,if_neg (by omega)]
   ·exact Jv r σ j hd.2
mutual
theorem acS {σ:eE} {ks:List Nat}:∀ (x y:AV) (bs:List Nat) (ps:List Prop),x.iR σ ks=some (y,bs,ps)->∀ k∈bs,idx ks k=none/\∃ o,au σ k=some o
 | .op k i j,y,bs,ps,h=>by
  simp only [AV.iR] at h
  grind
 | .os k off len,y,bs,ps,h=>by
  simp only [AV.iR] at h
  grind
 | .agg cs,y,bs,ps,h=>by
  simp only [AV.iR,aW] at h
  obtain ⟨⟨a,b,c⟩,h,e⟩:=h
  simp only [aG] at e
  obtain ⟨rfl,rfl,rfl⟩:=e
  exact ve cs a b c h
 | .tup cs,y,bs,ps,h=>by
  simp only [AV.iR,aW] at h
  obtain ⟨⟨a,b,c⟩,h,e⟩:=h
  simp only [aG] at e
  obtain ⟨rfl,rfl,rfl⟩:=e
  exact ve cs a b c h
 | .fn g x z,y,bs,ps,h=>by
  simp only [AV.iR] at h
  split at h
  ·rename_i a b c a' b' c' e1 e2
   simp only [aL,aG] at h
   obtain ⟨_,rfl,_⟩:=h
   intro k hk
   rcases List.mem_append.1 hk with hk | hk
   ·exact ve x a b c e1 k hk
   ·exact ve z a' b' c' e2 k hk
  ·cases h
 | .when _ _,y,bs,ps,h=>by simp [AV.iR] at h
 | .ov _ _ _ _ _,y,bs,ps,h=>by simp [AV.iR] at h
 | .KG _ _ _,y,bs,ps,h=>by simp [AV.iR] at h
 | .nq _ _,y,bs,ps,h=>by simp [AV.iR] at h
 | .mr _ _ _,y,bs,ps,h=>by simp [AV.iR] at h
 | .mp k,y,bs,ps,h=>by
  simp only [AV.iR,aW,aG] at h
  grind
 | .bn _,y,bs,ps,h=>by simp [AV.iR] at h;simp_all
 | .pt _ _,y,bs,ps,h=>by simp [AV.iR] at h;simp_all
 | .atom _,y,bs,ps,h=>by simp [AV.iR] at h;simp_all
 | .sl _ _,y,bs,ps,h=>by simp [AV.iR] at h;simp_all
 | .rp _ _,y,bs,ps,h=>by simp [AV.iR] at h;simp_all
 | .nil,y,bs,ps,h=>by simp [AV.iR] at h;simp_all
 | .rk,y,bs,ps,h=>by simp [AV.iR] at h;simp_all
theorem ve {σ:eE} {ks:List Nat}:∀ (xs ys:List AV) (bs:List Nat) (ps:List Prop),AV.uW σ ks xs=some (ys,bs,ps)->∀ k∈bs,idx ks k=none/\∃ o,au σ k=some o
 | [],ys,bs,ps,h=>by simp [AV.uW] at h;simp_all
 | c :: cs,ys,bs,ps,h=>by
  simp only [AV.uW] at h
  split at h
  ·rename_i a b p a' b' p' e1 e2
   simp only [aL,aG] at h
   obtain ⟨_,rfl,_⟩:=h
   intro k hk
   rcases List.mem_append.1 hk with hk | hk
   ·exact acS c a b p e1 k hk
   ·exact ve cs a' b' p' e2 k hk
  ·cases h
end
end Go.Ab
namespace Go.Ab
section
variable {P:Program} {E:Env} {nk:Nat} {σ:eE} {S:Nat->Prop} {μ:Mu} {w:World}
theorem RL.append {vs us:Array Value} {cs ds:List AV} (h:RL w S μ vs cs) (k:RL w S μ us ds):RL w S μ (vs ++ us) (cs ++ ds):=by
 refine ⟨by simp [h.1,k.1],?_⟩
 intro j c v hc hv
 have h1:=h.1
 by_cases hj:j < cs.length
 ·rw [jj hj] at hc
  rw [Array.getElem?_append_left (by omega)] at hv
  exact h.2 j c v hc hv
 ·rw [kU (by omega)] at hc
  rw [Array.getElem?_append_right (by omega),h1] at hv
  exact k.2 _ c v hc hv
theorem ajD (g:Good E σ S μ w) {ks:List Nat} {vs:Array Value} {cs ys:List AV} {bs:List Nat} {ps:List Prop} (h:RL w S μ vs cs) (S':Nat->Prop) (hS:∀ b,S b->S' b)
  (hl:AV.uW σ ks cs=some (ys,bs,ps)) (hp:bm ps) (hb:∀ b,Ew μ bs b->S' b):RL w S' (nj μ ks) vs ys:=by
 have:=aeQ g (ks:=ks) (ak.agg h.1 h.2) S' hS (y:=.agg ys) (bs:=bs) (ps:=ps) (by simp [AV.iR,hl]) hp hb
 cases this with
 | agg h1 h2=>exact ⟨h1,h2⟩
theorem aa0 {w':World} {S' Jh:Nat->Prop} {eB OF:Mu} {o:Ob} {pl:Place} {c:Array Value} {T:TypeId} (h:jq w' S' eB o pl c T) (hf:o.flat=true) (ho:0 < pl.cap->¬ Jh pl.dD) :
  jq w' Jh OF o pl c T:=by
 unfold Ob.flat at hf
 simp only [a7] at hf
 have hl:=cw hf.1.1.2
 have hz1:=Nat.le_of_ble_eq_true hf.1.2
 refine { h with out:=ho,rep:=?_,mp:=fun hz=>absurd hz (by omega) }
 intro i j x v hi hx hv
 have:i=0:=by omega
 subst this
 exact (h.rep 0 j x v hi hx hv).flat (Bl hf.2 hx) _ _ _
mutual
theorem acT:∀ (x:AV),x.flat=true->x.pure=true
 | .atom _,_=>rfl
 | .nil,_=>rfl
 | .bn _,_=>rfl
 | .pt _ _,h=>by simp [AV.flat] at h
 | .mp _,h=>by simp [AV.flat] at h
 | .ov _ _ _ _ _,h=>by simp [AV.flat] at h
 | .KG _ _ _,h=>by simp [AV.flat] at h
 | .nq _ _,h=>by simp [AV.flat] at h
 | .agg cs,h=>vf cs h
 | .tup cs,h=>vf cs h
 | .fn _ a b,h=>by
  simp only [AV.flat,a7] at h
  simp only [AV.pure,a7]
  exact ⟨vf a h.1,vf b h.2⟩
 | .sl _ _,h=>by simp [AV.flat] at h
 | .rp _ _,h=>by simp [AV.flat] at h
 | .op _ _ _,h=>by simp [AV.flat] at h
 | .os _ _ _,h=>by simp [AV.flat] at h
 | .when _ _,h=>by simp [AV.flat] at h
 | .rk,h=>by simp [AV.flat] at h
 | .mr _ _ _,h=>by simp [AV.flat] at h
theorem vf:∀ (cs:List AV),AV.Dx cs=true->AV.oY cs=true
 | [],_=>rfl
 | c :: cs,h=>by
  simp only [AV.Dx,a7] at h
  simp only [AV.oY,a7]
  exact ⟨acT c h.1,vf cs h.2⟩
end
mutual
theorem OU {f:Nat->Option Nat}:∀ (x:AV),x.pure=true->x.mO f=x
 | .op _ _ _,h=>by simp [AV.pure] at h
 | .os _ _ _,h=>by simp [AV.pure] at h
 | .mp _,h=>by simp [AV.pure] at h
 | .ov _ _ _ _ _,h=>by simp [AV.pure] at h
 | .KG _ _ _,h=>by simp [AV.pure] at h
 | .mr _ _ _,h=>by simp [AV.pure] at h
 | .bn _,_=>rfl
 | .pt _ _,_=>rfl
 | .agg cs,h=>by simp only [AV.mO];rw [yk cs h]
 | .tup cs,h=>by simp only [AV.mO];rw [yk cs h]
 | .fn q a b,h=>by
  simp only [AV.pure,a7] at h
  simp only [AV.mO];rw [yk a h.1,yk b h.2]
 | .when b x,h=>by simp only [AV.mO];rw [OU x h]
 | .nq b x,h=>by simp only [AV.mO];rw [OU x h]
 | .atom _,_=>rfl
 | .sl _ _,_=>rfl
 | .rp _ _,_=>rfl
 | .nil,_=>rfl
 | .rk,_=>rfl
theorem yk {f:Nat->Option Nat}:∀ (cs:List AV),AV.oY cs=true->AV.Ay f cs=cs
 | [],_=>rfl
 | c :: cs,h=>by
  simp only [AV.oY,a7] at h
  simp only [AV.Ay]
  rw [OU c h.1,yk cs h.2]
end
theorem aa1 {w':World} {S':Nat->Prop} {eB:Mu} {o o':Ob} {pl:Place} {c:Array Value} {T:TypeId} (h:jq w' S' eB o' pl c T) (z1:o'.sz=o.sz) (z2:o'.len=o.len) (z3:o'.pr=o.pr)
  (hl:o.len=1) (h0:o'.get 0=o.get 0):jq w' S' eB o pl c T:=by
 have q1:∀ i,i < o.len->o.get i=o'.get i:=fun i hi=>by
  simp_all
 refine ⟨h.sz.trans z1,z1 ▸ h.dD,z1 ▸ h.cap,z2 ▸ h.len,h.out,?_,?_,fun hz=>by rw [<- h0,<- z3];exact h.mp (z1.trans hz)⟩
 ·intro i hi
  rw [q1 i hi,<- z1]
  exact h.zw i (by omega)
 ·intro i j x v hi hx hv
  rw [q1 i hi] at hx
  rw [<- z3]
  exact h.rep i j x v (by omega) hx (by rw [z1];exact hv)
theorem ajE {w':World} {S':Nat->Prop} {eB:Mu} {o o':Ob} {pl:Place} {c:Array Value} {T:TypeId} (h:jq w' S' eB o' pl c T) (z1:o'.sz=o.sz) (z2:o'.len=o.len) (z3:o'.pr=o.pr)
  (YD:o.pr=false) (q1:∀ i,i < o.len->o.get i=o'.get i):jq w' S' eB o pl c T:=by
 refine ⟨h.sz.trans z1,z1 ▸ h.dD,z1 ▸ h.cap,z2 ▸ h.len,h.out,?_,?_,fun hz=>?_⟩
 ·intro i hi
  rw [q1 i hi,<- z1]
  exact h.zw i (by omega)
 ·intro i j x v hi hx hv
  rw [q1 i hi] at hx
  rw [<- z3]
  exact h.rep i j x v (by omega) hx (by rw [z1];exact hv)
 ·have:=(h.mp (z1.trans hz)).2.2.2.1
  simp_all
theorem OV {w':World} {S' Jh:Nat->Prop} {eB OF:Mu} {o:Ob} {pl:Place} {c:Array Value} {T:TypeId} (h:jq w' S' eB o pl c T) {ps:List Prop} (hf:zS o=some ps) (hp:bm ps) (ho:0 < pl.cap->¬ Jh pl.dD) :
  jq w' Jh OF o pl c T:=by
 unfold zS at hf
 split at hf
 ·grind [aa0]
 ·split at hf
  ·rename_i hb
   cases hf
   simp only [a7] at hb
   have hz1:=Nat.le_of_ble_eq_true hb.2
   refine { h with out:=ho,rep:=?_,mp:=fun hz=>absurd hz (by omega) }
   intro i j x v hi hx hv
   exact (h.rep i j x v hi hx hv).flat (Bl (hp.1 i hi) hx) _ _ _
  ·cases hf
theorem Jw {w':World} {S' Jh:Nat->Prop} {eB:Mu} {o:Ob} {pl:Place} {c:Array Value} {T:TypeId} (h:jq w' S' eB o pl c T) (hS:∀ b,S' b->Jh b) (ho:0 < pl.cap->¬ Jh pl.dD):jq w' Jh eB o pl c T :=
 { h with
  out:=ho
  rep:=fun i j x v hi hx hv=>ak.mono hS (fun _ _=>rfl) (h.rep i j x v hi hx hv) (fun _ _ h=>h)
  mp:=fun hz=>let ⟨m0,m1,m2,m3,m4⟩:=h.mp hz
   ⟨m0,m1,m2,m3,fun j x v hx hv=>ak.mono hS (fun _ _=>rfl) (m4 j x v hx hv) (fun _ _ h=>h)⟩ }
theorem aa2 {w':World} {S' Jh:Nat->Prop} {eB OF:Mu} {o:Ob} {pl:Place} {c:Array Value} {T:TypeId} {ks:List Nat} {nk:Nat} {lone:Bool} (h:jq w' S' eB (o.mO (idx ks)) pl c T)
  {ps:List Prop} (RO:KS ks lone o=some ps) (hp:bm ps) (hS:lone=true->∀ b,S' b->Jh b) (ho:0 < pl.cap->¬ Jh pl.dD)
  (hm:∀ k k' pl,back ks nk k=some k'->eB k=some pl->OF k'=some pl):jq w' Jh OF o pl c T:=by
 unfold KS at RO
 split at RO
 case h_2 =>
  split at RO
  ·grind [idx,Ob.mO,OV]
  ·rename_i YD
   split at RO
   case h_2=>cases RO
   rename_i hl
   cases RO
   simp only [a7,Bool.not_eq_true'] at hl
   have h2:=h.mO hm
   refine Jw (ajE h2 (by rw [Ob.yD,Ob.yD]) (by grind [Ob.Gh]) (by rw [Ob.KR,Ob.KR]) YD fun i hi=>?_) (hS hl.1) ho
   have hr:dT (o.get i)=true:=hp.1 i hi
   simp_all [Ob.mO,SD]
 rename_i hq
 cases hf:o.flat with
 | true =>
  have hf':=hf
  unfold Ob.flat at hf'
  simp only [a7] at hf'
  have hl:=cw hf'.1.1.2
  refine aa0 (aa1 h (Ob.yD _ _) (Ob.Gh _ _) (Ob.KR _ _) hl ?_) hf ho
  grind [Ob.mO,yk,vf]
 | false =>
  rw [hf,Bool.false_or,a7] at hq
  have hS:=hS hq.1
  have h2:=h.mO hm
  have DA:∀ k i,idx ks k=some i->back ks nk i=some k:=fun k i hk=>by
   grind [back,qH]
  have h3:jq w' S' OF o pl c T:=by
   have hc:=hq.2
   unfold Ob.closed at hc
   cases hp:o.pr with
   | true =>
    grind [idx,back,Ob.mO]
   | false =>
    rw [hp,Bool.false_or] at hc
    simp only [a7] at hc
    refine aa1 h2 (by rw [Ob.yD,Ob.yD]) (by grind [Ob.Gh]) (by rw [Ob.KR,Ob.KR]) (cw hc.1.2) ?_
    simp only [Ob.mO,hp]
    grind [yj]
  exact Jw h3 hS ho
theorem CD {σ:eE} {ks:List Nat} {lone:Bool}:∀ (l:List Nat) (qs:List Prop),Ex σ ks lone l=some qs->bm qs->∀ k∈l,∀ o,au σ k=some o->∃ ps,KS ks lone o=some ps/\bm ps
 | [],_,_,_,k,hk=>by simp at hk
 | a :: r,qs,h,hq,k,hk=>by
  intro o ho
  simp only [Ex] at h
  split at h
  ·rename_i o1 DB
   split at h
   ·rename_i p q h1 h2
    cases h
    obtain ⟨q1,q2⟩:=bm.app hq
    rcases lG.1 hk with rfl | hk
    ·simp_all
    ·exact CD r q h2 q2 k hk o ho
   ·cases h
  ·cases h
theorem xR {lone:Bool}:∀ (σ:eE) (qs:List Prop),Ju lone σ=some qs->bm qs->∀ k o,au σ k=some o->lone=true\/∃ ps,zS o=some ps/\bm ps
 | [],_,_,_,k,o,h=>by simp [au] at h
 | (a,x) :: r,qs,h,hq,k,o,hk=>by
  simp only [Ju] at h
  split at h
  ·exact .inl rfl
  ·split at h
   ·rename_i p q h1 h2
    cases h
    obtain ⟨q1,q2⟩:=bm.app hq
    simp only [au] at hk
    split at hk
    ·simp_all
    ·exact xR r q h2 q2 k o hk
   ·cases h
theorem AA {o:Ob} {ps:List Prop} (h:zS o=some ps) (hp:bm ps) (i:Nat):rowOf o i=none:=by
 unfold zS at h
 split at h
 ·simp_all [Ob.flat,a7,El]
 ·split at h
  ·cases h
   cases hr:rowOf o i with
   | none=>rfl
   | some x =>
    obtain ⟨_,h2,h3⟩:=dW hr
    have:=hp.1 i h2
    rw [h3] at this;cases this
  ·cases h
theorem Ub {ks:List Nat} {o:Ob} {ps:List Prop} (h:KS ks false o=some ps) (hp:bm ps) (i:Nat):rowOf o i=none:=by
 unfold KS at h
 rw [Bool.false_and,Bool.or_false] at h
 split at h
 ·simp_all [AA,zS,trivial]
 ·split at h
  ·exact AA h hp i
  simp_all
theorem WS (g:Good E σ S μ w) (HR:∀ j,j < 16->μ (nk+j)=none) (zR:E.m0<=nk) {f:AV} {args:List AV} {bz:rS} {r:R} {fv:Value} (hf:ak w S μ fv f) {Jx:Array Value} (ha:RL w S μ Jx args)
  (hz:bz.D1=true->∀ b,¬ E.fp b) {ob:FuncId->List AV->eE->Nat->AV->eE->Prop}
  (dS:∀ gid as bs Az res gj vs,ob gid as Az bz.ks.length res gj->Good (Eu w (fun b=>S b\/Ew μ bs b) Az (nj μ bz.ks) bz.ks.length) Az (fun b=>S b\/Ew μ bs b) (nj μ bz.ks) w->(∀ k,bz.ks.length<=k->nj μ bz.ks k=none) ->
   RL w (fun b=>S b\/Ew μ bs b) (nj μ bz.ks) vs as->Calls P gid vs w fun e w'=>∃ v S' eB,e=.returned v/\Good (Eu w (fun b=>S b\/Ew μ bs b) Az (nj μ bz.ks) bz.ks.length) gj S' eB w'/\ak w' S' eB v res)
  (h:Oh P ob nk σ f args bz=some r) (hp:bm r.SC) :
  ∃ gid vs,(do let d <- Deferred.ofValue fv Jx;invoke d.target d.args:Sem Next).run P w=.ok (.enter gid vs) w /\
   Calls P gid vs w fun e w'=>∃ v S' eB,e=.returned v/\Ext w S μ w' S' eB/\Good E (gS σ r.pU) S' eB w'/\(∀ k,(k < nk\/nk+16<=k)->μ k=none->eB k=none)/\ak w' S' eB v r.val:=by
 unfold Oh at h
 split at h
 case h_2=>cases h
 rename_i gid first cap
 split at h
 case h_2=>cases h
 rename_i as bs ps Az OW alg ajF
 split at h
 case h_2=>cases h
 rename_i aoU
 rw [a7] at aoU
 obtain ⟨hnd,acU⟩:=aoU
 have ajG:=OQ bz.ks hnd
 cases hf with
 | fn f1 f2 f3 f4 =>
 rename_i fvs cvs
 refine ⟨gid,fvs ++ Jx ++ cvs,?_,?_⟩
 ·unfold WQ at OW
  split at OW
  ·rename_i fn hfn
   simp only [a7,Bool.not_eq_true'] at OW
   have hb:¬ fn.body=none:=by intro hh;rw [hh] at OW;simp at OW
   have gH:¬ fn.name = "runtime.NumGoroutine":=by simpa using OW.2
   simp [Deferred.ofValue,invoke,callFunc,hfn,gH,hb]
  ·cases OW
 have hlk:=ve _ _ _ _ alg
 have hcg:=SE bz.ks 0 Az ajF
 simp only [Nat.zero_le,if_true,Nat.sub_zero] at hcg
 -- the state in which the callee begins
 have hps:bm ps:=by
  split at h
  ·split at h
   ·split at h
    ·cases h;exact (bm.app hp.2).2
    ·cases h
   ·split at h
    ·cases h;exact (bm.app hp.2).2
    ·cases h
  ·split at h
   ·cases h;exact (bm.app hp.2).2
   ·cases h
 have CE:RL w (fun b=>S b\/Ew μ bs b) (nj μ bz.ks) (fvs ++ Jx ++ cvs) as:=by
  have hrl:RL w S μ (fvs ++ Jx ++ cvs) (first ++ (args ++ cap)):=by
   have:=RL.append (w:=w) (S:=S) (μ:=μ) ⟨f1,f3⟩ (RL.append ha ⟨f2,f4⟩)
   rwa [<- Array.append_assoc] at this
  exact ajD g hrl _ (fun _ h=>.inl h) alg hps (fun _ h=>.inr h)
 have iQ:∀ k o pl,au σ k=some o->μ k=some pl->0 < pl.cap->pl.dD < w.heap.size:=fun k o pl ho hm hc=>by
  obtain ⟨mf,c,T,jl,dS⟩:=g.rep.ob k o ho
  rw [hm] at jl;cases jl
  exact iV (dS.dD hc)
 have aoW:∀ k o pl,au σ k=some o->μ k=some pl->0 < pl.cap->¬ S pl.dD:=fun k o pl ho hm hc=>by
  obtain ⟨mf,c,T,jl,dS⟩:=g.rep.ob k o ho
  rw [hm] at jl;cases jl
  exact dS.out hc
 have MP:∀ i o',au Az i=some o'->∃ k o,bz.ks[i]?=some k/\au σ k=some o/\o'=o.mO (idx bz.ks):=by
  intro i o' h
  rw [hcg] at h
  simp only [aW,Option.bind_eq_some_iff] at h
  obtain ⟨o,⟨k,hk,ho⟩,rfl⟩:=h
  exact ⟨k,o,hk,ho,rfl⟩
 have aa3:∀ i j x v,kr w (nj μ bz.ks) Az i j x v->∃ k,bz.ks[i]?=some k/\kr w μ σ k j x v:=by
  rintro i j x v ⟨o',pl,h1,h2,h3,h4⟩
  obtain ⟨k,o,hk,ho,rfl⟩:=MP i o' h1
  exact ⟨k,hk,o,pl,ho,(vd _ _ _ _).1 h2,by simpa [nj,hk] using h3,h4⟩
 have aeR:∀ b,ajB w Az (nj μ bz.ks) b->(∃ (k i:Nat) (o:Ob) (pl:Place),bz.ks[i]?=some k/\au σ k=some o/\μ k=some pl/\0 < pl.cap/\pl.dD=b) \/
   ∃ (k i j:Nat) (x:Nat×Nat×(Nat->List AV)) (v:Value),bz.ks[i]?=some k/\kr w μ σ k j x v/\ptrTo v b:=by
  rintro b (⟨i,o',pl,hi,hm,hc,hb⟩ | ⟨i,j,x,v,hv,hb⟩)
  ·obtain ⟨k,o,hk,ho,_⟩:=MP i o' hi
   refine .inl ⟨k,i,o,pl,hk,ho,?_,hc,hb⟩
   simpa [nj,hk] using hm
  ·obtain ⟨k,hk,yB⟩:=aa3 i j x v hv
   exact .inr ⟨k,i,j,x,v,hk,yB,hb⟩
 have aeS:∀ k i x v b,kr w μ σ k i x v->ptrTo v b->¬ Ew μ bs b:=by
  rintro k i x v b hv hb ⟨k',tg,mf,jl,sS,he⟩
  obtain ⟨_,o2,MK⟩:=hlk k' tg
  exact g.mx.obj _ _ _ _ _ hv hb k' o2 mf MK jl sS he
 have g0:Good (Eu w (fun b=>S b\/Ew μ bs b) Az (nj μ bz.ks) bz.ks.length) Az (fun b=>S b\/Ew μ bs b) (nj μ bz.ks) w:=by
  refine ⟨Fr.refl _ _,fun _ h=>h,?_,fun _ h=>.inl h,⟨?_,?_⟩,fun k o pl hk hm hc=>.inl (.inl ⟨k,o,pl,hk,hm,hc,rfl⟩),fun _ _=>rfl,?_⟩
  ·rintro b (hb | ⟨k,hk,pl,hm,hc,rfl⟩)
   ·exact g.S1 b hb
   ·obtain ⟨_,o,ho⟩:=hlk k hk
    exact iQ k o pl ho hm hc
  ·intro i o' hi
   obtain ⟨k,o,hk,ho,rfl⟩:=MP i o' hi
   obtain ⟨pl,c,T,hm,dS⟩:=g.rep.ob k o ho
   refine ⟨pl,c,T,by simp [nj,hk,hm],?_⟩
   have h1:=dS.mO (f:=idx bz.ks) (eB:=nj μ bz.ks) (fun a b pl ha hb=>Js a b pl ha hb)
   refine h1.ext (w':=w) ⟨aN _,fun _ h=>.inl h,fun _ _=>rfl,fun _ _ h=>h⟩ (fun _=>rfl) ?_
   rintro hc (hS | ⟨k',tg,mf,jl,sS,he⟩)
   ·exact dS.out hc hS
   ·obtain ⟨Ei,o2,MK⟩:=hlk k' tg
    have gH:k≠k':=fun h=>pV _ _ Ei i (h ▸ hk)
    exact g.rep.ne k k' o o2 pl mf gH ho MK hm jl hc sS he.symm
  ·intro i i' o o' pl mf gH hi sB hm jl hc sS
   obtain ⟨k,oo,hk,ho,_⟩:=MP i o hi
   obtain ⟨k',oo',tg,Cq,_⟩:=MP i' o' sB
   have hkk:k≠k':=fun h=>gH (ajG i i' k hk (h ▸ tg))
   exact g.rep.ne k k' oo oo' pl mf hkk ho Cq (by simpa [nj,hk] using hm) (by simpa [nj,tg] using jl) hc sS
  ·refine g.mx.tr (fun i=>bz.ks.getD i 0) (fun i j x v h=>?_) (fun i j x v i' j' x' v' h h' e=>?_) (fun _ h=>.inl h) (fun _ _=>rfl) (fun i j x v b hv h hb=>?_) (fun i o' pl h1 h2 h3=>?_)
   ·obtain ⟨k,hk,hv⟩:=aa3 i j x v h
    show kr w μ σ (bz.ks.getD i 0) j x v
    rw [ep,hk];exact hv
   ·obtain ⟨k,hk,_⟩:=aa3 i j x v h
    obtain ⟨k',tg,_⟩:=aa3 i' j' x' v' h'
    have e:bz.ks.getD i 0=bz.ks.getD i' 0:=e
    rw [ep,ep,hk,tg] at e
    have e:k=k':=e
    exact ajG i i' k hk (e ▸ tg)
   ·obtain ⟨q1,q2,q3,_⟩:=g.mx.dD h hb
    exact ⟨rfl,fun hs=>hs.elim q2 (aeS _ _ _ _ _ h hb),fun _=>.inl (.inr ⟨i,j,x,v,hv,hb⟩)⟩
   ·obtain ⟨k,o,hk,ho,_⟩:=MP i o' h1
    exact .inl ⟨k,o,pl,ho,by simpa [nj,hk] using h2,h3,rfl⟩
 have aeU:∀ k,bz.ks.length<=k->nj μ bz.ks k=none:=fun k hk=>by simp [nj,sQ hk]
 -- behind the call
 have Dy:∀ k o,au σ k=some o->k < nk\/nk+16<=k:=by
  intro k o ho
  rcases Nat.lt_or_ge k nk with h1 | h1
  ·exact .inl h1
  ·rcases Nat.lt_or_ge k (nk+16) with h2 | h2
   ·obtain ⟨pl,c,T,hm,_⟩:=g.rep.ob k o ho
    have:=HR (k - nk) (by omega)
    rw [show nk+(k - nk)=k by omega,hm] at this
    cases this
   ·exact .inr h2
 have fin:∀ (gj:eE) (YR:eE),ob gid as Az bz.ks.length bz.res gj ->
   (∀ n,idx bz.ks n=none->(n < nk\/nk+16<=n)->au YR n=if bz.D1=true/\n∈bs then none else au σ n) ->
   (∀ j,j < 16->∀ o,au YR (nk+j)=some o->∃ o1,au gj (bz.ks.length+j)=some o1/\o=o1.mO (back bz.ks nk)) ->
   (∀ (w':World) (S' Jh:Nat->Prop) (eB:Mu),((bs.isEmpty || bz.D1)=true->∀ b,S' b->Jh b)->∀ j,j < 16->∀ o1 pl c T,au gj (bz.ks.length+j)=some o1->jq w' S' eB o1 pl c T->(0 < pl.cap->¬ Jh pl.dD)->jq w' Jh eB o1 pl c T) ->
   (∀ (w':World) (S' Jh:Nat->Prop) (eB WT:Mu),Good (Eu w (fun b=>S b\/Ew μ bs b) Az (nj μ bz.ks) bz.ks.length) gj S' eB w'->((bs.isEmpty || bz.D1)=true->∀ b,S' b->Jh b) ->
    (∀ k k' pl,back bz.ks nk k=some k'->eB k=some pl->WT k'=some pl)->∀ (k i:Nat) (o:Ob) (pl:Place),bz.ks[i]?=some k->au YR k=some o->μ k=some pl->(0 < pl.cap->¬ Jh pl.dD)->∃ c T,jq w' Jh WT o pl c T) ->
   (∀ (k i:Nat) (o:Ob),bz.ks[i]?=some k->au YR k=some o->(∃ o1,au σ k=some o1)/\∃ o2,au gj i=some o2) ->
   (∀ (k i:Nat) (o:Ob),bz.ks[i]?=some k->au YR k=some o->∀ j x,rowOf o j=some x->∃ o2,au gj i=some o2/\rowOf o2 j=some x) ->
   ((bs.isEmpty || bz.D1)=false->∀ n o,au gj n=some o->∀ i,rowOf o i=none) ->
   Calls P gid (fvs ++ Jx ++ cvs) w fun e w'=>∃ v S' eB,e=.returned v/\Ext w S μ w' S' eB/\Good E YR S' eB w'/\(∀ k,(k < nk\/nk+16<=k)->μ k=none->eB k=none)/\ak w' S' eB v (bz.res.mO (back bz.ks nk)):=by
  intro gj YR amq Uc ajr aoX aq2 ajI aoY amr
  refine (dS gid as bs Az _ _ _ amq g0 aeU CE).mono ?_
  rintro e w' ⟨v,S',eB,rfl,g',hv⟩
  have WU:∀ b,b < w.heap.size->(∀ (k i:Nat) (o:Ob) (pl:Place),bz.ks[i]?=some k->au σ k=some o->μ k=some pl->0 < pl.cap->pl.dD≠b) ->
    (∀ (k i j:Nat) (x:Nat×Nat×(Nat->List AV)) (v:Value),bz.ks[i]?=some k->kr w μ σ k j x v->¬ ptrTo v b)->w'.heap[b]?=w.heap[b]?:=by
   intro b hb Ei aq3
   refine g'.fr.dD b hb fun hfp=>?_
   rcases aeR b hfp with ⟨k,i,o,pl,hk,ho,hm,hc,he⟩ | ⟨k,i,j,x,v,hk,hv,he⟩
   ·exact Ei k i o pl hk ho hm hc he
   ·exact aq3 k i j x v hk hv he
  have hSb:∀ b,S b->w'.heap[b]?=w.heap[b]?:=fun b hb=>WU b (g.S1 b hb) (fun k i o pl hk ho hm hc he=>aoW k o pl ho hm hc (he ▸ hb)) fun k i j x v hk hv he=>(g.mx.dD hv he).2.1 hb
  let WT:Mu:=fun k=>if nk<=k/\k < nk+16 then eB (bz.ks.length+(k - nk)) else μ k
  have OX:∀ k,(k < nk\/nk+16<=k)->WT k=μ k:=fun k hk=>by
   show (if nk<=k/\k < nk+16 then _ else _)=_
   rw [if_neg (by omega)]
  have Ud:∀ j,j < 16->WT (nk+j)=eB (bz.ks.length+j):=fun j hj=>by
   show (if nk<=nk+j/\nk+j < nk+16 then _ else _)=_
   rw [if_pos (by omega)];congr 1;omega
  have ajK:∀ k pl,μ k=some pl->WT k=some pl:=by
   intro k pl hk
   have hn:k < nk\/nk+16<=k:=by
    rcases Nat.lt_or_ge k nk with h1 | h1
    ·exact .inl h1
    ·rcases Nat.lt_or_ge k (nk+16) with h2 | h2
     ·have:=HR (k - nk) (by omega)
      rw [show nk+(k - nk)=k by omega,hk] at this
      cases this
     ·exact .inr h2
   rw [OX k hn];exact hk
  have DA:∀ k k' pl,back bz.ks nk k=some k'->eB k=some pl->WT k'=some pl:=by
   intro k k' pl hk hm
   unfold back at hk
   split at hk
   ·rename_i q hq
    cases hk
    have iQ:k < bz.ks.length:=(fe.1 hq).1
    rw [g'.Oc k iQ] at hm
    have:nj μ bz.ks k=some pl:=hm
    refine ajK _ _ ?_
    simpa [nj,show bz.ks[k]?=some _ from hq] using this
   ·rename_i hq
    split at hk
    ·rename_i hb
     cases hk
     have iQ:k < bz.ks.length+16:=by
      simp only [Nat.blt,Nat.ble_eq] at hb;exact hb
     have hge:bz.ks.length<=k:=List.getElem?_eq_none_iff.1 hq
     rw [Ud _ (by omega),show bz.ks.length+(k - bz.ks.length)=k by omega];exact hm
    ·cases hk
  let SF:Nat->Prop:=fun b=>S b\/(bz.D1=true/\Ew μ bs b)\/(S' b/\w.heap.size<=b)
  have hSF:∀ b,SF b->S' b:=by
   rintro b (h1 | ⟨_,h1⟩ | ⟨h1,_⟩)
   ·exact g'.S0 b (.inl h1)
   ·exact g'.S0 b (.inr h1)
   ·exact h1
  have hSS:(bs.isEmpty || bz.D1)=true->∀ b,S' b->SF b:=by
   intro he b hb
   rcases g'.S2 b hb with (h1 | h0) | h1
   ·exact .inl h1
   ·rcases Bool.or_eq_true_iff.1 he with he | he
    ·obtain ⟨k,hk,_⟩:=h0
     rw [List.isEmpty_iff] at he;rw [he] at hk;simp at hk
    ·exact .inr (.inl ⟨he,h0⟩)
   ·exact .inr (.inr ⟨hb,h1⟩)
  have hold:∀ k o,au YR k=some o->(k < nk\/nk+16<=k)->∃ o1,au σ k=some o1:=by
   intro k o ho hn
   cases hi:idx bz.ks k with
   | none =>
    rw [Uc k hi hn] at ho
    split at ho
    ·cases ho
    ·exact ⟨o,ho⟩
   | some i=>exact (ajI k i o (qH _ _ _ hi) ho).1
  have hnl:∀ k o,au YR k=some o->bz.D1=true->k ∉ bs:=by
   intro k o ho hz' hk
   obtain ⟨Ei,o2,MK⟩:=hlk k hk
   rw [Uc k Ei (Dy k o2 MK),if_pos ⟨hz',hk⟩] at ho
   cases ho
  have aa4:∀ k o0 o pl,au YR k=some o0->au σ k=some o->μ k=some pl->0 < pl.cap->¬ SF pl.dD:=by
   rintro k o0 o pl wj ho hm hc (h1 | ⟨hz',k',tg,mf,jl,sS,he⟩ | ⟨_,h1⟩)
   ·exact aoW k o pl ho hm hc h1
   ·obtain ⟨_,o2,MK⟩:=hlk k' tg
    have gH:k≠k':=fun h=>hnl k o0 wj hz' (h ▸ tg)
    exact g.rep.ne k k' o o2 pl mf gH ho MK hm jl hc sS he.symm
   ·have:=iQ k o pl ho hm hc;omega
  -- a new object, as the callee has left it
  have YS:∀ j,j < 16->∀ o,au YR (nk+j)=some o->∃ o1 pl c T,au gj (bz.ks.length+j)=some o1/\o=o1.mO (back bz.ks nk)/\eB (bz.ks.length+j)=some pl/\jq w' S' eB o1 pl c T:=by
   intro j hj o ho
   obtain ⟨o1,h1,h2⟩:=ajr j hj o ho
   obtain ⟨pl,c,T,h3,h4⟩:=g'.rep.ob _ o1 h1
   exact ⟨o1,pl,c,T,h1,h2,h3,h4⟩
  have Ey:∀ k,(k < nk\/nk+16<=k)\/∃ j,j < 16/\k=nk+j:=fun k=>by
   rcases Nat.lt_or_ge k nk with h1 | h1
   ·exact .inl (.inl h1)
   ·rcases Nat.lt_or_ge k (nk+16) with h2 | h2
    ·exact .inr ⟨k - nk,by omega,by omega⟩
    ·exact .inl (.inr h2)
  -- the block of a new object is none of the caller's
  have alh:∀ j o1 pl,au gj (bz.ks.length+j)=some o1->eB (bz.ks.length+j)=some pl->0 < pl.cap ->
    (∃ (k i:Nat) (o:Ob) (mf:Place),bz.ks[i]?=some k/\au σ k=some o/\μ k=some mf/\0 < mf.cap/\mf.dD=pl.dD) \/
    (∃ (k i j:Nat) (x:Nat×Nat×(Nat->List AV)) (v:Value),bz.ks[i]?=some k/\kr w μ σ k j x v/\ptrTo v pl.dD)\/w.heap.size<=pl.dD:=by
   intro j o1 pl h1 h2 h3
   rcases g'.own _ o1 pl h1 h2 h3 with h4 | h4
   ·exact (aeR _ h4).elim .inl fun h=>.inr (.inl h)
   ·exact .inr (.inr h4)
  -- new and old ones lie apart
  have aeV:∀ j,j < 16->∀ k o o' pl mf,au YR (nk+j)=some o->au YR k=some o'->(k < nk\/nk+16<=k)->WT (nk+j)=some pl->WT k=some mf->0 < pl.cap->0 < mf.cap->pl.dD≠mf.dD:=by
   intro j hj k o o' pl mf ho Cq hn hm jl hc sS he
   obtain ⟨o1,Ji,c1,T1,h1,h2,h3,h4⟩:=YS j hj o ho
   rw [Ud j hj,h3] at hm;cases hm
   rw [OX k hn] at jl
   cases hi:idx bz.ks k with
   | some i =>
    have hik:=qH _ _ _ hi
    obtain ⟨_,o2,MK⟩:=ajI k i o' hik Cq
    have Ww:i < bz.ks.length:=(fe.1 hik).1
    have Jq:eB i=some mf:=by
     rw [g'.Oc i Ww]
     show nj μ bz.ks i=_
     simp [nj,hik,jl]
    exact g'.rep.ne (bz.ks.length+j) i o1 o2 pl mf (by omega) h1 MK h3 Jq hc sS he
   | none =>
    obtain ⟨o3,YB⟩:=hold k o' Cq hn
    rcases alh j o1 pl h1 h3 hc with ⟨k2,i2,o4,pl4,q1,q2,q3,q4,q5⟩ | ⟨k2,i2,j2,x2,v2,q1,q2,q3⟩ | h5
    ·have gH:k2≠k:=fun h=>pV _ _ hi i2 (h ▸ q1)
     exact g.rep.ne k2 k o4 o3 pl4 mf gH q2 YB q3 jl q4 sS (q5.trans he)
    ·exact g.mx.obj _ _ _ _ _ q2 q3 k o3 mf YB jl sS he.symm
    ·have:=iQ k o3 mf YB jl sS
     omega
  have ext:Ext w S μ w' SF WT:=⟨g'.fr.size,fun _ h=>.inl h,hSb,ajK⟩
  -- the rows
  have cls:∀ k i x v,kr w' WT YR k i x v->(idx bz.ks k=none/\(k < nk\/nk+16<=k)/\kr w μ σ k i x v)\/((bs.isEmpty || bz.D1)=true/\∃ q,back bz.ks nk q=some k/\kr w' eB gj q i x v):=by
   rintro k i x v ⟨o,pl,h1,h2,h3,h4⟩
   have ali:∀ n o2,au gj n=some o2->rowOf o2 i=some x->(bs.isEmpty || bz.D1)=true:=by
    intro n o2 MK dy
    cases hfl:(bs.isEmpty || bz.D1) with
    | true=>rfl
    | false=>rw [amr hfl n o2 MK i] at dy;cases dy
   rcases Ey k with hn | ⟨j,hj,rfl⟩
   ·cases hi:idx bz.ks k with
    | none =>
     have wj:=h1
     rw [Uc k hi hn] at wj
     split at wj
     ·cases wj
     rw [OX k hn] at h3
     obtain ⟨xQ,c,T,hm,dS⟩:=g.rep.ob k o wj
     rw [h3] at hm;cases hm
     refine .inl ⟨rfl,hn,o,pl,wj,h2,h3,?_⟩
     have hc:0 < pl.cap:=by have:=(dW h2).2.1;have:=dS.len;omega
     rw [<- h4]
     refine (wg (WU _ (iV (dS.dD hc)) ?_ ?_) _).symm
     ·intro k' i' o' mf tg Cq jl sS he
      have gH:k'≠k:=fun h=>pV _ _ hi i' (h ▸ tg)
      exact g.rep.ne k' k o' o mf pl gH Cq wj jl h3 sS hc he
     ·intro k' i' j' x' v' tg yB he
      exact g.mx.obj _ _ _ _ _ yB he k o pl wj h3 hc rfl
    | some i0 =>
     have hik:=qH _ _ _ hi
     obtain ⟨o2,MK,dy⟩:=aoY k i0 o hik h1 i x h2
     have Ww:i0 < bz.ks.length:=(fe.1 hik).1
     refine .inr ⟨ali i0 o2 MK dy,i0,by unfold back;rw [hik],o2,pl,MK,dy,?_,h4⟩
     rw [g'.Oc i0 Ww]
     rw [OX k hn] at h3
     show nj μ bz.ks i0=_
     simp [nj,hik,h3]
   ·obtain ⟨o1,q1,q2⟩:=ajr j hj o h1
    rw [q2] at h2
    have dy:=(vd _ _ _ _).1 h2
    refine .inr ⟨ali _ o1 q1 dy,bz.ks.length+j,?_,o1,pl,q1,dy,by rw [<- Ud j hj];exact h3,h4⟩
    unfold back
    rw [sQ (by omega)]
    have:Nat.blt (bz.ks.length+j) (bz.ks.length+16)=true:=by simp only [Nat.blt,Nat.ble_eq];omega
    rw [this]
    simp
  have aoZ:∀ k i x v b,kr w μ σ k i x v->ptrTo v b->idx bz.ks k=none->w'.heap[b]?=w.heap[b]?/\¬ SF b:=by
   intro k i x v b hv hb hi
   obtain ⟨q1,q2,q3,_⟩:=g.mx.dD hv hb
   refine ⟨WU b q1 (fun k' i' o' mf tg Cq jl sS he=>g.mx.obj _ _ _ _ _ hv hb k' o' mf Cq jl sS he) (fun k' i' j' x' v' tg yB he=>?_),?_⟩
   ·obtain ⟨e1,_⟩:=g.mx.two _ _ _ _ _ _ _ _ _ hv yB hb he
    exact pV _ _ hi i' (e1 ▸ tg)
   ·rintro (h1 | ⟨_,h1⟩ | ⟨_,h1⟩)
    ·exact q2 h1
    ·exact aeS _ _ _ _ _ hv hb h1
    ·omega
  have aeW:∀ k i x v b,kr w μ σ k i x v->ptrTo v b->idx bz.ks k=none->∀ b',(ajB w Az (nj μ bz.ks) b'\/w.heap.size<=b')->b'≠b:=by
   rintro k i x v b hv hb hi b' (h1 | h1) rfl
   ·rcases aeR _ h1 with ⟨k2,i2,o4,pl4,q1,q2,q3,q4,q5⟩ | ⟨k2,i2,j2,x2,v2,q1,q2,q3⟩
    ·exact g.mx.obj _ _ _ _ _ hv hb k2 o4 pl4 q2 q3 q4 q5
    ·obtain ⟨e1,_⟩:=g.mx.two _ _ _ _ _ _ _ _ _ hv q2 hb q3
     exact pV _ _ hi i2 (e1 ▸ q1)
   ·have:=(g.mx.dD hv hb).1;omega
  have aq4:MX E.fp E.w0.heap.size w' SF WT YR:=by
   refine ⟨fun k i x v h=>?_,fun k i x v b h hb k' o' mf h1 h2 h3=>?_,fun k i x v b k' i' x' v' h h' hb zQ=>?_⟩
   ·rcases cls k i x v h with ⟨hi,hn,hv⟩ | ⟨hfl,q,hq,hv⟩
    ·exact (g.mx.row _ _ _ _ hv).ext (fun _ h=>.inl h) hSb fun b hb=>let ⟨a1,a2⟩:=aoZ _ _ _ _ _ hv hb hi;⟨a1,a2,fun h=>h⟩
    ·refine (g'.mx.row _ _ _ _ hv).ext (hSS hfl) (fun _ _=>rfl) fun b hb=>⟨rfl,fun hs=>(g'.mx.dD hv hb).2.1 (hSF b hs),?_⟩
     rintro (h1 | h1)
     ·rcases aeR _ h1 with ⟨k2,i2,o4,pl4,q1,q2,q3,q4,q5⟩ | ⟨k2,i2,j2,x2,v2,q1,q2,q3⟩
      ·rw [<- q5];exact g.own k2 o4 pl4 q2 q3 q4
      ·exact (g.mx.dD q2 q3).2.2.1
     ·exact .inr (eF g.fr.size h1)
   ·rcases cls k i x v h with ⟨hi,hn,hv⟩ | ⟨hfl,q,hq,hv⟩
    ·rcases Ey k' with T9 | ⟨j',Gj,rfl⟩
     ·obtain ⟨o2,MK⟩:=hold k' o' h1 T9
      rw [OX k' T9] at h2
      exact g.mx.obj _ _ _ _ _ hv hb k' o2 mf MK h2 h3
     ·obtain ⟨o1,Ji,c1,T1,q1,q2,q3,q4⟩:=YS j' Gj o' h1
      rw [Ud j' Gj,q3] at h2;cases h2
      exact aeW _ _ _ _ _ hv hb hi _ (g'.own _ o1 mf q1 q3 h3)
    ·rcases Ey k' with T9 | ⟨j',Gj,rfl⟩
     ·rw [OX k' T9] at h2
      cases hi:idx bz.ks k' with
      | some i2 =>
       have hik:=qH _ _ _ hi
       obtain ⟨_,o2,MK⟩:=ajI k' i2 o' hik h1
       have Ww:i2 < bz.ks.length:=(fe.1 hik).1
       have Jq:eB i2=some mf:=by
        rw [g'.Oc i2 Ww]
        show nj μ bz.ks i2=_
        simp [nj,hik,h2]
       exact g'.mx.obj _ _ _ _ _ hv hb i2 o2 mf MK Jq h3
      | none =>
       obtain ⟨o3,YB⟩:=hold k' o' h1 T9
       intro he
       rcases (g'.mx.dD hv hb).2.2.1 with h4 | h4
       ·rcases aeR _ h4 with ⟨k2,i2,o4,pl4,q1,q2,q3,q4,q5⟩ | ⟨k2,i2,j2,x2,v2,q1,q2,q3⟩
        ·have gH:k2≠k':=fun h=>pV _ _ hi i2 (h ▸ q1)
         exact g.rep.ne k2 k' o4 o3 pl4 mf gH q2 YB q3 h2 q4 h3 (q5.trans he.symm)
        ·exact g.mx.obj _ _ _ _ _ q2 q3 k' o3 mf YB h2 h3 he
       ·have:=iQ k' o3 mf YB h2 h3
        have h4:w.heap.size<=b:=h4
        omega
     ·obtain ⟨o1,Ji,c1,T1,q1,q2,q3,q4⟩:=YS j' Gj o' h1
      rw [Ud j' Gj,q3] at h2;cases h2
      exact g'.mx.obj _ _ _ _ _ hv hb _ o1 mf q1 q3 h3
   ·rcases cls k i x v h with ⟨hi,hn,hv⟩ | ⟨hfl,q,hq,hv⟩<;>rcases cls k' i' x' v' h' with ⟨sB,T9,yB⟩ | ⟨at6,q',hq',yB⟩
    ·exact g.mx.two _ _ _ _ _ _ _ _ _ hv yB hb zQ
    ·exact (aeW _ _ _ _ _ hv hb hi _ (g'.mx.dD yB zQ).2.2.1 rfl).elim
    ·exact (aeW _ _ _ _ _ yB zQ sB _ (g'.mx.dD hv hb).2.2.1 rfl).elim
    ·obtain ⟨e1,e2⟩:=g'.mx.two _ _ _ _ _ _ _ _ _ hv yB hb zQ
     rw [e1,hq'] at hq
     exact ⟨(Option.some.inj hq).symm,e2⟩
  refine ⟨v,SF,WT,rfl,ext,⟨?_,fun b h=>.inl (g.S0 b h),?_,?_,⟨?_,?_⟩,?_,fun k hk=>by rw [OX k (.inl (by omega))];exact g.Oc k hk,aq4⟩,fun k hn h=>by rw [OX k hn];exact h,?_⟩
  ·refine ⟨g'.fr.os.trans g.fr.os,g'.fr.tape.trans g.fr.tape,g'.fr.output.trans g.fr.output,eF g.fr.size g'.fr.size,fun b hb hnf=>?_⟩
   rw [<- g.fr.dD b hb hnf]
   refine WU b (uf hb g.fr.size) ?_ ?_
   ·intro k i o pl hk ho hm hc he
    rcases g.own k o pl ho hm hc with h1 | h1
    ·exact hnf (he ▸ h1)
    ·have:pl.dD=b:=he
     omega
   ·intro k i j x v hk hv he
    rcases (g.mx.dD hv he).2.2.1 with h1 | h1
    ·exact hnf h1
    ·omega
  ·rintro b (hb | ⟨_,k,hk,pl,hm,hc,rfl⟩ | ⟨hb,_⟩)
   ·exact uf (g.S1 b hb) g'.fr.size
   ·obtain ⟨_,o,ho⟩:=hlk k hk
    exact uf (iQ k o pl ho hm hc) g'.fr.size
   ·exact g'.S1 b hb
  ·rintro b (hb | ⟨hz',k,hk,pl,hm,hc,rfl⟩ | ⟨_,hb⟩)
   ·exact g.S2 b hb
   ·obtain ⟨_,o,ho⟩:=hlk k hk
    rcases g.own k o pl ho hm hc with h1 | h1
    ·exact (hz hz' _ h1).elim
    ·exact .inr h1
   ·exact .inr (eF g.fr.size hb)
  ·intro k o ho
   rcases Ey k with hn | ⟨j,hj,rfl⟩
   ·cases hi:idx bz.ks k with
    | none =>
     have wj:=ho
     rw [Uc k hi hn] at ho
     split at ho
     ·cases ho
     obtain ⟨pl,c,T,hm,dS⟩:=g.rep.ob k o ho
     refine ⟨pl,c,T,ajK _ _ hm,dS.ext ext ?_ (aa4 k o o pl wj ho hm)⟩
     intro hc
     refine WU _ (iV (dS.dD hc)) ?_ (fun k' i' j' x' v' tg yB he=>g.mx.obj _ _ _ _ _ yB he k o pl ho hm hc rfl)
     intro k' i' o' mf tg Cq jl sS he
     have gH:k'≠k:=fun h=>pV _ _ hi i' (h ▸ tg)
     exact g.rep.ne k' k o' o mf pl gH Cq ho jl hm sS hc he
    | some i =>
     have hk:=qH _ _ _ hi
     obtain ⟨⟨o1,DB⟩,_⟩:=ajI k i o hk ho
     obtain ⟨pl,c,T,hm,_⟩:=g.rep.ob k o1 DB
     obtain ⟨c',T',dS⟩:=aq2 w' S' SF eB WT g' hSS DA k i o pl hk ho hm (aa4 k o o1 pl ho DB hm)
     exact ⟨pl,c',T',ajK _ _ hm,dS⟩
   ·obtain ⟨o1,pl,c,T,h1,h2,h3,h4⟩:=YS j hj o ho
    have h5:=aoX w' S' SF eB hSS j hj o1 pl c T h1 h4 (fun hc hb=>h4.out hc (hSF _ hb))
    exact ⟨pl,c,T,by rw [Ud j hj];exact h3,by rw [h2];exact h5.mO DA⟩
  ·intro k k' o o' pl mf gH ho Cq hm jl hc sS
   rcases Ey k with hn | ⟨j,hj,rfl⟩
   ·rcases Ey k' with T9 | ⟨j',Gj,rfl⟩
    ·obtain ⟨o1,DB⟩:=hold k o ho hn
     obtain ⟨o2,MK⟩:=hold k' o' Cq T9
     rw [OX k hn] at hm
     rw [OX k' T9] at jl
     exact g.rep.ne k k' o1 o2 pl mf gH DB MK hm jl hc sS
    ·exact fun he=>aeV j' Gj k o' o mf pl Cq ho hn jl hm sS hc he.symm
   ·rcases Ey k' with T9 | ⟨j',Gj,rfl⟩
    ·exact aeV j hj k' o o' pl mf ho Cq T9 hm jl hc sS
    ·obtain ⟨o1,Ji,c1,T1,h1,h2,h3,h4⟩:=YS j hj o ho
     obtain ⟨o2,xQ,c2,T2,k1,k2,k3,k4⟩:=YS j' Gj o' Cq
     rw [Ud j hj,h3] at hm;cases hm
     rw [Ud j' Gj,k3] at jl;cases jl
     exact g'.rep.ne _ _ o1 o2 pl mf (by omega) h1 k1 h3 k3 hc sS
  ·intro k o pl ho hm hc
   rcases Ey k with hn | ⟨j,hj,rfl⟩
   ·obtain ⟨o1,DB⟩:=hold k o ho hn
    rw [OX k hn] at hm
    exact g.own k o1 pl DB hm hc
   ·obtain ⟨o1,Ji,c1,T1,h1,h2,h3,h4⟩:=YS j hj o ho
    rw [Ud j hj,h3] at hm;cases hm
    rcases alh j o1 pl h1 h3 hc with ⟨k2,i2,o4,pl4,q1,q2,q3,q4,q5⟩ | ⟨k2,i2,j2,x2,v2,q1,q2,q3⟩ | h5
    ·rw [<- q5];exact g.own k2 o4 pl4 q2 q3 q4
    ·exact (g.mx.dD q2 q3).2.2.1
    ·exact .inr (eF g.fr.size h5)
  ·cases he:(bs.isEmpty || bz.D1) with
   | true=>exact (hv.mO (f:=back bz.ks nk) DA).mono (hSS he) (fun _ _=>rfl) (fun _ _ h=>h)
   | false =>
    rw [he,Bool.false_or] at acU
    exact (hv.Wv acU w' SF).mO (f:=back bz.ks nk) DA
 split at h
 ·split at h
  ·split at h
   ·rename_i qs RO
    cases h
    obtain ⟨hq,_⟩:=bm.app hp.2
    have hks:∀ k i:Nat,bz.ks[i]?=some k->∀ o,au (gS σ (Bp bz.D1 bs)) k=some o->au σ k=some o:=fun k i hk o ho=>by
     rw [pW] at ho
     split at ho
     ·cases ho
     ·exact ho
    refine fin Az _ hp.1 (fun n _ _=>pW _ _ _ _) ?_ ?_ ?_ ?_ ?_ ?_
    ·intro j hj o ho
     have ho:au (gS σ (Bp bz.D1 bs)) (nk+j)=some o:=ho
     rw [pW] at ho
     split at ho
     ·cases ho
     ·rcases Dy _ o ho with h1 | h1<;>omega
    ·intro w' S' Jh eB _ j hj o1 pl c T h1
     obtain ⟨k,o,hk,_⟩:=MP _ o1 h1
     rw [sQ (by omega)] at hk;cases hk
    ·intro w' S' Jh eB WT g' hS DA k i o pl hk ho hm hfr
     have ho:=hks k i hk o ho
     obtain ⟨ps',hso,hsp⟩:=CD _ _ RO hq k (List.mem_of_getElem? hk) o ho
     have hci:au Az i=some (o.mO (idx bz.ks)):=by rw [hcg];simp [hk,ho]
     obtain ⟨xQ,c,T,OG,dS⟩:=g'.rep.ob i _ hci
     have iQ:i < bz.ks.length:=(fe.1 hk).1
     rw [g'.Oc i iQ] at OG
     have:μ k=some xQ:=by simpa [Eu,nj,hk] using OG
     rw [hm] at this;cases this
     exact ⟨c,T,aa2 dS hso hsp hS hfr DA⟩
    ·intro k i o hk ho
     have ho:=hks k i hk o ho
     exact ⟨⟨o,ho⟩,o.mO (idx bz.ks),by rw [hcg];simp [hk,ho]⟩
    ·intro k i o hk ho j x hx
     have ho:=hks k i hk o ho
     exact ⟨o.mO (idx bz.ks),by rw [hcg];simp [hk,ho],(vd _ _ _ _).2 hx⟩
    ·intro hfl n o' Cq i
     obtain ⟨k,o,hk,ho,rfl⟩:=MP n o' Cq
     obtain ⟨ps',hso,hsp⟩:=CD _ _ RO hq k (List.mem_of_getElem? hk) o ho
     rw [hfl] at hso
     cases hr:rowOf (o.mO (idx bz.ks)) i with
     | none=>rfl
     | some x =>
      have:=(vd _ _ _ _).1 hr
      rw [Ub hso hsp] at this;cases this
   ·cases h
  ·rename_i q τ at7
   split at h
   ·rename_i qs RY RO alj
    cases h
    obtain ⟨hq,_⟩:=bm.app hp.2
    simp only [a7] at alj
    obtain ⟨⟨hge,ao0⟩,aq7⟩:=alj
    have aa5:∀ k i:Nat,bz.ks[i]?=some k->k < nk\/nk+16<=k:=fun k i hk=>by
     obtain ⟨o,ho⟩:=Gi bz.ks 0 Az ajF k (List.mem_of_getElem? hk)
     exact Dy k o ho
    have hks:∀ k i:Nat,bz.ks[i]?=some k->∀ o,au (gS σ (Jt bz.ks nk (q :: τ) ++ Bp bz.D1 bs)) k=some o->au σ k=some o:=fun k i hk o ho=>by
     rw [iW,pW] at ho
     split at ho
     ·cases ho
     ·rw [Bq _ _ _ ao0 (aa5 k i hk)] at ho;exact ho
    have RZ:∀ i:Nat,i < bz.ks.length->au (Az ++ q :: τ) i=au Az i:=fun i hi=>by
     rw [OS]
     cases hs:au Az i with
     | some o=>rfl
     | none=>exact SG hge i hi
    have ao1:∀ j:Nat,au (Az ++ q :: τ) (bz.ks.length+j)=au (q :: τ) (bz.ks.length+j):=fun j=>by
     rw [OS]
     have:au Az (bz.ks.length+j)=none:=by rw [hcg];simp
     rw [this]
    refine fin (Az ++ q :: τ) _ hp.1 ?_ ?_ ?_ ?_ ?_ ?_ ?_
    ·intro n hn hnn
     show au (gS σ (Jt bz.ks nk (q :: τ) ++ Bp bz.D1 bs)) n=_
     rw [iW,pW,Bq _ _ _ ao0 hnn]
    ·intro j hj o ho
     have ho:au (gS σ (Jt bz.ks nk (q :: τ) ++ Bp bz.D1 bs)) (nk+j)=some o:=ho
     rw [iW,pW] at ho
     split at ho
     ·cases ho
     rw [Jv _ _ _ aq7] at ho
     split at ho
     ·rename_i o1 DB
      cases ho
      exact ⟨o1,(ao1 j).trans DB,rfl⟩
     ·rcases Dy _ o ho with h1 | h1<;>omega
    ·intro w' S' Jh eB hS j hj o1 pl c T h1 h2 h3
     exact Jw h2 (hS RY) h3
    ·intro w' S' Jh eB WT g' hS DA k i o pl hk ho hm hfr
     have ho:=hks k i hk o ho
     obtain ⟨ps',hso,hsp⟩:=CD _ _ RO hq k (List.mem_of_getElem? hk) o ho
     have iQ:i < bz.ks.length:=(fe.1 hk).1
     have hci:au (Az ++ q :: τ) i=some (o.mO (idx bz.ks)):=by rw [RZ i iQ,hcg];simp [hk,ho]
     obtain ⟨xQ,c,T,OG,dS⟩:=g'.rep.ob i _ hci
     rw [g'.Oc i iQ] at OG
     have:μ k=some xQ:=by simpa [Eu,nj,hk] using OG
     rw [hm] at this;cases this
     exact ⟨c,T,aa2 dS hso hsp (fun _=>hS RY) hfr DA⟩
    ·intro k i o hk ho
     have ho:=hks k i hk o ho
     exact ⟨⟨o,ho⟩,o.mO (idx bz.ks),by rw [RZ i (fe.1 hk).1,hcg];simp [hk,ho]⟩
    ·intro k i o hk ho j x hx
     have ho:=hks k i hk o ho
     exact ⟨o.mO (idx bz.ks),by rw [RZ i (fe.1 hk).1,hcg];simp [hk,ho],(vd _ _ _ _).2 hx⟩
    ·intro ajM
     rw [RY] at ajM;cases ajM
   ·cases h
 ·split at h
  ·rename_i qs RO hfl
   cases h
   obtain ⟨hq,_⟩:=bm.app hp.2
   rw [a7] at RO
   have hbk:∀ n,au (gS σ (Ht bz.ks nk bz.sq 0 bz.ks)) n=match idx bz.ks n with
     | some j=>(au bz.sq (0+j)).map (Ob.mO (back bz.ks nk))
     | none=>au σ n:=fun n=>KT bz.ks 0 σ n ajG
   have aq8:∀ k i:Nat,bz.ks[i]?=some k->idx bz.ks k=some i:=by
    intro k i hk
    cases hi:idx bz.ks k with
    | none=>exact (pV _ _ hi i hk).elim
    | some j=>rw [ajG i j k hk (qH _ _ _ hi)]
   have aa5:∀ k i:Nat,bz.ks[i]?=some k->k < nk\/nk+16<=k:=fun k i hk=>by
    obtain ⟨o,ho⟩:=Gi bz.ks 0 Az ajF k (List.mem_of_getElem? hk)
    exact Dy k o ho
   have aeY:∀ k i:Nat,bz.ks[i]?=some k->∀ o,au (gS σ (Ht bz.ks nk bz.sq 0 bz.ks ++ (Jt bz.ks nk bz.sq ++ Bp bz.D1 bs))) k=some o->(au bz.sq i).map (Ob.mO (back bz.ks nk))=some o:=by
    intro k i hk o ho
    rw [iW,iW,pW] at ho
    split at ho
    ·cases ho
    rw [Bq _ _ _ RO.1 (aa5 k i hk),hbk k,aq8 k i hk] at ho
    simpa using ho
   refine fin bz.sq _ hp.1 ?_ ?_ ?_ ?_ ?_ ?_ ?_
   ·intro n hn hnn
    show au (gS σ (Ht bz.ks nk bz.sq 0 bz.ks ++ (Jt bz.ks nk bz.sq ++ Bp bz.D1 bs))) n=_
    rw [iW,iW,pW,Bq _ _ _ RO.1 hnn,hbk n,hn]
   ·intro j hj o ho
    have ho:au (gS σ (Ht bz.ks nk bz.sq 0 bz.ks ++ (Jt bz.ks nk bz.sq ++ Bp bz.D1 bs))) (nk+j)=some o:=ho
    rw [iW,iW,pW] at ho
    split at ho
    ·cases ho
    rw [Jv _ _ _ RO.2] at ho
    split at ho
    ·rename_i o1 DB
     cases ho
     exact ⟨o1,DB,rfl⟩
    ·rw [hbk] at ho
     cases hi:idx bz.ks (nk+j) with
     | some i =>
      rcases aa5 _ i (qH _ _ _ hi) with h1 | h1<;>omega
     | none =>
      rw [hi] at ho
      rcases Dy _ o ho with h1 | h1<;>omega
   ·intro w' S' Jh eB hS j hj o1 pl c T h1 h2 h3
    rcases xR _ _ hfl hq _ o1 h1 with hl | ⟨ps',hf,hfp⟩
    ·exact Jw h2 (hS hl) h3
    ·exact OV h2 hf hfp h3
   ·intro w' S' Jh eB WT g' hS DA k i o pl hk ho hm hfr
    have ho:=aeY k i hk o ho
    simp only [aW] at ho
    obtain ⟨o1,DB,rfl⟩:=ho
    obtain ⟨xQ,c,T,OG,dS⟩:=g'.rep.ob i _ DB
    have iQ:i < bz.ks.length:=(fe.1 hk).1
    rw [g'.Oc i iQ] at OG
    have:μ k=some xQ:=by simpa [Eu,nj,hk] using OG
    rw [hm] at this;cases this
    refine ⟨c,T,?_⟩
    rcases xR _ _ hfl hq _ o1 DB with hl | ⟨ps',hf,hfp⟩
    ·exact (Jw dS (hS hl) hfr).mO DA
    ·exact (OV (OF:=eB) dS hf hfp hfr).mO DA
   ·intro k i o hk ho
    have ho:=aeY k i hk o ho
    simp only [aW] at ho
    obtain ⟨o1,DB,_⟩:=ho
    exact ⟨Gi bz.ks 0 Az ajF k (List.mem_of_getElem? hk),o1,DB⟩
   ·intro k i o hk ho j x hx
    have ho:=aeY k i hk o ho
    simp only [aW] at ho
    obtain ⟨o1,DB,rfl⟩:=ho
    exact ⟨o1,DB,(vd _ _ _ _).1 hx⟩
   ·intro ajM n o1 DB i
    rcases xR _ _ hfl hq _ o1 DB with hl | ⟨ps',hf,hfp⟩
    ·rw [ajM] at hl;cases hl
    ·exact AA hf hfp i
  ·cases h
def amt:List AV->Bool
 | [.atom v]=>match v with
  | .int k _=>match k with
   | .u8=>true
   | _=>false
  | _=>false
 | _=>false
def u8v:List AV->Int
 | [.atom v]=>match v with
  | .int _ x=>x
  | _=>0
 | _=>0
def strOf (n:Nat) (g:Nat->List AV):ByteArray:=⟨((List.range n).map fun i=>UInt8.ofNat (u8v (g i)).toNat).toArray⟩
theorem ajN {l:List AV} (h:amt l=true):l=[.atom (.int .u8 (u8v l))]:=by
 unfold amt at h
 split at h
 ·split at h
  ·split at h
   ·rfl
   ·cases h
  ·cases h
 ·cases h
def Gk (P:Program) (σ:eE) (src dst:TypeId) (x:AV):Option (List Prop×AV×List Nat) :=
 match P.underlying src,P.underlying dst with
 | some .string,some (.slice e)=>match P.underlying e,x with
  | some (.int .u8),.atom (.string b)=>some ([],.sl b.size (fun i=>[.atom (.int .u8 (kG b i))]),[])
  | _,_=>none
 | some (.slice e),some .string=>match P.underlying e,Bn σ 1 x with
  | some (.int .u8),some (n,g,_,ps,rd)=>some ((∀ i,i < n->amt (g i)=true) :: ps,.atom (.string (strOf n g)),rd)
  | _,_=>none
 | _,_=>none
theorem foldl_push (l:List Int):∀ (r:ByteArray),l.foldl (fun r n=>r.push (UInt8.ofNat n.toNat)) r=⟨r.data ++ (l.map fun n=>UInt8.ofNat n.toNat).toArray⟩:=by
 induction l with
 | nil=>intro r;simp
 | cons b l ih =>
  simp_all
theorem aeZ (g:Good E σ S μ w) {src dst:TypeId} {x:AV} {v:Value} (hx:ak w S μ v x) {ps:List Prop} {val:AV} {rd:List Nat} (h:Gk P σ src dst x=some (ps,val,rd)) (hp:bm ps) :
  Step P E nk σ S μ w (convert src dst v) val []:=by
 unfold Gk at h
 split at h
 ·rename_i e hs hd
  split at h
  ·rename_i b he
   simp only [aL,aG] at h
   obtain ⟨rfl,rfl,rfl⟩:=h
   have:=dR hx;subst this
   have oD:=run_bytes_of_string w src dst e b hs hd he
   have ga:=g.drew.acI (.cells (bytesRow b (grownCap w b.size 0 e)) e ((bytesRow b (grownCap w b.size 0 e)).size,(bytesRow b (grownCap w b.size 0 e)).size+1))
   refine ⟨_,_,_,_,oD,(Ext.drew w S μ).trans ga.1,ga.2,fun _ _ h=>h,?_⟩
   refine .sl w.heap.size 0 1 (fun i _=>.int .u8 (kG b i)) (fun _=>⟨rfl,.inr rfl⟩) (fun i hi=>rfl) ?_ ?_ ?_
   ·intro i j hi hj
    have hj:j=0:=by omega
    subst hj
    have:=World.cell?_alloc_mark w.drew (bytesRow b (grownCap w b.size 0 e)) e ((bytesRow b (grownCap w b.size 0 e)).size,(bytesRow b (grownCap w b.size 0 e)).size+1) i
    simp_all [Nat.zero_add,Nat.mul_one,Nat.add_zero,bytesRow,Array.getElem?_append,kG,ByteArray.getElem_eq_getElem_data,getElem?_pos]
   ·intro i j c hi hc
    cases j with
    | zero=>simp at hc;subst hc;exact .atom _
    | succ j=>simp at hc
   ·simp [grownCap,Question.cut]
  ·cases h
 ·rename_i e hs hd
  split at h
  ·rename_i n gt pr qs rd' he Bo
   simp only [aL,aG] at h
   obtain ⟨rfl,rfl,rfl⟩:=h
   obtain ⟨hu,wW⟩:=hp
   obtain ⟨news,hn⟩:=Es g (P:=P) hx Bo wW
   have hsl:∃ a len cap,v=.slice a len cap:=by
    unfold Bn at Bo
    split at Bo
    ·cases hx;exact ⟨_,_,_,rfl⟩
    ·cases hx;exact ⟨_,_,_,rfl⟩
    ·cases hx;exact ⟨_,_,_,rfl⟩
    ·cases Bo
   obtain ⟨a,len,cap,rfl⟩:=hsl
   have hlen:len=n:=by
    have:=hn.len w
    simpa [Builtin.lenOf] using this
   subst hlen
   have alf:news=((List.range len).map fun i=>Value.int .u8 (u8v (gt i))):=by
    have xB:news.length=len:=by simpa using hn.size
    apply List.ext_getElem?
    intro i
    by_cases hi:i < len
    ·have h1:news[i]?=some (news[i]'(by omega)):=ud _
     have hg:=ajN (hu i hi)
     have h2:=hn.rep i 0 _ _ hi (by rw [hg];rfl) (by simpa only [Nat.mul_one,Nat.add_zero] using h1)
     grind [dR]
    ·simp_all
   have aq9:(((List.range len).map fun i=>u8v (gt i)).foldl (fun r n=>r.push (UInt8.ofNat n.toNat)) ByteArray.empty)=strOf len gt:=by
    rw [foldl_push]
    have h0:ByteArray.empty.data=#[]:=rfl
    rw [h0];simp [strOf]
   refine Step.pure g (v:=.string (strOf len gt)) ?_ (.atom _)
   rw [run_convert_bytes_string w src dst e a len cap hs he hd]
   cases a with
   | none =>
    have:len=0:=by
     rcases Nat.eq_zero_or_pos len with h0 | h0
     ·exact h0
     ·have:=hn.cells w rfl
      simp_all [Builtin.firstCells,congrArg,List.length]
    subst this
    rfl
   | some a =>
    rw [<- aq9]
    refine run_bytesToString w a len cap _ ?_
    have:=hn.cells w rfl
    grind [Builtin.firstCells,Function.comp_def]
  ·cases h
 ·cases h
open Go.MapKept
def Ez (P:Program) (kt:TypeId) (a b:AV):Option Bool :=
 match a,b with
 | .atom a,.atom b=>match a,b with
  | .string s,.string t=>some (iP s t)
  | .int k x,.int k' y=>match decide (k=k') with
   | true=>some (x == y)
   | false=>none
  | _,_=>none
 | .agg ys,.agg xs=>match Nat.beq ys.length xs.length with
  | true=>KM P 64 kt (.agg xs) (.agg ys)
  | false=>none
 | _,_=>none
def look (P:Program) (kt:TypeId):List AV->AV->Option (Option AV)
 | k :: v :: r,x=>match Ez P kt k x with
  | some true=>some (some v)
  | some false=>look P kt r x
  | none=>none
 | [_],_=>none
 | [],_=>some none
def Jy (P:Program) (kt:TypeId):List AV->AV->AV->Option (List AV)
 | k :: v :: r,x,y=>match Ez P kt k x with
  | some true=>some (k :: y :: r)
  | some false=>(Jy P kt r x y).map fun l=>k :: v :: l
  | none=>none
 | [_],_,_=>none
 | [],x,y=>some [x,y]
def allI (k:IntKind):List AV->Bool
 | []=>true
 | .atom (.int k' _) :: r=>match decide (k'=k) with
  | true=>allI k r
  | false=>false
 | _ :: _=>false
def ml (P:Program) (d:TypeDesc) (x:AV):Bool :=
 match d,x with
 | .string,.atom v=>match v with
  | .string _=>true
  | _=>false
 | .int k,.atom v=>match v with
  | .int k' _=>decide (k'=k)
  | _=>false
 | .array n e,.agg xs=>match P.underlying e,zz P e with
  | some (.int k),some m=>Nat.beq m 1 && Nat.beq xs.length n && allI k xs
  | _,_=>false
 | _,_=>false
def AB (R:Value->AV->Prop):List MapEntry->List AV->Prop
 | [],[]=>True
 | e :: es,k :: v :: cs=>R e.key k/\R e.val v/\AB R es cs
 | _,_=>False
theorem YT (c:Array Value) (i:Nat) (hi:i < c.size / 2):(jw c)[i]?=some ⟨c[2 * i]?.getD undef,c[2 * i+1]?.getD undef,i⟩:=by
 simp [jw,hi]
theorem EA (c:Array Value):(jw c).size=c.size / 2:=by simp [jw]
theorem aa6 {R:Value->AV->Prop} {c:Array Value} {cs:List AV} (h1:c.size % 2=0) (h2:c.size=cs.length) (h3:∀ (j:Nat) x v,cs[j]?=some x->c[j]?=some v->R v x):AB R (jw c).toList cs:=by
 have key:∀ (n o:Nat),2 * (o+n)=c.size->AB R ((List.range' o n).map fun i=>(⟨c[2 * i]?.getD undef,c[2 * i+1]?.getD undef,i⟩:MapEntry)) (cs.drop (2 * o)):=by
  intro n
  induction n with
  | zero=>intro o h;rw [List.drop_of_length_le (by omega)];trivial
  | succ n ih =>
   intro o h
   have e1:2 * o < cs.length:=by omega
   have e2:2 * o+1 < cs.length:=by omega
   rw [List.range'_succ,List.map_cons,List.drop_eq_getElem_cons e1,List.drop_eq_getElem_cons e2]
   have d1:c[2 * o]?=some c[2 * o]:=lF _
   have d2:c[2 * o+1]?=some c[2 * o+1]:=lF _
   have ih':=ih (o+1) (by omega)
   rw [show 2 * (o+1)=2 * o+1+1 by omega] at ih'
   refine ⟨?_,?_,ih'⟩
   ·grind
   grind
 have:=key (c.size / 2) 0 (by omega)
 have e:(jw c).toList=(List.range' 0 (c.size / 2)).map fun i=>(⟨c[2 * i]?.getD undef,c[2 * i+1]?.getD undef,i⟩:MapEntry):=by
  unfold jw
  rw [Array.toList_map,Array.toList_range,List.range_eq_range']
 rw [e];exact this
theorem aa7 (a b:ByteArray):(a == b)=iP a b:=by
 have hl:∀ x:ByteArray,x.toList=x.data.toList:=fun x=>ByteArray.toList_eq x
 rw [Bool.eq_iff_iff,bytes_beq]
 unfold iP
 rw [hl,hl,beq_iff_eq]
 constructor
 ·rintro rfl;rfl
 ·intro h
  cases a;simp_all
theorem CF {d:TypeDesc} {kt:TypeId} {kv ev:Value} {v:Value} {k:AV} {b:Bool} (hx:ml P d (.atom v)=true) {w w':World} {S S':Nat->Prop} {μ eB:Mu} (h1:ak w S μ kv (.atom v)) (h2:ak w' S' eB ev k) (h:Ez P kt k (.atom v)=some b) :
  IsKey d kv/\Instr.sameNow d kv ev=some b/\(b=true->ev=kv):=by
 have:=dR h1;subst this
 cases k with
 | atom u =>
  have:=dR h2;subst this
  cases d<;>cases kv<;>simp [ml] at hx
  ·rename_i k0 k' n
   subst hx
   cases ev<;>simp [Ez] at h
   rename_i ka a
   by_cases hk:ka=k'
   ·subst hk
    rw [decide_eq_true rfl] at h
    simp only [aL] at h
    subst h
    refine ⟨rfl,?_,?_⟩
    ·simp only [Instr.sameNow,if_true]
     grind
    simp
   simp_all
  ·cases ev<;>simp [Ez] at h
   rename_i s a
   subst h
   refine ⟨trivial,?_,?_⟩
   ·simp only [Instr.sameNow,aa7]
    congr 1
    unfold iP;grind
   ·intro hb
    rw [<- aa7,bytes_beq] at hb
    rw [hb]
 | _=>simp [Ez] at h
theorem WW {d:TypeDesc} {kv v:Value} (hx:ml P d (.atom v)=true) {w:World} {S:Nat->Prop} {μ:Mu} (h1:ak w S μ kv (.atom v)):IsKey d kv:=by
 have:=dR h1;subst this
 cases d<;>cases kv<;>simp [ml] at hx
 ·exact hx
 ·trivial
theorem Gl {d:TypeDesc} {xs:List AV} (hx:ml P d (.agg xs)=true):∃ n e k,d=.array n e/\P.underlying e=some (.int k)/\zz P e=some 1/\xs.length=n/\allI k xs=true:=by
 cases d<;>simp [ml] at hx
 rename_i n e
 split at hx
 ·rename_i k m h1 h2
  simp only [a7] at hx
  have hm:=cw hx.1.1
  subst hm
  exact ⟨n,e,k,rfl,h1,h2,cw hx.1.2,hx.2⟩
 ·cases hx
theorem aa8 {k:IntKind}:∀ {xs:List AV},allI k xs=true->∀ i,i < xs.length->∃ a,xs[i]?=some (.atom (.int k a))
 | [],_,i,h=>by simp at h
 | .atom (.int k' a) :: r,h,i,hi=>by
  unfold allI at h
  split at h
  ·rename_i hk
   have hk:=xM hk
   subst hk
   cases i with
   | zero=>exact ⟨a,rfl⟩
   | succ i=>simpa using aa8 h i (by simpa using hi)
  ·cases h
theorem Jz {k:IntKind} {xs:List AV} (h:allI k xs=true) {w:World} {S:Nat->Prop} {μ:Mu} {kv:Value} (hr:ak w S μ kv (.agg xs)):∃ vs:Array Value,kv=.agg vs/\vs.size=xs.length/\∀ i,i < xs.length->∃ a,xs[i]?=some (.atom (.int k a))/\vs[i]?=some (.int k a):=by
 obtain ⟨vs,rfl,h1,h2⟩:=rr hr
 refine ⟨vs,rfl,h1,fun i hi=>?_⟩
 obtain ⟨a,ha⟩:=aa8 h i hi
 have hv:vs[i]?=some vs[i]:=lF _
 have:=dR (h2 i _ _ ha hv)
 exact ⟨a,ha,by rw [hv,this]⟩
theorem Gm {k:IntKind}:∀ {xs:List AV},allI k xs=true->AV.oY xs=true
 | [],_=>rfl
 | .atom (.int k' a) :: r,h=>by
  unfold allI at h
  split at h
  ·simpa [AV.oY,AV.pure] using Gm h
  ·cases h
theorem SH {d:TypeDesc} {kt:TypeId} {kv xv:Value} (hx:ml P d (.atom xv)=true) {w w':World} {S S':Nat->Prop} {μ eB:Mu} (h1:ak w S μ kv (.atom xv)):∀ (es:List MapEntry) (cs:List AV) (i:Nat) (r:Option AV),AB (ak w' S' eB) es cs->look P kt cs (.atom xv)=some r ->
  (r=none/\Instr.findNow d kv es i=some none)\/∃ (j:Nat) (e:MapEntry) (v:AV),r=some v/\Instr.findNow d kv es i=some (some (i+j,e.val))/\ak w' S' eB e.val v
 | [],[],i,r,_,h=>by simp only [look,aL] at h;exact .inl ⟨h.symm,rfl⟩
 | e :: es,k :: v :: cs,i,r,hR,h=>by
  obtain ⟨r1,r2,r3⟩:=hR
  simp only [look] at h
  split at h
  ·rename_i hq
   cases h
   obtain ⟨_,q2,_⟩:=CF hx h1 r1 hq
   exact .inr ⟨0,e,v,rfl,by simp [Instr.findNow,q2],r2⟩
  ·rename_i hq
   obtain ⟨_,q2,_⟩:=CF hx h1 r1 hq
   rcases SH hx h1 es cs (i+1) r r3 h with ⟨a,b⟩ | ⟨j,e',v',a,b,c⟩
   ·grind [Instr.findNow]
   ·exact .inr ⟨j+1,e',v',a,by grind [Instr.findNow],c⟩
  ·cases h
 | [],_ :: _,_,_,hR,_=>by simp [AB] at hR
 | _ :: _,[],_,_,hR,_=>by simp [AB] at hR
 | _ :: _,[_],_,_,hR,_=>by simp [AB] at hR
theorem WX {d:TypeDesc} {kt:TypeId} {kv xv:Value} {y:AV} (hx:ml P d (.atom xv)=true) {w w':World} {S S':Nat->Prop} {μ eB:Mu} (h1:ak w S μ kv (.atom xv)):∀ (es:List MapEntry) (cs:List AV) (i:Nat) (SI:List AV),AB (ak w' S' eB) es cs->Jy P kt cs (.atom xv) y=some SI ->
  (Instr.findNow d kv es i=some none/\SI=cs ++ [.atom xv,y])\/∃ (j:Nat) (e:MapEntry),Instr.findNow d kv es i=some (some (i+j,e.val))/\es[j]?=some e/\e.key=kv/\SI=cs.set (2 * j+1) y
 | [],[],i,SI,_,h=>by simp only [Jy,aL] at h;exact .inl ⟨rfl,h.symm⟩
 | e :: es,k :: v :: cs,i,SI,hR,h=>by
  obtain ⟨r1,r2,r3⟩:=hR
  simp only [Jy] at h
  split at h
  ·rename_i hq
   cases h
   obtain ⟨_,q2,q3⟩:=CF hx h1 r1 hq
   exact .inr ⟨0,e,by simp [Instr.findNow,q2],rfl,q3 rfl,rfl⟩
  ·rename_i hq
   obtain ⟨_,q2,_⟩:=CF hx h1 r1 hq
   simp only [aW] at h
   obtain ⟨l,hl,rfl⟩:=h
   rcases WX hx h1 es cs (i+1) l r3 hl with ⟨a,b⟩ | ⟨j,e',a,b,c,q⟩
   ·grind [Instr.findNow]
   ·exact .inr ⟨j+1,e',by grind [Instr.findNow],by simpa using b,c,by grind⟩
  ·cases h
 | [],_ :: _,_,_,hR,_=>by simp [AB] at hR
 | _ :: _,[],_,_,hR,_=>by simp [AB] at hR
 | _ :: _,[_],_,_,hR,_=>by simp [AB] at hR
theorem ae0 {e:TypeId} {k:IntKind} (hu:P.underlying e=some (.int k)):∀ (D n i:Nat) (xs ys:List AV),Hq P D e 1 xs ys i n=some true->∀ j,i<=j->j < i+n->xs[j]?=ys[j]?/\(xs[j]?).isSome=true:=by
 intro D
 induction D with
 | zero =>
  grind [Hq]
 | succ D ih =>
  intro n i xs ys h j h1 h2
  cases n with
  | zero=>omega
  | succ n =>
   simp only [Hq,Nat.mul_one] at h
   split at h
   ·rename_i a c _ ha hc
    split at h
    ·rename_i p q hp hq
     simp only [aL,a7] at h
     obtain ⟨rfl,rfl⟩:=h
     by_cases hj:j=i
     ·subst hj
      have cell:∀ (l:List AV) (z:AV),mg P e l j=some z->l[j]?=some z:=fun l z hz=>by
       grind [mg]
      rw [cell _ _ ha,cell _ _ hc]
      cases D with
      | zero=>simp [KM] at hp
      | succ D =>
       simp only [KM,hu] at hp
       grind
     ·exact ih n (i+1) xs ys hq j (by omega) (by omega)
    ·cases h
   ·cases h
theorem Gn {d:TypeDesc} {kt:TypeId} (hd:P.underlying kt=some d) {xs:List AV} (hx:ml P d (.agg xs)=true) {w:World} {S:Nat->Prop} {kv ev:Value} {k:AV} {b:Bool} (h1:ak w S kF kv (.agg xs)) (h2:ak w S kF ev k) (h:Ez P kt k (.agg xs)=some b) :
  (Op.equal kt kv ev).run P w=.ok b w/\(b=true->ev=kv):=by
 cases k with
 | agg ys =>
  unfold Ez at h
  simp only at h
  split at h
  ·rename_i hl
   have hl:=cw hl
   refine ⟨(WD 64).1 Op.maxDepth kt _ _ _ _ _ (by decide) h1 h2 h,fun hb=>?_⟩
   subst hb
   obtain ⟨n,e,kk,rfl,hu,hs,hn,CE⟩:=Gl hx
   obtain ⟨vs,rfl,RV,Ng⟩:=Jz CE h1
   obtain ⟨us,rfl,hu1,WE⟩:=rr h2
   simp only [KM,hd,hs] at h
   have wh:=ae0 hu _ _ _ _ _ h
   congr 1
   apply Array.ext
   ·omega
   ·intro i hi1 WY
    have hi:i < xs.length:=by omega
    obtain ⟨a,ha1,ha2⟩:=Ng i hi
    obtain ⟨hq,_⟩:=wh i (Nat.zero_le _) (by omega)
    rw [ha1] at hq
    have:=dR (WE i _ us[i] hq.symm (lF _))
    rw [this]
    rw [lF WY] at ha2
    exact (Option.some.inj ha2).symm
  ·cases h
 | _=>simp [Ez] at h
theorem WZ {d:TypeDesc} {kt:TypeId} (hd:P.underlying kt=some d) {xs:List AV} (hx:ml P d (.agg xs)=true) {w:World} {S:Nat->Prop} {kv:Value} (h1:ak w S kF kv (.agg xs)):∀ (es:List MapEntry) (cs:List AV) (i:Nat) (r:Option AV),AB (ak w S kF) es cs->look P kt cs (.agg xs)=some r ->
  (r=none/\(Instr.findAsking kt kv es i).run P w=.ok none w)\/∃ (j:Nat) (e:MapEntry) (v:AV),r=some v/\(Instr.findAsking kt kv es i).run P w=.ok (some (i+j,e.val)) w/\ak w S kF e.val v
 | [],[],i,r,_,h=>by simp_all [look,aL,Instr.findAsking]
 | e :: es,k :: v :: cs,i,r,hR,h=>by
  obtain ⟨r1,r2,r3⟩:=hR
  simp only [look] at h
  split at h
  ·rename_i hq
   cases h
   obtain ⟨q2,_⟩:=Gn hd hx h1 r1 hq
   exact .inr ⟨0,e,v,rfl,by simp [Instr.findAsking,q2,Result.andThen],r2⟩
  ·rename_i hq
   obtain ⟨q2,_⟩:=Gn hd hx h1 r1 hq
   rcases WZ hd hx h1 es cs (i+1) r r3 h with ⟨a,b⟩ | ⟨j,e',v',a,b,c⟩
   ·simp_all [Instr.findAsking,Result.andThen]
   ·exact .inr ⟨j+1,e',v',a,by simp [Instr.findAsking,q2,Result.andThen,b];omega,c⟩
  ·cases h
 | [],_ :: _,_,_,hR,_=>by simp [AB] at hR
 | _ :: _,[],_,_,hR,_=>by simp [AB] at hR
 | _ :: _,[_],_,_,hR,_=>by simp [AB] at hR
theorem aa9 {d:TypeDesc} {kt:TypeId} (hd:P.underlying kt=some d) {xs:List AV} {y:AV} (hx:ml P d (.agg xs)=true) {w:World} {S:Nat->Prop} {kv:Value} (h1:ak w S kF kv (.agg xs)):∀ (es:List MapEntry) (cs:List AV) (i:Nat) (SI:List AV),AB (ak w S kF) es cs->Jy P kt cs (.agg xs) y=some SI ->
  ((Instr.findAsking kt kv es i).run P w=.ok none w/\SI=cs ++ [.agg xs,y])\/∃ (j:Nat) (e:MapEntry),(Instr.findAsking kt kv es i).run P w=.ok (some (i+j,e.val)) w/\es[j]?=some e/\e.key=kv/\SI=cs.set (2 * j+1) y
 | [],[],i,SI,_,h=>by simp_all [Jy,aL,Instr.findAsking]
 | e :: es,k :: v :: cs,i,SI,hR,h=>by
  obtain ⟨r1,r2,r3⟩:=hR
  simp only [Jy] at h
  split at h
  ·rename_i hq
   cases h
   obtain ⟨q2,q3⟩:=Gn hd hx h1 r1 hq
   exact .inr ⟨0,e,by simp [Instr.findAsking,q2,Result.andThen],rfl,q3 rfl,rfl⟩
  ·rename_i hq
   obtain ⟨q2,_⟩:=Gn hd hx h1 r1 hq
   simp only [aW] at h
   obtain ⟨l,hl,rfl⟩:=h
   rcases aa9 hd hx h1 es cs (i+1) l r3 hl with ⟨a,b⟩ | ⟨j,e',a,b,c,q⟩
   ·simp_all [Instr.findAsking,Result.andThen]
   ·exact .inr ⟨j+1,e',by simp [Instr.findAsking,q2,Result.andThen,a];omega,by simpa using b,c,by grind⟩
  ·cases h
 | [],_ :: _,_,_,hR,_=>by simp [AB] at hR
 | _ :: _,[],_,_,hR,_=>by simp [AB] at hR
 | _ :: _,[_],_,_,hR,_=>by simp [AB] at hR
theorem JA {kt:TypeId} {n:Nat} {e:TypeId} (hd:P.underlying kt=some (.array n e)) {w:World} {vs:Array Value} {es:List MapEntry} {a:Option (Nat×Value)} (h:(Instr.findAsking kt (.agg vs) es 0).run P w=.ok a w):(Instr.findKey kt (.agg vs) es).run P w=.ok a w:=by
 cases es with
 | nil =>
  simp_all [Instr.findAsking,Instr.findKey,run_underlying,Result.andThen,Instr.findNow]
 | cons z es=>simp_all [Instr.findKey,run_underlying,Result.andThen,Instr.findNow,Instr.sameNow]
theorem ae1 {d:TypeDesc} {kt:TypeId} (hd:P.underlying kt=some d) {x:AV} (hx:ml P d x=true) {w:World} {S:Nat->Prop} {μ:Mu} {kv:Value} (h1:ak w S μ kv x) {es:List MapEntry} {cs:List AV} {r:Option AV} (hR:AB (ak w S kF) es cs) (h:look P kt cs x=some r) :
  (r=none/\(Instr.findKey kt kv es).run P w=.ok none w)\/∃ (j:Nat) (e:MapEntry) (v:AV),r=some v/\(Instr.findKey kt kv es).run P w=.ok (some (j,e.val)) w/\ak w S kF e.val v:=by
 cases x with
 | atom xv =>
  rcases SH hx h1 es cs 0 r hR h with ⟨a,b⟩ | ⟨j,e,v,a,b,c⟩
  ·grind [run_findKey]
  ·exact .inr ⟨j,e,v,a,by simp_all [Nat.zero_add,run_findKey],c⟩
 | agg xs =>
  obtain ⟨n,e,k,rfl,_,_,_,CE⟩:=Gl hx
  have YG:ak w S kF kv (.agg xs):=h1.pure (Gm CE) kF
  obtain ⟨vs,rfl,_,_⟩:=Jz CE YG
  rcases WZ hd hx YG es cs 0 r hR h with ⟨a,b⟩ | ⟨j,e,v,a,b,c⟩
  ·grind [JA]
  ·exact .inr ⟨j,e,v,a,by rw [Nat.zero_add] at b;exact JA hd b,c⟩
 | _=>grind [ml]
theorem ajO {d:TypeDesc} {kt:TypeId} (hd:P.underlying kt=some d) {x y:AV} (hx:ml P d x=true) {w:World} {S:Nat->Prop} {μ:Mu} {kv:Value} (h1:ak w S μ kv x) {es:List MapEntry} {cs SI:List AV} (hR:AB (ak w S kF) es cs) (h:Jy P kt cs x y=some SI) :
  ((Instr.findKey kt kv es).run P w=.ok none w/\SI=cs ++ [x,y])\/∃ (j:Nat) (e:MapEntry),(Instr.findKey kt kv es).run P w=.ok (some (j,e.val)) w/\es[j]?=some e/\e.key=kv/\SI=cs.set (2 * j+1) y:=by
 cases x with
 | atom xv =>
  rcases WX hx h1 (y:=y) es cs 0 SI hR h with ⟨a,b⟩ | ⟨j,e,a,b⟩
  ·grind [run_findKey]
  ·exact .inr ⟨j,e,by simp_all [Nat.zero_add,run_findKey],b⟩
 | agg xs =>
  obtain ⟨n,e,k,rfl,_,_,_,CE⟩:=Gl hx
  have YG:ak w S kF kv (.agg xs):=h1.pure (Gm CE) kF
  obtain ⟨vs,rfl,_,_⟩:=Jz CE YG
  rcases aa9 hd hx YG (y:=y) es cs 0 SI hR h with ⟨a,b⟩ | ⟨j,e,a,b⟩
  ·grind [JA]
  ·exact .inr ⟨j,e,by rw [Nat.zero_add] at a;exact JA hd a,b⟩
 | _=>grind [ml]
theorem ae2 {d:TypeDesc} {x:AV} (hx:ml P d x=true):x.pure=true:=by
 cases x with
 | atom xv=>rfl
 | agg xs=>grind [Gl,AV.pure,Gm]
 | _=>grind [ml]
theorem SJ {d:TypeDesc} {kt:TypeId} (hd:P.underlying kt=some d) {x:AV} (hx:ml P d x=true) {w:World} {S:Nat->Prop} {μ:Mu} {kv:Value} (h1:ak w S μ kv x) (b:Bool):(Instr.checkKey b 10000 kt kv).run P w=.ok () w:=by
 cases x with
 | atom xv=>grind [run_checkKey,WW]
 | agg xs =>
  obtain ⟨n,e,k,rfl,hu,hs,hn,CE⟩:=Gl hx
  obtain ⟨vs,rfl,RV,Ng⟩:=Jz CE h1
  obtain ⟨us,hus,hu1,WE⟩:=rr h1
  cases hus
  have loop:∀ (m i:Nat),i+m=n->(forIn (m:=Sem) (List.range' i m) PUnit.unit fun i _=>do
    let z <- sizeOf e
    let q <- part e vs (i * z)
    Instr.checkKey b 9999 e q
    pure (ForInStep.yield PUnit.unit)).run P w=.ok PUnit.unit w:=by
   intro m
   induction m with
   | zero=>intro i _;simp
   | succ m ih =>
    intro i him
    have hi:i < xs.length:=by omega
    obtain ⟨a,ha1,ha2⟩:=Ng i hi
    have hc:mg P e xs i=some (.atom (.int k a)):=by
     unfold mg
     rw [hu,hs]
     exact ha1
    obtain ⟨v,r1,r2⟩:=mh RV WE hc (fun n' T9=>by grind)
    have:=dR r2;subst this
    have hck:(Instr.checkKey b 9999 e (.int k a)).run P w=.ok () w:=run_checkKey hu (show IsKey (.int k) (.int k a) from rfl) b 9998
    rw [List.range'_succ,List.forIn_cons]
    simp only [b8,gh hs,Nat.mul_one,r1,hck,dP]
    simpa using ih (i+1) (by omega)
  unfold Instr.checkKey
  simp only [b8,run_underlying hd,dP]
  simp_all
 | _=>grind [ml]
theorem acV {d:TypeDesc} {x:AV} (hx:ml P d x=true) {w:World} {S:Nat->Prop} {μ:Mu} {kv:Value} (h1:ak w S μ kv x):(Instr.keyThatStays kv kv).run P w=.ok kv w:=by
 cases x with
 | atom xv=>exact run_keyThatStays (WW hx h1)
 | agg xs =>
  obtain ⟨n,e,k,rfl,hu,hs,hn,CE⟩:=Gl hx
  obtain ⟨vs,rfl,RV,Ng⟩:=Jz CE h1
  have:Instr.sameBits 10000 (.agg vs) (.agg vs)=true:=by
   have hz:∀ l:List Value,(∀ v,v∈l->∃ a,v=.int k a)->(l.zip l).all (fun (x,y)=>Instr.sameBits 9999 x y)=true:=by
    intro l
    induction l with
    | nil=>intro _;rfl
    | cons a l ih =>
     intro h
     obtain ⟨z,rfl⟩:=h a (.head _)
     simp only [List.zip_cons_cons,List.all_cons,a7]
     exact ⟨by simp [Instr.sameBits],ih fun v hv=>h v (.tail _ hv)⟩
   simp only [Instr.sameBits,beq_self_eq_true,Bool.true_and]
   refine hz _ fun v hv=>?_
   obtain ⟨i,hi,rfl⟩:=List.getElem_of_mem hv
   have hi:i < vs.size:=by simpa using hi
   obtain ⟨a,_,ha⟩:=Ng i (by omega)
   rw [lF hi] at ha
   exact ⟨a,by simpa using Option.some.inj ha⟩
  simp [Instr.keyThatStays,this]
 | _=>cases d<;>simp [ml] at hx
theorem W2 (c:Array Value) (h:c.size % 2=0) (a b:Value):jw ((c.push a).push b)=(jw c).push ⟨a,b,c.size / 2⟩:=by
 apply Array.ext
 ·simp [jw];omega
 ·intro i h1 h2
  have hs:i < (c.size+1+1) / 2:=by simpa [jw] using h1
  by_cases hi:i < c.size / 2
  ·rw [Array.getElem_push_lt (by rw [EA];exact hi)]
   have e1:2 * i < c.size:=by omega
   have e2:2 * i+1 < c.size:=by omega
   simp [jw,Array.getElem?_push,e1,e2,Nat.ne_of_lt e1,Nat.ne_of_lt e2,show ¬ 2 * i=c.size+1 by omega,show ¬ 2 * i+1=c.size+1 by omega]
  ·have:i=c.size / 2:=by omega
   subst this
   have e1:2 * (c.size / 2)=c.size:=by omega
   simp [jw,Array.getElem_push,Array.getElem?_push,e1]
theorem YU (c:Array Value) (j:Nat) (e:MapEntry) (he:(jw c)[j]?=some e) (v:Value):jw (c.setIfInBounds (2 * j+1) v)=(jw c).modify j fun q=>{ q with key:=e.key,val:=v }:=by
 have hj:j < c.size / 2:=by
  have:=(Array.getElem?_eq_some_iff.1 he).1
  rwa [EA] at this
 rw [YT c j hj] at he
 cases he
 apply Array.ext
 ·simp [jw]
 ·intro i h1 h2
  have hi:i < c.size / 2:=by simpa [jw] using h1
  rw [Array.getElem_modify]
  by_cases hij:j=i
  ·subst hij
   simp [jw,Array.getElem?_setIfInBounds,show ¬ 2 * j+1=2 * j by omega,show 2 * j+1 < c.size by omega]
  ·rw [if_neg hij]
   simp [jw,Array.getElem?_setIfInBounds,show ¬ 2 * j+1=2 * i by omega,show ¬ 2 * j=2 * i by omega,hij]
def Br (P:Program) (σ:eE) (t:TypeId) (m x:AV) (ok:Bool) (bz:rS):Option (List Prop×AV×List Nat) :=
 match m,P.underlying t with
 | .mp k,some (.map kt et)=>match P.underlying kt,au σ k,xC P et with
  | some d,some o,some z=>match ml P d x && Nat.beq o.sz 0 with
   | true=>match ok with
    | false=>some ([(look P kt (o.get 0) x).map (fun r=>r.getD (ofConst z))=some bz.res],bz.res,[k])
    | true=>some ([(look P kt (o.get 0) x).map (fun r=>AV.tup [r.getD (ofConst z),.atom (.bool r.isSome)])=some bz.res],bz.res,[k])
   | false=>none
  | _,_,_=>none
 | _,_=>none
def Bs (P:Program) (σ:eE) (t:TypeId) (m x y:AV) (bz:rS):Option (List Prop×xD×List Nat) :=
 match m,P.underlying t,bz.res with
 | .mp k,some (.map kt _),.tup cs=>match P.underlying kt,au σ k with
  | some d,some o=>match ml P d x && Nat.beq o.sz 0 && Nat.beq o.len 0 && y.pure with
   | true=>some ([Jy P kt (o.get 0) x y=some cs],[(k,some ⟨o.var,o.sz,o.len,true,fun _=>cs⟩)],[k])
   | false=>none
  | _,_=>none
 | _,_,_=>none
theorem SK (g:Good E σ S μ w) {k:Nat} {o:Ob} (ho:au σ k=some o) (hz:o.sz=0) {v:Value} (hv:ak w S μ v (.mp k)) :
  ∃ pl c T,μ k=some pl/\jq w S μ o pl c T/\v=.map (some pl.dD):=by
 obtain ⟨pl,c,T,hm,dS⟩:=g.rep.ob k o ho
 cases hv with
 | mp mf jl=>grind
theorem acW (g:Good E σ S μ w) {t:TypeId} {m x:AV} {ok:Bool} {bz:rS} {vm vx:Value} (hm:ak w S μ vm m) (hx:ak w S μ vx x) {ps:List Prop} {val:AV} {rd:List Nat}
  (h:Br P σ t m x ok bz=some (ps,val,rd)) (hp:bm ps):∃ v,(Instr.lookup t vm vx ok).run P w=.ok v w/\ak w S μ v val:=by
 unfold Br at h
 split at h
 ·rename_i k kt et ht
  split at h
  ·rename_i d o z hd ho hz
   split at h
   ·rename_i hb
    simp only [a7] at hb
    have hz0:=cw hb.2
    obtain ⟨pl,c,T,Ax,dS,rfl⟩:=SK g ho hz0 hm
    obtain ⟨hc,m1,m2,m3,m4⟩:=dS.mp hz0
    have W3:w.heap[pl.dD]?=some (.map (jw c) (c.size / 2)):=(dS.dD hc).trans (by rw [HM hz0])
    have amv:=aa6 m1 m2 m4
    have ae3:=fun b=>SJ hd hb.1 hx b
    have main:∀ r,look P kt (o.get 0) x=some r->∃ v,ak w S μ v (r.getD (ofConst z))/\(Instr.lookup t (.map (some pl.dD)) vx ok).run P w=.ok (if ok then .tuple #[v,.bool r.isSome] else v) w:=by
     intro r hr
     rcases ae1 hd hb.1 hx amv hr with ⟨rfl,q⟩ | ⟨j,e,v,rfl,q1,q2⟩
     ·refine ⟨z,Sw w S μ z,?_⟩
      simp [Instr.lookup,run_underlying ht,Go.MapKept.run_getObj_map W3,ae3,q,Sx hz,Result.andThen]
     ·refine ⟨e.val,j6 (pr:=true) q2,?_⟩
      simp [Instr.lookup,run_underlying ht,Go.MapKept.run_getObj_map W3,ae3,q1,Result.andThen]
    split at h
    ·simp only [aL,aG] at h
     obtain ⟨rfl,rfl,rfl⟩:=h
     obtain ⟨Ej,_⟩:=hp
     simp only [aW] at Ej
     obtain ⟨r,hr,dy⟩:=Ej
     obtain ⟨v,h1,h2⟩:=main r hr
     exact ⟨v,by simpa using h2,by rw [<- dy];exact h1⟩
    ·simp only [aL,aG] at h
     obtain ⟨rfl,rfl,rfl⟩:=h
     obtain ⟨Ej,_⟩:=hp
     simp only [aW] at Ej
     obtain ⟨r,hr,dy⟩:=Ej
     obtain ⟨v,h1,h2⟩:=main r hr
     refine ⟨.tuple #[v,.bool r.isSome],by simpa using h2,?_⟩
     rw [<- dy]
     refine .tup rfl fun j c v' hc hv=>?_
     match j with
     | 0=>simp at hc hv;subst hc hv;exact h1
     | 1=>simp at hc hv;subst hc hv;exact .atom _
     | j+2=>simp at hc
   ·cases h
  ·cases h
 ·cases h
theorem SL (g:Good E σ S μ w) {t:TypeId} {m x y:AV} {bz:rS} {vm vx vy:Value} (hm:ak w S μ vm m) (hx:ak w S μ vx x) (hy:ak w S μ vy y) {ps:List Prop} {pU:xD} {rd:List Nat}
  (h:Bs P σ t m x y bz=some (ps,pU,rd)) (hp:bm ps):∃ w',(Instr.mapUpdate t vm vx vy).run P w=.ok () w'/\Ext w S μ w' S μ/\Good E (gS σ pU) S μ w':=by
 unfold Bs at h
 split at h
 ·rename_i k kt et cs ht acU
  split at h
  ·rename_i d o hd ho
   split at h
   ·rename_i hb
    simp only [aL,aG] at h
    obtain ⟨rfl,rfl,rfl⟩:=h
    simp only [a7] at hb
    obtain ⟨⟨⟨wV,ss⟩,hb3⟩,hb4⟩:=hb
    have hz0:=cw ss
    have WH:=cw hb3
    obtain ⟨Ej,_⟩:=hp
    obtain ⟨pl,c,T,Ax,dS,rfl⟩:=SK g ho hz0 hm
    obtain ⟨hc,m1,m2,m3,m4⟩:=dS.mp hz0
    have W3:w.heap[pl.dD]?=some (.map (jw c) (c.size / 2)):=(dS.dD hc).trans (by rw [HM hz0])
    have amv:=aa6 m1 m2 m4
    have ae3:=fun b=>SJ hd wV hx b
    have ao2:=acV wV hx
    have hxp:x.pure=true:=ae2 wV
    -- the block that is written
    have fin:∀ (c':Array Value),c'.size % 2=0->c'.size=cs.length->(∀ (j:Nat) x v,cs[j]?=some x->c'[j]?=some v->ak w S kF v x) ->
      (Instr.mapUpdate t (.map (some pl.dD)) vx vy).run P w=.ok () { w with heap:=w.heap.setIfInBounds pl.dD (.map (jw c') (c'.size / 2)) } ->
      ∃ w',(Instr.mapUpdate t (.map (some pl.dD)) vx vy).run P w=.ok () w'/\Ext w S μ w' S μ/\Good E (gS σ [(k,some ⟨o.var,o.sz,o.len,true,fun _=>cs⟩)]) S μ w':=by
     intro c' e1 e2 e3 oD
     refine ⟨_,oD,?_⟩
     have OY:=heap_set (o':=.map (jw c') (c'.size / 2)) W3
     refine g.ajq (w':={ w with heap:=w.heap.setIfInBounds pl.dD (.map (jw c') (c'.size / 2)) }) ho Ax hc dS rfl rfl rfl (by simp) (fun b hb=>OY.2 b hb) ⟨o.var,o.sz,o.len,true,fun _=>cs⟩ (uh fun i hi=>absurd hi (by show ¬ i < o.len;omega)) (fun ex=>⟨c',T,dS.sz,fun _=>?_,?_,by simp_all,dS.out,fun i hi=>absurd hi (by show ¬ i < o.len;omega),fun i j x v hi=>absurd hi (by show ¬ i < o.len;omega),fun _=>⟨hc,e1,e2,rfl,fun j x v hx hv=>(e3 j x v hx hv).mono ex.TW ex.dD (fun _ _ h=>h)⟩⟩)
     ·grind [HL,HM]
     ·simp_all
    rcases ajO hd wV hx (y:=y) amv Ej with ⟨q1,q2⟩ | ⟨j,e,q1,q2,q3,q4⟩
    ·refine fin ((c.push vx).push vy) (by simp;omega) (by rw [q2];simp;omega) ?_ ?_
     ·intro j x' v' Dz yB
      rw [q2] at Dz
      by_cases hj:j < c.size
      ·grind
      ·rw [kU (by omega)] at Dz
       by_cases hj0:j=c.size
       ·subst hj0
        rw [show c.size - (o.get 0).length=0 by omega] at Dz
        rw [Array.getElem?_push,if_neg (by simp),Array.getElem?_push,if_pos rfl] at yB
        simp at Dz yB
        subst Dz yB
        exact hx.pure hxp kF
       ·by_cases hj1:j=c.size+1
        ·subst hj1
         rw [show c.size+1 - (o.get 0).length=1 by omega] at Dz
         rw [Array.getElem?_push,if_pos (by simp)] at yB
         simp at Dz yB
         subst Dz yB
         exact hy.pure hb4 kF
        ·rw [sQ (by simp;omega)] at Dz;cases Dz
     ·rw [W2 c m1]
      have e:((c.push vx).push vy).size / 2=c.size / 2+1:=by simp;omega
      rw [e]
      simp [Instr.mapUpdate,run_underlying ht,Go.MapKept.run_getObj_map W3,ae3,q1,Go.MapKept.run_setObj_map _ W3,Result.andThen]
    ·have q2':(jw c)[j]?=some e:=by simpa using q2
     have hj:j < c.size / 2:=by
      have:=(Array.getElem?_eq_some_iff.1 q2').1
      rwa [EA] at this
     refine fin (c.setIfInBounds (2 * j+1) vy) (by simpa using m1) (by rw [q4];simpa using m2) ?_ ?_
     ·intro i x' v' Dz yB
      rw [q4,List.getElem?_set] at Dz
      rw [Array.getElem?_setIfInBounds] at yB
      by_cases hi:2 * j+1=i
      ·subst hi
       rw [if_pos rfl,if_pos (by omega)] at Dz
       rw [if_pos rfl,if_pos (by omega)] at yB
       simp at Dz yB
       subst Dz yB
       exact hy.pure hb4 kF
      ·rw [if_neg hi] at Dz yB
       exact m4 i x' v' Dz yB
     ·rw [YU c j e q2' vy]
      simp [Instr.mapUpdate,run_underlying ht,Go.MapKept.run_getObj_map W3,ae3,q1,q2',q3,ao2,Go.MapKept.run_setObj_map _ W3,Result.andThen]
   ·cases h
  ·cases h
 ·cases h
theorem YV (g:Good E σ S μ w) (HR:∀ j,j < 16->μ (nk+j)=none) (zR:E.m0<=nk) {f:AV} {args:List AV} {bz:rS} {r:R} {fv:Value} (hf:ak w S μ fv f) {Jx:Array Value} (ha:RL w S μ Jx args)
  (hz:bz.D1=true->∀ b,¬ E.fp b) (h:OT P nk σ f args bz=some r) (hp:bm r.SC) :
  ∃ gid vs,(do let d <- Deferred.ofValue fv Jx;invoke d.target d.args:Sem Next).run P w=.ok (.enter gid vs) w /\
   Calls P gid vs w fun e w'=>∃ v S' eB,e=.returned v/\Ext w S μ w' S' eB/\Good E (gS σ r.pU) S' eB w'/\(∀ k,(k < nk\/nk+16<=k)->μ k=none->eB k=none)/\ak w' S' eB v r.val :=
 WS (ob:=Sound P) g HR zR hf ha hz (fun _ _ _ _ _ _ vs hs g0 hn CE=>hs w _ _ vs g0 hn CE) h hp
end
end Go.Ab
