/- Abstract values over the heap of the machine, and functions read off its code (part 4). No conditions. -/
import Derived.Test.YtakkcneiophofaaGreatCc
import Derived.RangeFuncLeaves
set_option linter.unusedVariables false
set_option linter.unusedSimpArgs false
namespace Go.Ab
def isAux:Obj→Bool
 | .loop _=>true
 | .deferred _=>true
 | _=>false
theorem blkObj_aux (sz:Nat) (c:Array Value) (T:TypeId):isAux (blkObj sz c T)=false:=by
 cases sz<;>rfl
theorem cell_aux {w:World} {l:Nat} {o o':Obj} (h:w.heap[l]?=some o) (ho:isAux o=true) (ho':isAux o'=true) (a:Addr):(w.putObj l o').cell? a=w.cell? a:=by
 unfold World.cell?
 by_cases e:a.block=l
 ·rw [e,h,World.putObj_heap_same (Array.getElem?_eq_some_iff.1 h).1]
  cases o<;>cases o'<;>simp_all [isAux]
 ·rw [World.putObj_heap_other e]
theorem RepX.cells_same {w w':World} {S S':Nat→Prop} (hS:∀ b,S b→S' b) (hc:∀ a,w'.cell? a=w.cell? a) {μ:Mu} {v:Value} {x:AV} (h:RepX w S μ v x):RepX w' S' μ v x:=by
 induction h with
 | atom v=>exact .atom v
 | agg h1 _ ih=>exact .agg h1 ih
 | tup h1 _ ih=>exact .tup h1 ih
 | sl b off sz f h1 h2 h3 _ h5 ih=>exact .sl b off sz f (fun hl=>⟨(h1 hl).1,hS _ (h1 hl).2⟩) h2 (fun i j hi hj=>(hc _).trans (h3 i j hi hj)) ih h5
 | rp b o f h1 h2 _ ih=>exact .rp b o f (hS _ h1) (fun j hj=>(hc _).trans (h2 j hj)) ih
 | op pl h=>exact .op pl h
 | os pl h h1 h2 h3=>exact .os pl h h1 h2 h3
 | fn h1 h2 _ _ ih1 ih2=>exact .fn h1 h2 ih1 ih2
 | when _ hu ih=>exact .when ih hu
 | mp pl h=>exact .mp pl h
 | bn b h=>exact .bn b h
 | pt _ h2 ih=>exact .pt ih h2
 | ov pl h h1=>exact .ov pl h h1
 | nil=>exact .nil
 | unk=>exact .unk
 | mr=>exact .mr
theorem ObRep.cells_same {w w':World} {S S':Nat→Prop} {μ:Mu} {o:Ob} {pl:Place} {c:Array Value} {T:TypeId} (h:ObRep w S μ o pl c T) (hS:∀ b,S b→S' b) (hc:∀ a,w'.cell? a=w.cell? a)
  (hb:0 < pl.cap→w'.heap[pl.blk]?=w.heap[pl.blk]?) (ho:0 < pl.cap→¬ S' pl.blk):ObRep w' S' μ o pl c T :=
 { h with
  blk:=fun hc=>(hb hc).trans (h.blk hc)
  out:=ho
  rep:=fun i j x v hi hx hv=>(h.rep i j x v hi hx hv).cells_same hS hc
  mp:=fun hz=>let ⟨h0,h1,h2,h3,h4⟩:=h.mp hz;⟨h0,h1,h2,h3,fun j x v hx hv=>(h4 j x v hx hv).cells_same hS hc⟩ }
theorem Good.blk_ne {E:Env} {σ:Sto} {S:Nat→Prop} {μ:Mu} {w:World} (g:Good E σ S μ w) {k:Nat} {o:Ob} {pl:Place} (ho:sget σ k=some o) (hm:μ k=some pl) (hc:0 < pl.cap) {l:Nat} {ob:Obj}
  (hl:w.heap[l]?=some ob) (ha:isAux ob=true):pl.blk≠l:=by
 obtain ⟨pl',c,T,hm',h⟩:=g.rep.ob k o ho
 rw [hm] at hm';cases hm'
 rintro rfl
 rw [h.blk hc] at hl
 cases hl
 rw [blkObj_aux] at ha;cases ha
theorem Good.row_ne {E:Env} {σ:Sto} {S:Nat→Prop} {μ:Mu} {w:World} (g:Good E σ S μ w) {k i:Nat} {x:Nat×Nat×(Nat→List AV)} {v:Value} {b:Nat} (hv:RowV w μ σ k i x v) (hb:ptrTo v b) {l:Nat} {ob:Obj}
  (hl:w.heap[l]?=some ob) (ha:isAux ob=true):b≠l:=by
 obtain ⟨_,_,_,c,T,h⟩:=g.mx.blk hv hb
 rintro rfl
 rw [h] at hl
 cases hl;cases ha
theorem Good.fp_ne {E:Env} {σ:Sto} {S:Nat→Prop} {μ:Mu} {w:World} (g:Good E σ S μ w) {l:Nat} {ob:Obj} (hl:w.heap[l]?=some ob) (ha:isAux ob=true):¬ fpOf w σ μ l:=by
 rintro (⟨k,o,pl,ho,hm,hc,he⟩ | ⟨k,i,x,v,hv,hb⟩)
 ·exact g.blk_ne ho hm hc hl ha he
 ·exact g.row_ne hv hb hl ha rfl
theorem MX.aux {fp fp':Nat→Prop} {n0 n0':Nat} {w w':World} {S S':Nat→Prop} {μ:Mu} {σ:Sto} (h:MX fp n0 w S μ σ) (hS:∀ b,S b→S' b) (hc:∀ a,w'.cell? a=w.cell? a)
  (hp:∀ k i x v b,RowV w' μ σ k i x v→RowV w μ σ k i x v→ptrTo v b→w'.heap[b]?=w.heap[b]?∧¬ S' b∧((fp b∨n0≤b)→(fp' b∨n0'≤b))):MX fp' n0' w' S' μ σ:=by
 have back:∀ {k i x v},RowV w' μ σ k i x v→RowV w μ σ k i x v:=fun ⟨o,pl,h1,h2,h3,h4⟩=>⟨o,pl,h1,h2,h3,by rw [← hc];exact h4⟩
 refine ⟨fun k i x v hv=>?_,fun k i x v b hv=>h.obj k i x v b (back hv),fun k i x v b k' i' x' v' hv hv'=>h.two k i x v b k' i' x' v' (back hv) (back hv')⟩
 obtain ⟨a,cap,rfl,h1,h2,h3⟩:=h.row _ _ _ _ (back hv)
 refine ⟨a,cap,rfl,h1,h2,fun hcp=>?_⟩
 obtain ⟨b,c,T,rfl,h4,h5⟩:=h3 hcp
 obtain ⟨p1,p2,p3⟩:=hp _ _ _ _ b hv (back hv) ⟨_,_,rfl,hcp⟩
 exact ⟨b,c,T,rfl,h4.cells_same hS hc (fun _=>p1) (fun _=>p2),p3 h5⟩
theorem Good.put {E:Env} {σ:Sto} {S:Nat→Prop} {μ:Mu} {w:World} (g:Good E σ S μ w) {l:Nat} {o o':Obj} (h:w.heap[l]?=some o) (ho:isAux o=true) (ho':isAux o'=true) (hl:E.w0.heap.size≤l∨E.fp l) :
  Good E σ S μ (w.putObj l o'):=by
 have hc:=cell_aux h ho ho'
 refine ⟨⟨g.fr.os,g.fr.tape,g.fr.output,by simpa using g.fr.size,fun b hb hf=>?_⟩,g.S0,fun b hb=>by simpa using g.S1 b hb,g.S2,⟨fun k x hx=>?_,g.rep.ne⟩,g.own,g.mu0,
  g.mx.aux (fun _ h=>h) hc fun k i x v b _ hv hb=>⟨World.putObj_heap_other (g.row_ne hv hb h ho),(g.mx.blk hv hb).2.1,fun h=>h⟩⟩
 ·have hne:b≠l:=by rintro rfl;rcases hl with h | h;omega;exact hf h
  rw [World.putObj_heap_other hne];exact g.fr.blk b hb hf
 ·obtain ⟨pl,c,T,hm,hr⟩:=g.rep.ob k x hx
  exact ⟨pl,c,T,hm,hr.cells_same (fun _ h=>h) hc (fun hcap=>World.putObj_heap_other (g.blk_ne hx hm hcap h ho)) hr.out⟩
theorem Good.aux {E:Env} {σ:Sto} {S:Nat→Prop} {μ:Mu} {w:World} (g:Good E σ S μ w) (o:Obj) (ho:isAux o=true) :
  Ext w S μ (w.alloc o) (fun b=>S b∨b=w.heap.size) μ∧Good E σ (fun b=>S b∨b=w.heap.size) μ (w.alloc o):=by
 have hold:∀ b,b < w.heap.size→(w.alloc o).heap[b]?=w.heap[b]?:=fun b hb=>heap_push_lt hb
 have hnew:(w.alloc o).heap[w.heap.size]?=some o:=World.alloc_heap_new w o
 have e:Ext w S μ (w.alloc o) (fun b=>S b∨b=w.heap.size) μ:=⟨by simp,fun _ h=>.inl h,fun b hb=>hold b (g.S1 b hb),fun _ _ h=>h⟩
 refine ⟨e,⟨g.fr.os,g.fr.tape,g.fr.output,by have:=g.fr.size;simp;omega,fun b hb hf=>(hold b (Nat.lt_of_lt_of_le hb g.fr.size)).trans (g.fr.blk b hb hf)⟩,fun b hb=>.inl (g.S0 b hb),?_,?_,⟨fun k x hx=>?_,g.rep.ne⟩,g.own,g.mu0,g.mxStab hold (fun _ h=>.inl h) (fun b h=>h.elim .inl fun h=>.inr (Nat.le_of_eq h.symm))⟩
 ·rintro b (hb | rfl)
  ·have:=g.S1 b hb;simp;omega
  ·simp
 ·rintro b (hb | rfl)
  ·exact g.S2 b hb
  ·exact .inr g.fr.size
 ·obtain ⟨pl,c,T,hm,hr⟩:=g.rep.ob k x hx
  have hlt:0 < pl.cap→pl.blk < w.heap.size:=fun hc=>lt_of_blk (hr.blk hc)
  refine ⟨pl,c,T,hm,hr.ext e (fun hc=>hold _ (hlt hc)) (fun hc=>?_)⟩
  rintro (h | h)
  ·exact hr.out hc h
  ·have:=hlt hc;omega
def envAt (w:World) (S:Nat→Prop) (σ:Sto) (μ:Mu) (m:Nat):Env:=⟨w,S,fpOf w σ μ,μ,m⟩
theorem Good.base {E:Env} {σ:Sto} {S:Nat→Prop} {μ:Mu} {w:World} (g:Good E σ S μ w) (m:Nat):Good (envAt w S σ μ m) σ S μ w :=
 ⟨Fr.refl _ _,fun _ h=>h,g.S1,fun _ h=>.inl h,g.rep,fun k o pl ho hm hc=>.inl (.inl ⟨k,o,pl,ho,hm,hc,rfl⟩),fun _ _=>rfl,
  g.mx.aux (fun _ h=>h) (fun _=>rfl) fun k i x v b hv _ hb=>⟨rfl,(g.mx.blk hv hb).2.1,fun _=>.inl (.inr ⟨k,i,x,v,hv,hb⟩)⟩⟩
theorem Good.rebase {E:Env} {σ σ':Sto} {S S':Nat→Prop} {μ μ':Mu} {w w':World} (g:Good E σ S μ w) {m:Nat} (hm:E.m0≤m) (g':Good (envAt w S σ μ m) σ' S' μ' w'):Good E σ' S' μ' w':=by
 have hfp:∀ b,fpOf w σ μ b→E.fp b∨E.w0.heap.size≤b:=by
  rintro b (⟨k,o,pl,ho,hm,hc,rfl⟩ | ⟨k,i,x,v,hv,hb⟩)
  ·exact g.own k o pl ho hm hc
  ·exact (g.mx.blk hv hb).2.2.1
 refine ⟨⟨g'.fr.os.trans g.fr.os,g'.fr.tape.trans g.fr.tape,g'.fr.output.trans g.fr.output,Nat.le_trans g.fr.size g'.fr.size,fun b hb hf=>?_⟩,fun b hb=>g'.S0 b (g.S0 b hb),g'.S1,fun b hb=>?_,g'.rep,fun k o pl ho hm hc=>?_,fun k hk=>?_,
  g'.mx.aux (fun _ h=>h) (fun _=>rfl) fun k i x v b hv _ hb=>⟨rfl,(g'.mx.blk hv hb).2.1,fun h=>h.elim (hfp b) fun h=>.inr (Nat.le_trans g.fr.size h)⟩⟩
 ·refine (g'.fr.blk b (Nat.lt_of_lt_of_le hb g.fr.size) fun h=>?_).trans (g.fr.blk b hb hf)
  rcases hfp b h with h1 | h1
  ·exact hf h1
  ·omega
 ·rcases g'.S2 b hb with h1 | h1
  ·exact g.S2 b h1
  ·exact .inr (Nat.le_trans g.fr.size h1)
 ·rcases g'.own k o pl ho hm hc with h1 | h1
  ·exact hfp _ h1
  ·exact .inr (Nat.le_trans g.fr.size h1)
 ·rw [g'.mu0 k (Nat.lt_of_lt_of_le hk hm)];exact g.mu0 k hk
theorem Good.putb {E:Env} {σ:Sto} {S:Nat→Prop} {μ:Mu} {w:World} (g:Good E σ S μ w) {l:Nat} {o o':Obj} (h:w.heap[l]?=some o) (ho:isAux o=true) (ho':isAux o'=true) (m:Nat) :
  Good (envAt (w.putObj l o') S σ μ m) σ S μ (w.putObj l o'):=by
 have hc:=cell_aux h ho ho'
 refine ⟨Fr.refl _ _,fun _ h=>h,fun b hb=>by simpa using g.S1 b hb,fun _ h=>.inl h,⟨fun k x hx=>?_,g.rep.ne⟩,fun k o pl ho hm hc=>.inl (.inl ⟨k,o,pl,ho,hm,hc,rfl⟩),fun _ _=>rfl,
  g.mx.aux (fun _ h=>h) hc fun k i x v b hv' hv hb=>⟨World.putObj_heap_other (g.row_ne hv hb h ho),(g.mx.blk hv hb).2.1,fun _=>.inl (.inr ⟨k,i,x,v,hv',hb⟩)⟩⟩
 obtain ⟨pl,c,T,hm,hr⟩:=g.rep.ob k x hx
 exact ⟨pl,c,T,hm,hr.cells_same (fun _ h=>h) hc (fun hcap=>World.putObj_heap_other (g.blk_ne hx hm hcap h ho)) hr.out⟩
def WI (P:Program) (E:Env) (nt:Nat) (c:Code) (st st':St):Prop:=∀ (l:Nat) (tm:Array Value) (w:World),tm.size=nt→Rep E st tm w →
 c.wpIn (FW (some l)) 0 P (fun e a w'=>e=.normal∧a.tmps.size=nt∧a.defers=[]∧Rep E st' a.tmps w') ⟨tm,[]⟩ w
theorem WI.seq {P:Program} {E:Env} {nt:Nat} {x y:Code} {st st1 st2:St} (h1:WI P E nt x st st1) (h2:WI P E nt y st1 st2):WI P E nt (.seq x y) st st2:=by
 intro l tm w hs hr
 refine wpIn_seq (wpIn_mono (h1 l tm w hs hr) ?_)
 rintro e ⟨t,ds⟩ w' ⟨rfl,q1,q2,q3⟩
 simp only at q1 q2
 subst q2
 exact h2 l t w' q1 q3
theorem WI.block {P:Program} {E:Env} {nt:Nat} {id:Nat} {x:Code} {st st1:St} (h1:WI P E nt x st st1):WI P E nt (.block id x) st st1:=by
 intro l tm w hs hr
 refine wpIn_block (wpIn_mono (h1 l tm w hs hr) ?_)
 rintro e a w' ⟨rfl,q1,q2,q3⟩
 exact ⟨rfl,q1,q2,q3⟩
theorem WI.rw {P:Program} {E:Env} {nt m:Nat} {c:Code} {orcs:List (Nat×Orc)} {F:List Nat} {tms:List (Nat×Wd)} {ods:Ods} {nk:Nat} {st st':St} (hE:EnvOk E m) {ps:List Prop}
  (h:evRW P nt m c orcs F tms ods nk st=some (ps,st')) (hF:(((F.isEmpty && noFrz orcs) || Nat.beq m 0) && noY orcs)=true) (hp:AllP ps):WI P E nt c st st':=by
 intro l tm w hs hr
 unfold evRW at h
 split at h
 ·rename_i p1 s1 h1
  split at h
  ·rename_i q1 s2 h2
   simp only [Option.some.injEq,Prod.mk.injEq] at h
   obtain ⟨rfl,rfl⟩:=h
   obtain ⟨hp1,hp2⟩:=AllP.app hp
   obtain ⟨hF,hY⟩:=Bool.and_eq_true_iff.1 hF
   have hz:noFrz orcs=true∨∀ b,¬ E.fp b:=by
    rcases Bool.or_eq_true_iff.1 hF with h | h
    ·exact .inl (Bool.and_eq_true_iff.1 h).2
    ·exact .inr (hE.fp (Nat.eq_of_beq_eq_true h))
   have hF':F.isEmpty=true∨∀ b,¬ E.fp b:=by
    rcases Bool.or_eq_true_iff.1 hF with h | h
    ·exact .inl (Bool.and_eq_true_iff.1 h).1
    ·exact .inr (hE.fp (Nat.eq_of_beq_eq_true h))
   refine wpIn_mono (region_wpIn (rd:=some l) (ds:=[]) hz (noY_ys hY) h1 hp1 hs hr) ?_
   rintro e a w' ⟨rfl,q1,q2,q3⟩
   refine ⟨rfl,q1,q2,wk_sound (by rw [hE.m0];exact h2) hp2 hF' q3⟩
  ·cases h
 ·cases h
def roundTm (r:Loop) (vs:Array Value):Array Value:=(r.params.zip vs).foldl (fun tmps (t,a)=>tmps.setIfInBounds t a) r.tmps
theorem yok_of {P:Program} {E:Env} {l nt:Nat} {r:Loop} (hl:E.w0.heap[l]?=some (.loop r)) (hfp:¬ E.fp l) (hst:r.state=.ready) (hpd:r.pending=none) (hm:1≤E.m0) {as:List AV} {o o':Ob}
  (hpr:o.pr=true) (hpr':o'.pr=true) (hsz':o'.sz≠0) (has:AV.pureL as=true) (hps:r.params.size=as.length) {st0 st1 st2:St} (h0:st0.sto=[(0,o)]) (hn0:st0.nk=1) (h2:st2.sto=[(0,o')])
  (hin:∀ (w:World) (S:Nat→Prop) (μ:Mu) (vs:Array Value),RL w S μ vs as→μ 0=E.μ0 0→(roundTm r vs).size=nt∧∀ t,RepX w S μ ((roundTm r vs).getD t undef) (getTm st0.tm t))
  (hA:∀ E',EnvOk E' 1→WI P E' nt r.assign st0 st1) (hB:∀ E',EnvOk E' 1→WI P E' nt r.body st1 st2)
  (hv:o.var=true:=by rfl) (hv':o'.var=true:=by rfl):YOK P E ⟨l,as,0,o,o'⟩:=by
 intro w S μ σ vs g hrl ho
 simp only at hrl ho ⊢
 have ho0:=ho
 have hwl:w.heap[l]?=some (.loop r):=(g.fr.blk l (lt_of_blk hl) hfp).trans hl
 obtain ⟨pl,c0,T0,hm0,hob⟩:=g.rep.ob 0 o ho
 have hE0:μ 0=E.μ0 0:=g.mu0 0 (by omega)
 refine ⟨r.fn,roundTm r vs,r.assign,r.body,run_yield hwl (by rw [hrl.1,hps]),?_⟩
 refine roundIn_of_wpIn trivial ?_
 obtain ⟨μc,hμc⟩:∃ μc:Mu,μc=fun k=>if k=0 then μ 0 else none:=⟨_,rfl⟩
 have hμ0:μc 0=μ 0:=by rw [hμc];rfl
 have hμn:∀ k,1≤k→μc k=none:=fun k hk=>by rw [hμc];exact if_neg (by omega)
 have gA0:Good (envAt w S [(0,o)] μc 1) [(0,o)] S μc w:=by
  refine ⟨Fr.refl _ _,fun _ h=>h,g.S1,fun _ h=>.inl h,⟨fun k x hx=>?_,fun k k' x x' p p' hne hx hx'=>?_⟩,fun k o pl ho hm hc=>.inl (.inl ⟨k,o,pl,ho,hm,hc,rfl⟩),fun _ _=>rfl,MX.nil fun k x i hx=>?_⟩
  rotate_right
  ·simp only [sget] at hx
   split at hx
   ·cases hx;exact rowOf_none_var hv i
   ·cases hx
  ·simp only [sget] at hx
   split at hx
   ·rename_i hb
    cases hx
    rw [← Nat.eq_of_beq_eq_true hb]
    exact ⟨pl,c0,T0,hμ0.trans hm0,{ hob with rep:=fun i j x v hi hx hv=>by have:=hob.rep i j x v hi hx hv;rw [hpr] at this ⊢;exact this }⟩
   ·cases hx
  ·simp only [sget] at hx hx'
   split at hx
   ·rename_i hb
    split at hx'
    ·rename_i hb'
     exact absurd ((Nat.eq_of_beq_eq_true hb).symm.trans (Nat.eq_of_beq_eq_true hb')) hne
    ·cases hx'
   ·cases hx
 have hrlc:RL w S μc vs as:=⟨hrl.1,fun j c v hc hv=>(hrl.2 j c v hc hv).pure (pureL_get has hc) μc⟩
 obtain ⟨hsz,hin⟩:=hin w S μc vs hrlc (hμ0.trans hE0)
 have rA0:Rep (envAt w S [(0,o)] μc 1) st0 (roundTm r vs) w:=⟨S,μc,by rw [h0];exact gA0,fun k hk=>hμn k (by rw [hn0] at hk;exact hk),by rw [hn0];exact Nat.le_refl _,hin⟩
 have hEA:EnvOk (envAt w S [(0,o)] μc 1) 1:=⟨rfl,fun h=>absurd h (by decide)⟩
 refine wpIn_mono (hA _ hEA l _ w hsz rA0) ?_
 rintro e ⟨tm1,ds1⟩ w1 ⟨rfl,q1,q2,S1,μ1,g1,hk1,hn1,ht1⟩
 simp only at q1 q2 ht1
 subst q2
 have hltl:l < w.heap.size:=lt_of_blk hwl
 have nfA:∀ b ob,w.heap[b]?=some ob→isAux ob=true→¬ (envAt w S [(0,o)] μc 1).fp b:=by
  exact fun b ob hb ha=>gA0.fp_ne hb ha
 have hwl1:w1.heap[l]?=some (.loop r):=(g1.fr.blk l hltl (nfA l _ hwl rfl)).trans hwl
 show ∃ w₂,_∧_
 refine ⟨_,run_beginRound hwl1 hst,?_⟩
 obtain ⟨W2,hW2⟩:∃ W2,W2=w1.putObj l (.loop { r with state:=.busy }):=⟨_,rfl⟩
 have g2:Good (envAt W2 S1 st1.sto μ1 1) st1.sto S1 μ1 W2:=by rw [hW2];exact g1.putb hwl1 rfl rfl 1
 have hc2:∀ a,W2.cell? a=w1.cell? a:=by rw [hW2];exact cell_aux hwl1 rfl rfl
 have hs2:W2.heap.size=w1.heap.size:=by rw [hW2];simp
 have ho2:∀ b,b≠l→W2.heap[b]?=w1.heap[b]?:=fun b hb=>by rw [hW2];exact World.putObj_heap_other hb
 have hl2:W2.heap[l]?=some (.loop { r with state:=.busy }):=by rw [hW2];exact World.putObj_heap_same (lt_of_blk hwl1)
 have ho:W2.os=w1.os∧W2.tape=w1.tape∧W2.output=w1.output:=by rw [hW2];exact ⟨rfl,rfl,rfl⟩
 rw [← hW2]
 have rB:Rep (envAt W2 S1 st1.sto μ1 1) st1 tm1 W2:=⟨S1,μ1,g2,hk1,hn1,fun t=>(ht1 t).cells_same (fun _ h=>h) hc2⟩
 refine wpIn_mono (hB _ ⟨rfl,fun h=>absurd h (by decide)⟩ l _ W2 q1 rB) ?_
 rintro e ⟨tm2,ds2⟩ w3 ⟨rfl,-,-,S2,μ2,g3,-,-,-⟩
 have nfB:∀ b ob,W2.heap[b]?=some ob→isAux ob=true→¬ (envAt W2 S1 st1.sto μ1 1).fp b:=by
  exact fun b ob hb ha=>g2.fp_ne hb ha
 have hl3:w3.heap[l]?=some (.loop { r with state:=.busy }):=(g3.fr.blk l (lt_of_blk hl2) (nfB l _ hl2 rfl)).trans hl2
 refine ⟨_,_,run_endRound none hl3,rfl,fun b=>S b∨(S2 b∧w.heap.size≤b),?_⟩
 obtain ⟨W4,hW4⟩:∃ W4,W4=w3.putObj l (.loop { { r with state:=.busy } with state:=if (none:Option Code).isNone=true then .ready else .done,pending:=none }):=⟨_,rfl⟩
 rw [← hW4]
 have hc4:∀ a,W4.cell? a=w3.cell? a:=by rw [hW4];exact cell_aux hl3 rfl rfl
 have hs4:W4.heap.size=w3.heap.size:=by rw [hW4];simp
 have ho4:∀ b,b≠l→W4.heap[b]?=w3.heap[b]?:=fun b hb=>by rw [hW4];exact World.putObj_heap_other hb
 have hl4:W4.heap[l]?=some (.loop r):=by
  rw [hW4,World.putObj_heap_same (lt_of_blk hl3)]
  obtain ⟨a1,a2,a3,a4,a5,a6,a7,a8⟩:=r
  simp only at hst hpd
  subst hst hpd
  rfl
 have ho4':W4.os=w3.os∧W4.tape=w3.tape∧W4.output=w3.output:=by rw [hW4];exact ⟨rfl,rfl,rfl⟩
 have hsize:w.heap.size≤W2.heap.size:=by rw [hs2];exact g1.fr.size
 have hsize3:W2.heap.size≤w3.heap.size:=g3.fr.size
 -- what has not changed
 have sumblk:∀ b,(envAt w S [(0,o)] μc 1).fp b→0 < pl.cap∧pl.blk=b:=by
  rintro b (⟨k,x,p,hx,hm,hc,hb⟩ | ⟨k,i,x,v,⟨o2,p,hx,hr,_⟩,_⟩)
  ·simp only [sget] at hx
   split at hx
   ·rename_i hb0
    rw [← Nat.eq_of_beq_eq_true hb0,hμ0,hm0] at hm
    cases hm
    exact ⟨hc,hb⟩
   ·cases hx
  ·simp only [sget] at hx
   split at hx
   ·cases hx;rw [rowOf_none_var hv] at hr;cases hr
   ·cases hx
 have same:∀ b,b < w.heap.size→¬ (0 < pl.cap∧pl.blk=b)→W4.heap[b]?=w.heap[b]?:=by
  intro b hb hn
  by_cases e:b=l
  ·rw [e,hl4,hwl]
  ·rw [ho4 b e]
   refine (g3.fr.blk b (Nat.lt_of_lt_of_le hb hsize) ?_).trans ((ho2 b e).trans (g1.fr.blk b hb fun h=>hn (sumblk b h)))
   rintro (⟨k,x,p,hx,hm,hc,rfl⟩ | ⟨k,i,x,v,hv',hb'⟩)
   ·rcases g1.own k x p hx hm hc with h | h
    ·exact hn (sumblk _ h)
    ·have:p.blk < w.heap.size:=hb
     have h:w.heap.size≤p.blk:=h
     omega
   ·have hv2:RowV w1 μ1 st1.sto k i x v:=by
     obtain ⟨o2,p,a1,a2,a3,a4⟩:=hv'
     exact ⟨o2,p,a1,a2,a3,by rw [← hc2];exact a4⟩
    rcases (g1.mx.blk hv2 hb').2.2.1 with h | h
    ·exact hn (sumblk _ h)
    ·have h:w.heap.size≤b:=h
     omega
 have hSS:∀ b,S2 b→S b∨(S2 b∧w.heap.size≤b):=by
  intro b hb
  rcases g3.S2 b hb with h | h
  ·rcases g1.S2 b h with h | h
   ·exact .inl h
   ·exact .inr ⟨hb,h⟩
  ·exact .inr ⟨hb,Nat.le_trans hsize h⟩
 have nS:0 < pl.cap→¬ S pl.blk:=hob.out
 have ext:Ext w S μ W4 (fun b=>S b∨(S2 b∧w.heap.size≤b)) μ:=by
  refine ⟨by rw [hs4];exact Nat.le_trans hsize hsize3,fun _ h=>.inl h,fun b hb=>same b (g.S1 b hb) ?_,fun _ _ h=>h⟩
  rintro ⟨hc,rfl⟩
  exact nS hc hb
 have hmx:MX E.fp E.w0.heap.size W4 (fun b=>S b∨(S2 b∧w.heap.size≤b)) μ (sset σ 0 o'):=by
  refine g.mx.tr id (fun k i x v h=>?_) (fun _ _ _ _ _ _ _ _ _ _ h=>h) (fun _ h=>.inl h) (fun b hb=>ext.blk b hb) (fun k i x v b _ h hb=>?_) (fun k o2 p h1 h2 h3=>?_)
  ·obtain ⟨o2,p,a1,a2,a3,a4⟩:=h
   rw [sget_sset] at a1
   by_cases hk:0=k
   ·rw [if_pos hk] at a1;cases a1
    rw [rowOf_none_var hv'] at a2;cases a2
   ·rw [if_neg hk] at a1
    refine RowV.old (w':=W4) (μ':=μ) (σ':=σ) g.rep ⟨o2,p,a1,a2,a3,a4⟩ (fun o3 b1=>by rw [a1] at b1;cases b1;exact ⟨o2,a1,a2⟩) (fun p h=>h) (fun o3 p3 b1 b2 b3=>?_)
    obtain ⟨p4,c4,T4,hm4,hr4⟩:=g.rep.ob k o3 b1
    have b2:μ k=some p3:=b2
    rw [b2] at hm4;cases hm4
    exact same _ (lt_of_blk (hr4.blk b3)) fun ⟨hc',he⟩=>g.rep.ne 0 k _ o3 pl p3 hk ho0 b1 hm0 b2 hc' b3 he
  ·obtain ⟨q1,q2,q3,_⟩:=g.mx.blk h hb
   refine ⟨same b q1 fun ⟨hc',he⟩=>g.mx.obj _ _ _ _ _ h hb 0 _ pl ho0 hm0 hc' he,?_,fun h=>h⟩
   rintro (h1 | ⟨_,h1⟩)
   ·exact q2 h1
   ·omega
  ·rw [sget_sset] at h1
   by_cases hk:0=k
   ·subst hk;exact .inl ⟨0,_,p,ho0,h2,h3,rfl⟩
   ·rw [if_neg hk] at h1;exact .inl ⟨k,o2,p,h1,h2,h3,rfl⟩
 refine ⟨ext,⟨?_,fun b hb=>.inl (g.S0 b hb),?_,?_,⟨?_,?_⟩,?_,g.mu0,hmx⟩⟩
 ·refine ⟨?_,?_,?_,?_,fun b hb hf=>?_⟩
  ·rw [ho4'.1,g3.fr.os];show W2.os=_;rw [ho.1,g1.fr.os];exact g.fr.os
  ·rw [ho4'.2.1,g3.fr.tape];show W2.tape=_;rw [ho.2.1,g1.fr.tape];exact g.fr.tape
  ·rw [ho4'.2.2,g3.fr.output];show W2.output=_;rw [ho.2.2,g1.fr.output];exact g.fr.output
  ·rw [hs4];exact Nat.le_trans g.fr.size (Nat.le_trans hsize hsize3)
  ·refine (same b (Nat.lt_of_lt_of_le hb g.fr.size) ?_).trans (g.fr.blk b hb hf)
   rintro ⟨hc,rfl⟩
   rcases g.own 0 _ pl ho0 hm0 hc with h | h
   ·exact hf h
   ·omega
 ·rintro b (hb | ⟨hb,_⟩)
  ·have:=g.S1 b hb;rw [hs4];omega
  ·rw [hs4];exact g3.S1 b hb
 ·rintro b (hb | ⟨_,hb⟩)
  ·exact g.S2 b hb
  ·exact .inr (Nat.le_trans g.fr.size hb)
 ·intro k x hx
  rw [sget_sset] at hx
  by_cases hk:0=k
  ·rw [if_pos hk] at hx
   cases hx
   subst hk
   obtain ⟨p,c,T,hm,hr⟩:=g3.rep.ob 0 o' (by rw [h2];rfl)
   have hmu:μ2 0=μ 0:=(g3.mu0 0 (by show 0 < 1;omega)).trans ((g1.mu0 0 (by show 0 < 1;omega)).trans hμ0)
   rw [hmu,hm0] at hm
   cases hm
   refine ⟨pl,c,T,hm0,⟨hr.sz,fun hc=>?_,hr.cap,hr.len,fun hc=>?_,hr.els,fun i j x v hi hx hv=>?_,fun hz=>absurd hz hsz'⟩⟩
   ·rw [ho4 _ (g.blk_ne ho0 hm0 hc hwl rfl)];exact hr.blk hc
   ·rintro (h | ⟨h,_⟩)
    ·exact nS hc h
    ·exact hr.out hc h
   ·have:=hr.rep i j x v hi hx hv
    rw [hpr'] at this ⊢
    exact this.cells_same hSS hc4
  ·rw [if_neg hk] at hx
   obtain ⟨p,c,T,hm,hr⟩:=g.rep.ob k x hx
   refine ⟨p,c,T,hm,hr.ext ext (fun hc=>same _ (lt_of_blk (hr.blk hc)) ?_) (fun hc=>?_)⟩
   ·rintro ⟨hc',he⟩
    exact g.rep.ne 0 k _ x pl p hk ho0 hx hm0 hm hc' hc he
   ·rintro (h | ⟨_,h⟩)
    ·exact hr.out hc h
    ·have:=lt_of_blk (hr.blk hc);omega
 ·intro k k' x x' p p' hne hx hx' hm hm' hc hc'
  have old:∀ k x,sget (sset σ 0 o') k=some x→∃ y,sget σ k=some y:=by
   intro k x hx
   rw [sget_sset] at hx
   by_cases hk:0=k
   ·subst hk;exact ⟨_,ho0⟩
   ·rw [if_neg hk] at hx;exact ⟨x,hx⟩
  obtain ⟨y,hy⟩:=old k x hx
  obtain ⟨y',hy'⟩:=old k' x' hx'
  exact g.rep.ne k k' y y' p p' hne hy hy' hm hm' hc hc'
 ·intro k x p hx hm hc
  rw [sget_sset] at hx
  by_cases hk:0=k
  ·subst hk;exact g.own 0 _ p ho0 hm hc
  ·rw [if_neg hk] at hx;exact g.own k x p hx hm hc
abbrev coll (D:Nat):Deferred:={ target:=.collected D,args:=#[] }
def RunsD (P:Program) (E:Env) (D:Nat) (fn:FuncId) (nt:Nat) (Post:Value→World→Prop) (k:List Item) (st:St):Prop :=
 ∀ (tm:Array Value) (w:World),tm.size=nt→Rep E st tm w→∀ (b:Frame),b.fn=fn→b.kind=.normal→∀ cs,
  ∃ v w' fr,Post v w'∧Steps P (lone (b.at ⟨tm,[coll D]⟩ k) cs w) (lone fr cs w')∧fr.fn=fn∧fr.leaving P w' (.returned v)
section
variable {P:Program} {E E9:Env} {D:Nat} {fn:FuncId} {nt:Nat} {Post:Value→World→Prop} {k k':List Item} {st st':St}
theorem RunsD.step (h:RunsD P E D fn nt Post k' st) (hs:∀ (b:Frame) (a:Act) (cs:List Frame) (w:World),step P (lone (b.at a k) cs w)=.next (lone (b.at a k') cs w)):RunsD P E D fn nt Post k st:=by
 intro tm w h1 h2 b h3 h4 cs
 obtain ⟨v,w',fr,q1,q2,q3,q4⟩:=h tm w h1 h2 b h3 h4 cs
 exact ⟨v,w',fr,q1,.head (hs b ⟨tm,[coll D]⟩ cs w) q2,q3,q4⟩
theorem RunsD.seq {x y:Code} (h:RunsD P E D fn nt Post (.code x :: .code y :: k) st):RunsD P E D fn nt Post (.code (.seq x y) :: k) st:=h.step fun _ _ _ _=>step_seq
theorem RunsD.inBlock {id:Nat} (h:RunsD P E D fn nt Post k st):RunsD P E D fn nt Post (.inBlock id :: k) st:=h.step fun _ _ _ _=>step_inBlock
theorem RunsD.rw {m:Nat} {c:Code} {orcs:List (Nat×Orc)} {F:List Nat} {tms:List (Nat×Wd)} {ods:Ods} {nk:Nat} (hE:EnvOk E m) {ps:List Prop}
  (h:evRW P nt m c orcs F tms ods nk st=some (ps,st')) (hF:(((F.isEmpty && noFrz orcs) || Nat.beq m 0) && noY orcs)=true) (hp:AllP ps) (hr:RunsD P E D fn nt Post k st'):RunsD P E D fn nt Post (.code c :: k) st:=by
 unfold evRW at h
 split at h
 ·rename_i p1 s1 h1
  split at h
  ·rename_i q1 s2 h2
   simp only [Option.some.injEq,Prod.mk.injEq] at h
   obtain ⟨rfl,rfl⟩:=h
   obtain ⟨hp1,hp2⟩:=AllP.app hp
   obtain ⟨hF,hY⟩:=Bool.and_eq_true_iff.1 hF
   have hz:noFrz orcs=true∨∀ b,¬ E.fp b:=by
    rcases Bool.or_eq_true_iff.1 hF with h | h
    ·exact .inl (Bool.and_eq_true_iff.1 h).2
    ·exact .inr (hE.fp (Nat.eq_of_beq_eq_true h))
   have hF':F.isEmpty=true∨∀ b,¬ E.fp b:=by
    rcases Bool.or_eq_true_iff.1 hF with h | h
    ·exact .inl (Bool.and_eq_true_iff.1 h).1
    ·exact .inr (hE.fp (Nat.eq_of_beq_eq_true h))
   intro tm w hs hrep b hb1 hb2 cs
   have hwp:=(wpIn_wide (n:=0)).1 (region_wpIn (rd:=none) (ds:=[coll D]) hz (noY_ys hY) h1 hp1 hs hrep)
   obtain ⟨e,a',w',⟨rfl,q1,q2,q3⟩,harr⟩:=hwp b k cs
   have ha:a'=⟨a'.tmps,[coll D]⟩:=by cases a';simp at q2;simp [q2]
   obtain ⟨v,w'',fr,r1,r2,r3,r4⟩:=hr a'.tmps w' q1 (wk_sound (by rw [hE.m0];exact h2) hp2 hF' q3) b hb1 hb2 cs
   refine ⟨v,w'',fr,r1,Steps.trans harr ?_,r3,r4⟩
   rw [ha];exact r2
  ·cases h
 ·cases h
theorem RunsD.ret {c:Code} (HB:∀ σ S μ w,Good E9 σ S μ w→Good E σ S μ w) (hmm:E.m0≤E9.m0) (hD:E9.w0.heap[D]?=some (.deferred (some []))) (hfp:¬ E9.fp D) (hDE:E.w0.heap.size≤D) (ks:List Nat) (hx:c=.ret)
  {f:Func} (hf:P.funcs[fn]?=some f) {ps:List Prop} {res:AV} {σ':Sto} (h:evRet P f st=some (ps,res)) (hσ:sdels st.sto ks=σ') (hp:AllP ps):RunsD P E9 D fn nt (SPost E σ' res) (.code c :: k) st:=by
 subst hx hσ
 intro tm w hs hr b hb1 hb2 cs
 obtain ⟨S,μ,g,hk,hm,ht⟩:=hr
 have hDw:w.heap[D]?=some (.deferred (some [])):=(g.fr.blk D (lt_of_blk hD) hfp).trans hD
 have hr':Rep E st tm (w.putObj D (.deferred none)):=⟨S,μ,(HB _ _ _ _ g).put hDw rfl rfl (.inl hDE),hk,Nat.le_trans hmm hm,fun t=>(ht t).cells_same (fun _ h=>h) (cell_aux hDw rfl rfl)⟩
 obtain ⟨v,h1,h2⟩:=ret_leaves hf h hp hr' hb1 hb2 (.code .ret :: k)
 refine ⟨v,_,_,h1.dels ks,.head step_ret (.one (step_collected (fr:={ b.at ⟨tm,[coll D]⟩ (.code .ret :: k) with mode:=.returning }) (by simp) rfl rfl (run_takeDeferred hDw))),?_,h2⟩
 exact hb1
theorem calls_of_runs {f:FuncId} {fu:Func} {c:Code} {m:Nat} {args:List AV} {σ σ':Sto} {res:AV} (hf:P.funcs[f]?=some fu) (hb:fu.body=some c) (hn:fu.ntmps=nt) (ha:Nat.ble args.length nt=true)
  {w:World} {S:Nat→Prop} {μ:Mu} {vs:Array Value} (h:Runs P (envOf w S σ μ m) f nt (SPost (envOf w S σ μ m) σ' res) [.code c] ⟨initTm args 0,σ,m⟩) (g:Good (envOf w S σ μ m) σ S μ w) (hk:∀ k,m≤k→μ k=none) (hl:RL w S μ vs args) :
  Calls P f vs w fun e w'=>∃ v S' μ',e=.returned v∧Good (envOf w S σ μ m) σ' S' μ' w'∧RepX w' S' μ' v res:=by
 simp only [Nat.ble_eq] at ha
 intro cs
 let b:Frame:={ (default:Frame) with fn:=f,kind:=.normal }
 have henter:Frame.enter P f vs .normal=b.at ⟨vs ++ Array.replicate (nt - vs.size) undef,[]⟩ [.code c]:=by
  simp [Frame.enter,Frame.at,hf,hb,hn,b]
 have hsz:=hl.1
 obtain ⟨v,w',fr,h1,h2,h3,h4⟩:=h (vs ++ Array.replicate (nt - vs.size) undef) w (by simp;omega) ⟨S,μ,g,hk,Nat.le_refl _,fun t=>by
  show RepX w S μ _ (getTm (initTm args 0) t)
  rw [initTm_get,if_pos (Nat.zero_le _),Nat.sub_zero]
  cases hx:args[t]? with
  | none=>exact .unk
  | some x =>
   have hlt:t < vs.size:=by rw [hsz];exact (List.getElem?_eq_some_iff.1 hx).1
   have hv:(vs ++ Array.replicate (nt - vs.size) undef).getD t undef=vs[t]:=by
    simp [Array.getD_eq_getD_getElem?,Array.getElem?_append_left hlt,hlt]
   rw [hv]
   exact hl.2 t x _ hx (Array.getElem?_eq_getElem hlt)⟩ b rfl rfl cs
 rw [← henter] at h2
 obtain ⟨S',μ',g',hv⟩:=h1
 exact ⟨.returned v,w',fr,⟨v,S',μ',rfl,g',hv⟩,h2,h3,h4⟩
theorem Runs.range {m m1 m9 nt1:Nat} (hE:EnvOk E m) {gop:Operand} {ps:Array Tmp} {assign body c1:Code} {orc:Orc} {avs:Nat→List AV} {σc σ':Sto} {res x:AV} {gid:FuncId} {fu:Func} {rds:List Nat} {upd:Upd}
  (hfrz:orc.frz=false) (hks:orc.ks.length=m1) (hf:P.funcs[gid]?=some fu) (hb:fu.body=some c1) (hn:fu.ntmps=nt1) (ha:∀ l,Nat.ble (avs l).length nt1=true)
  (hev:∀ l,evCallG P (fun g a s _ r s'=>g=gid∧a=avs l∧s=σc∧r=res∧s'=σ') st.nk st.sto (evOpd st.tm gop) [.atom (.func (.yield l) #[] #[])] orc=some ⟨[gid=gid∧avs l=avs l∧σc=σc∧res=res∧σ'=σ'],x,rds,upd⟩)
  (hcal:∀ (E1:Env) (l:Nat) (r:Loop),E1.m0=m1→E1.w0.heap[l]?=some (.loop r)→¬ E1.fp l→r.state=.ready→r.pending=none→r.params=ps→r.assign=assign→r.body=body→r.tmps.size=nt →
   (∀ t,RepX E1.w0 E1.S0 E1.μ0 (r.tmps.getD t undef) ((getTm st.tm t).ren (idx orc.ks)))→Runs P E1 gid nt1 (SPost E1 σ' res) [.code c1] ⟨initTm (avs l) 0,σc,m1⟩)
  (hm9:m≤m9) (h9:m9≠0) (hnk:m9≤st.nk+16)
  (hcont:∀ (E9:Env) (D:Nat),EnvOk E9 m9→(∀ σ S μ w,Good E9 σ S μ w→Good E σ S μ w)→E.m0≤E9.m0→E9.w0.heap[D]?=some (.deferred (some []))→¬ E9.fp D→E.w0.heap.size≤D→RunsD P E9 D fn nt Post k ⟨st.tm,supd st.sto upd,st.nk+16⟩) :
  Runs P E fn nt Post (.code (.rangeFunc gop ps assign body) :: k) st:=by
 intro tm w hs hr b hb1 hb2 cs
 obtain ⟨S,μ,g,hk,hm,ht⟩:=hr
 obtain ⟨e1,g1⟩:=g.aux (.deferred (some [])) rfl
 obtain ⟨e2,g2⟩:=g1.aux (.loop { state:=.ready,pending:=none,fn:=b.fn,tmps:=tm,params:=ps,assign,body,defers:=w.heap.size }) rfl
 obtain ⟨W,hW⟩:∃ W,W=(w.alloc (.deferred (some []))).alloc (.loop { state:=.ready,pending:=none,fn:=b.fn,tmps:=tm,params:=ps,assign,body,defers:=w.heap.size }):=⟨_,rfl⟩
 rw [← hW] at e2 g2
 have hent:(Instr.enterLoop b.fn tm ps assign body none).run P w=.ok (w.heap.size+1,[coll w.heap.size]) W:=by rw [hW];exact run_enterLoop_outer _ _ _ _ _
 have hL:W.heap[w.heap.size+1]?=some (.loop { state:=.ready,pending:=none,fn:=b.fn,tmps:=tm,params:=ps,assign,body,defers:=w.heap.size }):=by
  rw [hW];have:=World.alloc_heap_new (w.alloc (.deferred (some []))) (.loop { state:=.ready,pending:=none,fn:=b.fn,tmps:=tm,params:=ps,assign,body,defers:=w.heap.size });rwa [World.size_alloc] at this
 have hDf:W.heap[w.heap.size]?=some (.deferred (some [])):=by
  rw [hW];exact (heap_push_lt (by simp)).trans (World.alloc_heap_new w _)
 have hS1:∀ b,b=w.heap.size∨b=w.heap.size+1→(S b∨b=w.heap.size)∨b=(w.alloc (.deferred (some []))).heap.size:=by
  rintro b (rfl | rfl)
  ·exact .inl (.inr rfl)
  ·exact .inr (by simp)
 have htW:∀ t,RepX W (fun b=>(S b∨b=w.heap.size)∨b=(w.alloc (.deferred (some []))).heap.size) μ (tm.getD t undef) (getTm st.tm t):=fun t=>((ht t).ext e1).ext e2
 have hfv:=opd_rep (a:=⟨tm,[]⟩) htW gop
 have hev1:=hev (w.heap.size+1)
 have hqs:AllP [gid=gid∧avs (w.heap.size+1)=avs (w.heap.size+1)∧σc=σc∧res=res∧σ'=σ']:=⟨⟨rfl,rfl,rfl,rfl,rfl⟩,trivial⟩
 obtain ⟨gid',vs,hinv,hcalls⟩:=call_soundG (ob:=fun g a s _ r s'=>g=gid∧a=avs (w.heap.size+1)∧s=σc∧r=res∧s'=σ') g2 (fun j _=>hk _ (by omega)) hm hfv
  (vargs:=#[.func (.yield (w.heap.size+1)) #[] #[]]) (by
   refine ⟨rfl,fun j c v hc hv=>?_⟩
   cases j with
   | zero=>simp at hc hv;subst hc hv;exact .atom _
   | succ j=>simp at hc)
  (fun h=>by rw [hfrz] at h;cases h) (by
   rintro gid' as' bs σc' res' σ'' vs ⟨rfl,rfl,rfl,rfl,rfl⟩ g0 hn0 hall
   rw [hks] at g0 hn0 ⊢
   refine calls_of_runs hf hb hn (ha _) (hcal _ (w.heap.size+1) _ rfl hL ?_ rfl rfl rfl rfl rfl hs fun t=>?_) g0 hn0 hall
   ·exact g0.fp_ne hL rfl
   ·exact ((htW t).ren (f:=idx orc.ks) (μ':=muOf μ orc.ks) (fun a b pl ha hb=>muOf_idx a b pl ha hb)).mono (fun _ h=>.inl h) (fun _ _=>rfl) (fun _ _ h=>h)) hev1 hqs
 obtain ⟨e,w2,fr,⟨v,S2,μ2,rfl,ex,g3,hmu,hv⟩,hsteps,hfn,hleave⟩:=hcalls (({ b with roundOf:=none }:Frame).atR { tmps:=tm,defers:=[coll w.heap.size] } (.inRangeFunc (w.heap.size+1) :: k) :: cs)
 have hL2:w2.heap[w.heap.size+1]?=some (.loop { state:=.ready,pending:=none,fn:=b.fn,tmps:=tm,params:=ps,assign,body,defers:=w.heap.size }):=(ex.blk _ (hS1 _ (.inr rfl))).trans hL
 have hD2:w2.heap[w.heap.size]?=some (.deferred (some [])):=(ex.blk _ (hS1 _ (.inl rfl))).trans hDf
 obtain ⟨W3,hW3⟩:∃ W3,W3=w2.putObj (w.heap.size+1) (.loop { state:=.exhausted,pending:=none,fn:=b.fn,tmps:=tm,params:=ps,assign,body,defers:=w.heap.size }):=⟨_,rfl⟩
 have hend:(Instr.endLoop (w.heap.size+1)).run P w2=.ok none W3:=by rw [hW3];exact run_endLoop hL2 (by simp)
 have hc3:∀ a,W3.cell? a=w2.cell? a:=by rw [hW3];exact cell_aux hL2 rfl rfl
 have g4:Good E (supd st.sto upd) S2 μ2 W3:=by rw [hW3];exact g3.put hL2 rfl rfl (.inl (by have:=g.fr.size;omega))
 have hD3:W3.heap[w.heap.size]?=some (.deferred (some [])):=by rw [hW3,World.putObj_heap_other (by omega)];exact hD2
 have r9:Rep (envAt W3 S2 (supd st.sto upd) μ2 m9) ⟨st.tm,supd st.sto upd,st.nk+16⟩ tm W3 :=
  ⟨S2,μ2,g4.base m9,fun k hk'=>hmu k (.inr hk') (hk k (by have:st.nk+16≤k:=hk';omega)),hnk,fun t=>((htW t).ext ex).cells_same (fun _ h=>h) hc3⟩
 obtain ⟨v',w',fr',q1,q2,q3,q4⟩:=hcont (envAt W3 S2 (supd st.sto upd) μ2 m9) w.heap.size ⟨rfl,fun h=>absurd h h9⟩ (fun σ S μ w h=>g4.rebase (by rw [hE.m0];exact hm9) h) (by rw [hE.m0];exact hm9) hD3
  (g4.fp_ne hD3 rfl) g.fr.size tm W3 hs r9 b hb1 hb2 cs
 refine ⟨v',w',fr',q1,?_,q3,q4⟩
 have hat:∀ (a:Act) (k:List Item),b.at a k=({ b with roundOf:=none }:Frame).atR a k:=fun a k=>by simp [Frame.at,Frame.atR]
 simp only [Sem.run_bind] at hinv
 cases hd:(Deferred.ofValue ((⟨tm,[]⟩:Act).eval gop) #[.func (.yield (w.heap.size+1)) #[] #[]]).run P W with
 | halt x w'=>rw [hd] at hinv;cases hinv
 | ok d wd =>
  rw [hd] at hinv
  rw [hat]
  refine .head (stepR_rangeFunc (b:={ b with roundOf:=none }) (a:=⟨tm,[]⟩) hent (show (resolve (⟨tm,[]⟩:Act).eval (rangeCall gop (w.heap.size+1)) 0).run P W=.ok d wd by rw [← hd];simp [resolve,Act.eval]) hinv) ?_
  refine Steps.trans hsteps (.head (step_leave_returned hleave) ?_)
  rw [finish_atR_inRangeFunc]
  refine .head (stepR_endRangeFunc hend) ?_
  rw [hat] at q2
  exact q2
end
def rfA:Code→Code
 | .rangeFunc _ _ a _=>a
 | c=>c
def rfB:Code→Code
 | .rangeFunc _ _ _ b=>b
 | c=>c
section
variable {P:Program} {E E9:Env} {D:Nat} {fn:FuncId} {nt m:Nat} {Post:Value→World→Prop} {k k':List Item} {st st':St}
theorem RunsD.adm1 (h:adm1 k=some k') (hr:RunsD P E D fn nt Post k' st):RunsD P E D fn nt Post k st:=by
 unfold Ab.adm1 at h
 split at h
 ·cases h;exact hr.seq
 ·cases h;exact hr.step fun _ _ _ _=>step_block
 ·cases h;exact hr.step fun _ _ _ _=>step_loop
 ·cases h;exact hr.step fun _ _ _ _=>step_inLoop
 ·cases h;exact hr.inBlock
 ·cases h;exact hr.step fun _ _ _ _=>step_lone_go (by simp [stepG,stepG.exec,Frame.at])
 ·cases h;exact hr.step fun _ _ _ _=>step_lone_go (by simp [stepG,stepG.exec,Frame.at])
 ·cases h;exact hr.step fun _ _ _ _=>step_skip
 ·cases h;exact hr.step fun _ _ _ _=>step_label
 ·exact hr.step fun _ _ _ _=>step_exit h
 ·cases h
theorem RunsD.adm:∀ (n:Nat) {k:List Item},adm n k=some k'→RunsD P E D fn nt Post k' st→RunsD P E D fn nt Post k st
 | 0,k,h,hr=>by simp only [Ab.adm,Option.some.injEq] at h;rw [h];exact hr
 | n+1,k,h,hr=>by
  simp only [Ab.adm] at h
  split at h
  ·rename_i k1 h1
   exact RunsD.adm1 h1 (RunsD.adm n h hr)
  ·cases h
theorem RunsD.sA (n:Nat) (k':List Item) (hr:RunsD P E D fn nt Post k' st) (h:Ab.adm n k=some k':=by kernel_rfl):RunsD P E D fn nt Post k st:=RunsD.adm n h hr
theorem RunsD.sR (hE:EnvOk E m) (st':St) (c:Code) (orcs:List (Nat×Orc)) (F:List Nat) (tms:List (Nat×Wd)) (ods:Ods) (nk:Nat) (ps:List Prop) (hp:AllP ps) (hr:RunsD P E D fn nt Post k st')
  (h:evRW P nt m c orcs F tms ods nk st=some (ps,st'):=by kernel_rfl) (hF:(((F.isEmpty && noFrz orcs) || Nat.beq m 0) && noY orcs)=true:=by rfl):RunsD P E D fn nt Post (.code c :: k) st:=RunsD.rw hE h hF hp hr
theorem RunsD.sW (hE:EnvOk E m) (st':St) (F:List Nat) (tms:List (Nat×Wd)) (ods:Ods) (nk:Nat) (ps:List Prop) (hp:AllP ps) (hr:RunsD P E D fn nt Post k st')
  (h:wkSt m st F tms ods nk=some (ps,st'):=by kernel_rfl) (hF:(F.isEmpty || Nat.beq m 0)=true:=by rfl):RunsD P E D fn nt Post k st:=by
 have h':wkSt E.m0 st F tms ods nk=some (ps,st'):=by rw [hE.m0];exact h
 refine fun tm w h1 h2=>hr tm w h1 (wk_sound h' hp ?_ h2)
 rcases Bool.or_eq_true_iff.1 hF with h3 | h3
 ·exact .inl h3
 ·exact .inr (hE.fp (Nat.eq_of_beq_eq_true h3))
theorem RunsD.sT {c:Code} (HB:∀ σ S μ w,Good E9 σ S μ w→Good E σ S μ w) (hmm:E.m0≤E9.m0) (hD:E9.w0.heap[D]?=some (.deferred (some []))) (hfp:¬ E9.fp D) (hDE:E.w0.heap.size≤D)
  (f:Func) (ks:List Nat) (ps:List Prop) {res:AV} {σ':Sto} (hp:AllP ps) (hx:c=.ret:=by kernel_rfl) (hf:P.funcs[fn]?=some f:=by kernel_rfl) (h:evRet P f st=some (ps,res):=by kernel_rfl)
  (hσ:sdels st.sto ks=σ':=by rfl):RunsD P E9 D fn nt (SPost E σ' res) (.code c :: k) st:=RunsD.ret HB hmm hD hfp hDE ks hx hf h hσ hp
theorem WI.sR (hE:EnvOk E m) (st st':St) (c:Code) (orcs:List (Nat×Orc)) (F:List Nat) (tms:List (Nat×Wd)) (ods:Ods) (nk:Nat) (ps:List Prop) (hp:AllP ps)
  (h:evRW P nt m c orcs F tms ods nk st=some (ps,st'):=by kernel_rfl) (hF:(((F.isEmpty && noFrz orcs) || Nat.beq m 0) && noY orcs)=true:=by rfl):WI P E nt c st st':=WI.rw hE h hF hp
theorem WI.sS {c:Code} (x y:Code) {st1 st2:St} (h1:WI P E nt x st st1) (h2:WI P E nt y st1 st2) (hx:c=.seq x y:=by kernel_rfl):WI P E nt c st st2:=by subst hx;exact h1.seq h2
theorem WI.sB {c:Code} (id:Nat) (x:Code) {st1:St} (h1:WI P E nt x st st1) (hx:c=.block id x:=by kernel_rfl):WI P E nt c st st1:=by subst hx;exact h1.block
end
theorem roundTm_size (r:Loop) (vs:Array Value):(roundTm r vs).size=r.tmps.size:=by
 unfold roundTm
 rw [← Array.foldl_toList]
 generalize (r.params.zip vs).toList=l
 generalize r.tmps=t
 induction l generalizing t with
 | nil=>rfl
 | cons x l ih=>simp only [List.foldl_cons];rw [ih];simp
theorem round_in2 {r:Loop} {nt s p q:Nat} (hps:r.params=#[p,q]) (hsz:r.tmps.size=nt) (h1:s≠p) (h2:s≠q) (h3:p≠q) (hp:p < nt) (hq:q < nt) {E1:Env} {x y:AV} (hs:RepX E1.w0 E1.S0 E1.μ0 (r.tmps.getD s undef) (.op 0 0 0))
  {w:World} {S:Nat→Prop} {μ:Mu} {vs:Array Value} (hrl:RL w S μ vs [x,y]) (hmu:μ 0=E1.μ0 0) :
  (roundTm r vs).size=nt∧∀ t,RepX w S μ ((roundTm r vs).getD t undef) (getTm [(s,.op 0 0 0),(p,x),(q,y)] t):=by
 refine ⟨(roundTm_size r vs).trans hsz,fun t=>?_⟩
 obtain ⟨hv,hr⟩:=hrl
 obtain ⟨a,b,rfl⟩:∃ a b,vs=#[a,b]:=by
  obtain ⟨l⟩:=vs
  match l,hv with
  | [a,b],_=>exact ⟨a,b,rfl⟩
 have ra:=hr 0 x a rfl rfl
 have rb:=hr 1 y b rfl rfl
 have e:roundTm r #[a,b]=(r.tmps.setIfInBounds p a).setIfInBounds q b:=by simp [roundTm,hps]
 rw [e]
 have gd:∀ (T:Array Value) (i j:Nat) (v:Value),i < T.size→(T.setIfInBounds i v).getD j undef=if i=j then v else T.getD j undef:=by
  intro T i j v hi
  simp only [Array.getD_eq_getD_getElem?,Array.getElem?_setIfInBounds]
  split
  ·rename_i h;subst h;simp [hi]
  ·rfl
 rw [gd _ _ _ _ (by simp;omega),gd _ _ _ _ (by omega)]
 simp only [getTm]
 by_cases ht:s=t
 ·subst ht
  rw [beq_t rfl,if_neg (fun h=>h2 h.symm),if_neg (fun h=>h1 h.symm)]
  generalize r.tmps.getD s undef=v at hs
  cases hs with
  | op pl h=>exact .op pl (hmu.trans h)
 ·rw [beq_f ht]
  by_cases ht2:p=t
  ·subst ht2
   rw [beq_t rfl,if_neg (fun h=>h3 h.symm),if_pos rfl];exact ra
  ·rw [beq_f ht2]
   by_cases ht3:q=t
   ·subst ht3
    rw [beq_t rfl,if_pos rfl];exact rb
   ·rw [beq_f ht3];exact .unk
end Go.Ab
