/- Abstract values over the heap of the machine, and functions read off its code (part 2). No conditions. -/
import Derived.Test.YtdigjibahkjfdaaGreatCa
import Derived.Laws.IdiomStrings
import Derived.MapKept
import Derived.Carry
set_option linter.unusedVariables false
set_option linter.unusedSimpArgs false
namespace Go.Ab
section
variable {P:Program} {E:Env} {nk:Nat} {σ:dp} {S:Nat→Prop} {μ:Mu} {w:World}
def Qy (P:Program) (T:TypeId) (x:AV):Option AV :=
 match P.underlying T with
 | some .string=>match x with
  | .atom (.string s)=>some (.atom (.int .i64 s.size))
  | _=>none
 | some (.array n _)=>some (.atom (.int .i64 n))
 | some (.slice _)=>match x with
  | .os _ _ n=>some (.atom (.int .i64 n))
  | .sl n _=>some (.atom (.int .i64 n))
  | .nil=>some (.atom (.int .i64 0))
  | _=>none
 | _=>none
theorem WK {T:TypeId} {x:AV} {v:Value} (hx:ar w S μ v x) {r:AV} (h:Qy P T x=some r) (ty:TypeId) :
  ∃ u,(Builtin.len_ #[T] ty #[v]).run P w=.ok u w∧ar w S μ u r:=by
 unfold Qy at h
 split at h
 ·rename_i hu
  split at h
  ·cases h
   have:=db hx;subst this
   exact ⟨_,by simp [Builtin.len_,run_underlying hu,goInt],.atom _⟩
  ·cases h
 ·rename_i n e hu
  cases h
  exact ⟨_,by simp [Builtin.len_,run_underlying hu,goInt],.atom _⟩
 ·rename_i e hu
  split at h
  ·cases h
   cases hx with
   | os pl hm h1 h2 h3=>exact ⟨_,by simp [Builtin.len_,run_underlying hu,goInt],.atom _⟩
  ·cases h
   cases hx with
   | sl b off sz f h1 h2 h3 h4 h5=>exact ⟨_,by simp [Builtin.len_,run_underlying hu,goInt],.atom _⟩
  ·cases h
   cases hx
   exact ⟨_,by simp [Builtin.len_,run_underlying hu,goInt],.atom _⟩
  ·cases h
 ·cases h
def vg (σ:dp) (sz:Nat) (x:AV):Option (Nat×(Nat→List AV)×Bool×List Prop×List Nat) :=
 match x with
 | .nil=>some (0,fun _=>[],true,[],[])
 | .sl n g=>match Nat.beq (g 0).length sz with
  | true=>some (n,g,true,[∀ i,i < n→AV.ko (g i)=true],[])
  | false=>none
 | .os k off n=>match av σ k with
  | some o=>match Nat.beq o.sz sz with
   | true=>some (n,(fun i=>o.get (bT off i)),o.pr,[off+n≤o.len,∀ i,i < n→AV.ko (o.get (bT off i))=true],[k])
   | false=>none
  | none=>none
 | _=>none
theorem zT {n:Nat} {g:Nat→List AV} (h:(List.range n).all (fun i=>AV.ko (g i))=true):∀ i,i < n→AV.ko (g i)=true :=
 fun i hi=>List.all_eq_true.1 h i (nI.2 hi)
structure Src (P:Program) (w:World) (S:Nat→Prop) (μ:Mu) (sz:Nat) (v:Value) (n:Nat) (g:Nat→List AV) (pr:Bool) (news:List Value):Prop where
 len:∀ w':World,(Builtin.lenOf v).run P w'=.ok n w'
 cells:∀ w':World,w'.heap=w.heap→(Builtin.firstCells sz n v).run P w'=.ok news.toArray w'
 size:news.length=n * sz
 one:∀ u∈news,u.oneCell'=true
 tj:∀ i,i < n→(g i).length=sz
 rep:∀ i j x u,i < n→(g i)[j]?=some x→news[i * sz+j]?=some u→ar w S (if pr then fZ else μ) u x
 TR:∀ i,i < n→AV.ko (g i)=true
theorem HU {n sz q:Nat} (h:q < n * sz):q / sz < n∧q % sz < sz∧q=q / sz * sz+q % sz:=by
 have h0:0 < sz:=by
  rcases Nat.eq_zero_or_pos sz with h1 | h1
  ·subst h1;simp at h
  ·exact h1
 refine ⟨Nat.div_lt_of_lt_mul (by rw [oL];exact h),Nat.mod_lt _ h0,?_⟩
 rw [oL];exact (Nat.div_add_mod q sz).symm
theorem Src.mk' {sz n:Nat} {g:Nat→List AV} {pr:Bool} {b o len cap:Nat} (f:Nat→Nat→Value) (hl:n=len)
  (hc:∀ i j,i < n→j < sz→w.cell? ⟨b,o+i * sz+j,none⟩=some (f i j)) (h1:∀ i,i < n→AV.ko (g i)=true) (pT:∀ i,i < n→(g i).length=sz)
  (hr:∀ i j x,i < n→(g i)[j]?=some x→ar w S (if pr then fZ else μ) (f i j) x) :
  ∃ news,Src P w S μ sz (.slice (some ⟨b,o,none⟩) len cap) n g pr news:=by
 subst hl
 refine ⟨(List.range (n * sz)).map fun q=>f (q / sz) (q % sz),?_⟩
 have oa:∀ q u,((List.range (n * sz)).map fun q=>f (q / sz) (q % sz))[q]?=some u→q < n * sz∧u=f (q / sz) (q % sz):=by
  intro q u hq
  have fo:q < n * sz:=by
   have:=(dd.1 hq).1
   simpa using this
  simp [List.getElem?_range fo] at hq
  exact ⟨fo,hq.symm⟩
 refine ⟨fun w'=>by simp [Builtin.lenOf],fun w' hw=>?_,by simp,?_,pT,?_,h1⟩
 ·have sw:∀ a,w'.cell? a=w.cell? a:=fun a=>by simp [World.cell?,hw]
  refine run_firstCells_some w' sz n ⟨b,o,none⟩ n cap _ (by simp) ?_
  intro q u hq
  obtain ⟨fo,rfl⟩:=oa q u hq
  obtain ⟨h2,h3,h4⟩:=HU fo
  rw [sw,Addr.add_mid]
  have:=hc _ _ h2 h3
  rw [Nat.add_assoc,← h4] at this
  exact this
 ·intro u hu
  obtain ⟨q,hq⟩:=List.getElem?_of_mem hu
  obtain ⟨fo,rfl⟩:=oa q u hq
  obtain ⟨h2,h3,h4⟩:=HU fo
  have hx:(g (q / sz))[q % sz]?=some ((g (q / sz))[q % sz]'(by rw [pT _ h2];exact h3)):=kb _
  exact (hr _ _ _ h2 hx).IQ (EY (h1 _ h2) hx)
 ·intro i j x u hi hx hu
  obtain ⟨fo,rfl⟩:=oa _ u hu
  have hj:j < sz:=by
   have:=(dd.1 hx).1
   rwa [pT i hi] at this
  have e1:(i * sz+j) / sz=i:=by
   rw [oL,Nat.mul_add_div (by omega),Nat.div_eq_of_lt hj];omega
  have e2:(i * sz+j) % sz=j:=by
   rw [oL,Nat.mul_add_mod,Nat.mod_eq_of_lt hj]
  rw [e1,e2]
  exact hr i j x hi hx
theorem Src.empty {sz:Nat} {g:Nat→List AV} {pr:Bool} {a:Option Addr} {cap:Nat}:Src P w S μ sz (.slice a 0 cap) 0 g pr []:=by
 refine ⟨fun w'=>by simp [Builtin.lenOf],fun w' _=>?_,by simp,by simp,fun i h=>absurd h (by omega),fun i j x u h=>absurd h (by omega),fun i h=>absurd h (by omega)⟩
 cases a with
 | none=>simp [Builtin.firstCells]
 | some a=>simp [Builtin.firstCells,loadCells,loadCellsFrom]
theorem xX (g:Good E σ S μ w) {sz:Nat} {x:AV} {v:Value} (hx:ar w S μ v x) {n:Nat} {gt:Nat→List AV} {pr:Bool} {ps:List Prop} {rd:List Nat}
  (h:vg σ sz x=some (n,gt,pr,ps,rd)) (hp:aX ps):∃ news,Src P w S μ sz v n gt pr news:=by
 unfold vg at h
 split at h
 ·simp only [aD,aA] at h
  obtain ⟨rfl,rfl,rfl,rfl,rfl⟩:=h
  cases hx
  exact ⟨[],Src.empty⟩
 ·rename_i n' g'
  split at h
  ·rename_i hb
   have hb:=bp hb
   simp only [aD,aA] at h
   obtain ⟨rfl,rfl,rfl,rfl,rfl⟩:=h
   cases hx with
   | sl b off VV f h1 h2 h3 h4 h5 =>
    rcases Nat.eq_zero_or_pos n' with h0 | h0
    ·subst h0;exact ⟨[],Src.empty⟩
    ·obtain ⟨ha,_⟩:=h1 h0
     subst ha
     have hs:VV=sz:=by rw [← h2 0 h0,hb]
     subst hs
     exact Src.mk' f rfl h3 hp.1 h2 (fun i j x hi hx=>h4 i j x hi hx)
  ·cases h
 ·rename_i k off n'
  split at h
  ·rename_i o ho
   split at h
   ·rename_i hb
    have hb:=bp hb
    simp only [aD,aA] at h
    obtain ⟨rfl,hg,rfl,rfl,rfl⟩:=h
    have TJ:gt=fun i=>o.get (off+i):=by
     rw [← hg];funext i;rw [dk]
    subst TJ
    obtain ⟨hle,Hh,_⟩:=hp
    simp only [dk] at Hh
    obtain ⟨pl,c,T',hm,cD⟩:=g.rep.ob k o ho
    subst hb
    cases hx with
    | os iB fw h1 h2 h3 =>
     rename_i cap a
     rw [hm] at fw;cases fw
     rcases Nat.eq_zero_or_pos n' with h0 | h0
     ·subst h0;exact ⟨[],Src.empty⟩
     ·have ha:=h1 (by omega)
      subst ha
      refine Src.mk' (fun i j=>(c[(off+i) * o.sz+j]?).getD undef) rfl ?_ Hh (fun i hi=>cD.tj _ (by omega)) ?_
      ·intro i j hi hj
       obtain ⟨v,q1,q2⟩:=dh cD (i:=off+i) (by omega) hj
       rw [q1,cD.sz,← cb,q2];rfl
      ·intro i j x hi hx
       obtain ⟨v,q1,q2⟩:=dh cD (i:=off+i) (by omega) (by have:=(dd.1 hx).1;rwa [cD.tj _ (by omega)] at this)
       rw [q1]
       exact cD.rep _ j x v (by omega) hx q1
   ·cases h
  ·cases h
 ·cases h
def qU (P:Program) (nk:Nat) (σ:dp) (t:TypeId) (s x:AV):Option (List Prop×AV×List Nat×rU) :=
 match mj P t with
 | some e=>match ub P e,wv P e,su P e with
  | some sz,some b,some z=>match Nat.ble 1 sz && Nat.ble 1 b && Nat.beq z.cells.size sz,vg σ sz x with
   | true,some (n,g,pr,ps,rd)=>match s with
    | .nil=>some ((n * b≤140737488355328) :: ps,.os nk 0 n,rd,[(nk,some ⟨false,sz,n,pr,g⟩)])
    | .os k 0 len=>match av σ k with
     | some o=>match Nat.beq o.sz sz && !o.var with
      | true=>some ((len=o.len) :: ((len+n) * b≤140737488355328) :: ps,.os nk 0 (len+n),k :: rd,
        [(k,none),(nk,some ⟨false,sz,len+n,o.pr && pr,fun m=>if m < len then o.get m else g (m - len)⟩)])
      | false=>none
     | none=>none
    | _=>none
   | _,_=>none
  | _,_,_=>none
 | none=>none
theorem DE {t ty e:TypeId} {i:TypeInfo} (ht:P.underlying t=some (.slice e)) (hi:P.info? e=some i) {sLen sCap n:Nat} {vx:Value} {news:List Value}
  (hl:∀ w':World,(Builtin.lenOf vx).run P w'=.ok n w') (hc:∀ w':World,w'.heap=w.heap→(Builtin.firstCells i.size n vx).run P w'=.ok news.toArray w') (hle:sLen+n≤sCap) :
  (Builtin.append_ #[t,t] ty #[.slice none sLen sCap,vx]).run P w=.ok (.slice none (sLen+n) sCap) w:=by
 simp [Builtin.append_,run_underlying ht,sizeOf,typeInfo,hi,hl,hle,hc w rfl]
theorem E4 {t ty e:TypeId} {i:TypeInfo} (ht:P.underlying t=some (.slice e)) (hi:P.info? e=some i) {g sLen sCap n:Nat} {cur:Array Value} {T:TypeId} (hg:w.heap[g]?=some (.cells cur T (0,0))) {vx:Value} {news:List Value}
  (hl:∀ w':World,(Builtin.lenOf vx).run P w'=.ok n w') (hc:∀ w':World,w'.heap=w.heap→(Builtin.firstCells i.size n vx).run P w'=.ok news.toArray w') (h1:∀ u∈news,u.oneCell'=true)
  (hle:sLen+n≤sCap) (xF:sLen * i.size+news.length≤cur.size) :
  (Builtin.append_ #[t,t] ty #[.slice (some ⟨g,0,none⟩) sLen sCap,vx]).run P w =
   .ok (.slice (some ⟨g,0,none⟩) (sLen+n) sCap) (w.setRow g (cur.toList.take (sLen * i.size) ++ news ++ cur.toList.drop (sLen * i.size+news.length)).toArray):=by
 have y8:=run_storeCells_at P g (sLen * i.size) T news 0 cur w hg (by simpa using xF) h1
 simp only [Nat.add_zero] at y8
 simp [Builtin.append_,run_underlying ht,sizeOf,typeInfo,hi,hl,hle,hc w rfl,Addr.add_lit,y8]
theorem Mc {t ty e:TypeId} {i:TypeInfo} (ht:P.underlying t=some (.slice e)) (hi:P.info? e=some i) {g b sLen sCap n:Nat} {cur:Array Value} {T:TypeId} (hg:w.heap[g]?=some (.cells cur T (0,0))) {vx:Value} {news:List Value}
  (hl:∀ w':World,(Builtin.lenOf vx).run P w'=.ok n w') (hc:∀ w':World,w'.heap=w.heap→(Builtin.firstCells i.size n vx).run P w'=.ok news.toArray w') (h1:∀ u∈news,u.oneCell'=true)
  (hle:sLen+n≤sCap) (xF:b+sLen * i.size+news.length≤cur.size) :
  (Builtin.append_ #[t,t] ty #[.slice (some ⟨g,b,none⟩) sLen sCap,vx]).run P w =
   .ok (.slice (some ⟨g,b,none⟩) (sLen+n) sCap) (w.setRow g (cur.toList.take (b+sLen * i.size) ++ news ++ cur.toList.drop (b+sLen * i.size+news.length)).toArray):=by
 have y8:=run_storeCells_at P g (b+sLen * i.size) T news 0 cur w hg (by simpa using xF) h1
 simp only [Nat.add_zero] at y8
 simp [Builtin.append_,run_underlying ht,sizeOf,typeInfo,hi,hl,hle,hc w rfl,Addr.add_lit,y8]
theorem wC {t ty e:TypeId} {i:TypeInfo} {z:Value} (ht:P.underlying t=some (.slice e)) (hi:P.info? e=some i) (hz:i.zero=some z) {base:Option Addr} {sLen sCap n:Nat} {vx:Value} {olds news:List Value}
  (ho:∀ w':World,w'.heap=w.heap→(Builtin.firstCells i.size sLen (.slice base sLen sCap)).run P w'=.ok olds.toArray w')
  (hl:∀ w':World,(Builtin.lenOf vx).run P w'=.ok n w') (hc:∀ w':World,w'.heap=w.heap→(Builtin.firstCells i.size n vx).run P w'=.ok news.toArray w')
  (hg:sCap < sLen+n) (hb:1≤i.bytes) (xF:(sLen+n) * i.bytes≤140737488355328) :
  (Builtin.append_ #[t,t] ty #[.slice base sLen sCap,vx]).run P w =
   .ok (.slice (some ⟨w.heap.size,0,none⟩) (sLen+n) (grownCap w (sLen+n) sCap e))
    (w.drew.alloc (.cells (olds.toArray ++ news.toArray ++ Builtin.zeroCells z.cells (grownCap w (sLen+n) sCap e - (sLen+n))) e)):=by
 have hn:¬ (sLen+n≤sCap):=by omega
 have xT:(sLen+n) * 1≤(sLen+n) * i.bytes:=Nat.mul_le_mul_left _ hb
 have aa9:¬ (9223372036854775807 < ((sLen:Int)+(n:Int))):=by omega
 have h48:=growslice_fits hg xF
 have aba:¬ (281474976710656 < Builtin.nextslicecap (sLen+n) sCap * i.bytes):=by omega
 have e1:=hc w.drew rfl
 have e2:=ho w.drew rfl
 simp [Builtin.append_,run_underlying ht,sizeOf,typeInfo,zeroValue,hi,hz,hl,hn,aa9,aba,Question.forced,e1,e2,newRow,grownCap]
 congr 2
 apply Array.ext'
 simp
theorem E5 (w:World) (YQ vf:Nat) (e:TypeId):YQ≤grownCap w YQ vf e:=by simp [grownCap,Question.cut]
theorem Good.grow (g:Good E σ S μ w) (hk:μ nk=none) (hm:E.m0≤nk) {sz n len cap:Nat} {e:TypeId} {olds news:List Value} {rest:Array Value} {pr:Bool} {get:Nat→List AV}
  (ho:olds.length=len * sz) (hn:news.length=n * sz) (hr:rest.size=(cap - (len+n)) * sz) (hle:len+n≤cap)
  (pT:∀ i,i < len+n→(get i).length=sz)
  (xE:∀ i j x u,i < len+n→(get i)[j]?=some x→(olds ++ news)[i * sz+j]?=some u→ar w S (if pr then fZ else μ) u x) (Cj:sz≠0)
  (Tm:MX E.fp E.w0.heap.size (w.drew.alloc (.cells (olds.toArray ++ news.toArray ++ rest) e)) S (cl μ nk ⟨w.heap.size,cap,sz⟩) (sset σ nk ⟨false,sz,len+n,pr,get⟩)) :
  Ext w S μ (w.drew.alloc (.cells (olds.toArray ++ news.toArray ++ rest) e)) S (cl μ nk ⟨w.heap.size,cap,sz⟩) ∧
  Good E (sset σ nk ⟨false,sz,len+n,pr,get⟩) S (cl μ nk ⟨w.heap.size,cap,sz⟩) (w.drew.alloc (.cells (olds.toArray ++ news.toArray ++ rest) e)):=by
 have kj:(olds.toArray ++ news.toArray ++ rest).size=cap * sz:=by
  simp only [Array.size_append,List.size_toArray,ho,hn,hr]
  rw [← cb,← cb];congr 1;omega
 have ga:=g.drew.Qk (nk:=nk) hk hm (olds.toArray ++ news.toArray ++ rest) e ⟨false,sz,len+n,pr,get⟩ cap (by rw [kj];exact aR _) hle pT ?_ Cj Tm
 ·exact ⟨(Ext.drew w S μ).trans ga.1,ga.2⟩
 ·intro i j x v hi hx hv
  have hj:j < sz:=by
   have:=(dd.1 hx).1
   have e:(get i).length=sz:=pT i hi
   exact e ▸ this
  have fo:i * sz+j < (olds ++ news).length:=by
   have h1:(i+1) * sz≤(len+n) * sz:=dB _ (show i+1≤len+n from hi)
   rw [cb,cb] at h1
   simp only [mK,ho,hn]
   omega
  have oM:(olds ++ news)[i * sz+j]?=some v:=by
   rw [show olds.toArray ++ news.toArray ++ rest=(olds ++ news).toArray ++ rest by simp] at hv
   rw [Array.getElem?_append_left (by simpa using fo)] at hv
   simpa using hv
  have:=xE i j x v hi hx oM
  exact ar.mono (w:=w) (w':=w.drew) (S':=S) (fun _ h=>h) (fun _ _=>rfl) this (fun _ _ h=>h)
theorem Good.move (g:Good E σ S μ w) (hk:μ nk=none) (hm:E.m0≤nk) {k:Nat} {o:Ob} {pl:Place} (ho:av σ k=some o) (qJ:μ k=some pl) (o':Ob) {c:Array Value} {T:TypeId} (cD:gr w S μ o' pl c T)
  (ua:∀ i x,rowOf o' i=some x→rowOf o i=some x) :
  Ext w S μ w S (cl μ nk pl)∧Good E (sset (qt σ k) nk o') S (cl μ nk pl) w:=by
 have gd:=g.del k
 have G7:∀ n iB,μ n=some iB→cl μ nk pl n=some iB:=fun n iB h=>by
  unfold cl
  split
  ·rename_i rO;rw [rO,hk] at h;cases h
  ·exact h
 have ex:Ext w S μ w S (cl μ nk pl):=⟨aR _,fun _ h=>h,fun _ _=>rfl,G7⟩
 refine ⟨ex,⟨g.fr,g.S0,g.S1,g.S2,⟨?_,?_⟩,?_,?_,?_⟩⟩
 rotate_right
 ·have Tp:k≠nk:=fun h=>by rw [h,hk] at qJ;cases qJ
  have key:∀ q i x v,gR w (cl μ nk pl) (sset (qt σ k) nk o') q i x v→(q=nk∧gR w μ σ k i x v)∨(q≠nk∧q≠k∧gR w μ σ q i x v):=by
   rintro q i x v ⟨o2,qu,h1,h2,h3,h4⟩
   rw [bd] at h1
   unfold cl at h3
   by_cases hq:nk=q
   ·rw [if_pos hq] at h1;cases h1
    rw [if_pos hq.symm] at h3;cases h3
    exact .inl ⟨hq.symm,o,pl,ho,ua i x h2,qJ,h4⟩
   ·rw [if_neg hq] at h1
    rw [if_neg (fun h=>hq h.symm)] at h3
    rw [eK] at h1
    split at h1
    ·cases h1
    ·rename_i hkq
     exact .inr ⟨fun h=>hq h.symm,fun h=>hkq h.symm,o2,qu,h1,h2,h3,h4⟩
  refine g.mx.tr (fun q=>if q=nk then k else q) (fun q i x v h=>?_) (fun q i x v q' i' x' v' h h' e=>?_) (fun _ h=>h) (fun _ _=>rfl) (fun q i x v b _ h hb=>⟨rfl,(g.mx.b7 h hb).2.1,fun h=>h⟩) (fun q o2 qu h1 h2 h3=>?_)
  ·rcases key q i x v h with ⟨h1,h2⟩ | ⟨h1,_,h2⟩
   ·show gR w μ σ (if q=nk then k else q) i x v
    rw [if_pos h1];exact h2
   ·show gR w μ σ (if q=nk then k else q) i x v
    rw [if_neg h1];exact h2
  ·have e:(if q=nk then k else q)=(if q'=nk then k else q'):=e
   rcases key q i x v h with ⟨h1,_⟩ | ⟨h1,h2,_⟩<;>rcases key q' i' x' v' h' with ⟨h3,_⟩ | ⟨h3,h4,_⟩
   ·exact h1.trans h3.symm
   ·rw [if_pos h1,if_neg h3] at e;exact absurd e.symm h4
   ·rw [if_neg h1,if_pos h3] at e;exact absurd e h2
   ·rw [if_neg h1,if_neg h3] at e;exact e
  ·rw [bd] at h1
   unfold cl at h2
   by_cases hq:nk=q
   ·rw [if_pos hq.symm] at h2;cases h2
    exact .inl ⟨k,o,pl,ho,qJ,h3,rfl⟩
   ·rw [if_neg hq,eK] at h1
    rw [if_neg (fun h=>hq h.symm)] at h2
    split at h1
    ·cases h1
    ·exact .inl ⟨q,o2,qu,h1,h2,h3,rfl⟩
 ·intro q oq hq
  rw [bd] at hq
  by_cases hqn:nk=q
  ·rw [if_pos hqn] at hq;cases hq
   exact ⟨pl,c,T,by simp [cl,hqn],cD.ext ex (fun _=>rfl) cD.out⟩
  ·rw [if_neg hqn] at hq
   obtain ⟨qu,c2,T2,As,IZ⟩:=gd.rep.ob q oq hq
   exact ⟨qu,c2,T2,G7 _ _ As,IZ.ext ex (fun _=>rfl) IZ.out⟩
 ·intro q q' oq oq' A8 qu eE hq O6 Ba Cq c1 c2
  rw [bd] at hq O6
  simp only [cl] at Ba Cq
  by_cases e1:nk=q
  ·rw [if_pos e1.symm] at Ba;cases Ba
   have e2:¬ nk=q':=fun h=>eE (e1.symm.trans h)
   rw [if_neg e2] at O6;rw [if_neg (fun h=>e2 h.symm)] at Cq
   rw [eK] at O6
   split at O6
   ·cases O6
   ·rename_i e3
    exact g.rep.ne k q' o oq' pl qu e3 ho O6 qJ Cq c1 c2
  ·rw [if_neg e1] at hq;rw [if_neg (fun h=>e1 h.symm)] at Ba
   rw [eK] at hq
   split at hq
   ·cases hq
   ·rename_i e3
    by_cases e2:nk=q'
    ·rw [if_pos e2.symm] at Cq;cases Cq
     exact g.rep.ne q k oq o A8 pl (fun h=>e3 h.symm) hq ho Ba qJ c1 c2
    ·rw [if_neg e2] at O6;rw [if_neg (fun h=>e2 h.symm)] at Cq
     rw [eK] at O6
     split at O6
     ·cases O6
     ·exact g.rep.ne q q' oq oq' A8 qu eE hq O6 Ba Cq c1 c2
 ·intro q oq plq hq Ba c1
  rw [bd] at hq
  simp only [cl] at Ba
  by_cases e1:nk=q
  ·rw [if_pos e1.symm] at Ba;cases Ba;exact g.own k o _ ho qJ c1
  ·rw [if_neg e1] at hq;rw [if_neg (fun h=>e1 h.symm)] at Ba
   exact gd.own q oq plq hq Ba c1
 ·intro q hq;rw [mY _ (by omega)];exact g.A9 q hq
theorem Good.congr {dr:dp} (g:Good E σ S μ w) (h:∀ n,av dr n=av σ n):Good E dr S μ w :=
 ⟨g.fr,g.S0,g.S1,g.S2,⟨fun k o hk=>g.rep.ob k o (h k ▸ hk),fun k k' o o' pl iB eE hk ld=>g.rep.ne k k' o o' pl iB eE (h k ▸ hk) (h k' ▸ ld)⟩,
  fun k o pl hk=>g.own k o pl (h k ▸ hk),g.A9,g.mx.tr id (fun k i x v ⟨o,pl,h1,h2⟩=>⟨o,pl,h k ▸ h1,h2⟩) (fun _ _ _ _ _ _ _ _ _ _ h=>h) (fun _ h=>h) (fun _ _=>rfl)
   (fun k i x v b _ h hb=>⟨rfl,(g.mx.b7 h hb).2.1,fun h=>h⟩) (fun k o pl h1 h2 h3=>.inl ⟨k,o,pl,h k ▸ h1,h2,h3,rfl⟩)⟩
theorem HV (g:Good E σ S μ w) (hk:μ nk=none) (hm:E.m0≤nk) {t ty:TypeId} {s x:AV} {vs vx:Value} (hs:ar w S μ vs s) (hx:ar w S μ vx x) {ps:List Prop} {val:AV} {rd:List Nat} {upd:rU}
  (h:qU P nk σ t s x=some (ps,val,rd,upd)) (hp:aX ps):Step P E nk σ S μ w (Builtin.append_ #[t,t] ty #[vs,vx]) val upd:=by
 unfold qU at h
 split at h
 ·rename_i e he
  have he:=kH he
  split at h
  ·rename_i sz b z kj hb hz
   obtain ⟨ie,Cn,rfl,rfl,P3⟩:=wx kj hb hz
   split at h
   ·rename_i n gt pr Qz NB xT vj
    simp only [a9,Nat.ble_eq] at xT
    obtain ⟨⟨b1,b2⟩,b3⟩:=xT
    have b3:=bp b3
    split at h
    ·simp only [aD,aA] at h
     obtain ⟨rfl,rfl,rfl,rfl⟩:=h
     obtain ⟨p1,p2⟩:=hp
     obtain ⟨news,sr⟩:=xX (P:=P) g hx vj p2
     cases hs
     rcases Nat.eq_zero_or_pos n with h0 | h0
     ·subst h0
      have iX:=DE (P:=P) (w:=w) (ty:=ty) (sLen:=0) (sCap:=0) he Cn sr.len sr.cells (by omega)
      have ga:Good E (sset σ nk ⟨false,ie.size,0,pr,gt⟩) S (cl μ nk ⟨0,0,ie.size⟩) w:=by
       have G7:∀ k pl,μ k=some pl→cl μ nk ⟨0,0,ie.size⟩ k=some pl:=fun k pl h=>by
        unfold cl
        split
        ·rename_i rO;rw [rO,hk] at h;cases h
        ·exact h
       have ex:Ext w S μ w S (cl μ nk ⟨0,0,ie.size⟩):=⟨aR _,fun _ h=>h,fun _ _=>rfl,G7⟩
       have O0:∀ i,rowOf ⟨false,ie.size,0,pr,gt⟩ i=none:=pU fun i hi=>absurd hi (dN _)
       refine ⟨g.fr,g.S0,g.S1,g.S2,⟨?_,?_⟩,?_,?_,g.Ke hk _ _ (fun h=>absurd h (by simp)) O0 (fun _ _=>rfl) (fun _ h=>h) (fun _ h=>.inl h)⟩
       ·intro k o ho
        rw [bd] at ho
        by_cases rO:nk=k
        ·rw [if_pos rO] at ho;cases ho
         exact ⟨⟨0,0,ie.size⟩,#[],0,by simp [cl,rO],rfl,fun h=>absurd h (by simp),by simp,by simp,fun h=>absurd h (by simp),fun i h=>absurd h (by simp),fun i j x v h=>absurd h (by simp),fun h=>absurd (show ie.size=0 from h) (by omega)⟩
        ·rw [if_neg rO] at ho
         obtain ⟨pl,c,T,fw,cD⟩:=g.rep.ob k o ho
         exact ⟨pl,c,T,G7 _ _ fw,cD.ext ex (fun _=>rfl) cD.out⟩
       ·intro k k' o o' pl iB eE ho mZ Ba Cq c1 c2
        rw [bd] at ho mZ
        simp only [cl] at Ba Cq
        by_cases h1:nk=k
        ·rw [if_pos h1.symm] at Ba;cases Ba;exact absurd c1 (by simp)
        ·by_cases h2:nk=k'
         ·rw [if_pos h2.symm] at Cq;cases Cq;exact absurd c2 (by simp)
         ·rw [if_neg h1] at ho;rw [if_neg h2] at mZ
          rw [if_neg (fun h=>h1 h.symm)] at Ba;rw [if_neg (fun h=>h2 h.symm)] at Cq
          exact g.rep.ne k k' o o' pl iB eE ho mZ Ba Cq c1 c2
       ·intro k o pl ho Ba c1
        rw [bd] at ho
        simp only [cl] at Ba
        by_cases h1:nk=k
        ·rw [if_pos h1.symm] at Ba;cases Ba;exact absurd c1 (by simp)
        ·rw [if_neg h1] at ho;rw [if_neg (fun h=>h1 h.symm)] at Ba
         exact g.own k o pl ho Ba c1
       ·intro k ld
        rw [mY _ (by omega)];exact g.A9 k ld
      refine ⟨_,w,S,_,iX,⟨aR _,fun _ h=>h,fun _ _=>rfl,?_⟩,ga,fun k ld hn=>by rw [mY _ ld];exact hn,?_⟩
      ·intro k pl h
       unfold cl
       split
       ·rename_i rO;rw [rO,hk] at h;cases h
       ·exact h
      ·exact ar.os ⟨0,0,ie.size⟩ (by simp [cl]) (fun h=>absurd h (by omega)) (by omega) (by simp)
     ·have iX:=wC (P:=P) (w:=w) (ty:=ty) (base:=none) (sLen:=0) (sCap:=0) (olds:=[]) he Cn P3 (fun w' _=>by simp [Builtin.firstCells]) sr.len sr.cells (by omega) b2 (by simpa using p1)
      simp only [Nat.zero_add] at iX
      have rT:=E5 w n 0 e
      have gg:=g.grow (e:=e) hk hm (sz:=ie.size) (n:=n) (len:=0) (cap:=grownCap w n 0 e) (olds:=[]) (news:=news) (rest:=Builtin.zeroCells z.cells (grownCap w n 0 e - n)) (pr:=pr) (get:=gt)
       (by simp) sr.size (by rw [size_zeroCells,b3,Nat.zero_add]) (by omega) (fun i hi=>sr.tj i (by omega)) (fun i j x u hi hx hu=>sr.rep i j x u (by omega) hx (by simpa using hu)) (by omega)
       (g.Ke hk _ _ (fun _=>aR _) (pU fun i hi=>sr.TR i (by have hi:i < 0+n:=hi;omega)) (fun b h=>ek (w:=w.drew) h) (fun _ h=>h) (fun _ h=>.inl h))
      simp only [Nat.zero_add] at gg
      refine ⟨_,_,S,_,iX,gg.1,gg.2,fun k ld hn=>by rw [mY _ ld];exact hn,?_⟩
      exact ar.os ⟨w.heap.size,grownCap w n 0 e,ie.size⟩ (by simp [cl]) (by simp) rT (by simp)
    ·rename_i k len
     split at h
     ·rename_i o ho
      split at h
      ·rename_i J2
       simp only [a9,Bool.not_eq_true'] at J2
       obtain ⟨J2,Bh⟩:=J2
       have J2:=bp J2
       simp only [aD,aA] at h
       obtain ⟨rfl,rfl,rfl,rfl⟩:=h
       obtain ⟨p0,p1,p2⟩:=hp
       subst p0
       obtain ⟨news,sr⟩:=xX (P:=P) g hx vj p2
       obtain ⟨pl,c,T',qJ,cD⟩:=g.rep.ob k o ho
       have rO:k≠nk:=fun h=>by rw [h,hk] at qJ;cases qJ
       show Step P E nk σ S μ w _ _ [(k,none),(nk,some ⟨false,ie.size,o.len+n,o.pr && pr,fun m=>if m < o.len then o.get m else gt (m - o.len)⟩)]
       have pT:∀ i,i < o.len+n→((fun m=>if m < o.len then o.get m else gt (m - o.len)) i).length=ie.size:=by
        intro i hi
        show (if i < o.len then o.get i else gt (i - o.len)).length=_
        split
        ·rw [cD.tj i (by assumption),J2]
        ·exact sr.tj _ (by omega)
       have YR:∀ {u:Value} {x:AV},ar w S (if o.pr then fZ else μ) u x→pr=true∨pr=false→ar w S (if (o.pr && pr)=true then fZ else μ) u x:=by
        intro u x hh hp
        rcases hp with hp | hp
        ·rw [hp,Bool.and_true];exact hh
        ·rw [hp,Bool.and_false];exact hH hh
       have TS:∀ {u:Value} {x:AV},ar w S (if pr then fZ else μ) u x→ar w S (if (o.pr && pr)=true then fZ else μ) u x:=by
        intro u x hh
        cases hp:o.pr
        ·rw [Bool.false_and];exact hH hh
        ·rw [Bool.true_and];exact hh
       have prb:pr=true∨pr=false:=by cases pr<;>simp
       have ua:∀ i x,rowOf ⟨false,ie.size,o.len+n,o.pr && pr,fun m=>if m < o.len then o.get m else gt (m - o.len)⟩ i=some x→rowOf o i=some x:=by
        intro i x hx
        obtain ⟨_,q2,q3⟩:=di hx
        have q2:i < o.len+n:=q2
        have q3:(if i < o.len then o.get i else gt (i - o.len))=[.mr x.1 x.2.1 x.2.2]:=q3
        split at q3
        ·rename_i h1;exact kG Bh h1 q3
        ·have:=sr.TR (i - o.len) (by omega)
         rw [q3] at this;cases this
       cases hs with
       | os iB fw h1 h2 h3 =>
        rename_i cap a
        rw [qJ] at fw;cases fw
        by_cases Km:o.len+n≤cap
        ·rcases Nat.eq_zero_or_pos cap with tW | tW
         ·have L9:n=0:=by omega
          have Ki:o.len=0:=by omega
          subst L9
          have Kn:news=[]:=List.length_eq_zero_iff.1 (by rw [sr.size];simp)
          have iX:(Builtin.append_ #[t,t] ty #[.slice a o.len cap,vx]).run P w=.ok (.slice a (o.len+0) cap) w:=by
           subst tW
           cases a with
           | none=>exact DE (P:=P) (w:=w) (ty:=ty) he Cn sr.len sr.cells (by omega)
           | some a =>
            have e1:=sr.cells w rfl
            rw [Kn] at e1
            simp [Builtin.append_,run_underlying he,sizeOf,typeInfo,Cn,sr.len,Ki,e1,storeCells]
          have gm:=g.move hk hm ho qJ ⟨false,ie.size,o.len+0,o.pr && pr,fun m=>if m < o.len then o.get m else gt (m - o.len)⟩ (c:=c) (T:=T')
           ⟨cD.sz.trans J2,J2 ▸ cD.b7,J2 ▸ cD.cap,cD.len,cD.out,pT,fun i j x v hi=>absurd hi (by show ¬ i < o.len+0;omega),fun h=>absurd (show ie.size=0 from h) (by omega)⟩ ua
          exact ⟨_,w,S,cl μ nk pl,iX,gm.1,gm.2,fun k ld hn=>by rw [mY _ ld];exact hn,ar.os pl (by simp [cl]) h1 (by omega) h3⟩
         ·have ha:=h1 tW
          simp only [Nat.zero_mul] at ha
          subst ha
          have wo:0 < pl.cap:=by omega
          have xF:o.len * ie.size+news.length≤c.size:=by
           have e1:(o.len+n) * ie.size≤pl.cap * ie.size:=dB _ (by omega)
           have e2:=cD.cap
           rw [J2] at e2
           rw [sr.size,← cb];omega
          have iX:=E4 (P:=P) (w:=w) (ty:=ty) he Cn ((cD.b7 wo).trans (by rw [ft (by omega)])) sr.len sr.cells sr.one Km xF
          generalize jk:(c.toList.take (o.len * ie.size) ++ news ++ c.toList.drop (o.len * ie.size+news.length)).toArray=c' at iX
          have xV:(c.toList.take (o.len * ie.size)).length=o.len * ie.size:=by simp;omega
          have E3:c'.size=c.size:=by
           rw [← jk]
           simp;omega
          have oa:∀ m,m < o.len * ie.size+news.length→c'[m]?=if m < o.len * ie.size then c[m]? else news[m - o.len * ie.size]?:=by
           intro m hm
           rw [← jk]
           simp only [List.getElem?_toArray]
           rw [eH (by simp;omega)]
           by_cases h1:m < o.len * ie.size
           ·rw [eH (by omega),ke,if_pos h1,if_pos h1]
            simp
           ·rw [gF (by omega),xV,if_neg h1]
          have gw:=g.write ho qJ wo cD (by omega) ⟨false,ie.size,o.len+n,o.pr && pr,fun m=>if m < o.len then o.get m else gt (m - o.len)⟩ c' J2.symm E3 (by show o.len+n≤_;omega) pT (by
           intro i j x v hi hx hv
           have hi:i < o.len+n:=hi
           have hx:(if i < o.len then o.get i else gt (i - o.len))[j]?=some x:=hx
           have hj:j < ie.size:=by
            have e1:=(dd.1 hx).1
            have e2:(if i < o.len then o.get i else gt (i - o.len)).length=ie.size:=pT i hi
            omega
           have hv:c'[i * ie.size+j]?=some v:=hv
           have nJ:(i+1) * ie.size≤(o.len+n) * ie.size:=dB _ hi
           rw [cb,cb] at nJ
           rw [oa _ (by rw [sr.size];omega)] at hv
           by_cases G8:i < o.len
           ·have lN:(i+1) * ie.size≤o.len * ie.size:=dB _ G8
            rw [cb] at lN
            rw [if_pos (by omega)] at hv
            rw [if_pos G8] at hx
            exact YR (cD.rep i j x v G8 hx (by rw [J2];exact hv)) prb
           ·have lN:o.len * ie.size≤i * ie.size:=dB _ (by omega)
            rw [if_neg (by omega)] at hv
            rw [if_neg G8] at hx
            refine TS (sr.rep (i - o.len) j x v (by omega) hx ?_)
            rw [← hv,Nat.sub_mul];congr 1;omega) (fun i x hx=>⟨ua i x hx,by
           obtain ⟨_,q2,_⟩:=di (ua i x hx)
           have lN:(i+1) * ie.size≤o.len * ie.size:=dB _ q2
           rw [cb] at lN
           rw [J2,oa _ (by omega),if_pos (by omega)]⟩)
          obtain ⟨YS,WL⟩:=gw
          have P6:av (sset σ k ⟨false,ie.size,o.len+n,o.pr && pr,fun m=>if m < o.len then o.get m else gt (m - o.len)⟩) k=some ⟨false,ie.size,o.len+n,o.pr && pr,fun m=>if m < o.len then o.get m else gt (m - o.len)⟩:=by
           rw [bd,if_pos rfl]
          obtain ⟨pl3,c3,T3,Nu,abd⟩:=WL.rep.ob k _ P6
          rw [qJ] at Nu;cases Nu
          have gm:=WL.move hk hm P6 qJ _ abd (fun _ _ h=>h)
          refine ⟨_,_,S,cl μ nk pl,iX,YS.trans gm.1,gm.2.congr ?_,fun k ld hn=>by rw [mY _ ld];exact hn,ar.os pl (by simp [cl]) (by simp) Km h3⟩
          intro n
          show av (sset (qt σ k) nk _) n=_
          rw [bd,bd,eK,eK,bd]
          split
          ·rfl
          ·split
           ·rfl
           ·rfl
        ·have hg:cap < o.len+n:=by omega
         have holds:∃ olds:List Value,olds.length=o.len * ie.size∧(∀ w':World,w'.heap=w.heap→(Builtin.firstCells ie.size o.len (.slice a o.len cap)).run P w'=.ok olds.toArray w') ∧
           (∀ (q:Nat) (u:Value),olds[q]?=some u→c[q]?=some u):=by
          rcases Nat.eq_zero_or_pos o.len with Ki | Ki
          ·refine ⟨[],by simp [Ki],fun w' _=>?_,by simp⟩
           rw [Ki]
           cases a with
           | none=>simp [Builtin.firstCells]
           | some a=>simp [Builtin.firstCells,loadCells,loadCellsFrom]
          ·have wo:0 < pl.cap:=by have:=cD.len;omega
           have ha:=h1 (by omega)
           simp only [Nat.zero_mul] at ha
           subst ha
           have hle:o.len * ie.size≤c.size:=by
            have e1:o.len * ie.size≤pl.cap * ie.size:=dB _ cD.len
            have e2:=cD.cap
            rw [J2] at e2;omega
           refine ⟨c.toList.take (o.len * ie.size),by simp;omega,fun w' O7=>?_,?_⟩
           ·refine run_firstCells_some w' ie.size o.len _ o.len cap _ (by simp;omega) ?_
            intro q u hq
            rw [Addr.add_lit,Nat.zero_add,cell_of_row w' _ _ _ _ _ (by rw [O7];exact (cD.b7 wo).trans (by rw [ft (by omega)]))]
            rw [ke] at hq
            split at hq
            ·simpa using hq
            ·cases hq
           ·intro q u hq
            rw [ke] at hq
            split at hq
            ·simpa using hq
            ·cases hq
         obtain ⟨olds,Yh,hoc,hoo⟩:=holds
         have iX:=wC (P:=P) (w:=w) (ty:=ty) he Cn P3 hoc sr.len sr.cells hg b2 p1
         have rT:=E5 w (o.len+n) cap e
         have gd:=g.del k
         have gg:=gd.grow (e:=e) hk hm (sz:=ie.size) (n:=n) (len:=o.len) (cap:=grownCap w (o.len+n) cap e) (olds:=olds) (news:=news)
          (rest:=Builtin.zeroCells z.cells (grownCap w (o.len+n) cap e - (o.len+n))) (pr:=o.pr && pr) (get:=fun m=>if m < o.len then o.get m else gt (m - o.len))
          Yh sr.size (by rw [size_zeroCells,b3]) rT pT (by
           intro i j x u hi hx hu
           have hx:(if i < o.len then o.get i else gt (i - o.len))[j]?=some x:=hx
           have hj:j < ie.size:=by
            have e1:=(dd.1 hx).1
            have e2:(if i < o.len then o.get i else gt (i - o.len)).length=ie.size:=pT i hi
            omega
           by_cases G8:i < o.len
           ·have lN:(i+1) * ie.size≤o.len * ie.size:=dB _ G8
            rw [cb] at lN
            rw [if_pos G8] at hx
            rw [eH (by omega)] at hu
            exact YR (cD.rep i j x u G8 hx (by rw [J2];exact hoo _ _ hu)) prb
           ·have lN:o.len * ie.size≤i * ie.size:=dB _ (by omega)
            rw [if_neg G8] at hx
            rw [gF (by omega),Yh] at hu
            refine TS (sr.rep (i - o.len) j x u (by omega) hx ?_)
            rw [← hu,Nat.sub_mul];congr 1;omega) (by omega) (by
          have QA:∀ b,b < w.heap.size→(w.drew.alloc (.cells (olds.toArray ++ news.toArray ++ Builtin.zeroCells z.cells (grownCap w (o.len+n) cap e - (o.len+n))) e)).heap[b]?=w.heap[b]?:=fun b h=>ek (w:=w.drew) h
          have nH:∀ {q:Nat} {o2:Ob} {qu:Place},av σ q=some o2→μ q=some qu→0 < qu.cap→qu.b7 < w.heap.size:=fun {q o2 qu} h1 h2 h3=>by
           obtain ⟨pl3,c3,T3,Nu,LU⟩:=g.rep.ob q o2 h1
           rw [h2] at Nu;cases Nu
           exact cm (LU.b7 h3)
          refine g.mx.tr (fun q=>if q=nk then k else q) (fun q i x v h=>?_) (fun q i x v q' i' x' v' h h' he=>?_) (fun _ h=>h) (fun b hb=>QA b (g.S1 b hb)) (fun q i x v b _ h hb=>?_) (fun q o2 qu h1 h2 h3=>?_)
          ·obtain ⟨o2,qu,h1,h2,h3,h4⟩:=h
           rw [bd] at h1
           unfold cl at h3
           by_cases hq:nk=q
           ·rw [if_pos hq] at h1;cases h1
            rw [if_pos hq.symm] at h3;cases h3
            show gR w μ σ (if q=nk then k else q) i x v
            rw [if_pos hq.symm]
            have hr:=ua i x h2
            obtain ⟨_,q2,_⟩:=di hr
            refine ⟨o,pl,ho,hr,qJ,?_⟩
            have wo:0 < pl.cap:=by have:=cD.len;omega
            have lN:(i+1) * ie.size≤o.len * ie.size:=dB _ q2
            rw [cb] at lN
            have h4:(w.drew.alloc (.cells (olds.toArray ++ news.toArray ++ Builtin.zeroCells z.cells (grownCap w (o.len+n) cap e - (o.len+n))) e)).cell? ⟨w.drew.heap.size,i * ie.size,none⟩=some v:=h4
            rw [cell_of_row _ _ _ _ _ _ (heap_alloc_new w.drew _)] at h4
            rw [Array.getElem?_append_left (by simp;omega),Array.getElem?_append_left (by simp;omega)] at h4
            rw [cell_of_row w _ _ _ _ _ ((cD.b7 wo).trans (by rw [ft (by omega)])),cD.sz,J2]
            exact hoo _ _ (by simpa using h4)
           ·rw [if_neg hq,eK] at h1
            rw [if_neg (fun h=>hq h.symm)] at h3
            split at h1
            ·cases h1
            ·show gR w μ σ (if q=nk then k else q) i x v
             rw [if_neg (fun h=>hq h.symm)]
             refine ⟨o2,qu,h1,h2,h3,?_⟩
             obtain ⟨pl3,c3,T3,Nu,LU⟩:=g.rep.ob q o2 h1
             rw [h3] at Nu;cases Nu
             rw [← h4]
             exact (qS (QA _ (cm (LU.b7 (by have:=(di h2).2.1;have:=LU.len;omega)))) _).symm
          ·have he:(if q=nk then k else q)=(if q'=nk then k else q'):=he
           have DF:∀ {q i x v},gR (w.drew.alloc (.cells (olds.toArray ++ news.toArray ++ Builtin.zeroCells z.cells (grownCap w (o.len+n) cap e - (o.len+n))) e)) (cl μ nk ⟨w.heap.size,grownCap w (o.len+n) cap e,ie.size⟩) (sset (qt σ k) nk ⟨false,ie.size,o.len+n,o.pr && pr,fun m=>if m < o.len then o.get m else gt (m - o.len)⟩) q i x v→q≠nk→q≠k:=by
            rintro q i x v ⟨o2,_,h1,_⟩ hq rfl
            rw [bd,if_neg (fun h=>hq h.symm),eK,if_pos rfl] at h1
            cases h1
           by_cases h1:q=nk<;>by_cases h3:q'=nk
           ·exact h1.trans h3.symm
           ·rw [if_pos h1,if_neg h3] at he;exact absurd he.symm (DF h' h3)
           ·rw [if_neg h1,if_pos h3] at he;exact absurd he (DF h h1)
           ·rw [if_neg h1,if_neg h3] at he;exact he
          ·obtain ⟨q1,q2,q3,_⟩:=g.mx.b7 h hb
           exact ⟨QA b q1,q2,fun h=>h⟩
          ·rw [bd] at h1
           unfold cl at h2
           by_cases hq:nk=q
           ·rw [if_pos hq.symm] at h2;cases h2
            exact .inr (aR _)
           ·rw [if_neg hq,eK] at h1
            rw [if_neg (fun h=>hq h.symm)] at h2
            split at h1
            ·cases h1
            ·exact .inl ⟨q,o2,qu,h1,h2,h3,rfl⟩)
         refine ⟨_,_,S,_,iX,gg.1,gg.2,fun k ld hn=>by rw [mY _ ld];exact hn,?_⟩
         exact ar.os ⟨w.heap.size,grownCap w (o.len+n) cap e,ie.size⟩ (by simp [cl]) (by simp) rT (by simp)
      ·cases h
     ·cases h
    ·cases h
   ·cases h
  ·cases h
 ·cases h
end
end Go.Ab
namespace Go.Ab
def Md (w:World) (σ:dp) (μ:Mu) (b:Nat):Prop:=(∃ k o pl,av σ k=some o∧μ k=some pl∧0 < pl.cap∧pl.b7=b)∨∃ k i x v,gR w μ σ k i x v∧ptrTo v b
def tn (w:World) (S:Nat→Prop) (σ:dp) (μ:Mu) (m:Nat):Env:=⟨w,S,Md w σ μ,μ,m⟩
def Sound (P:Program) (f:FuncId) (args:List AV) (σ:dp) (m:Nat) (res:AV) (dr:dp):Prop :=
 ∀ (w:World) (S:Nat→Prop) (μ:Mu) (vs:Array Value),Good (tn w S σ μ m) σ S μ w→(∀ k,m≤k→μ k=none)→RL w S μ vs args →
  Calls P f vs w fun e w'=>∃ v S' cC,e=.returned v∧Good (tn w S σ μ m) dr S' cC w'∧ar w' S' cC v res
section
variable {E:Env} {nk:Nat} {σ:dp} {S:Nat→Prop} {μ:Mu} {w:World}
theorem gR.of (g:Good E σ S μ w) {k i:Nat} {o:Ob} {x:Nat×Nat×(Nat→List AV)} (ho:av σ k=some o) (hr:rowOf o i=some x) {pl:Place} (hm:μ k=some pl):∃ v,gR w μ σ k i x v:=by
 obtain ⟨h1,h2,h3⟩:=di hr
 obtain ⟨iB,c,T,fw,cD⟩:=g.rep.ob k o ho
 rw [hm] at fw;cases fw
 have hl:=cD.tj i h2
 rw [h3] at hl
 obtain ⟨v,q1,q2⟩:=dh cD (i:=i) (j:=0) h2 (by simp at hl;omega)
 exact ⟨v,o,pl,ho,hr,hm,by rw [cD.sz];simpa using q2⟩
theorem gr.QB {o:Ob} {pl:Place} {c:Array Value} {T:TypeId} {cC:Mu} (h:gr w S μ o pl c T) (hv:o.sz≠0) (hμ:∀ k p,μ k=some p→cC k=some p) (i:Nat) (cs:List AV) (hl:cs.length=o.sz)
  (hc:∀ j x v,i < o.len→cs[j]?=some x→c[i * o.sz+j]?=some v→ar w S cC v x):gr w S cC ⟨false,o.sz,o.len,false,fun m=>if m=i then cs else o.get m⟩ pl c T:=by
 refine ⟨h.sz,h.b7,h.cap,h.len,h.out,fun m hm=>?_,fun m j x v hm hx oM=>?_,fun hz=>absurd hz hv⟩
 ·show (if m=i then cs else o.get m).length=o.sz
  split
  ·exact hl
  ·exact h.tj m hm
 ·have Tr:(if m=i then cs else o.get m)[j]?=some x:=hx
  show ar w S cC v x
  by_cases xj:m=i
  ·rw [if_pos xj] at Tr
   exact hc j x v (xj ▸ hm) Tr (xj ▸ oM)
  ·rw [if_neg xj] at Tr
   exact (hH (h.rep m j x v hm Tr oM)).mono (fun _ h=>h) (fun _ _=>rfl) hμ
theorem Good.opn (g:Good E σ S μ w) (hk:μ nk=none) (oc:E.m0≤nk) {k i:Nat} {o:Ob} {x:Nat×Nat×(Nat→List AV)} (ho:av σ k=some o) (hr:rowOf o i=some x) :
  ∃ q:Place,Ext w S μ w S (cl μ nk q)∧Good E (sset (sset σ k ⟨false,o.sz,o.len,false,fun m=>if m=i then [.os nk 0 x.2.1] else o.get m⟩) nk ⟨false,x.1,x.2.1,true,x.2.2⟩) S (cl μ nk q) w:=by
 obtain ⟨Bh,hi,oa⟩:=di hr
 obtain ⟨pl,c,T,hm,cD⟩:=g.rep.ob k o ho
 have rO:k≠nk:=fun h=>by rw [h,hk] at hm;cases hm
 have kj:o.sz=1:=by have:=cD.tj i hi;rw [oa] at this;simpa using this.symm
 obtain ⟨v,hv⟩:=gR.of g ho hr hm
 obtain ⟨a,cap,rfl,h1,h2,h3⟩:=g.mx.row _ _ _ _ hv
 -- the place of the row
 have hq:∃ q:Place,q.sz=x.1∧cap=q.cap∧(0 < cap→a=some ⟨q.b7,0,none⟩)∧(0 < q.cap→0 < cap)∧(∃ c' T',gr w S fZ ⟨false,x.1,x.2.1,true,x.2.2⟩ q c' T')∧(0 < q.cap→E.fp q.b7∨E.w0.heap.size≤q.b7):=by
  rcases Nat.eq_zero_or_pos cap with hc | hc
  ·refine ⟨⟨0,0,x.1⟩,rfl,hc,fun h=>by omega,fun h=>absurd h (sH _),⟨#[],0,rfl,fun h=>absurd h (sH _),by simp,by show x.2.1≤0;omega,fun h=>absurd h (sH _),fun j hj=>absurd hj (by show ¬ j < x.2.1;omega),fun j l y u hj=>absurd hj (by show ¬ j < x.2.1;omega),fun hz=>absurd hz (by have:=h2.1;show x.1≠0;omega)⟩,fun h=>absurd h (sH _)⟩
  ·obtain ⟨b,c',T',rfl,h4,h5⟩:=h3 hc
   exact ⟨⟨b,cap,x.1⟩,rfl,rfl,fun _=>rfl,fun h=>h,⟨c',T',h4⟩,fun _=>h5⟩
 obtain ⟨q,q1,q2,q3,q4,⟨c',T',q5⟩,q6⟩:=hq
 have G7:∀ n p,μ n=some p→cl μ nk q n=some p:=fun n p h=>by
  unfold cl
  split
  ·rename_i hn;rw [hn,hk] at h;cases h
  ·exact h
 have Me:0 < q.cap→ptrTo (.slice a x.2.1 cap) q.b7:=fun h=>⟨_,_,by rw [q3 (q4 h)],q4 h⟩
 have ext:Ext w S μ w S (cl μ nk q):=⟨aR _,fun _ h=>h,fun _ _=>rfl,G7⟩
 let o':Ob:=⟨false,o.sz,o.len,false,fun m=>if m=i then [.os nk 0 x.2.1] else o.get m⟩
 let oq:Ob:=⟨false,x.1,x.2.1,true,x.2.2⟩
 have E6:∀ n y,av (sset (sset σ k o') nk oq) n=some y→(n=nk∧y=oq)∨(n≠nk∧n=k∧y=o')∨(n≠nk∧n≠k∧av σ n=some y):=by
  intro n y h
  rw [bd] at h
  by_cases hn:nk=n
  ·rw [if_pos hn] at h;cases h;exact .inl ⟨hn.symm,rfl⟩
  ·rw [if_neg hn,bd] at h
   by_cases NC:k=n
   ·rw [if_pos NC] at h;cases h;exact .inr (.inl ⟨fun h=>hn h.symm,NC.symm,rfl⟩)
   ·rw [if_neg NC] at h;exact .inr (.inr ⟨fun h=>hn h.symm,fun h=>NC h.symm,h⟩)
 have Ko:∀ n p,n≠nk→cl μ nk q n=some p→μ n=some p:=fun n p hn h=>by unfold cl at h;rw [if_neg hn] at h;exact h
 have TU:∀ p,cl μ nk q nk=some p→p=q:=fun p h=>by unfold cl at h;rw [if_pos rfl] at h;cases h;rfl
 have hold:∀ n y,av (sset (sset σ k o') nk oq) n=some y→n≠nk→∃ y',av σ n=some y':=fun n y h hn=>by
  rcases E6 n y h with ⟨h1,_⟩ | ⟨_,h1,_⟩ | ⟨_,_,h1⟩
  ·exact absurd h1 hn
  ·exact ⟨o,h1 ▸ ho⟩
  ·exact ⟨y,h1⟩
 refine ⟨q,ext,⟨g.fr,g.S0,g.S1,g.S2,⟨fun n y h=>?_,fun n n' y y' p p' eE h h' hp n5 hc jk=>?_⟩,fun n y p h hp hc=>?_,fun n hn=>?_,?_⟩⟩
 ·rcases E6 n y h with ⟨rfl,rfl⟩ | ⟨hn,rfl,rfl⟩ | ⟨hn,NC,h⟩
  ·refine ⟨q,c',T',by simp [cl],q5.sz,q5.b7,q5.cap,q5.len,q5.out,q5.tj,fun j l y u hj hy hu=>q5.rep j l y u hj hy hu,fun hz=>absurd hz (by have:=h2.1;show x.1≠0;omega)⟩
  ·refine ⟨pl,c,T,G7 _ _ hm,cD.QB (by omega) G7 i [.os nk 0 x.2.1] (by rw [kj];rfl) fun j y u _ hy hu=>?_⟩
   cases j with
   | succ j=>simp at hy
   | zero =>
    simp at hy
    subst hy
    obtain ⟨o2,p2,b1,b2,b3,b4⟩:=hv
    rw [ho] at b1;cases b1
    rw [hm] at b3;cases b3
    have sw:c[i * o.sz+0]?=some (.slice a x.2.1 cap):=by
     have:=cell_of_row w pl.b7 (i * pl.sz) _ _ _ ((cD.b7 (by have:=cD.len;omega)).trans (congrArg some (ft (by omega) c T)))
     rw [this,cD.sz] at b4
     exact b4
    rw [sw] at hu;cases hu
    exact .os q (by simp [cl]) (fun hc=>by rw [q3 hc];simp) h1 (by omega)
  ·obtain ⟨p,c2,T2,As,IZ⟩:=g.rep.ob n y h
   exact ⟨p,c2,T2,G7 _ _ As,IZ.ext ext (fun _=>rfl) IZ.out⟩
 ·by_cases hn:n=nk<;>by_cases Hj:n'=nk
  ·exact absurd (hn.trans Hj.symm) eE
  ·subst hn
   cases TU p hp
   obtain ⟨y2,G9⟩:=hold n' y' h' Hj
   exact fun e=>g.mx.obj _ _ _ _ _ hv (Me hc) n' y2 p' G9 (Ko _ _ Hj n5) jk e.symm
  ·subst Hj
   cases TU p' n5
   obtain ⟨y2,G9⟩:=hold n y h hn
   exact g.mx.obj _ _ _ _ _ hv (Me jk) n y2 p G9 (Ko _ _ hn hp) hc
  ·obtain ⟨y2,G9⟩:=hold n y h hn
   obtain ⟨y2',WM⟩:=hold n' y' h' Hj
   exact g.rep.ne n n' y2 y2' p p' eE G9 WM (Ko _ _ hn hp) (Ko _ _ Hj n5) hc jk
 ·by_cases hn:n=nk
  ·subst hn
   cases TU p hp
   exact q6 hc
  ·obtain ⟨y2,G9⟩:=hold n y h hn
   exact g.own n y2 p G9 (Ko _ _ hn hp) hc
 ·unfold cl;rw [if_neg (by omega)];exact g.A9 n hn
 ·have key:∀ n j y u,gR w (cl μ nk q) (sset (sset σ k o') nk oq) n j y u→gR w μ σ n j y u∧¬ (n=k∧j=i):=by
   rintro n j y u ⟨o2,p2,b1,b2,b3,b4⟩
   rcases E6 n o2 b1 with ⟨rfl,rfl⟩ | ⟨hn,rfl,rfl⟩ | ⟨hn,NC,h⟩
   ·rw [h2.2 j] at b2;cases b2
   ·obtain ⟨_,e2,e3⟩:=di b2
    have e3:(if j=i then [AV.os nk 0 x.2.1] else o.get j)=[.mr y.1 y.2.1 y.2.2]:=e3
    split at e3
    ·cases e3
    ·rename_i Ha
     exact ⟨⟨o,p2,ho,kG Bh e2 e3,Ko _ _ hn b3,b4⟩,fun h=>Ha h.2⟩
   ·exact ⟨⟨o2,p2,h,b2,Ko _ _ hn b3,b4⟩,fun h=>NC h.1⟩
  refine ⟨fun n j y u h=>g.mx.row _ _ _ _ (key n j y u h).1,fun n j y u b h hb n' y' p' h1 h2 h3 he=>?_,fun n j y u b n' j' y' u' h h' hb qT=>g.mx.two _ _ _ _ _ _ _ _ _ (key _ _ _ _ h).1 (key _ _ _ _ h').1 hb qT⟩
  obtain ⟨oM,eE⟩:=key n j y u h
  by_cases hn:n'=nk
  ·subst hn
   cases TU p' h2
   obtain ⟨e1,e2⟩:=g.mx.two _ _ _ _ _ _ _ _ _ oM hv hb (he ▸ Me h3)
   exact eE ⟨e1,e2⟩
  ·obtain ⟨y2,G9⟩:=hold n' y' h1 hn
   exact g.mx.obj _ _ _ _ _ oM hb n' y2 p' G9 (Ko _ _ hn h2) h3 he
theorem Good.cls (g:Good E σ S μ w) {k q i:Nat} {o oq:Ob} (ho:av σ k=some o) (WN:av σ q=some oq) (hkq:k≠q) (Bh:o.var=false) (hvq:oq.var=false) (J3:oq.pr=true) (hsq:1≤oq.sz)
  (hi:i < o.len) (oa:o.get i=[.os q 0 oq.len]) (DF:∀ j,rowOf oq j=none) :
  Good E (sset (qt σ q) k ⟨false,o.sz,o.len,false,fun m=>if m=i then [.mr oq.sz oq.len oq.get] else o.get m⟩) S μ w:=by
 obtain ⟨pl,c,T,hm,cD⟩:=g.rep.ob k o ho
 obtain ⟨pq,cq,Tq,YT,QC⟩:=g.rep.ob q oq WN
 have kj:o.sz=1:=by have:=cD.tj i hi;rw [oa] at this;simpa using this.symm
 let o':Ob:=⟨false,o.sz,o.len,false,fun m=>if m=i then [.mr oq.sz oq.len oq.get] else o.get m⟩
 have E6:∀ n y,av (sset (qt σ q) k o') n=some y→n≠q∧((n=k∧y=o')∨(n≠k∧av σ n=some y)):=by
  intro n y h
  rw [bd] at h
  by_cases hn:k=n
  ·rw [if_pos hn] at h;cases h
   exact ⟨fun h=>hkq (hn.trans h),.inl ⟨hn.symm,rfl⟩⟩
  ·rw [if_neg hn,eK] at h
   split at h
   ·cases h
   ·rename_i hq
    exact ⟨fun h=>hq h.symm,.inr ⟨fun h=>hn h.symm,h⟩⟩
 have hold:∀ n y,av (sset (qt σ q) k o') n=some y→n≠q∧∃ y',av σ n=some y':=fun n y h=>by
  obtain ⟨h0,⟨h1,_⟩ | ⟨_,h1⟩⟩:=E6 n y h
  ·exact ⟨h0,o,h1 ▸ ho⟩
  ·exact ⟨h0,y,h1⟩
 -- the cell that names the row
 have sw:∃ a cap,c[i * o.sz+0]?=some (.slice a oq.len cap)∧w.cell? ⟨pl.b7,i * pl.sz,none⟩=some (.slice a oq.len cap)∧oq.len≤cap∧cap≤pq.cap∧(0 < cap→a=some ⟨pq.b7,0,none⟩):=by
  obtain ⟨u,b1,b2⟩:=dh cD (i:=i) (j:=0) hi (by omega)
  have:=hH (cD.rep i 0 (.os q 0 oq.len) u hi (by rw [oa];rfl) b1)
  cases this with
  | os iB fw e1 e2 e3 =>
   rename_i cap a
   rw [YT] at fw;cases fw
   exact ⟨a,cap,b1,by rw [cD.sz];simpa using b2,e2,by omega,fun h=>by rw [e1 h];simp⟩
 obtain ⟨a,cap,d1,d2,d3,d4,d5⟩:=sw
 have ua:Kd E.fp E.w0.heap.size w S (.slice a oq.len cap) (oq.sz,oq.len,oq.get):=by
  refine ⟨a,cap,rfl,d3,⟨hsq,fun j=>?_⟩,fun hc=>⟨pq.b7,cq,Tq,d5 hc,⟨rfl,fun _=>?_,?_,d3,fun _=>QC.out (by omega),QC.tj,fun j l y u hj hy hu=>?_,fun hz=>absurd hz (by show oq.sz≠0;omega)⟩,g.own q oq pq WN YT (by omega)⟩⟩
  ·cases hr:rowOf ⟨false,oq.sz,oq.len,true,oq.get⟩ j with
   | none=>rfl
   | some y =>
    obtain ⟨_,r2,r3⟩:=di hr
    have:=kG hvq r2 r3
    rw [DF] at this;cases this
  ·exact QC.b7 (by omega)
  ·exact dj (dB _ d4) QC.cap
  ·have:=QC.rep j l y u hj hy hu
   rw [J3] at this
   exact this
 have key:∀ n j y u,gR w μ (sset (qt σ q) k o') n j y u→(gR w μ σ n j y u∧¬ (n=k∧j=i))∨(n=k∧j=i∧y=(oq.sz,oq.len,oq.get)∧u=.slice a oq.len cap):=by
  rintro n j y u ⟨o2,p2,b1,b2,b3,b4⟩
  obtain ⟨h0,⟨rfl,rfl⟩ | ⟨hn,h1⟩⟩:=E6 n o2 b1
  ·rw [hm] at b3;cases b3
   obtain ⟨_,e2,e3⟩:=di b2
   have e4:(if j=i then [AV.mr oq.sz oq.len oq.get] else o.get j)=[.mr y.1 y.2.1 y.2.2]:=e3
   clear e3
   by_cases Ha:j=i
   ·rw [if_pos Ha] at e4
    subst Ha
    rw [d2] at b4;cases b4
    obtain ⟨y1,y2,y3⟩:=y
    simp only [List.cons.injEq,AV.mr.injEq,and_true] at e4
    obtain ⟨rfl,rfl,rfl⟩:=e4
    exact .inr ⟨rfl,rfl,rfl,rfl⟩
   ·rw [if_neg Ha] at e4
    have e3:=e4
    exact .inl ⟨⟨o,pl,ho,kG Bh e2 e3,hm,b4⟩,fun h=>Ha h.2⟩
  ·exact .inl ⟨⟨o2,p2,h1,b2,b3,b4⟩,fun h=>hn h.1⟩
 have Me:∀ b,ptrTo (.slice a oq.len cap) b→pq.b7=b∧0 < pq.cap:=by
  rintro b ⟨l,cp,e,hc⟩
  injection e with e1 e2 e3
  subst e3
  rw [d5 hc] at e1
  injection e1 with e1
  injection e1 with e1
  exact ⟨e1,by omega⟩
 refine ⟨g.fr,g.S0,g.S1,g.S2,⟨fun n y h=>?_,fun n n' y y' p p' eE h h' hp n5 hc jk=>?_⟩,fun n y p h hp hc=>?_,g.A9,?_⟩
 ·obtain ⟨h0,⟨rfl,rfl⟩ | ⟨hn,h1⟩⟩:=E6 n y h
  ·exact ⟨pl,c,T,hm,cD.QB (by omega) (fun _ _ h=>h) i _ (by rw [kj];rfl) fun j y u _ hy hu=>by
    cases j with
    | zero=>simp at hy;subst hy;exact .mr
    | succ j=>simp at hy⟩
  ·exact g.rep.ob n y h1
 ·obtain ⟨_,y2,G9⟩:=hold n y h
  obtain ⟨_,y2',WM⟩:=hold n' y' h'
  exact g.rep.ne n n' y2 y2' p p' eE G9 WM hp n5 hc jk
 ·obtain ⟨_,y2,G9⟩:=hold n y h
  exact g.own n y2 p G9 hp hc
 ·refine ⟨fun n j y u h=>?_,fun n j y u b h hb n' y' p' h1 h2 h3 he=>?_,fun n j y u b n' j' y' u' h h' hb qT=>?_⟩
  ·rcases key n j y u h with ⟨h,_⟩ | ⟨_,_,rfl,rfl⟩
   ·exact g.mx.row _ _ _ _ h
   ·exact ua
  ·obtain ⟨hnq,y2,G9⟩:=hold n' y' h1
   rcases key n j y u h with ⟨h,_⟩ | ⟨_,_,rfl,rfl⟩
   ·exact g.mx.obj _ _ _ _ _ h hb n' y2 p' G9 h2 h3 he
   ·obtain ⟨e1,e2⟩:=Me b hb
    exact g.rep.ne n' q y2 oq p' pq hnq G9 WN h2 YT h3 e2 (he.trans e1.symm)
  ·rcases key n j y u h with ⟨h,_⟩ | ⟨n1,j1,rfl,rfl⟩<;>rcases key n' j' y' u' h' with ⟨h',_⟩ | ⟨n2,j2,rfl,rfl⟩
   ·exact g.mx.two _ _ _ _ _ _ _ _ _ h h' hb qT
   ·obtain ⟨e1,e2⟩:=Me b qT
    exact (g.mx.obj _ _ _ _ _ h hb q oq pq WN YT e2 e1).elim
   ·obtain ⟨e1,e2⟩:=Me b hb
    exact (g.mx.obj _ _ _ _ _ h' qT q oq pq WN YT e2 e1).elim
   ·exact ⟨n1.trans n2.symm,j1.trans j2.symm⟩
end
mutual
def AV.jr (f:Nat→Option Nat):AV→AV
 | .op k i j=>match f k with
  | some k'=>.op k' i j
  | none=>.mU
 | .os k off len=>match f k with
  | some k'=>.os k' off len
  | none=>.mU
 | .agg cs=>.agg (AV.uL f cs)
 | .tup cs=>.tup (AV.uL f cs)
 | .fn g a b=>.fn g (AV.uL f a) (AV.uL f b)
 | .when b x=>.when b (x.jr f)
 | .mp k=>match f k with
  | some k'=>.mp k'
  | none=>.mU
 | .bn n=>.bn n
 | .pt b cs=>.pt b cs
 | .atom v=>.atom v
 | .sl n g=>.sl n g
 | .rp c o=>.rp c o
 | .ov _ _ _ _ _=>.mU
 | .Cd _ _ _=>.mU
 | .nq st x=>.nq st (x.jr f)
 | .nil=>.nil
 | .mU=>.mU
 | .mr sz n g=>.mr sz n g
def AV.uL (f:Nat→Option Nat):List AV→List AV
 | []=>[]
 | c :: cs=>c.jr f :: AV.uL f cs
end
theorem wD (f:Nat→Option Nat) (cs:List AV):AV.uL f cs=cs.map (·.jr f):=by
 induction cs with
 | nil=>rfl
 | cons c cs ih=>simp [AV.uL,ih]
theorem ar.jr {w:World} {S:Nat→Prop} {μ:Mu} {v:Value} {x:AV} (h:ar w S μ v x) :
  ∀ {cC:Mu} {f:Nat→Option Nat},(∀ k k' pl,f k=some k'→μ k=some pl→cC k'=some pl)→ar w S cC v (x.jr f):=by
 induction h with
 | atom v=>exact fun _=>.atom v
 | agg h1 h2 ih =>
  intro cC f hf
  simp only [AV.jr,wD]
  refine .agg (by simp [h1]) fun j c v hc hv=>?_
  rw [List.getElem?_map] at hc
  simp only [aL] at hc
  obtain ⟨c0,tW,rfl⟩:=hc
  exact ih j c0 v tW hv hf
 | tup h1 h2 ih =>
  intro cC f hf
  simp only [AV.jr,wD]
  refine .tup (by simp [h1]) fun j c v hc hv=>?_
  rw [List.getElem?_map] at hc
  simp only [aL] at hc
  obtain ⟨c0,tW,rfl⟩:=hc
  exact ih j c0 v tW hv hf
 | sl b off sz f h1 h2 h3 h4 h5 _=>exact fun _=>.sl b off sz f h1 h2 h3 h4 h5
 | rp b o f h1 h2 h3 _=>exact fun _=>.rp b o f h1 h2 h3
 | @op μ k i j pl h =>
  intro cC f hf
  simp only [AV.jr]
  split
  ·rename_i k' ld;exact .op pl (hf _ _ _ ld h)
  ·exact .mU
 | @os μ k off len cap a pl h h1 h2 h3 =>
  intro cC f hf
  simp only [AV.jr]
  split
  ·rename_i k' ld;exact .os pl (hf _ _ _ ld h) h1 h2 h3
  ·exact .mU
 | fn h1 h2 _ _ JZ J0 =>
  intro cC f hf
  simp only [AV.jr,wD]
  refine .fn (by simp [h1]) (by simp [h2]) (fun j c v hc hv=>?_) (fun j c v hc hv=>?_)
  ·rw [List.getElem?_map] at hc
   simp only [aL] at hc
   obtain ⟨c0,tW,rfl⟩:=hc
   exact JZ j c0 v tW hv hf
  ·rw [List.getElem?_map] at hc
   simp only [aL] at hc
   obtain ⟨c0,tW,rfl⟩:=hc
   exact J0 j c0 v tW hv hf
 | when _ hu ih=>exact fun hf=>.when (fun hb=>ih hb hf) hu
 | @mp μ k pl h =>
  intro cC f hf
  simp only [AV.jr]
  split
  ·rename_i k' ld;exact .mp pl (hf _ _ _ ld h)
  ·exact .mU
 | bn b h=>exact fun _=>.bn b h
 | pt h1 h2 _ =>
  intro cC f hf
  exact .pt (fun hb=>by have:=h1 hb;cases this with
   | rp b o f q1 q2 q3=>exact .rp b o f q1 q2 q3) h2
 | ov=>exact fun _=>.mU
 | Cd=>exact fun _=>.mU
 | nq _ h1 h2 ih=>exact fun hf=>.nq (ih hf) h1 h2
 | nil=>exact fun _=>.nil
 | mU=>exact fun _=>.mU
 | mr=>exact fun _=>.mr
def Ob.jr (f:Nat→Option Nat) (o:Ob):Ob :=
 match o.pr with
 | true=>o
 | false=>{ o with get:=fun i=>AV.uL f (o.get i) }
theorem Ob.tp (f:Nat→Option Nat) (o:Ob):(o.jr f).sz=o.sz:=by unfold Ob.jr;split<;>rfl
theorem Ob.uk (f:Nat→Option Nat) (o:Ob):(o.jr f).len=o.len:=by unfold Ob.jr;split<;>rfl
theorem Ob.Cr (f:Nat→Option Nat) (o:Ob):(o.jr f).pr=o.pr:=by unfold Ob.jr;split<;>rfl
theorem QD {f:Nat→Option Nat} {cs:List AV} {sz n:Nat} {g:Nat→List AV} (h:AV.uL f cs=[.mr sz n g]):cs=[.mr sz n g]:=by
 cases cs with
 | nil=>cases h
 | cons c cs =>
  cases cs with
  | cons d ds=>simp [AV.uL] at h
  | nil =>
   simp only [AV.uL,List.cons.injEq,and_true] at h
   cases c with
   | op=>simp only [AV.jr] at h;split at h<;>cases h
   | os=>simp only [AV.jr] at h;split at h<;>cases h
   | mp=>simp only [AV.jr] at h;split at h<;>cases h
   | mr=>simpa [AV.jr] using h
   | _=>cases h
theorem qw (f:Nat→Option Nat) (o:Ob) (i:Nat) (x:Nat×Nat×(Nat→List AV)):rowOf (o.jr f) i=some x↔rowOf o i=some x:=by
 unfold Ob.jr
 split
 ·exact Iff.rfl
 ·constructor
  ·intro h
   obtain ⟨h1,h2,h3⟩:=di h
   exact kG h1 h2 (QD h3)
  ·intro h
   obtain ⟨h1,h2,h3⟩:=di h
   exact kG h1 h2 (by show AV.uL f (o.get i)=_;rw [h3];rfl)
theorem gr.jr {w:World} {S:Nat→Prop} {μ cC:Mu} {o:Ob} {pl:Place} {c:Array Value} {T:TypeId} (h:gr w S μ o pl c T) {f:Nat→Option Nat}
  (hf:∀ k k' pl,f k=some k'→μ k=some pl→cC k'=some pl):gr w S cC (o.jr f) pl c T:=by
 refine ⟨(Ob.tp f o).symm ▸ h.sz,(Ob.tp f o).symm ▸ h.b7,(Ob.tp f o).symm ▸ h.cap,(Ob.uk f o).symm ▸ h.len,h.out,?_,?_,fun hz=>?_⟩
 rotate_left 2
 ·rw [Ob.tp] at hz
  obtain ⟨h0,h1,h2,h3,h4⟩:=h.mp hz
  have e:o.jr f=o:=by unfold Ob.jr;rw [h3]
  rw [e];exact ⟨h0,h1,h2,h3,h4⟩
 ·intro i hi
  rw [Ob.uk] at hi
  rw [Ob.tp,← h.tj i hi]
  unfold Ob.jr
  split
  ·rfl
  ·simp [wD]
 ·intro i j x v hi hx hv
  rw [Ob.uk] at hi
  rw [Ob.tp] at hv
  rw [Ob.Cr]
  unfold Ob.jr at hx
  split at hx
  ·rename_i hp
   have:=h.rep i j x v hi hx hv
   rw [hp] at this ⊢
   exact this
  ·rename_i hp
   simp only [wD,List.getElem?_map,aL] at hx
   obtain ⟨y,hy,rfl⟩:=hx
   have:=h.rep i j y v hi hy hv
   rw [hp] at this ⊢
   exact this.jr hf
def idx:List Nat→Nat→Option Nat
 | [],_=>none
 | a :: r,k=>match Nat.beq a k with
  | true=>some 0
  | false=>(idx r k).map (·+1)
theorem m5:∀ (ks:List Nat) (k i:Nat),idx ks k=some i→ks[i]?=some k
 | [],k,i,h=>by simp [idx] at h
 | a :: r,k,i,h=>by
  simp only [idx] at h
  split at h
  ·rename_i hb
   cases h
   simp [bp hb]
  ·simp only [aL] at h
   obtain ⟨i',o8,rfl⟩:=h
   simpa using m5 r k i' o8
mutual
def AV.fW (σ:dp) (ks:List Nat):AV→Option (AV×List Nat×List Prop)
 | .op k i j=>match idx ks k with
  | some n=>some (.op n i j,[],[])
  | none=>some (.mU,[],[])
 | .os k off len=>match idx ks k with
  | some n=>some (.os n off len,[],[])
  | none=>match av σ k with
   | some o=>match o.pr with
    | true=>some (.sl len (fun i=>o.get (bT off i)),[k],[off+len≤o.len])
    | false=>none
   | none=>none
 | .agg cs=>(AV.qn σ ks cs).map fun (a,b,c)=>(.agg a,b,c)
 | .tup cs=>(AV.qn σ ks cs).map fun (a,b,c)=>(.tup a,b,c)
 | .fn g x y=>match AV.qn σ ks x,AV.qn σ ks y with
  | some (a,b,c),some (a',b',c')=>some (.fn g a a',b ++ b',c ++ c')
  | _,_=>none
 | .when _ _=>none
 | .ov _ _ _ _ _=>none
 | .Cd _ _ _=>none
 | .nq _ _=>none
 | .mp k=>(idx ks k).map fun n=>(.mp n,[],[])
 | .bn n=>some (.bn n,[],[])
 | .pt b cs=>some (.pt b cs,[],[])
 | .atom v=>some (.atom v,[],[])
 | .sl n g=>some (.sl n g,[],[])
 | .rp c o=>some (.rp c o,[],[])
 | .nil=>some (.nil,[],[])
 | .mU=>some (.mU,[],[])
 | .mr _ _ _=>none
def AV.qn (σ:dp) (ks:List Nat):List AV→Option (List AV×List Nat×List Prop)
 | []=>some ([],[],[])
 | c :: cs=>match c.fW σ ks,AV.qn σ ks cs with
  | some (a,b,p),some (a',b',p')=>some (a :: a',b ++ b',p ++ p')
  | _,_=>none
end
def kr (μ:Mu) (ks:List Nat):Mu:=fun i=>(ks[i]?).bind μ
def xY (μ:Mu) (bs:List Nat) (b:Nat):Prop:=∃ k∈bs,∃ pl,μ k=some pl∧0 < pl.cap∧pl.b7=b
theorem xZ {μ:Mu} {ks:List Nat}:∀ k i pl,idx ks k=some i→μ k=some pl→kr μ ks i=some pl:=by
 intro k i pl h hm
 simp [kr,m5 ks k i h,hm]
section
variable {P:Program} {E:Env} {nk:Nat} {σ:dp} {S:Nat→Prop} {μ:Mu} {w:World}
theorem QE (g:Good E σ S μ w) {ks:List Nat} {v:Value} {x:AV} (h:ar w S μ v x):∀ (S':Nat→Prop),(∀ b,S b→S' b)→∀ {y:AV} {bs:List Nat} {ps:List Prop},
  x.fW σ ks=some (y,bs,ps)→aX ps→(∀ b,xY μ bs b→S' b)→ar w S' (kr μ ks) v y:=by
 have lists:∀ {μ:Mu} {vs:Array Value} {cs:List AV} (S':Nat→Prop),
   (∀ (j:Nat) (c:AV) (v:Value),cs[j]?=some c→vs[j]?=some v→∀ {y:AV} {bs:List Nat} {ps:List Prop},c.fW σ ks=some (y,bs,ps)→aX ps→(∀ b,xY μ bs b→S' b)→ar w S' (kr μ ks) v y) →
   ∀ {ys:List AV} {bs:List Nat} {ps:List Prop},AV.qn σ ks cs=some (ys,bs,ps)→aX ps→(∀ b,xY μ bs b→S' b) →
   ys.length=cs.length∧∀ (j:Nat) (c:AV) (v:Value),ys[j]?=some c→vs[j]?=some v→ar w S' (kr μ ks) v c:=by
  intro μ vs cs S' h
  have gen:∀ (cs:List AV) (o:Nat),(∀ (j:Nat) (c:AV) (v:Value),cs[j]?=some c→vs[o+j]?=some v→∀ {y:AV} {bs:List Nat} {ps:List Prop},c.fW σ ks=some (y,bs,ps)→aX ps→(∀ b,xY μ bs b→S' b)→ar w S' (kr μ ks) v y) →
   ∀ {ys:List AV} {bs:List Nat} {ps:List Prop},AV.qn σ ks cs=some (ys,bs,ps)→aX ps→(∀ b,xY μ bs b→S' b) →
   ys.length=cs.length∧∀ (j:Nat) (c:AV) (v:Value),ys[j]?=some c→vs[o+j]?=some v→ar w S' (kr μ ks) v c:=by
   intro cs
   induction cs with
   | nil =>
    intro o _ ys bs ps h _ _
    simp [AV.qn] at h
    obtain ⟨rfl,rfl,rfl⟩:=h
    exact ⟨rfl,fun j c v hc=>by simp at hc⟩
   | cons c cs ih =>
    intro o hh ys bs ps h hp hb
    simp only [AV.qn] at h
    split at h
    ·rename_i a b p a' b' p' h1 h2
     simp only [aD,aA] at h
     obtain ⟨rfl,rfl,rfl⟩:=h
     obtain ⟨tX,vk⟩:=aX.app hp
     have YU:=ih (o+1) (fun j c v hc hv=>hh (j+1) c v (by simpa using hc) (by rw [← hv];congr 1;omega)) h2 vk (fun q hq=>hb q (by obtain ⟨k,hk,r⟩:=hq;exact ⟨k,by simp [hk],r⟩))
     refine ⟨by simp [YU.1],?_⟩
     intro j c' v hc hv
     cases j with
     | zero =>
      simp at hc;subst hc
      exact hh 0 c v (by simp) hv h1 tX (fun q hq=>hb q (by obtain ⟨k,hk,r⟩:=hq;exact ⟨k,by simp [hk],r⟩))
     | succ j=>exact YU.2 j c' v (by simpa using hc) (by rw [← hv];congr 1;omega)
    ·cases h
  intro ys bs ps h1 h2 h3
  have:=gen cs 0 (fun j c v hc hv=>h j c v hc (by simpa using hv)) h1 h2 h3
  exact ⟨this.1,fun j c v hc hv=>this.2 j c v hc (by simpa using hv)⟩
 intro S' hS
 have h0:=h
 clear h
 have key:∀ {DG:Mu} {v:Value} {x:AV},ar w S DG v x→DG=μ→∀ {y:AV} {bs:List Nat} {ps:List Prop},x.fW σ ks=some (y,bs,ps)→aX ps→(∀ b,xY μ bs b→S' b)→ar w S' (kr μ ks) v y:=by
  intro DG v x h
  induction h with
  | atom v=>intro _ y bs ps h _ _;simp [AV.fW] at h;obtain ⟨rfl,_,_⟩:=h;exact .atom v
  | agg h1 h2 ih =>
   intro e y bs ps h hp hb
   subst e
   simp only [AV.fW,aL] at h
   obtain ⟨⟨a,b,c⟩,h,e⟩:=h
   simp only [aA] at e
   obtain ⟨rfl,rfl,rfl⟩:=e
   obtain ⟨q1,q2⟩:=lists S' (fun j c v hc hv=>ih j c v hc hv rfl) h hp hb
   exact .agg (h1.trans q1.symm) q2
  | tup h1 h2 ih =>
   intro e y bs ps h hp hb
   subst e
   simp only [AV.fW,aL] at h
   obtain ⟨⟨a,b,c⟩,h,e⟩:=h
   simp only [aA] at e
   obtain ⟨rfl,rfl,rfl⟩:=e
   obtain ⟨q1,q2⟩:=lists S' (fun j c v hc hv=>ih j c v hc hv rfl) h hp hb
   exact .tup (h1.trans q1.symm) q2
  | @sl DG a len cap get b off sz f h1 h2 h3 h4 h5 _ =>
   intro _ y bs ps h _ _
   simp [AV.fW] at h;obtain ⟨rfl,_,_⟩:=h
   have:=(ar.sl (μ:=kr μ ks) b off sz f h1 h2 h3 h4 h5)
   exact this.mono hS (fun _ _=>rfl) (fun _ _ h=>h)
  | @rp DG cs off b o f h1 h2 h3 _ =>
   intro _ y bs ps h _ _
   simp [AV.fW] at h;obtain ⟨rfl,_,_⟩:=h
   have:=(ar.rp (μ:=kr μ ks) (off:=off) b o f h1 h2 h3)
   exact this.mono hS (fun _ _=>rfl) (fun _ _ h=>h)
  | @op DG k i j pl hm =>
   intro e y bs ps h _ _
   subst e
   simp only [AV.fW] at h
   split at h
   ·rename_i n hn
    simp at h;obtain ⟨rfl,_,_⟩:=h
    exact .op pl (xZ _ _ _ hn hm)
   ·simp at h;obtain ⟨rfl,_,_⟩:=h
    exact .mU
  | @os DG k off len cap a pl hm h1 h2 h3 =>
   intro e y bs ps h hp hb
   subst e
   simp only [AV.fW] at h
   split at h
   ·rename_i n hn
    simp at h;obtain ⟨rfl,_,_⟩:=h
    exact .os pl (xZ _ _ _ hn hm) h1 h2 h3
   ·split at h
    ·rename_i o ho
     split at h
     ·rename_i DD
      simp only [aD,aA] at h
      obtain ⟨hy,rfl,rfl⟩:=h
      have hle:=hp.1
      obtain ⟨iB,c,T,fw,cD⟩:=g.rep.ob k o ho
      rw [hm] at fw;cases fw
      have TJ:y=.sl len fun i=>o.get (off+i):=by
       rw [← hy]
       simp only [dk]
      rw [TJ]
      refine .sl pl.b7 (off * pl.sz) o.sz (fun i j=>(c[(off+i) * o.sz+j]?).getD undef) ?_ (fun i hi=>cD.tj _ (by omega)) ?_ ?_ h2
      ·intro hl
       exact ⟨h1 (by omega),hb _ ⟨k,by simp,pl,hm,by omega,rfl⟩⟩
      ·intro i j hi hj
       obtain ⟨v,q1,q2⟩:=dh cD (i:=off+i) (by omega) hj
       rw [q1,cD.sz,← cb,q2];rfl
      ·intro i j c' hi jk
       obtain ⟨v,q1,q2⟩:=dh cD (i:=off+i) (by omega) (by have:=(dd.1 jk).1;rwa [cD.tj _ (by omega)] at this)
       rw [q1]
       have:=cD.rep _ j c' v (by omega) jk q1
       rw [DD] at this
       exact ar.mono (S:=S) (S':=S') hS (fun _ _=>rfl) this (fun _ _ h=>h)
     ·cases h
    ·cases h
  | fn h1 h2 _ _ JZ J0 =>
   intro e y bs ps h hp hb
   subst e
   simp only [AV.fW] at h
   split at h
   ·rename_i a b c a' b' c' e1 e2
    simp only [aD,aA] at h
    obtain ⟨rfl,rfl,rfl⟩:=h
    obtain ⟨tX,vk⟩:=aX.app hp
    obtain ⟨q1,q2⟩:=lists S' (fun j c v hc hv=>JZ j c v hc hv rfl) e1 tX (fun q hq=>hb q (by obtain ⟨k,hk,r⟩:=hq;exact ⟨k,by simp [hk],r⟩))
    obtain ⟨r1,r2⟩:=lists S' (fun j c v hc hv=>J0 j c v hc hv rfl) e2 vk (fun q hq=>hb q (by obtain ⟨k,hk,r⟩:=hq;exact ⟨k,by simp [hk],r⟩))
    exact .fn (h1.trans q1.symm) (h2.trans r1.symm) q2 r2
   ·cases h
  | when=>intro _ y bs ps h;simp [AV.fW] at h
  | ov=>intro _ y bs ps h;simp [AV.fW] at h
  | Cd=>intro _ y bs ps h;simp [AV.fW] at h
  | nq=>intro _ y bs ps h;simp [AV.fW] at h
  | @mp DG k pl hm =>
   intro e y bs ps h _ _
   subst e
   simp only [AV.fW,aL,aA] at h
   obtain ⟨n,hn,rfl,_,_⟩:=h
   exact .mp pl (xZ _ _ _ hn hm)
  | bn b hb=>intro _ y bs ps h _ _;simp [AV.fW] at h;obtain ⟨rfl,_,_⟩:=h;exact .bn b hb
  | pt h1 h2 _ =>
   intro _ y bs ps h _ _
   simp [AV.fW] at h;obtain ⟨rfl,_,_⟩:=h
   refine .pt (fun hb=>?_) h2
   have:=h1 hb
   cases this with
   | rp b o f q1 q2 q3 =>
    have:=(ar.rp (μ:=kr μ ks) (off:=0) b o f q1 q2 q3)
    exact this.mono hS (fun _ _=>rfl) (fun _ _ h=>h)
  | nil=>intro _ y bs ps h _ _;simp [AV.fW] at h;obtain ⟨rfl,_,_⟩:=h;exact .nil
  | mU=>intro _ y bs ps h _ _;simp [AV.fW] at h;obtain ⟨rfl,_,_⟩:=h;exact .mU
  | mr=>intro _ y bs ps h;simp [AV.fW] at h
 intro y bs ps h1 h2 h3
 exact key h0 rfl h1 h2 h3
end
end Go.Ab
namespace Go.Ab
structure YC where
 l:Nat
 as:List AV
 k:Nat
 o:Ob
 o':Ob
structure lW where
 ks:List Nat
 same:Bool
 res:AV
 jf:dp
 dec:Nat
 wE:Bool
 y:Option YC
def abf:Option lW→Option YC
 | none=>none
 | some o=>o.y
def abg:Option lW→Nat
 | none=>0
 | some o=>o.dec
def abh:Option lW→AV
 | none=>.mU
 | some o=>o.res
structure R where
 Hb:List Prop
 val:AV
 rds:List Nat
 upd:rU
def Kp (P:Program) (g:FuncId):Bool :=
 match P.funcs[g]? with
 | some fn=>fn.body.isSome && !(fn.name == "runtime.NumGoroutine")
 | none=>false
def canon (σ:dp) (ks:List Nat):Nat→List Nat→Option dp
 | _,[]=>some []
 | i,k :: r=>match av σ k,canon σ ks (i+1) r with
  | some o,some t=>some ((i,o.jr (idx ks)) :: t)
  | _,_=>none
def back (ks:List Nat) (nk n:Nat):Option Nat :=
 match ks[n]? with
 | some k=>some k
 | none=>match Nat.blt n (ks.length+16) with
  | true=>some (nk+(n - ks.length))
  | false=>none
def x5 (ks:List Nat) (nk:Nat) (dr:dp):Nat→List Nat→rU
 | _,[]=>[]
 | i,k :: r=>(k,(av dr i).map (Ob.jr (back ks nk))) :: x5 ks nk dr (i+1) r
def Ay (ks:List Nat) (nk:Nat):dp→rU
 | []=>[]
 | (n,o) :: r=>match Nat.ble ks.length n with
  | true=>(nk+(n - ks.length),some (o.jr (back ks nk))) :: Ay ks nk r
  | false=>Ay ks nk r
def mD:List Nat→Bool
 | []=>true
 | k :: r=>(idx r k).isNone && mD r
def E7 (n:Nat):dp→Bool
 | []=>true
 | (k,_) :: r=>Nat.blt k n && E7 n r
def Ob.flat (o:Ob):Bool:=o.var && Nat.beq o.len 1 && Nat.ble 1 o.sz && AV.xQ (o.get 0)
mutual
def AV.J4:AV→Bool
 | .atom _ | .op _ _ _ | .os _ _ _ | .mp _ | .bn _ | .nil=>true
 | .agg cs | .tup cs=>AV.O8 cs
 | .fn _ a b=>AV.O8 a && AV.O8 b
 | _=>false
def AV.O8:List AV→Bool
 | []=>true
 | c :: cs=>c.J4 && AV.O8 cs
end
theorem Bi {cs:List AV} (h:AV.O8 cs=true) {j:Nat} {c:AV} (hc:cs[j]?=some c):c.J4=true:=by
 induction cs generalizing j with
 | nil=>simp at hc
 | cons x xs ih =>
  simp only [AV.O8,a9] at h
  cases j with
  | zero=>simp at hc;exact hc ▸ h.1
  | succ j=>exact ih h.2 (by simpa using hc)
theorem ar.J4 {w:World} {S:Nat→Prop} {μ:Mu} {v:Value} {x:AV} (h:ar w S μ v x):x.J4=true→∀ w' S',ar w' S' μ v x:=by
 induction h with
 | atom v=>exact fun _ _ _=>.atom v
 | agg h1 _ ih=>exact fun hp w' S'=>.agg h1 fun j c v hc hv=>ih j c v hc hv (Bi (by simpa [AV.J4] using hp) hc) w' S'
 | tup h1 _ ih=>exact fun hp w' S'=>.tup h1 fun j c v hc hv=>ih j c v hc hv (Bi (by simpa [AV.J4] using hp) hc) w' S'
 | op pl h=>exact fun _ _ _=>.op pl h
 | os pl h h1 h2 h3=>exact fun _ _ _=>.os pl h h1 h2 h3
 | fn h1 h2 _ _ JZ J0 =>
  intro hp w' S'
  simp only [AV.J4,a9] at hp
  exact .fn h1 h2 (fun j c v hc hv=>JZ j c v hc hv (Bi hp.1 hc) w' S') (fun j c v hc hv=>J0 j c v hc hv (Bi hp.2 hc) w' S')
 | mp pl h=>exact fun _ _ _=>.mp pl h
 | bn b h=>exact fun _ _ _=>.bn b h
 | nil=>exact fun _ _ _=>.nil
 | sl=>exact fun hp=>by simp [AV.J4] at hp
 | rp=>exact fun hp=>by simp [AV.J4] at hp
 | when=>exact fun hp=>by simp [AV.J4] at hp
 | pt=>exact fun hp=>by simp [AV.J4] at hp
 | ov=>exact fun hp=>by simp [AV.J4] at hp
 | Cd=>exact fun hp=>by simp [AV.J4] at hp
 | nq=>exact fun hp=>by simp [AV.J4] at hp
 | mU=>exact fun hp=>by simp [AV.J4] at hp
 | mr=>exact fun hp=>by simp [AV.J4] at hp
def um (o:Ob):Option (List Prop) :=
 match o.flat with
 | true=>some []
 | false=>match o.pr && Nat.ble 1 o.sz with
  | true=>some [∀ i,i < o.len→AV.xQ (o.get i)=true]
  | false=>none
def Bj (lone:Bool):dp→Option (List Prop)
 | []=>some []
 | (_,o) :: r=>match lone with
  | true=>some []
  | false=>match um o,Bj lone r with
   | some p,some q=>some (p ++ q)
   | _,_=>none
mutual
def AV.closed (f:Nat→Option Nat):AV→Bool
 | .op k _ _=>(f k).isSome
 | .os k _ _=>(f k).isSome
 | .mp k=>(f k).isSome
 | .ov _ _ _ _ _ | .Cd _ _ _ | .mr _ _ _=>false
 | .agg cs | .tup cs=>AV.wF f cs
 | .fn _ a b=>AV.wF f a && AV.wF f b
 | .when _ x=>x.closed f
 | .nq _ x=>x.closed f
 | _=>true
def AV.wF (f:Nat→Option Nat):List AV→Bool
 | []=>true
 | c :: cs=>c.closed f && AV.wF f cs
end
def Ob.closed (f:Nat→Option Nat) (o:Ob):Bool:=o.pr || (o.var && Nat.beq o.len 1 && AV.wF f (o.get 0))
def E8:List AV→Bool
 | [.mr _ _ _]=>true
 | _=>false
theorem Cs {f:Nat→Option Nat} {l:List AV} (h:E8 l=true):AV.uL f l=l:=by
 unfold E8 at h
 split at h
 ·rfl
 ·cases h
def Ct (ks:List Nat) (lone:Bool) (o:Ob):Option (List Prop) :=
 match o.flat || (lone && o.closed (idx ks)) with
 | true=>some []
 | false=>match o.pr with
  | true=>um o
  | false=>match lone && !o.var with
   | true=>some [∀ i,i < o.len→E8 (o.get i)=true]
   | false=>none
def x6 (σ:dp) (ks:List Nat) (lone:Bool):List Nat→Option (List Prop)
 | []=>some []
 | k :: r=>match av σ k with
  | some o=>match Ct ks lone o,x6 σ ks lone r with
   | some p,some q=>some (p ++ q)
   | _,_=>none
  | none=>none
mutual
theorem Fa {f g:Nat→Option Nat} (P7:∀ k i,f k=some i→g i=some k):∀ (x:AV),x.closed f=true→(x.jr f).jr g=x
 | .op k i j,h=>by
  obtain ⟨n,hn⟩:=Option.isSome_iff_exists.1 (by simpa [AV.closed] using h)
  simp [AV.jr,hn,P7 k n hn]
 | .os k i j,h=>by
  obtain ⟨n,hn⟩:=Option.isSome_iff_exists.1 (by simpa [AV.closed] using h)
  simp [AV.jr,hn,P7 k n hn]
 | .agg cs,h=>by simp only [AV.jr];rw [s6 P7 cs (by simpa [AV.closed] using h)]
 | .tup cs,h=>by simp only [AV.jr];rw [s6 P7 cs (by simpa [AV.closed] using h)]
 | .fn q a b,h=>by
  simp only [AV.closed,a9] at h
  simp only [AV.jr];rw [s6 P7 a h.1,s6 P7 b h.2]
 | .when b x,h=>by simp only [AV.jr];rw [Fa P7 x (by simpa [AV.closed] using h)]
 | .nq b x,h=>by simp only [AV.jr];rw [Fa P7 x (by simpa [AV.closed] using h)]
 | .mp k,h=>by
  obtain ⟨n,hn⟩:=Option.isSome_iff_exists.1 (by simpa [AV.closed] using h)
  simp [AV.jr,hn,P7 k n hn]
 | .ov _ _ _ _ _,h=>by simp [AV.closed] at h
 | .Cd _ _ _,h=>by simp [AV.closed] at h
 | .mr _ _ _,h=>by simp [AV.closed] at h
 | .bn _,_=>rfl
 | .pt _ _,_=>rfl
 | .atom _,_=>rfl
 | .sl _ _,_=>rfl
 | .rp _ _,_=>rfl
 | .nil,_=>rfl
 | .mU,_=>rfl
theorem s6 {f g:Nat→Option Nat} (P7:∀ k i,f k=some i→g i=some k):∀ (cs:List AV),AV.wF f cs=true→AV.uL g (AV.uL f cs)=cs
 | [],_=>rfl
 | c :: cs,h=>by
  simp only [AV.wF,a9] at h
  simp only [AV.uL]
  rw [Fa P7 c h.1,s6 P7 cs h.2]
end
theorem Fb:∀ (ks:List Nat),mD ks=true→∀ (i j k:Nat),ks[i]?=some k→ks[j]?=some k→i=j
 | [],_,i,j,k,h,_=>by simp at h
 | a :: r,h,i,j,k,hi,hj=>by
  simp only [mD,a9] at h
  have none:∀ n:Nat,r[n]?=some a→False:=by
   intro n hn
   have:∀ (l:List Nat) (n:Nat),l[n]?=some a→(idx l a).isSome=true:=by
    intro l
    induction l with
    | nil=>intro n hn;simp at hn
    | cons b l ih =>
     intro n hn
     simp only [idx]
     cases hb:Nat.beq b a with
     | true=>rfl
     | false =>
      cases n with
      | zero=>simp at hn;rw [hn] at hb;simp at hb
      | succ n=>simpa using ih n (by simpa using hn)
   have:=this r n hn
   rw [Option.isNone_iff_eq_none] at h
   rw [h.1] at this
   cases this
  cases i with
  | zero =>
   simp at hi;subst hi
   cases j with
   | zero=>rfl
   | succ j=>exact (none j (by simpa using hj)).elim
  | succ i =>
   cases j with
   | zero=>simp at hj;subst hj;exact (none i (by simpa using hi)).elim
   | succ j=>rw [Fb r h.2 i j k (by simpa using hi) (by simpa using hj)]
theorem md:∀ (ks:List Nat) (k:Nat),idx ks k=none→∀ i:Nat,ks[i]?≠some k
 | [],k,_,i=>by simp
 | a :: r,k,h,i=>by
  simp only [idx] at h
  split at h
  ·cases h
  ·rename_i hb
   have h':idx r k=none:=by simpa using h
   cases i with
   | zero=>intro e;simp at e;rw [e] at hb;simp at hb
   | succ i=>simpa using md r k h' i
theorem HW {σ:dp} {ks:List Nat}:∀ (l:List Nat) (i:Nat) (rP:dp),canon σ ks i l=some rP →
  ∀ n,av rP n=if i≤n then ((l[n - i]?).bind (av σ)).map (Ob.jr (idx ks)) else none
 | [],i,rP,h,n=>by simp [canon] at h;subst h;simp [av]
 | k :: r,i,rP,h,n=>by
  simp only [canon] at h
  split at h
  ·rename_i o t ho ht
   cases h
   simp only [av]
   by_cases nH:i=n
   ·rw [ki nH,if_pos (by omega),nH];simp [ho]
   ·rw [lO nH]
    show av t n=_
    rw [HW r (i+1) t ht n]
    by_cases h1:i+1≤n
    ·rw [if_pos h1,if_pos (by omega),show n - i=(n - (i+1))+1 by omega];simp
    ·rw [if_neg h1,if_neg (by omega)]
  ·cases h
theorem zd {σ:dp} {ks:List Nat}:∀ (l:List Nat) (i:Nat) (rP:dp),canon σ ks i l=some rP→∀ k∈l,∃ o,av σ k=some o
 | [],i,rP,h,k,hk=>by simp at hk
 | a :: r,i,rP,h,k,hk=>by
  simp only [canon] at h
  split at h
  ·rename_i o t ho ht
   rcases jq.1 hk with rfl | hk
   ·exact ⟨o,ho⟩
   ·exact zd r (i+1) t ht k hk
  ·cases h
theorem Cu {ks:List Nat} {nk:Nat} {dr:dp}:∀ (l:List Nat) (i:Nat) (σ:dp) (n:Nat),(∀ a b k:Nat,l[a]?=some k→l[b]?=some k→a=b) →
  av (eV σ (x5 ks nk dr i l)) n=match idx l n with
   | some j=>(av dr (i+j)).map (Ob.jr (back ks nk))
   | none=>av σ n
 | [],i,σ,n,_=>by simp [x5,eV,idx]
 | k :: r,i,σ,n,hd=>by
  have VX:∀ a b k:Nat,r[a]?=some k→r[b]?=some k→a=b:=fun a b q ha hb=>by
   have:=hd (a+1) (b+1) q (by simpa using ha) (by simpa using hb)
   omega
  have Tp:idx r k=none:=by
   cases hq:idx r k with
   | none=>rfl
   | some j =>
    have:=m5 r k j hq
    have:=hd 0 (j+1) k (by simp) (by simpa using this)
    omega
  simp only [x5]
  have step:av (eV σ ((k,(av dr i).map (Ob.jr (back ks nk))) :: x5 ks nk dr (i+1) r)) n=match idx r n with
    | some j=>(av dr (i+1+j)).map (Ob.jr (back ks nk))
    | none=>if k=n then (av dr i).map (Ob.jr (back ks nk)) else av σ n:=by
   cases hs:(av dr i).map (Ob.jr (back ks nk)) with
   | some o =>
    simp only [eV]
    rw [Cu r (i+1) _ n VX,bd]
   | none =>
    simp only [eV]
    rw [Cu r (i+1) _ n VX,eK]
  rw [step]
  simp only [idx]
  by_cases rO:k=n
  ·subst rO
   rw [Tp,ki rfl]
   simp
  ·rw [lO rO]
   cases hq:idx r n with
   | none=>simp [rO]
   | some j=>simp only [Option.map_some];rw [show i+1+j=i+(j+1) by omega]
def vn (z:Bool) (bs:List Nat):rU:=match z with
 | true=>bs.map fun k=>(k,none)
 | false=>[]
theorem me (z:Bool):∀ (bs:List Nat) (σ:dp) (n:Nat),av (eV σ (vn z bs)) n=if z=true∧n∈bs then none else av σ n:=by
 cases z with
 | false=>intro bs σ n;simp [vn,eV]
 | true =>
  intro bs
  induction bs with
  | nil=>intro σ n;simp [vn,eV]
  | cons k r ih =>
   intro σ n
   have:=ih (qt σ k) n
   simp only [vn,List.map_cons,eV] at this ⊢
   rw [this,eK]
   by_cases h:k=n
   ·subst h;simp
   ·have h':¬ n=k:=fun e=>h e.symm
    simp [h,h']
theorem gf:∀ (u v:rU) (σ:dp),eV σ (u ++ v)=eV (eV σ u) v
 | [],v,σ=>rfl
 | (k,some o) :: r,v,σ=>by simp only [List.cons_append,eV];exact gf r v _
 | (k,none) :: r,v,σ=>by simp only [List.cons_append,eV];exact gf r v _
def I0 (n:Nat):dp→Bool
 | []=>true
 | (k,_) :: r=>Nat.ble n k && I0 n r
theorem HX {n:Nat}:∀ {τ:dp},I0 n τ=true→∀ j,j < n→av τ j=none
 | [],_,_,_=>rfl
 | (k,o) :: r,h,j,hj=>by
  simp only [I0,a9] at h
  simp only [av]
  rw [lO (by have:=Nat.le_of_ble_eq_true h.1;omega)]
  exact HX h.2 j hj
theorem Fc:∀ (σ τ:dp) (n:Nat),av (σ ++ τ) n=match av σ n with
  | some o=>some o
  | none=>av τ n
 | [],τ,n=>rfl
 | (k,o) :: r,τ,n=>by
  simp only [List.cons_append,av]
  split
  ·rfl
  ·exact Fc r τ n
def Bk (P:Program) (ob:FuncId→List AV→dp→Nat→AV→dp→Prop) (nk:Nat) (σ:dp) (f:AV) (args:List AV) (orc:lW):Option R :=
 match f with
 | .fn (.func g) first cap=>match Kp P g,AV.qn σ orc.ks (first ++ (args ++ cap)),canon σ orc.ks 0 orc.ks with
  | true,some (as,bs,ps),some rP=>match mD orc.ks && (bs.isEmpty || orc.wE || orc.res.J4) with
   | true=>match orc.same with
    | true=>match orc.jf with
     | []=>match x6 σ orc.ks (bs.isEmpty || orc.wE) orc.ks with
      | some qs=>some ⟨ob g as rP orc.ks.length orc.res rP :: (qs ++ ps),orc.res.jr (back orc.ks nk),orc.ks ++ bs,vn orc.wE bs⟩
      | none=>none
     | q :: τ=>match bs.isEmpty || orc.wE,x6 σ orc.ks true orc.ks,I0 orc.ks.length (q :: τ) && E7 (orc.ks.length+16) (q :: τ) && mD ((q :: τ).map (·.1)) with
      | true,some qs,true=>some ⟨ob g as rP orc.ks.length orc.res (rP ++ q :: τ) :: (qs ++ ps),orc.res.jr (back orc.ks nk),orc.ks ++ bs,Ay orc.ks nk (q :: τ) ++ vn orc.wE bs⟩
      | _,_,_=>none
    | false=>match E7 (orc.ks.length+16) orc.jf && mD (orc.jf.map (·.1)),Bj (bs.isEmpty || orc.wE) orc.jf with
     | true,some qs=>some ⟨ob g as rP orc.ks.length orc.res orc.jf :: (qs ++ ps),orc.res.jr (back orc.ks nk),orc.ks ++ bs,x5 orc.ks nk orc.jf 0 orc.ks ++ (Ay orc.ks nk orc.jf ++ vn orc.wE bs)⟩
     | _,_=>none
   | false=>none
  | _,_,_=>none
 | _=>none
def Fe (P:Program) (nk:Nat) (σ:dp) (f:AV) (args:List AV) (orc:lW):Option R:=Bk P (Sound P) nk σ f args orc
theorem vo {ks:List Nat} {nk:Nat}:∀ (τ σ:dp) (n:Nat),E7 (ks.length+16) τ=true→(n < nk∨nk+16≤n)→av (eV σ (Ay ks nk τ)) n=av σ n
 | [],σ,n,_,_=>rfl
 | (k,o) :: r,σ,n,hl,hn=>by
  simp only [E7,a9] at hl
  have hk:k < ks.length+16:=by
   have:=hl.1
   simp only [Nat.blt,Nat.ble_eq] at this
   exact this
  simp only [Ay]
  split
  ·rename_i hb
   have hb:=Nat.le_of_ble_eq_true hb
   simp only [eV]
   rw [vo r _ n hl.2 hn,bd,if_neg (by omega)]
  ·exact vo r σ n hl.2 hn
theorem Kq:∀ (τ:dp) (n:Nat) (o:Ob),av τ n=some o→n∈τ.map (·.1)
 | [],n,o,h=>by simp [av] at h
 | (k,x) :: r,n,o,h=>by
  simp only [av] at h
  split at h
  ·rename_i hb;rw [← bp hb];simp
  ·exact List.mem_cons_of_mem _ (Kq r n o h)
theorem Bl {ks:List Nat} {nk:Nat}:∀ (τ σ:dp) (j:Nat),mD (τ.map (·.1))=true→av (eV σ (Ay ks nk τ)) (nk+j)=match av τ (ks.length+j) with
   | some o=>some (o.jr (back ks nk))
   | none=>av σ (nk+j)
 | [],σ,j,_=>rfl
 | (k,o) :: r,σ,j,hd=>by
  simp only [List.map_cons,mD,a9,Option.isNone_iff_eq_none] at hd
  simp only [Ay,av]
  by_cases hk:k=ks.length+j
  ·subst hk
   rw [ki rfl]
   have DF:av r (ks.length+j)=none:=by
    cases hs:av r (ks.length+j) with
    | none=>rfl
    | some x =>
     obtain ⟨i,hi⟩:=List.getElem?_of_mem (Kq r _ x hs)
     exact (md _ _ hd.1 i hi).elim
   have abi:Nat.ble ks.length (ks.length+j)=true:=Nat.ble_eq_true_of_le (by omega)
   rw [abi]
   simp only [eV]
   rw [Bl r _ j hd.2,DF]
   simp only
   rw [bd,if_pos (by omega)]
  ·rw [lO hk]
   split
   ·rename_i hb
    have hb:=Nat.le_of_ble_eq_true hb
    simp only [eV]
    rw [Bl r _ j hd.2]
    split
    ·rfl
    ·rw [bd,if_neg (by omega)]
   ·exact Bl r σ j hd.2
mutual
theorem O9 {σ:dp} {ks:List Nat}:∀ (x y:AV) (bs:List Nat) (ps:List Prop),x.fW σ ks=some (y,bs,ps)→∀ k∈bs,idx ks k=none∧∃ o,av σ k=some o
 | .op k i j,y,bs,ps,h=>by
  simp only [AV.fW] at h
  split at h
  ·simp at h;obtain ⟨_,rfl,_⟩:=h;simp
  ·simp at h;obtain ⟨_,rfl,_⟩:=h;simp
 | .os k off len,y,bs,ps,h=>by
  simp only [AV.fW] at h
  split at h
  ·simp at h;obtain ⟨_,rfl,_⟩:=h;simp
  ·rename_i hi
   split at h
   ·rename_i o ho
    split at h
    ·simp only [aD,aA] at h
     obtain ⟨_,rfl,_⟩:=h
     intro q hq
     simp at hq;subst hq
     exact ⟨hi,o,ho⟩
    ·cases h
   ·cases h
 | .agg cs,y,bs,ps,h=>by
  simp only [AV.fW,aL] at h
  obtain ⟨⟨a,b,c⟩,h,e⟩:=h
  simp only [aA] at e
  obtain ⟨rfl,rfl,rfl⟩:=e
  exact qx cs a b c h
 | .tup cs,y,bs,ps,h=>by
  simp only [AV.fW,aL] at h
  obtain ⟨⟨a,b,c⟩,h,e⟩:=h
  simp only [aA] at e
  obtain ⟨rfl,rfl,rfl⟩:=e
  exact qx cs a b c h
 | .fn g x z,y,bs,ps,h=>by
  simp only [AV.fW] at h
  split at h
  ·rename_i a b c a' b' c' e1 e2
   simp only [aD,aA] at h
   obtain ⟨_,rfl,_⟩:=h
   intro k hk
   rcases List.mem_append.1 hk with hk | hk
   ·exact qx x a b c e1 k hk
   ·exact qx z a' b' c' e2 k hk
  ·cases h
 | .when _ _,y,bs,ps,h=>by simp [AV.fW] at h
 | .ov _ _ _ _ _,y,bs,ps,h=>by simp [AV.fW] at h
 | .Cd _ _ _,y,bs,ps,h=>by simp [AV.fW] at h
 | .nq _ _,y,bs,ps,h=>by simp [AV.fW] at h
 | .mr _ _ _,y,bs,ps,h=>by simp [AV.fW] at h
 | .mp k,y,bs,ps,h=>by
  simp only [AV.fW,aL,aA] at h
  obtain ⟨n,hn,_,rfl,_⟩:=h
  simp
 | .bn _,y,bs,ps,h=>by simp [AV.fW] at h;obtain ⟨_,rfl,_⟩:=h;simp
 | .pt _ _,y,bs,ps,h=>by simp [AV.fW] at h;obtain ⟨_,rfl,_⟩:=h;simp
 | .atom _,y,bs,ps,h=>by simp [AV.fW] at h;obtain ⟨_,rfl,_⟩:=h;simp
 | .sl _ _,y,bs,ps,h=>by simp [AV.fW] at h;obtain ⟨_,rfl,_⟩:=h;simp
 | .rp _ _,y,bs,ps,h=>by simp [AV.fW] at h;obtain ⟨_,rfl,_⟩:=h;simp
 | .nil,y,bs,ps,h=>by simp [AV.fW] at h;obtain ⟨_,rfl,_⟩:=h;simp
 | .mU,y,bs,ps,h=>by simp [AV.fW] at h;obtain ⟨_,rfl,_⟩:=h;simp
theorem qx {σ:dp} {ks:List Nat}:∀ (xs ys:List AV) (bs:List Nat) (ps:List Prop),AV.qn σ ks xs=some (ys,bs,ps)→∀ k∈bs,idx ks k=none∧∃ o,av σ k=some o
 | [],ys,bs,ps,h=>by simp [AV.qn] at h;obtain ⟨_,rfl,_⟩:=h;simp
 | c :: cs,ys,bs,ps,h=>by
  simp only [AV.qn] at h
  split at h
  ·rename_i a b p a' b' p' e1 e2
   simp only [aD,aA] at h
   obtain ⟨_,rfl,_⟩:=h
   intro k hk
   rcases List.mem_append.1 hk with hk | hk
   ·exact O9 c a b p e1 k hk
   ·exact qx cs a' b' p' e2 k hk
  ·cases h
end
end Go.Ab
namespace Go.Ab
section
variable {P:Program} {E:Env} {nk:Nat} {σ:dp} {S:Nat→Prop} {μ:Mu} {w:World}
theorem RL.append {vs us:Array Value} {cs ds:List AV} (h:RL w S μ vs cs) (k:RL w S μ us ds):RL w S μ (vs ++ us) (cs ++ ds):=by
 refine ⟨by simp [h.1,k.1],?_⟩
 intro j c v hc hv
 have h1:=h.1
 by_cases hj:j < cs.length
 ·rw [eH hj] at hc
  rw [Array.getElem?_append_left (by omega)] at hv
  exact h.2 j c v hc hv
 ·rw [gF (by omega)] at hc
  rw [Array.getElem?_append_right (by omega),h1] at hv
  exact k.2 _ c v hc hv
theorem TV (g:Good E σ S μ w) {ks:List Nat} {vs:Array Value} {cs ys:List AV} {bs:List Nat} {ps:List Prop} (h:RL w S μ vs cs) (S':Nat→Prop) (hS:∀ b,S b→S' b)
  (hl:AV.qn σ ks cs=some (ys,bs,ps)) (hp:aX ps) (hb:∀ b,xY μ bs b→S' b):RL w S' (kr μ ks) vs ys:=by
 have:=QE g (ks:=ks) (ar.agg h.1 h.2) S' hS (y:=.agg ys) (bs:=bs) (ps:=ps) (by simp [AV.fW,hl]) hp hb
 cases this with
 | agg h1 h2=>exact ⟨h1,h2⟩
theorem ND {w':World} {S' A7:Nat→Prop} {cC EW:Mu} {o:Ob} {pl:Place} {c:Array Value} {T:TypeId} (h:gr w' S' cC o pl c T) (hf:o.flat=true) (ho:0 < pl.cap→¬ A7 pl.b7) :
  gr w' A7 EW o pl c T:=by
 unfold Ob.flat at hf
 simp only [a9] at hf
 have hl:=bp hf.1.1.2
 have hz1:=Nat.le_of_ble_eq_true hf.1.2
 refine { h with out:=ho,rep:=?_,mp:=fun hz=>absurd hz (by omega) }
 intro i j x v hi hx hv
 have:i=0:=by omega
 subst this
 exact (h.rep 0 j x v hi hx hv).flat (sZ hf.2 hx) _ _ _
mutual
theorem Pa:∀ (x:AV),x.flat=true→x.pure=true
 | .atom _,_=>rfl
 | .nil,_=>rfl
 | .bn _,_=>rfl
 | .pt _ _,h=>by simp [AV.flat] at h
 | .mp _,h=>by simp [AV.flat] at h
 | .ov _ _ _ _ _,h=>by simp [AV.flat] at h
 | .Cd _ _ _,h=>by simp [AV.flat] at h
 | .nq _ _,h=>by simp [AV.flat] at h
 | .agg cs,h=>qy cs h
 | .tup cs,h=>qy cs h
 | .fn _ a b,h=>by
  simp only [AV.flat,a9] at h
  simp only [AV.pure,a9]
  exact ⟨qy a h.1,qy b h.2⟩
 | .sl _ _,h=>by simp [AV.flat] at h
 | .rp _ _,h=>by simp [AV.flat] at h
 | .op _ _ _,h=>by simp [AV.flat] at h
 | .os _ _ _,h=>by simp [AV.flat] at h
 | .when _ _,h=>by simp [AV.flat] at h
 | .mU,h=>by simp [AV.flat] at h
 | .mr _ _ _,h=>by simp [AV.flat] at h
theorem qy:∀ (cs:List AV),AV.xQ cs=true→AV.lD cs=true
 | [],_=>rfl
 | c :: cs,h=>by
  simp only [AV.xQ,a9] at h
  simp only [AV.lD,a9]
  exact ⟨Pa c h.1,qy cs h.2⟩
end
mutual
theorem Ff {f:Nat→Option Nat}:∀ (x:AV),x.pure=true→x.jr f=x
 | .op _ _ _,h=>by simp [AV.pure] at h
 | .os _ _ _,h=>by simp [AV.pure] at h
 | .mp _,h=>by simp [AV.pure] at h
 | .ov _ _ _ _ _,h=>by simp [AV.pure] at h
 | .Cd _ _ _,h=>by simp [AV.pure] at h
 | .mr _ _ _,h=>by simp [AV.pure] at h
 | .bn _,_=>rfl
 | .pt _ _,_=>rfl
 | .agg cs,h=>by simp only [AV.jr];rw [s7 cs h]
 | .tup cs,h=>by simp only [AV.jr];rw [s7 cs h]
 | .fn q a b,h=>by
  simp only [AV.pure,a9] at h
  simp only [AV.jr];rw [s7 a h.1,s7 b h.2]
 | .when b x,h=>by simp only [AV.jr];rw [Ff x h]
 | .nq b x,h=>by simp only [AV.jr];rw [Ff x h]
 | .atom _,_=>rfl
 | .sl _ _,_=>rfl
 | .rp _ _,_=>rfl
 | .nil,_=>rfl
 | .mU,_=>rfl
theorem s7 {f:Nat→Option Nat}:∀ (cs:List AV),AV.lD cs=true→AV.uL f cs=cs
 | [],_=>rfl
 | c :: cs,h=>by
  simp only [AV.lD,a9] at h
  simp only [AV.uL]
  rw [Ff c h.1,s7 cs h.2]
end
theorem NF {w':World} {S':Nat→Prop} {cC:Mu} {o o':Ob} {pl:Place} {c:Array Value} {T:TypeId} (h:gr w' S' cC o' pl c T) (z1:o'.sz=o.sz) (z2:o'.len=o.len) (z3:o'.pr=o.pr)
  (hl:o.len=1) (h0:o'.get 0=o.get 0):gr w' S' cC o pl c T:=by
 have q1:∀ i,i < o.len→o.get i=o'.get i:=fun i hi=>by
  have:i=0:=by omega
  subst this;exact h0.symm
 refine ⟨h.sz.trans z1,z1 ▸ h.b7,z1 ▸ h.cap,z2 ▸ h.len,h.out,?_,?_,fun hz=>by rw [← h0,← z3];exact h.mp (z1.trans hz)⟩
 ·intro i hi
  rw [q1 i hi,← z1]
  exact h.tj i (by omega)
 ·intro i j x v hi hx hv
  rw [q1 i hi] at hx
  rw [← z3]
  exact h.rep i j x v (by omega) hx (by rw [z1];exact hv)
theorem TW {w':World} {S':Nat→Prop} {cC:Mu} {o o':Ob} {pl:Place} {c:Array Value} {T:TypeId} (h:gr w' S' cC o' pl c T) (z1:o'.sz=o.sz) (z2:o'.len=o.len) (z3:o'.pr=o.pr)
  (DD:o.pr=false) (q1:∀ i,i < o.len→o.get i=o'.get i):gr w' S' cC o pl c T:=by
 refine ⟨h.sz.trans z1,z1 ▸ h.b7,z1 ▸ h.cap,z2 ▸ h.len,h.out,?_,?_,fun hz=>?_⟩
 ·intro i hi
  rw [q1 i hi,← z1]
  exact h.tj i (by omega)
 ·intro i j x v hi hx hv
  rw [q1 i hi] at hx
  rw [← z3]
  exact h.rep i j x v (by omega) hx (by rw [z1];exact hv)
 ·have:=(h.mp (z1.trans hz)).2.2.2.1
  rw [z3,DD] at this;cases this
theorem Fg {w':World} {S' A7:Nat→Prop} {cC EW:Mu} {o:Ob} {pl:Place} {c:Array Value} {T:TypeId} (h:gr w' S' cC o pl c T) {ps:List Prop} (hf:um o=some ps) (hp:aX ps) (ho:0 < pl.cap→¬ A7 pl.b7) :
  gr w' A7 EW o pl c T:=by
 unfold um at hf
 split at hf
 ·rename_i Pb;exact ND h Pb ho
 ·split at hf
  ·rename_i hb
   cases hf
   simp only [a9] at hb
   have hz1:=Nat.le_of_ble_eq_true hb.2
   refine { h with out:=ho,rep:=?_,mp:=fun hz=>absurd hz (by omega) }
   intro i j x v hi hx hv
   exact (h.rep i j x v hi hx hv).flat (sZ (hp.1 i hi) hx) _ _ _
  ·cases hf
theorem Bm {w':World} {S' A7:Nat→Prop} {cC:Mu} {o:Ob} {pl:Place} {c:Array Value} {T:TypeId} (h:gr w' S' cC o pl c T) (hS:∀ b,S' b→A7 b) (ho:0 < pl.cap→¬ A7 pl.b7):gr w' A7 cC o pl c T :=
 { h with
  out:=ho
  rep:=fun i j x v hi hx hv=>ar.mono hS (fun _ _=>rfl) (h.rep i j x v hi hx hv) (fun _ _ h=>h)
  mp:=fun hz=>let ⟨m0,m1,m2,m3,m4⟩:=h.mp hz
   ⟨m0,m1,m2,m3,fun j x v hx hv=>ar.mono hS (fun _ _=>rfl) (m4 j x v hx hv) (fun _ _ h=>h)⟩ }
theorem NG {w':World} {S' A7:Nat→Prop} {cC EW:Mu} {o:Ob} {pl:Place} {c:Array Value} {T:TypeId} {ks:List Nat} {nk:Nat} {lone:Bool} (h:gr w' S' cC (o.jr (idx ks)) pl c T)
  {ps:List Prop} (DX:Ct ks lone o=some ps) (hp:aX ps) (hS:lone=true→∀ b,S' b→A7 b) (ho:0 < pl.cap→¬ A7 pl.b7)
  (hm:∀ k k' pl,back ks nk k=some k'→cC k=some pl→EW k'=some pl):gr w' A7 EW o pl c T:=by
 unfold Ct at DX
 split at DX
 case h_2 =>
  split at DX
  ·rename_i DD
   have e:o.jr (idx ks)=o:=by simp [Ob.jr,DD]
   rw [e] at h
   exact Fg h DX hp ho
  ·rename_i DD
   split at DX
   case h_2=>cases DX
   rename_i hl
   cases DX
   simp only [a9,Bool.not_eq_true'] at hl
   have h2:=h.jr hm
   refine Bm (TW h2 (by rw [Ob.tp,Ob.tp]) (by rw [Ob.uk,Ob.uk]) (by rw [Ob.Cr,Ob.Cr]) DD fun i hi=>?_) (hS hl.1) ho
   have hr:E8 (o.get i)=true:=hp.1 i hi
   simp only [Ob.jr,DD]
   rw [Cs hr,Cs hr]
 rename_i hq
 cases hf:o.flat with
 | true =>
  have Yi:=hf
  unfold Ob.flat at Yi
  simp only [a9] at Yi
  have hl:=bp Yi.1.1.2
  refine ND (NF h (Ob.tp _ _) (Ob.uk _ _) (Ob.Cr _ _) hl ?_) hf ho
  unfold Ob.jr
  split
  ·rfl
  ·exact s7 _ (qy _ Yi.2)
 | false =>
  rw [hf,Bool.false_or,a9] at hq
  have hS:=hS hq.1
  have h2:=h.jr hm
  have vp:∀ k i,idx ks k=some i→back ks nk i=some k:=fun k i hk=>by
   unfold back
   rw [m5 ks k i hk]
  have h3:gr w' S' EW o pl c T:=by
   have hc:=hq.2
   unfold Ob.closed at hc
   cases hp:o.pr with
   | true =>
    have e:(o.jr (idx ks)).jr (back ks nk)=o:=by simp [Ob.jr,hp]
    rw [e] at h2;exact h2
   | false =>
    rw [hp,Bool.false_or] at hc
    simp only [a9] at hc
    refine NF h2 (by rw [Ob.tp,Ob.tp]) (by rw [Ob.uk,Ob.uk]) (by rw [Ob.Cr,Ob.Cr]) (bp hc.1.2) ?_
    simp only [Ob.jr,hp]
    exact s6 vp _ hc.2
  exact Bm h3 hS ho
theorem wG {σ:dp} {ks:List Nat} {lone:Bool}:∀ (l:List Nat) (qs:List Prop),x6 σ ks lone l=some qs→aX qs→∀ k∈l,∀ o,av σ k=some o→∃ ps,Ct ks lone o=some ps∧aX ps
 | [],_,_,_,k,hk=>by simp at hk
 | a :: r,qs,h,hq,k,hk=>by
  intro o ho
  simp only [x6] at h
  split at h
  ·rename_i o1 wH
   split at h
   ·rename_i p q h1 h2
    cases h
    obtain ⟨q1,q2⟩:=aX.app hq
    rcases jq.1 hk with rfl | hk
    ·rw [wH] at ho;cases ho;exact ⟨p,h1,q1⟩
    ·exact wG r q h2 q2 k hk o ho
   ·cases h
  ·cases h
theorem sI {lone:Bool}:∀ (σ:dp) (qs:List Prop),Bj lone σ=some qs→aX qs→∀ k o,av σ k=some o→lone=true∨∃ ps,um o=some ps∧aX ps
 | [],_,_,_,k,o,h=>by simp [av] at h
 | (a,x) :: r,qs,h,hq,k,o,hk=>by
  simp only [Bj] at h
  split at h
  ·exact .inl rfl
  ·split at h
   ·rename_i p q h1 h2
    cases h
    obtain ⟨q1,q2⟩:=aX.app hq
    simp only [av] at hk
    split at hk
    ·cases hk;exact .inr ⟨p,h1,q1⟩
    ·exact sI r q h2 q2 k o hk
   ·cases h
theorem uM {o:Ob} {ps:List Prop} (h:um o=some ps) (hp:aX ps) (i:Nat):rowOf o i=none:=by
 unfold um at h
 split at h
 ·rename_i hf
  unfold Ob.flat at hf
  simp only [a9] at hf
  exact mX hf.1.1.1 i
 ·split at h
  ·cases h
   cases hr:rowOf o i with
   | none=>rfl
   | some x =>
    obtain ⟨_,h2,h3⟩:=di hr
    have:=hp.1 i h2
    rw [h3] at this;cases this
  ·cases h
theorem I1 {ks:List Nat} {o:Ob} {ps:List Prop} (h:Ct ks false o=some ps) (hp:aX ps) (i:Nat):rowOf o i=none:=by
 unfold Ct at h
 rw [Bool.false_and,Bool.or_false] at h
 split at h
 ·rename_i hf
  exact uM (ps:=[]) (by unfold um;rw [hf]) trivial i
 ·split at h
  ·exact uM h hp i
  ·rw [Bool.false_and] at h
   cases h
theorem DH (g:Good E σ S μ w) (zU:∀ j,j < 16→μ (nk+j)=none) (oc:E.m0≤nk) {f:AV} {args:List AV} {orc:lW} {r:R} {fv:Value} (hf:ar w S μ fv f) {vargs:Array Value} (ha:RL w S μ vargs args)
  (hz:orc.wE=true→∀ b,¬ E.fp b) {ob:FuncId→List AV→dp→Nat→AV→dp→Prop}
  (cD:∀ gid as bs rP res dr vs,ob gid as rP orc.ks.length res dr→Good (tn w (fun b=>S b∨xY μ bs b) rP (kr μ orc.ks) orc.ks.length) rP (fun b=>S b∨xY μ bs b) (kr μ orc.ks) w→(∀ k,orc.ks.length≤k→kr μ orc.ks k=none) →
   RL w (fun b=>S b∨xY μ bs b) (kr μ orc.ks) vs as→Calls P gid vs w fun e w'=>∃ v S' cC,e=.returned v∧Good (tn w (fun b=>S b∨xY μ bs b) rP (kr μ orc.ks) orc.ks.length) dr S' cC w'∧ar w' S' cC v res)
  (h:Bk P ob nk σ f args orc=some r) (hp:aX r.Hb) :
  ∃ gid vs,(do let d ← Deferred.ofValue fv vargs;invoke d.target d.args:Sem Next).run P w=.ok (.enter gid vs) w ∧
   Calls P gid vs w fun e w'=>∃ v S' cC,e=.returned v∧Ext w S μ w' S' cC∧Good E (eV σ r.upd) S' cC w'∧(∀ k,(k < nk∨nk+16≤k)→μ k=none→cC k=none)∧ar w' S' cC v r.val:=by
 unfold Bk at h
 split at h
 case h_2=>cases h
 rename_i gid first cap
 split at h
 case h_2=>cases h
 rename_i as bs ps rP Fh VY TX
 split at h
 case h_2=>cases h
 rename_i YV
 rw [a9] at YV
 obtain ⟨TY,Kr⟩:=YV
 have TZ:=Fb orc.ks TY
 cases hf with
 | fn f1 f2 f3 f4 =>
 rename_i fvs cvs
 refine ⟨gid,fvs ++ vargs ++ cvs,?_,?_⟩
 ·unfold Kp at Fh
  split at Fh
  ·rename_i fn Yj
   simp only [a9,Bool.not_eq_true'] at Fh
   have hb:¬ fn.body=none:=by intro hh;rw [hh] at Fh;simp at Fh
   have eE:¬ fn.name = "runtime.NumGoroutine":=by simpa using Fh.2
   simp [Deferred.ofValue,invoke,callFunc,Yj,eE,hb]
  ·cases Fh
 have WO:=qx _ _ _ _ VY
 have T5:=HW orc.ks 0 rP TX
 simp only [Nat.zero_le,if_true,Nat.sub_zero] at T5
 -- the state in which the callee begins
 have VZ:aX ps:=by
  split at h
  ·split at h
   ·split at h
    ·cases h;exact (aX.app hp.2).2
    ·cases h
   ·split at h
    ·cases h;exact (aX.app hp.2).2
    ·cases h
  ·split at h
   ·cases h;exact (aX.app hp.2).2
   ·cases h
 have qz:RL w (fun b=>S b∨xY μ bs b) (kr μ orc.ks) (fvs ++ vargs ++ cvs) as:=by
  have Pc:RL w S μ (fvs ++ vargs ++ cvs) (first ++ (args ++ cap)):=by
   have:=RL.append (w:=w) (S:=S) (μ:=μ) ⟨f1,f3⟩ (RL.append ha ⟨f2,f4⟩)
   rwa [← Array.append_assoc] at this
  exact TV g Pc _ (fun _ h=>.inl h) VY VZ (fun _ h=>.inr h)
 have fo:∀ k o pl,av σ k=some o→μ k=some pl→0 < pl.cap→pl.b7 < w.heap.size:=fun k o pl ho hm hc=>by
  obtain ⟨iB,c,T,fw,cD⟩:=g.rep.ob k o ho
  rw [hm] at fw;cases fw
  exact cm (cD.b7 hc)
 have YW:∀ k o pl,av σ k=some o→μ k=some pl→0 < pl.cap→¬ S pl.b7:=fun k o pl ho hm hc=>by
  obtain ⟨iB,c,T,fw,cD⟩:=g.rep.ob k o ho
  rw [hm] at fw;cases fw
  exact cD.out hc
 have DI:∀ i o',av rP i=some o'→∃ k o,orc.ks[i]?=some k∧av σ k=some o∧o'=o.jr (idx orc.ks):=by
  intro i o' h
  rw [T5] at h
  simp only [aL,Option.bind_eq_some_iff] at h
  obtain ⟨o,⟨k,hk,ho⟩,rfl⟩:=h
  exact ⟨k,o,hk,ho,rfl⟩
 have NH:∀ i j x v,gR w (kr μ orc.ks) rP i j x v→∃ k,orc.ks[i]?=some k∧gR w μ σ k j x v:=by
  rintro i j x v ⟨o',pl,h1,h2,h3,h4⟩
  obtain ⟨k,o,hk,ho,rfl⟩:=DI i o' h1
  exact ⟨k,hk,o,pl,ho,(qw _ _ _ _).1 h2,by simpa [kr,hk] using h3,h4⟩
 have QF:∀ b,Md w rP (kr μ orc.ks) b→(∃ (k i:Nat) (o:Ob) (pl:Place),orc.ks[i]?=some k∧av σ k=some o∧μ k=some pl∧0 < pl.cap∧pl.b7=b) ∨
   ∃ (k i j:Nat) (x:Nat×Nat×(Nat→List AV)) (v:Value),orc.ks[i]?=some k∧gR w μ σ k j x v∧ptrTo v b:=by
  rintro b (⟨i,o',pl,hi,hm,hc,hb⟩ | ⟨i,j,x,v,hv,hb⟩)
  ·obtain ⟨k,o,hk,ho,_⟩:=DI i o' hi
   refine .inl ⟨k,i,o,pl,hk,ho,?_,hc,hb⟩
   simpa [kr,hk] using hm
  ·obtain ⟨k,hk,oM⟩:=NH i j x v hv
   exact .inr ⟨k,i,j,x,v,hk,oM,hb⟩
 have QG:∀ k i x v b,gR w μ σ k i x v→ptrTo v b→¬ xY μ bs b:=by
  rintro k i x v b hv hb ⟨k',ld,iB,fw,jk,he⟩
  obtain ⟨_,o2,Ce⟩:=WO k' ld
  exact g.mx.obj _ _ _ _ _ hv hb k' o2 iB Ce fw jk he
 have g0:Good (tn w (fun b=>S b∨xY μ bs b) rP (kr μ orc.ks) orc.ks.length) rP (fun b=>S b∨xY μ bs b) (kr μ orc.ks) w:=by
  refine ⟨Fr.refl _ _,fun _ h=>h,?_,fun _ h=>.inl h,⟨?_,?_⟩,fun k o pl hk hm hc=>.inl (.inl ⟨k,o,pl,hk,hm,hc,rfl⟩),fun _ _=>rfl,?_⟩
  ·rintro b (hb | ⟨k,hk,pl,hm,hc,rfl⟩)
   ·exact g.S1 b hb
   ·obtain ⟨_,o,ho⟩:=WO k hk
    exact fo k o pl ho hm hc
  ·intro i o' hi
   obtain ⟨k,o,hk,ho,rfl⟩:=DI i o' hi
   obtain ⟨pl,c,T,hm,cD⟩:=g.rep.ob k o ho
   refine ⟨pl,c,T,by simp [kr,hk,hm],?_⟩
   have h1:=cD.jr (f:=idx orc.ks) (cC:=kr μ orc.ks) (fun a b pl ha hb=>xZ a b pl ha hb)
   refine h1.ext (w':=w) ⟨aR _,fun _ h=>.inl h,fun _ _=>rfl,fun _ _ h=>h⟩ (fun _=>rfl) ?_
   rintro hc (hS | ⟨k',ld,iB,fw,jk,he⟩)
   ·exact cD.out hc hS
   ·obtain ⟨DF,o2,Ce⟩:=WO k' ld
    have eE:k≠k':=fun h=>md _ _ DF i (h ▸ hk)
    exact g.rep.ne k k' o o2 pl iB eE ho Ce hm fw hc jk he.symm
  ·intro i i' o o' pl iB eE hi o8 hm fw hc jk
   obtain ⟨k,oo,hk,ho,_⟩:=DI i o hi
   obtain ⟨k',oo',ld,mZ,_⟩:=DI i' o' o8
   have Mf:k≠k':=fun h=>eE (TZ i i' k hk (h ▸ ld))
   exact g.rep.ne k k' oo oo' pl iB Mf ho mZ (by simpa [kr,hk] using hm) (by simpa [kr,ld] using fw) hc jk
  ·refine g.mx.tr (fun i=>orc.ks.getD i 0) (fun i j x v h=>?_) (fun i j x v i' j' x' v' h h' e=>?_) (fun _ h=>.inl h) (fun _ _=>rfl) (fun i j x v b hv h hb=>?_) (fun i o' pl h1 h2 h3=>?_)
   ·obtain ⟨k,hk,hv⟩:=NH i j x v h
    show gR w μ σ (orc.ks.getD i 0) j x v
    rw [eh,hk];exact hv
   ·obtain ⟨k,hk,_⟩:=NH i j x v h
    obtain ⟨k',ld,_⟩:=NH i' j' x' v' h'
    have e:orc.ks.getD i 0=orc.ks.getD i' 0:=e
    rw [eh,eh,hk,ld] at e
    have e:k=k':=e
    exact TZ i i' k hk (e ▸ ld)
   ·obtain ⟨q1,q2,q3,_⟩:=g.mx.b7 h hb
    exact ⟨rfl,fun hs=>hs.elim q2 (QG _ _ _ _ _ h hb),fun _=>.inl (.inr ⟨i,j,x,v,hv,hb⟩)⟩
   ·obtain ⟨k,o,hk,ho,_⟩:=DI i o' h1
    exact .inl ⟨k,o,pl,ho,by simpa [kr,hk] using h2,h3,rfl⟩
 have QH:∀ k,orc.ks.length≤k→kr μ orc.ks k=none:=fun k hk=>by simp [kr,oI hk]
 -- behind the call
 have rO:∀ k o,av σ k=some o→k < nk∨nk+16≤k:=by
  intro k o ho
  rcases Nat.lt_or_ge k nk with h1 | h1
  ·exact .inl h1
  ·rcases Nat.lt_or_ge k (nk+16) with h2 | h2
   ·obtain ⟨pl,c,T,hm,_⟩:=g.rep.ob k o ho
    have:=zU (k - nk) (by omega)
    rw [show nk+(k - nk)=k by omega,hm] at this
    cases this
   ·exact .inr h2
 have fin:∀ (dr:dp) (Mg:dp),ob gid as rP orc.ks.length orc.res dr →
   (∀ n,idx orc.ks n=none→(n < nk∨nk+16≤n)→av Mg n=if orc.wE=true∧n∈bs then none else av σ n) →
   (∀ j,j < 16→∀ o,av Mg (nk+j)=some o→∃ o1,av dr (orc.ks.length+j)=some o1∧o=o1.jr (back orc.ks nk)) →
   (∀ (w':World) (S' A7:Nat→Prop) (cC:Mu),((bs.isEmpty || orc.wE)=true→∀ b,S' b→A7 b)→∀ j,j < 16→∀ o1 pl c T,av dr (orc.ks.length+j)=some o1→gr w' S' cC o1 pl c T→(0 < pl.cap→¬ A7 pl.b7)→gr w' A7 cC o1 pl c T) →
   (∀ (w':World) (S' A7:Nat→Prop) (cC Ks:Mu),Good (tn w (fun b=>S b∨xY μ bs b) rP (kr μ orc.ks) orc.ks.length) dr S' cC w'→((bs.isEmpty || orc.wE)=true→∀ b,S' b→A7 b) →
    (∀ k k' pl,back orc.ks nk k=some k'→cC k=some pl→Ks k'=some pl)→∀ (k i:Nat) (o:Ob) (pl:Place),orc.ks[i]?=some k→av Mg k=some o→μ k=some pl→(0 < pl.cap→¬ A7 pl.b7)→∃ c T,gr w' A7 Ks o pl c T) →
   (∀ (k i:Nat) (o:Ob),orc.ks[i]?=some k→av Mg k=some o→(∃ o1,av σ k=some o1)∧∃ o2,av dr i=some o2) →
   (∀ (k i:Nat) (o:Ob),orc.ks[i]?=some k→av Mg k=some o→∀ j x,rowOf o j=some x→∃ o2,av dr i=some o2∧rowOf o2 j=some x) →
   ((bs.isEmpty || orc.wE)=false→∀ n o,av dr n=some o→∀ i,rowOf o i=none) →
   Calls P gid (fvs ++ vargs ++ cvs) w fun e w'=>∃ v S' cC,e=.returned v∧Ext w S μ w' S' cC∧Good E Mg S' cC w'∧(∀ k,(k < nk∨nk+16≤k)→μ k=none→cC k=none)∧ar w' S' cC v (orc.res.jr (back orc.ks nk)):=by
  intro dr Mg WQ I2 Ql YX abj T6 YY WR
  refine (cD gid as bs rP _ _ _ WQ g0 QH qz).mono ?_
  rintro e w' ⟨v,S',cC,rfl,g',hv⟩
  have Kt:∀ b,b < w.heap.size→(∀ (k i:Nat) (o:Ob) (pl:Place),orc.ks[i]?=some k→av σ k=some o→μ k=some pl→0 < pl.cap→pl.b7≠b) →
    (∀ (k i j:Nat) (x:Nat×Nat×(Nat→List AV)) (v:Value),orc.ks[i]?=some k→gR w μ σ k j x v→¬ ptrTo v b)→w'.heap[b]?=w.heap[b]?:=by
   intro b hb DF abk
   refine g'.fr.b7 b hb fun Hk=>?_
   rcases QF b Hk with ⟨k,i,o,pl,hk,ho,hm,hc,he⟩ | ⟨k,i,j,x,v,hk,hv,he⟩
   ·exact DF k i o pl hk ho hm hc he
   ·exact abk k i j x v hk hv he
  have hSb:∀ b,S b→w'.heap[b]?=w.heap[b]?:=fun b hb=>Kt b (g.S1 b hb) (fun k i o pl hk ho hm hc he=>YW k o pl ho hm hc (he ▸ hb)) fun k i j x v hk hv he=>(g.mx.b7 hv he).2.1 hb
  let Ks:Mu:=fun k=>if nk≤k∧k < nk+16 then cC (orc.ks.length+(k - nk)) else μ k
  have Fi:∀ k,(k < nk∨nk+16≤k)→Ks k=μ k:=fun k hk=>by
   show (if nk≤k∧k < nk+16 then _ else _)=_
   rw [if_neg (by omega)]
  have Fj:∀ j,j < 16→Ks (nk+j)=cC (orc.ks.length+j):=fun j hj=>by
   show (if nk≤nk+j∧nk+j < nk+16 then _ else _)=_
   rw [if_pos (by omega)];congr 1;omega
  have T7:∀ k pl,μ k=some pl→Ks k=some pl:=by
   intro k pl hk
   have hn:k < nk∨nk+16≤k:=by
    rcases Nat.lt_or_ge k nk with h1 | h1
    ·exact .inl h1
    ·rcases Nat.lt_or_ge k (nk+16) with h2 | h2
     ·have:=zU (k - nk) (by omega)
      rw [show nk+(k - nk)=k by omega,hk] at this
      cases this
     ·exact .inr h2
   rw [Fi k hn];exact hk
  have vp:∀ k k' pl,back orc.ks nk k=some k'→cC k=some pl→Ks k'=some pl:=by
   intro k k' pl hk hm
   unfold back at hk
   split at hk
   ·rename_i q hq
    cases hk
    have fo:k < orc.ks.length:=(dd.1 hq).1
    rw [g'.A9 k fo] at hm
    have:kr μ orc.ks k=some pl:=hm
    refine T7 _ _ ?_
    simpa [kr,show orc.ks[k]?=some _ from hq] using this
   ·rename_i hq
    split at hk
    ·rename_i hb
     cases hk
     have fo:k < orc.ks.length+16:=by
      simp only [Nat.blt,Nat.ble_eq] at hb;exact hb
     have hge:orc.ks.length≤k:=List.getElem?_eq_none_iff.1 hq
     rw [Fj _ (by omega),show orc.ks.length+(k - orc.ks.length)=k by omega];exact hm
    ·cases hk
  let SF:Nat→Prop:=fun b=>S b∨(orc.wE=true∧xY μ bs b)∨(S' b∧w.heap.size≤b)
  have hSF:∀ b,SF b→S' b:=by
   rintro b (h1 | ⟨_,h1⟩ | ⟨h1,_⟩)
   ·exact g'.S0 b (.inl h1)
   ·exact g'.S0 b (.inr h1)
   ·exact h1
  have Yk:(bs.isEmpty || orc.wE)=true→∀ b,S' b→SF b:=by
   intro he b hb
   rcases g'.S2 b hb with (h1 | h0) | h1
   ·exact .inl h1
   ·rcases Bool.or_eq_true_iff.1 he with he | he
    ·obtain ⟨k,hk,_⟩:=h0
     rw [List.isEmpty_iff] at he;rw [he] at hk;simp at hk
    ·exact .inr (.inl ⟨he,h0⟩)
   ·exact .inr (.inr ⟨hb,h1⟩)
  have hold:∀ k o,av Mg k=some o→(k < nk∨nk+16≤k)→∃ o1,av σ k=some o1:=by
   intro k o ho hn
   cases hi:idx orc.ks k with
   | none =>
    rw [I2 k hi hn] at ho
    split at ho
    ·cases ho
    ·exact ⟨o,ho⟩
   | some i=>exact (T6 k i o (m5 _ _ _ hi) ho).1
  have hnl:∀ k o,av Mg k=some o→orc.wE=true→k ∉ bs:=by
   intro k o ho L7 hk
   obtain ⟨DF,o2,Ce⟩:=WO k hk
   rw [I2 k DF (rO k o2 Ce),if_pos ⟨L7,hk⟩] at ho
   cases ho
  have HY:∀ k o0 o pl,av Mg k=some o0→av σ k=some o→μ k=some pl→0 < pl.cap→¬ SF pl.b7:=by
   rintro k o0 o pl py ho hm hc (h1 | ⟨L7,k',ld,iB,fw,jk,he⟩ | ⟨_,h1⟩)
   ·exact YW k o pl ho hm hc h1
   ·obtain ⟨_,o2,Ce⟩:=WO k' ld
    have eE:k≠k':=fun h=>hnl k o0 py L7 (h ▸ ld)
    exact g.rep.ne k k' o o2 pl iB eE ho Ce hm fw hc jk he.symm
   ·have:=fo k o pl ho hm hc;omega
  -- a new object, as the callee has left it
  have Mh:∀ j,j < 16→∀ o,av Mg (nk+j)=some o→∃ o1 pl c T,av dr (orc.ks.length+j)=some o1∧o=o1.jr (back orc.ks nk)∧cC (orc.ks.length+j)=some pl∧gr w' S' cC o1 pl c T:=by
   intro j hj o ho
   obtain ⟨o1,h1,h2⟩:=Ql j hj o ho
   obtain ⟨pl,c,T,h3,h4⟩:=g'.rep.ob _ o1 h1
   exact ⟨o1,pl,c,T,h1,h2,h3,h4⟩
  have x7:∀ k,(k < nk∨nk+16≤k)∨∃ j,j < 16∧k=nk+j:=fun k=>by
   rcases Nat.lt_or_ge k nk with h1 | h1
   ·exact .inl (.inl h1)
   ·rcases Nat.lt_or_ge k (nk+16) with h2 | h2
    ·exact .inr ⟨k - nk,by omega,by omega⟩
    ·exact .inl (.inr h2)
  -- the block of a new object is none of the caller's
  have V2:∀ j o1 pl,av dr (orc.ks.length+j)=some o1→cC (orc.ks.length+j)=some pl→0 < pl.cap →
    (∃ (k i:Nat) (o:Ob) (iB:Place),orc.ks[i]?=some k∧av σ k=some o∧μ k=some iB∧0 < iB.cap∧iB.b7=pl.b7) ∨
    (∃ (k i j:Nat) (x:Nat×Nat×(Nat→List AV)) (v:Value),orc.ks[i]?=some k∧gR w μ σ k j x v∧ptrTo v pl.b7)∨w.heap.size≤pl.b7:=by
   intro j o1 pl h1 h2 h3
   rcases g'.own _ o1 pl h1 h2 h3 with h4 | h4
   ·exact (QF _ h4).elim .inl fun h=>.inr (.inl h)
   ·exact .inr (.inr h4)
  -- new and old ones lie apart
  have QI:∀ j,j < 16→∀ k o o' pl iB,av Mg (nk+j)=some o→av Mg k=some o'→(k < nk∨nk+16≤k)→Ks (nk+j)=some pl→Ks k=some iB→0 < pl.cap→0 < iB.cap→pl.b7≠iB.b7:=by
   intro j hj k o o' pl iB ho mZ hn hm fw hc jk he
   obtain ⟨o1,A8,c1,T1,h1,h2,h3,h4⟩:=Mh j hj o ho
   rw [Fj j hj,h3] at hm;cases hm
   rw [Fi k hn] at fw
   cases hi:idx orc.ks k with
   | some i =>
    have P8:=m5 _ _ _ hi
    obtain ⟨_,o2,Ce⟩:=T6 k i o' P8 mZ
    have ze:i < orc.ks.length:=(dd.1 P8).1
    have xj:cC i=some iB:=by
     rw [g'.A9 i ze]
     show kr μ orc.ks i=_
     simp [kr,P8,fw]
    exact g'.rep.ne (orc.ks.length+j) i o1 o2 pl iB (by omega) h1 Ce h3 xj hc jk he
   | none =>
    obtain ⟨o3,LU⟩:=hold k o' mZ hn
    rcases V2 j o1 pl h1 h3 hc with ⟨k2,i2,o4,T8,q1,q2,q3,q4,q5⟩ | ⟨k2,i2,j2,x2,v2,q1,q2,q3⟩ | h5
    ·have eE:k2≠k:=fun h=>md _ _ hi i2 (h ▸ q1)
     exact g.rep.ne k2 k o4 o3 T8 iB eE q2 LU q3 fw q4 jk (q5.trans he)
    ·exact g.mx.obj _ _ _ _ _ q2 q3 k o3 iB LU fw jk he.symm
    ·have:=fo k o3 iB LU fw jk
     omega
  have ext:Ext w S μ w' SF Ks:=⟨g'.fr.size,fun _ h=>.inl h,hSb,T7⟩
  -- the rows
  have cls:∀ k i x v,gR w' Ks Mg k i x v→(idx orc.ks k=none∧(k < nk∨nk+16≤k)∧gR w μ σ k i x v)∨((bs.isEmpty || orc.wE)=true∧∃ q,back orc.ks nk q=some k∧gR w' cC dr q i x v):=by
   rintro k i x v ⟨o,pl,h1,h2,h3,h4⟩
   have V3:∀ n o2,av dr n=some o2→rowOf o2 i=some x→(bs.isEmpty || orc.wE)=true:=by
    intro n o2 Ce eW
    cases Pb:(bs.isEmpty || orc.wE) with
    | true=>rfl
    | false=>rw [WR Pb n o2 Ce i] at eW;cases eW
   rcases x7 k with hn | ⟨j,hj,rfl⟩
   ·cases hi:idx orc.ks k with
    | none =>
     have py:=h1
     rw [I2 k hi hn] at py
     split at py
     ·cases py
     rw [Fi k hn] at h3
     obtain ⟨qu,c,T,hm,cD⟩:=g.rep.ob k o py
     rw [h3] at hm;cases hm
     refine .inl ⟨rfl,hn,o,pl,py,h2,h3,?_⟩
     have hc:0 < pl.cap:=by have:=(di h2).2.1;have:=cD.len;omega
     rw [← h4]
     refine (qS (Kt _ (cm (cD.b7 hc)) ?_ ?_) _).symm
     ·intro k' i' o' iB ld mZ fw jk he
      have eE:k'≠k:=fun h=>md _ _ hi i' (h ▸ ld)
      exact g.rep.ne k' k o' o iB pl eE mZ py fw h3 jk hc he
     ·intro k' i' j' x' v' ld oM he
      exact g.mx.obj _ _ _ _ _ oM he k o pl py h3 hc rfl
    | some i0 =>
     have P8:=m5 _ _ _ hi
     obtain ⟨o2,Ce,eW⟩:=YY k i0 o P8 h1 i x h2
     have ze:i0 < orc.ks.length:=(dd.1 P8).1
     refine .inr ⟨V3 i0 o2 Ce eW,i0,by unfold back;rw [P8],o2,pl,Ce,eW,?_,h4⟩
     rw [g'.A9 i0 ze]
     rw [Fi k hn] at h3
     show kr μ orc.ks i0=_
     simp [kr,P8,h3]
   ·obtain ⟨o1,q1,q2⟩:=Ql j hj o h1
    rw [q2] at h2
    have eW:=(qw _ _ _ _).1 h2
    refine .inr ⟨V3 _ o1 q1 eW,orc.ks.length+j,?_,o1,pl,q1,eW,by rw [← Fj j hj];exact h3,h4⟩
    unfold back
    rw [oI (by omega)]
    have:Nat.blt (orc.ks.length+j) (orc.ks.length+16)=true:=by simp only [Nat.blt,Nat.ble_eq];omega
    rw [this]
    simp
  have YZ:∀ k i x v b,gR w μ σ k i x v→ptrTo v b→idx orc.ks k=none→w'.heap[b]?=w.heap[b]?∧¬ SF b:=by
   intro k i x v b hv hb hi
   obtain ⟨q1,q2,q3,_⟩:=g.mx.b7 hv hb
   refine ⟨Kt b q1 (fun k' i' o' iB ld mZ fw jk he=>g.mx.obj _ _ _ _ _ hv hb k' o' iB mZ fw jk he) (fun k' i' j' x' v' ld oM he=>?_),?_⟩
   ·obtain ⟨e1,_⟩:=g.mx.two _ _ _ _ _ _ _ _ _ hv oM hb he
    exact md _ _ hi i' (e1 ▸ ld)
   ·rintro (h1 | ⟨_,h1⟩ | ⟨_,h1⟩)
    ·exact q2 h1
    ·exact QG _ _ _ _ _ hv hb h1
    ·omega
  have QJ:∀ k i x v b,gR w μ σ k i x v→ptrTo v b→idx orc.ks k=none→∀ b',(Md w rP (kr μ orc.ks) b'∨w.heap.size≤b')→b'≠b:=by
   rintro k i x v b hv hb hi b' (h1 | h1) rfl
   ·rcases QF _ h1 with ⟨k2,i2,o4,T8,q1,q2,q3,q4,q5⟩ | ⟨k2,i2,j2,x2,v2,q1,q2,q3⟩
    ·exact g.mx.obj _ _ _ _ _ hv hb k2 o4 T8 q2 q3 q4 q5
    ·obtain ⟨e1,_⟩:=g.mx.two _ _ _ _ _ _ _ _ _ hv q2 hb q3
     exact md _ _ hi i2 (e1 ▸ q1)
   ·have:=(g.mx.b7 hv hb).1;omega
  have abm:MX E.fp E.w0.heap.size w' SF Ks Mg:=by
   refine ⟨fun k i x v h=>?_,fun k i x v b h hb k' o' iB h1 h2 h3=>?_,fun k i x v b k' i' x' v' h h' hb qT=>?_⟩
   ·rcases cls k i x v h with ⟨hi,hn,hv⟩ | ⟨Pb,q,hq,hv⟩
    ·exact (g.mx.row _ _ _ _ hv).ext (fun _ h=>.inl h) hSb fun b hb=>let ⟨a1,a2⟩:=YZ _ _ _ _ _ hv hb hi;⟨a1,a2,fun h=>h⟩
    ·refine (g'.mx.row _ _ _ _ hv).ext (Yk Pb) (fun _ _=>rfl) fun b hb=>⟨rfl,fun hs=>(g'.mx.b7 hv hb).2.1 (hSF b hs),?_⟩
     rintro (h1 | h1)
     ·rcases QF _ h1 with ⟨k2,i2,o4,T8,q1,q2,q3,q4,q5⟩ | ⟨k2,i2,j2,x2,v2,q1,q2,q3⟩
      ·rw [← q5];exact g.own k2 o4 T8 q2 q3 q4
      ·exact (g.mx.b7 q2 q3).2.2.1
     ·exact .inr (dj g.fr.size h1)
   ·rcases cls k i x v h with ⟨hi,hn,hv⟩ | ⟨Pb,q,hq,hv⟩
    ·rcases x7 k' with Hj | ⟨j',sx,rfl⟩
     ·obtain ⟨o2,Ce⟩:=hold k' o' h1 Hj
      rw [Fi k' Hj] at h2
      exact g.mx.obj _ _ _ _ _ hv hb k' o2 iB Ce h2 h3
     ·obtain ⟨o1,A8,c1,T1,q1,q2,q3,q4⟩:=Mh j' sx o' h1
      rw [Fj j' sx,q3] at h2;cases h2
      exact QJ _ _ _ _ _ hv hb hi _ (g'.own _ o1 iB q1 q3 h3)
    ·rcases x7 k' with Hj | ⟨j',sx,rfl⟩
     ·rw [Fi k' Hj] at h2
      cases hi:idx orc.ks k' with
      | some i2 =>
       have P8:=m5 _ _ _ hi
       obtain ⟨_,o2,Ce⟩:=T6 k' i2 o' P8 h1
       have ze:i2 < orc.ks.length:=(dd.1 P8).1
       have xj:cC i2=some iB:=by
        rw [g'.A9 i2 ze]
        show kr μ orc.ks i2=_
        simp [kr,P8,h2]
       exact g'.mx.obj _ _ _ _ _ hv hb i2 o2 iB Ce xj h3
      | none =>
       obtain ⟨o3,LU⟩:=hold k' o' h1 Hj
       intro he
       rcases (g'.mx.b7 hv hb).2.2.1 with h4 | h4
       ·rcases QF _ h4 with ⟨k2,i2,o4,T8,q1,q2,q3,q4,q5⟩ | ⟨k2,i2,j2,x2,v2,q1,q2,q3⟩
        ·have eE:k2≠k':=fun h=>md _ _ hi i2 (h ▸ q1)
         exact g.rep.ne k2 k' o4 o3 T8 iB eE q2 LU q3 h2 q4 h3 (q5.trans he.symm)
        ·exact g.mx.obj _ _ _ _ _ q2 q3 k' o3 iB LU h2 h3 he
       ·have:=fo k' o3 iB LU h2 h3
        have h4:w.heap.size≤b:=h4
        omega
     ·obtain ⟨o1,A8,c1,T1,q1,q2,q3,q4⟩:=Mh j' sx o' h1
      rw [Fj j' sx,q3] at h2;cases h2
      exact g'.mx.obj _ _ _ _ _ hv hb _ o1 iB q1 q3 h3
   ·rcases cls k i x v h with ⟨hi,hn,hv⟩ | ⟨Pb,q,hq,hv⟩<;>rcases cls k' i' x' v' h' with ⟨o8,Hj,oM⟩ | ⟨afh,q',O6,oM⟩
    ·exact g.mx.two _ _ _ _ _ _ _ _ _ hv oM hb qT
    ·exact (QJ _ _ _ _ _ hv hb hi _ (g'.mx.b7 oM qT).2.2.1 rfl).elim
    ·exact (QJ _ _ _ _ _ oM qT o8 _ (g'.mx.b7 hv hb).2.2.1 rfl).elim
    ·obtain ⟨e1,e2⟩:=g'.mx.two _ _ _ _ _ _ _ _ _ hv oM hb qT
     rw [e1,O6] at hq
     exact ⟨(Option.some.inj hq).symm,e2⟩
  refine ⟨v,SF,Ks,rfl,ext,⟨?_,fun b h=>.inl (g.S0 b h),?_,?_,⟨?_,?_⟩,?_,fun k hk=>by rw [Fi k (.inl (by omega))];exact g.A9 k hk,abm⟩,fun k hn h=>by rw [Fi k hn];exact h,?_⟩
  ·refine ⟨g'.fr.os.trans g.fr.os,g'.fr.tape.trans g.fr.tape,g'.fr.output.trans g.fr.output,dj g.fr.size g'.fr.size,fun b hb hnf=>?_⟩
   rw [← g.fr.b7 b hb hnf]
   refine Kt b (lV hb g.fr.size) ?_ ?_
   ·intro k i o pl hk ho hm hc he
    rcases g.own k o pl ho hm hc with h1 | h1
    ·exact hnf (he ▸ h1)
    ·have:pl.b7=b:=he
     omega
   ·intro k i j x v hk hv he
    rcases (g.mx.b7 hv he).2.2.1 with h1 | h1
    ·exact hnf h1
    ·omega
  ·rintro b (hb | ⟨_,k,hk,pl,hm,hc,rfl⟩ | ⟨hb,_⟩)
   ·exact lV (g.S1 b hb) g'.fr.size
   ·obtain ⟨_,o,ho⟩:=WO k hk
    exact lV (fo k o pl ho hm hc) g'.fr.size
   ·exact g'.S1 b hb
  ·rintro b (hb | ⟨L7,k,hk,pl,hm,hc,rfl⟩ | ⟨_,hb⟩)
   ·exact g.S2 b hb
   ·obtain ⟨_,o,ho⟩:=WO k hk
    rcases g.own k o pl ho hm hc with h1 | h1
    ·exact (hz L7 _ h1).elim
    ·exact .inr h1
   ·exact .inr (dj g.fr.size hb)
  ·intro k o ho
   rcases x7 k with hn | ⟨j,hj,rfl⟩
   ·cases hi:idx orc.ks k with
    | none =>
     have py:=ho
     rw [I2 k hi hn] at ho
     split at ho
     ·cases ho
     obtain ⟨pl,c,T,hm,cD⟩:=g.rep.ob k o ho
     refine ⟨pl,c,T,T7 _ _ hm,cD.ext ext ?_ (HY k o o pl py ho hm)⟩
     intro hc
     refine Kt _ (cm (cD.b7 hc)) ?_ (fun k' i' j' x' v' ld oM he=>g.mx.obj _ _ _ _ _ oM he k o pl ho hm hc rfl)
     intro k' i' o' iB ld mZ fw jk he
     have eE:k'≠k:=fun h=>md _ _ hi i' (h ▸ ld)
     exact g.rep.ne k' k o' o iB pl eE mZ ho fw hm jk hc he
    | some i =>
     have hk:=m5 _ _ _ hi
     obtain ⟨⟨o1,wH⟩,_⟩:=T6 k i o hk ho
     obtain ⟨pl,c,T,hm,_⟩:=g.rep.ob k o1 wH
     obtain ⟨c',T',cD⟩:=abj w' S' SF cC Ks g' Yk vp k i o pl hk ho hm (HY k o o1 pl ho wH hm)
     exact ⟨pl,c',T',T7 _ _ hm,cD⟩
   ·obtain ⟨o1,pl,c,T,h1,h2,h3,h4⟩:=Mh j hj o ho
    have h5:=YX w' S' SF cC Yk j hj o1 pl c T h1 h4 (fun hc hb=>h4.out hc (hSF _ hb))
    exact ⟨pl,c,T,by rw [Fj j hj];exact h3,by rw [h2];exact h5.jr vp⟩
  ·intro k k' o o' pl iB eE ho mZ hm fw hc jk
   rcases x7 k with hn | ⟨j,hj,rfl⟩
   ·rcases x7 k' with Hj | ⟨j',sx,rfl⟩
    ·obtain ⟨o1,wH⟩:=hold k o ho hn
     obtain ⟨o2,Ce⟩:=hold k' o' mZ Hj
     rw [Fi k hn] at hm
     rw [Fi k' Hj] at fw
     exact g.rep.ne k k' o1 o2 pl iB eE wH Ce hm fw hc jk
    ·exact fun he=>QI j' sx k o' o iB pl mZ ho hn fw hm jk hc he.symm
   ·rcases x7 k' with Hj | ⟨j',sx,rfl⟩
    ·exact QI j hj k' o o' pl iB ho mZ Hj hm fw hc jk
    ·obtain ⟨o1,A8,c1,T1,h1,h2,h3,h4⟩:=Mh j hj o ho
     obtain ⟨o2,qu,c2,T2,k1,k2,k3,k4⟩:=Mh j' sx o' mZ
     rw [Fj j hj,h3] at hm;cases hm
     rw [Fj j' sx,k3] at fw;cases fw
     exact g'.rep.ne _ _ o1 o2 pl iB (by omega) h1 k1 h3 k3 hc jk
  ·intro k o pl ho hm hc
   rcases x7 k with hn | ⟨j,hj,rfl⟩
   ·obtain ⟨o1,wH⟩:=hold k o ho hn
    rw [Fi k hn] at hm
    exact g.own k o1 pl wH hm hc
   ·obtain ⟨o1,A8,c1,T1,h1,h2,h3,h4⟩:=Mh j hj o ho
    rw [Fj j hj,h3] at hm;cases hm
    rcases V2 j o1 pl h1 h3 hc with ⟨k2,i2,o4,T8,q1,q2,q3,q4,q5⟩ | ⟨k2,i2,j2,x2,v2,q1,q2,q3⟩ | h5
    ·rw [← q5];exact g.own k2 o4 T8 q2 q3 q4
    ·exact (g.mx.b7 q2 q3).2.2.1
    ·exact .inr (dj g.fr.size h5)
  ·cases he:(bs.isEmpty || orc.wE) with
   | true=>exact (hv.jr (f:=back orc.ks nk) vp).mono (Yk he) (fun _ _=>rfl) (fun _ _ h=>h)
   | false =>
    rw [he,Bool.false_or] at Kr
    exact (hv.J4 Kr w' SF).jr (f:=back orc.ks nk) vp
 split at h
 ·split at h
  ·split at h
   ·rename_i qs DX
    cases h
    obtain ⟨hq,_⟩:=aX.app hp.2
    have T9:∀ k i:Nat,orc.ks[i]?=some k→∀ o,av (eV σ (vn orc.wE bs)) k=some o→av σ k=some o:=fun k i hk o ho=>by
     rw [me] at ho
     split at ho
     ·cases ho
     ·exact ho
    refine fin rP _ hp.1 (fun n _ _=>me _ _ _ _) ?_ ?_ ?_ ?_ ?_ ?_
    ·intro j hj o ho
     have ho:av (eV σ (vn orc.wE bs)) (nk+j)=some o:=ho
     rw [me] at ho
     split at ho
     ·cases ho
     ·rcases rO _ o ho with h1 | h1<;>omega
    ·intro w' S' A7 cC _ j hj o1 pl c T h1
     obtain ⟨k,o,hk,_⟩:=DI _ o1 h1
     rw [oI (by omega)] at hk;cases hk
    ·intro w' S' A7 cC Ks g' hS vp k i o pl hk ho hm LV
     have ho:=T9 k i hk o ho
     obtain ⟨Qz,Ts,P5⟩:=wG _ _ DX hq k (List.mem_of_getElem? hk) o ho
     have hci:av rP i=some (o.jr (idx orc.ks)):=by rw [T5];simp [hk,ho]
     obtain ⟨qu,c,T,As,cD⟩:=g'.rep.ob i _ hci
     have fo:i < orc.ks.length:=(dd.1 hk).1
     rw [g'.A9 i fo] at As
     have:μ k=some qu:=by simpa [tn,kr,hk] using As
     rw [hm] at this;cases this
     exact ⟨c,T,NG cD Ts P5 hS LV vp⟩
    ·intro k i o hk ho
     have ho:=T9 k i hk o ho
     exact ⟨⟨o,ho⟩,o.jr (idx orc.ks),by rw [T5];simp [hk,ho]⟩
    ·intro k i o hk ho j x hx
     have ho:=T9 k i hk o ho
     exact ⟨o.jr (idx orc.ks),by rw [T5];simp [hk,ho],(qw _ _ _ _).2 hx⟩
    ·intro Pb n o' mZ i
     obtain ⟨k,o,hk,ho,rfl⟩:=DI n o' mZ
     obtain ⟨Qz,Ts,P5⟩:=wG _ _ DX hq k (List.mem_of_getElem? hk) o ho
     rw [Pb] at Ts
     cases hr:rowOf (o.jr (idx orc.ks)) i with
     | none=>rfl
     | some x =>
      have:=(qw _ _ _ _).1 hr
      rw [I1 Ts P5] at this;cases this
   ·cases h
  ·rename_i q τ afi
   split at h
   ·rename_i qs Hh DX V4
    cases h
    obtain ⟨hq,_⟩:=aX.app hp.2
    simp only [a9] at V4
    obtain ⟨⟨hge,Y0⟩,abp⟩:=V4
    have NI:∀ k i:Nat,orc.ks[i]?=some k→k < nk∨nk+16≤k:=fun k i hk=>by
     obtain ⟨o,ho⟩:=zd orc.ks 0 rP TX k (List.mem_of_getElem? hk)
     exact rO k o ho
    have T9:∀ k i:Nat,orc.ks[i]?=some k→∀ o,av (eV σ (Ay orc.ks nk (q :: τ) ++ vn orc.wE bs)) k=some o→av σ k=some o:=fun k i hk o ho=>by
     rw [gf,me] at ho
     split at ho
     ·cases ho
     ·rw [vo _ _ _ Y0 (NI k i hk)] at ho;exact ho
    have Cv:∀ i:Nat,i < orc.ks.length→av (rP ++ q :: τ) i=av rP i:=fun i hi=>by
     rw [Fc]
     cases hs:av rP i with
     | some o=>rfl
     | none=>exact HX hge i hi
    have Y1:∀ j:Nat,av (rP ++ q :: τ) (orc.ks.length+j)=av (q :: τ) (orc.ks.length+j):=fun j=>by
     rw [Fc]
     have:av rP (orc.ks.length+j)=none:=by rw [T5];simp
     rw [this]
    refine fin (rP ++ q :: τ) _ hp.1 ?_ ?_ ?_ ?_ ?_ ?_ ?_
    ·intro n hn Mi
     show av (eV σ (Ay orc.ks nk (q :: τ) ++ vn orc.wE bs)) n=_
     rw [gf,me,vo _ _ _ Y0 Mi]
    ·intro j hj o ho
     have ho:av (eV σ (Ay orc.ks nk (q :: τ) ++ vn orc.wE bs)) (nk+j)=some o:=ho
     rw [gf,me] at ho
     split at ho
     ·cases ho
     rw [Bl _ _ _ abp] at ho
     split at ho
     ·rename_i o1 wH
      cases ho
      exact ⟨o1,(Y1 j).trans wH,rfl⟩
     ·rcases rO _ o ho with h1 | h1<;>omega
    ·intro w' S' A7 cC hS j hj o1 pl c T h1 h2 h3
     exact Bm h2 (hS Hh) h3
    ·intro w' S' A7 cC Ks g' hS vp k i o pl hk ho hm LV
     have ho:=T9 k i hk o ho
     obtain ⟨Qz,Ts,P5⟩:=wG _ _ DX hq k (List.mem_of_getElem? hk) o ho
     have fo:i < orc.ks.length:=(dd.1 hk).1
     have hci:av (rP ++ q :: τ) i=some (o.jr (idx orc.ks)):=by rw [Cv i fo,T5];simp [hk,ho]
     obtain ⟨qu,c,T,As,cD⟩:=g'.rep.ob i _ hci
     rw [g'.A9 i fo] at As
     have:μ k=some qu:=by simpa [tn,kr,hk] using As
     rw [hm] at this;cases this
     exact ⟨c,T,NG cD Ts P5 (fun _=>hS Hh) LV vp⟩
    ·intro k i o hk ho
     have ho:=T9 k i hk o ho
     exact ⟨⟨o,ho⟩,o.jr (idx orc.ks),by rw [Cv i (dd.1 hk).1,T5];simp [hk,ho]⟩
    ·intro k i o hk ho j x hx
     have ho:=T9 k i hk o ho
     exact ⟨o.jr (idx orc.ks),by rw [Cv i (dd.1 hk).1,T5];simp [hk,ho],(qw _ _ _ _).2 hx⟩
    ·intro Ua
     rw [Hh] at Ua;cases Ua
   ·cases h
 ·split at h
  ·rename_i qs DX Pb
   cases h
   obtain ⟨hq,_⟩:=aX.app hp.2
   rw [a9] at DX
   have VM:∀ n,av (eV σ (x5 orc.ks nk orc.jf 0 orc.ks)) n=match idx orc.ks n with
     | some j=>(av orc.jf (0+j)).map (Ob.jr (back orc.ks nk))
     | none=>av σ n:=fun n=>Cu orc.ks 0 σ n TZ
   have abq:∀ k i:Nat,orc.ks[i]?=some k→idx orc.ks k=some i:=by
    intro k i hk
    cases hi:idx orc.ks k with
    | none=>exact (md _ _ hi i hk).elim
    | some j=>rw [TZ i j k hk (m5 _ _ _ hi)]
   have NI:∀ k i:Nat,orc.ks[i]?=some k→k < nk∨nk+16≤k:=fun k i hk=>by
    obtain ⟨o,ho⟩:=zd orc.ks 0 rP TX k (List.mem_of_getElem? hk)
    exact rO k o ho
   have QK:∀ k i:Nat,orc.ks[i]?=some k→∀ o,av (eV σ (x5 orc.ks nk orc.jf 0 orc.ks ++ (Ay orc.ks nk orc.jf ++ vn orc.wE bs))) k=some o→(av orc.jf i).map (Ob.jr (back orc.ks nk))=some o:=by
    intro k i hk o ho
    rw [gf,gf,me] at ho
    split at ho
    ·cases ho
    rw [vo _ _ _ DX.1 (NI k i hk),VM k,abq k i hk] at ho
    simpa using ho
   refine fin orc.jf _ hp.1 ?_ ?_ ?_ ?_ ?_ ?_ ?_
   ·intro n hn Mi
    show av (eV σ (x5 orc.ks nk orc.jf 0 orc.ks ++ (Ay orc.ks nk orc.jf ++ vn orc.wE bs))) n=_
    rw [gf,gf,me,vo _ _ _ DX.1 Mi,VM n,hn]
   ·intro j hj o ho
    have ho:av (eV σ (x5 orc.ks nk orc.jf 0 orc.ks ++ (Ay orc.ks nk orc.jf ++ vn orc.wE bs))) (nk+j)=some o:=ho
    rw [gf,gf,me] at ho
    split at ho
    ·cases ho
    rw [Bl _ _ _ DX.2] at ho
    split at ho
    ·rename_i o1 wH
     cases ho
     exact ⟨o1,wH,rfl⟩
    ·rw [VM] at ho
     cases hi:idx orc.ks (nk+j) with
     | some i =>
      rcases NI _ i (m5 _ _ _ hi) with h1 | h1<;>omega
     | none =>
      rw [hi] at ho
      rcases rO _ o ho with h1 | h1<;>omega
   ·intro w' S' A7 cC hS j hj o1 pl c T h1 h2 h3
    rcases sI _ _ Pb hq _ o1 h1 with hl | ⟨Qz,hf,Hk⟩
    ·exact Bm h2 (hS hl) h3
    ·exact Fg h2 hf Hk h3
   ·intro w' S' A7 cC Ks g' hS vp k i o pl hk ho hm LV
    have ho:=QK k i hk o ho
    simp only [aL] at ho
    obtain ⟨o1,wH,rfl⟩:=ho
    obtain ⟨qu,c,T,As,cD⟩:=g'.rep.ob i _ wH
    have fo:i < orc.ks.length:=(dd.1 hk).1
    rw [g'.A9 i fo] at As
    have:μ k=some qu:=by simpa [tn,kr,hk] using As
    rw [hm] at this;cases this
    refine ⟨c,T,?_⟩
    rcases sI _ _ Pb hq _ o1 wH with hl | ⟨Qz,hf,Hk⟩
    ·exact (Bm cD (hS hl) LV).jr vp
    ·exact (Fg (EW:=cC) cD hf Hk LV).jr vp
   ·intro k i o hk ho
    have ho:=QK k i hk o ho
    simp only [aL] at ho
    obtain ⟨o1,wH,_⟩:=ho
    exact ⟨zd orc.ks 0 rP TX k (List.mem_of_getElem? hk),o1,wH⟩
   ·intro k i o hk ho j x hx
    have ho:=QK k i hk o ho
    simp only [aL] at ho
    obtain ⟨o1,wH,rfl⟩:=ho
    exact ⟨o1,wH,(qw _ _ _ _).1 hx⟩
   ·intro Ua n o1 wH i
    rcases sI _ _ Pb hq _ o1 wH with hl | ⟨Qz,hf,Hk⟩
    ·rw [Ua] at hl;cases hl
    ·exact uM hf Hk i
  ·cases h
def WS:List AV→Bool
 | [.atom v]=>match v with
  | .int k _=>match k with
   | .u8=>true
   | _=>false
  | _=>false
 | _=>false
def u8v:List AV→Int
 | [.atom v]=>match v with
  | .int _ x=>x
  | _=>0
 | _=>0
def strOf (n:Nat) (g:Nat→List AV):ByteArray:=⟨((List.range n).map fun i=>UInt8.ofNat (u8v (g i)).toNat).toArray⟩
theorem Ub {l:List AV} (h:WS l=true):l=[.atom (.int .u8 (u8v l))]:=by
 unfold WS at h
 split at h
 ·split at h
  ·split at h
   ·rfl
   ·cases h
  ·cases h
 ·cases h
def zf (P:Program) (σ:dp) (src dst:TypeId) (x:AV):Option (List Prop×AV×List Nat) :=
 match P.underlying src,P.underlying dst with
 | some .string,some (.slice e)=>match P.underlying e,x with
  | some (.int .u8),.atom (.string b)=>some ([],.sl b.size (fun i=>[.atom (.int .u8 (Aw b i))]),[])
  | _,_=>none
 | some (.slice e),some .string=>match P.underlying e,vg σ 1 x with
  | some (.int .u8),some (n,g,_,ps,rd)=>some ((∀ i,i < n→WS (g i)=true) :: ps,.atom (.string (strOf n g)),rd)
  | _,_=>none
 | _,_=>none
theorem foldl_push (l:List Int):∀ (r:ByteArray),l.foldl (fun r n=>r.push (UInt8.ofNat n.toNat)) r=⟨r.data ++ (l.map fun n=>UInt8.ofNat n.toNat).toArray⟩:=by
 induction l with
 | nil=>intro r;simp
 | cons b l ih =>
  intro r
  simp only [List.foldl_cons]
  rw [ih]
  simp [ByteArray.push]
theorem QL (g:Good E σ S μ w) {src dst:TypeId} {x:AV} {v:Value} (hx:ar w S μ v x) {ps:List Prop} {val:AV} {rd:List Nat} (h:zf P σ src dst x=some (ps,val,rd)) (hp:aX ps) :
  Step P E nk σ S μ w (convert src dst v) val []:=by
 unfold zf at h
 split at h
 ·rename_i e hs hd
  split at h
  ·rename_i b he
   simp only [aD,aA] at h
   obtain ⟨rfl,rfl,rfl⟩:=h
   have:=db hx;subst this
   have iX:=run_bytes_of_string w src dst e b hs hd he
   have ga:=g.drew.O1 (.cells (bytesRow b (grownCap w b.size 0 e)) e ((bytesRow b (grownCap w b.size 0 e)).size,(bytesRow b (grownCap w b.size 0 e)).size+1))
   refine ⟨_,_,_,_,iX,(Ext.drew w S μ).trans ga.1,ga.2,fun _ _ h=>h,?_⟩
   refine .sl w.heap.size 0 1 (fun i _=>.int .u8 (Aw b i)) (fun _=>⟨rfl,.inr rfl⟩) (fun i hi=>rfl) ?_ ?_ ?_
   ·intro i j hi hj
    have hj:j=0:=by omega
    subst hj
    have:=World.cell?_alloc_mark w.drew (bytesRow b (grownCap w b.size 0 e)) e ((bytesRow b (grownCap w b.size 0 e)).size,(bytesRow b (grownCap w b.size 0 e)).size+1) i
    simp only [Nat.zero_add,Nat.mul_one,Nat.add_zero]
    refine this.trans ?_
    have o8:i < b.data.size:=hi
    simp [bytesRow,Array.getElem?_append,Aw,ByteArray.getElem_eq_getElem_data,getElem?_pos,hi]
   ·intro i j c hi hc
    cases j with
    | zero=>simp at hc;subst hc;exact .atom _
    | succ j=>simp at hc
   ·simp [grownCap,Question.cut]
  ·cases h
 ·rename_i e hs hd
  split at h
  ·rename_i n gt pr qs NB he vj
   simp only [aD,aA] at h
   obtain ⟨rfl,rfl,rfl⟩:=h
   obtain ⟨hu,n5⟩:=hp
   obtain ⟨news,hn⟩:=xX g (P:=P) hx vj n5
   have Y2:∃ a len cap,v=.slice a len cap:=by
    unfold vg at vj
    split at vj
    ·cases hx;exact ⟨_,_,_,rfl⟩
    ·cases hx;exact ⟨_,_,_,rfl⟩
    ·cases hx;exact ⟨_,_,_,rfl⟩
    ·cases vj
   obtain ⟨a,len,cap,rfl⟩:=Y2
   have hlen:len=n:=by
    have:=hn.len w
    simpa [Builtin.lenOf] using this
   subst hlen
   have Kn:news=((List.range len).map fun i=>Value.int .u8 (u8v (gt i))):=by
    have kj:news.length=len:=by simpa using hn.size
    apply List.ext_getElem?
    intro i
    by_cases hi:i < len
    ·have h1:news[i]?=some (news[i]'(by omega)):=kb _
     have hg:=Ub (hu i hi)
     have h2:=hn.rep i 0 _ _ hi (by rw [hg];rfl) (by simpa only [Nat.mul_one,Nat.add_zero] using h1)
     have h3:=db h2
     rw [h1,h3]
     simp [hi]
    ·rw [oI (by omega),oI (by simp;omega)]
   have abr:(((List.range len).map fun i=>u8v (gt i)).foldl (fun r n=>r.push (UInt8.ofNat n.toNat)) ByteArray.empty)=strOf len gt:=by
    rw [foldl_push]
    have h0:ByteArray.empty.data=#[]:=rfl
    rw [h0];simp [strOf]
   refine Step.pure g (v:=.string (strOf len gt)) ?_ (.atom _)
   rw [run_convert_bytes_string w src dst e a len cap hs he hd]
   cases a with
   | none =>
    have:len=0:=by
     rcases Nat.eq_zero_or_pos len with h0 | h0
     ·exact h0
     ·have:=hn.cells w rfl
      have hz:news=[]:=by
       have:news.toArray=#[]:=by simpa [Builtin.firstCells] using this.symm
       simpa using this
      rw [hz] at Kn
      have:=congrArg List.length Kn
      simp at this;omega
    subst this
    rfl
   | some a =>
    rw [← abr]
    refine run_bytesToString w a len cap _ ?_
    have:=hn.cells w rfl
    rw [Kn] at this
    simpa [Builtin.firstCells,Function.comp_def] using this
  ·cases h
 ·cases h
open Go.MapKept
def xk (P:Program) (kt:TypeId) (a b:AV):Option Bool :=
 match a,b with
 | .atom a,.atom b=>match a,b with
  | .string s,.string t=>some (Be s t)
  | .int k x,.int k' y=>match decide (k=k') with
   | true=>some (x == y)
   | false=>none
  | _,_=>none
 | .agg ys,.agg xs=>match Nat.beq ys.length xs.length with
  | true=>Ck P 64 kt (.agg xs) (.agg ys)
  | false=>none
 | _,_=>none
def look (P:Program) (kt:TypeId):List AV→AV→Option (Option AV)
 | k :: v :: r,x=>match xk P kt k x with
  | some true=>some (some v)
  | some false=>look P kt r x
  | none=>none
 | [_],_=>none
 | [],_=>some none
def Az (P:Program) (kt:TypeId):List AV→AV→AV→Option (List AV)
 | k :: v :: r,x,y=>match xk P kt k x with
  | some true=>some (k :: y :: r)
  | some false=>(Az P kt r x y).map fun l=>k :: v :: l
  | none=>none
 | [_],_,_=>none
 | [],x,y=>some [x,y]
def allI (k:IntKind):List AV→Bool
 | []=>true
 | .atom (.int k' _) :: r=>match decide (k'=k) with
  | true=>allI k r
  | false=>false
 | _ :: _=>false
def jT (P:Program) (d:TypeDesc) (x:AV):Bool :=
 match d,x with
 | .string,.atom v=>match v with
  | .string _=>true
  | _=>false
 | .int k,.atom v=>match v with
  | .int k' _=>decide (k'=k)
  | _=>false
 | .array n e,.agg xs=>match P.underlying e,ub P e with
  | some (.int k),some m=>Nat.beq m 1 && Nat.beq xs.length n && allI k xs
  | _,_=>false
 | _,_=>false
def uN (R:Value→AV→Prop):List MapEntry→List AV→Prop
 | [],[]=>True
 | e :: es,k :: v :: cs=>R e.key k∧R e.val v∧uN R es cs
 | _,_=>False
theorem Mj (c:Array Value) (i:Nat) (hi:i < c.size / 2):(ej c)[i]?=some ⟨c[2 * i]?.getD undef,c[2 * i+1]?.getD undef,i⟩:=by
 simp [ej,hi]
theorem x8 (c:Array Value):(ej c).size=c.size / 2:=by simp [ej]
theorem NJ {R:Value→AV→Prop} {c:Array Value} {cs:List AV} (h1:c.size % 2=0) (h2:c.size=cs.length) (h3:∀ (j:Nat) x v,cs[j]?=some x→c[j]?=some v→R v x):uN R (ej c).toList cs:=by
 have key:∀ (n o:Nat),2 * (o+n)=c.size→uN R ((List.range' o n).map fun i=>(⟨c[2 * i]?.getD undef,c[2 * i+1]?.getD undef,i⟩:MapEntry)) (cs.drop (2 * o)):=by
  intro n
  induction n with
  | zero=>intro o h;rw [List.drop_of_length_le (by omega)];trivial
  | succ n ih =>
   intro o h
   have e1:2 * o < cs.length:=by omega
   have e2:2 * o+1 < cs.length:=by omega
   rw [List.range'_succ,List.map_cons,List.drop_eq_getElem_cons e1,List.drop_eq_getElem_cons e2]
   have d1:c[2 * o]?=some c[2 * o]:=dM _
   have d2:c[2 * o+1]?=some c[2 * o+1]:=dM _
   have YU:=ih (o+1) (by omega)
   rw [show 2 * (o+1)=2 * o+1+1 by omega] at YU
   refine ⟨?_,?_,YU⟩
   ·rw [d1];exact h3 _ _ _ (kb e1) d1
   ·rw [d2];exact h3 _ _ _ (kb e2) d2
 have:=key (c.size / 2) 0 (by omega)
 have e:(ej c).toList=(List.range' 0 (c.size / 2)).map fun i=>(⟨c[2 * i]?.getD undef,c[2 * i+1]?.getD undef,i⟩:MapEntry):=by
  unfold ej
  rw [Array.toList_map,Array.toList_range,List.range_eq_range']
 rw [e];exact this
theorem NK (a b:ByteArray):(a == b)=Be a b:=by
 have hl:∀ x:ByteArray,x.toList=x.data.toList:=fun x=>ByteArray.toList_eq x
 rw [Bool.eq_iff_iff,bytes_beq]
 unfold Be
 rw [hl,hl,beq_iff_eq]
 constructor
 ·rintro rfl;rfl
 ·intro h
  cases a;cases b
  simp only at h
  rw [Array.toList_inj.1 h]
theorem wJ {d:TypeDesc} {kt:TypeId} {kv ev:Value} {v:Value} {k:AV} {b:Bool} (hx:jT P d (.atom v)=true) {w w':World} {S S':Nat→Prop} {μ cC:Mu} (h1:ar w S μ kv (.atom v)) (h2:ar w' S' cC ev k) (h:xk P kt k (.atom v)=some b) :
  IsKey d kv∧Instr.sameNow d kv ev=some b∧(b=true→ev=kv):=by
 have:=db h1;subst this
 cases k with
 | atom u =>
  have:=db h2;subst this
  cases d<;>cases kv<;>simp [jT] at hx
  ·rename_i k0 k' n
   subst hx
   cases ev<;>simp [xk] at h
   rename_i ka a
   by_cases hk:ka=k'
   ·subst hk
    rw [decide_eq_true rfl] at h
    simp only [aD] at h
    subst h
    refine ⟨rfl,?_,?_⟩
    ·simp only [Instr.sameNow,if_true]
     congr 1
     rw [Bool.eq_iff_iff];simp only [beq_iff_eq];exact eq_comm
    ·intro hb
     rw [beq_iff_eq] at hb
     rw [hb]
   ·rw [decide_eq_false hk] at h;cases h
  ·cases ev<;>simp [xk] at h
   rename_i s a
   subst h
   refine ⟨trivial,?_,?_⟩
   ·simp only [Instr.sameNow,NK]
    congr 1
    unfold Be;rw [Bool.eq_iff_iff];simp only [beq_iff_eq];exact eq_comm
   ·intro hb
    rw [← NK,bytes_beq] at hb
    rw [hb]
 | _=>simp [xk] at h
theorem Ku {d:TypeDesc} {kv v:Value} (hx:jT P d (.atom v)=true) {w:World} {S:Nat→Prop} {μ:Mu} (h1:ar w S μ kv (.atom v)):IsKey d kv:=by
 have:=db h1;subst this
 cases d<;>cases kv<;>simp [jT] at hx
 ·exact hx
 ·trivial
theorem zg {d:TypeDesc} {xs:List AV} (hx:jT P d (.agg xs)=true):∃ n e k,d=.array n e∧P.underlying e=some (.int k)∧ub P e=some 1∧xs.length=n∧allI k xs=true:=by
 cases d<;>simp [jT] at hx
 rename_i n e
 split at hx
 ·rename_i k m h1 h2
  simp only [a9] at hx
  have hm:=bp hx.1.1
  subst hm
  exact ⟨n,e,k,rfl,h1,h2,bp hx.1.2,hx.2⟩
 ·cases hx
theorem NL {k:IntKind}:∀ {xs:List AV},allI k xs=true→∀ i,i < xs.length→∃ a,xs[i]?=some (.atom (.int k a))
 | [],_,i,h=>by simp at h
 | .atom (.int k' a) :: r,h,i,hi=>by
  unfold allI at h
  split at h
  ·rename_i hk
   have hk:=oJ hk
   subst hk
   cases i with
   | zero=>exact ⟨a,rfl⟩
   | succ i=>simpa using NL h i (by simpa using hi)
  ·cases h
theorem Bn {k:IntKind} {xs:List AV} (h:allI k xs=true) {w:World} {S:Nat→Prop} {μ:Mu} {kv:Value} (hr:ar w S μ kv (.agg xs)):∃ vs:Array Value,kv=.agg vs∧vs.size=xs.length∧∀ i,i < xs.length→∃ a,xs[i]?=some (.atom (.int k a))∧vs[i]?=some (.int k a):=by
 obtain ⟨vs,rfl,h1,h2⟩:=nL hr
 refine ⟨vs,rfl,h1,fun i hi=>?_⟩
 obtain ⟨a,ha⟩:=NL h i hi
 have hv:vs[i]?=some vs[i]:=dM _
 have:=db (h2 i _ _ ha hv)
 exact ⟨a,ha,by rw [hv,this]⟩
theorem zh {k:IntKind}:∀ {xs:List AV},allI k xs=true→AV.lD xs=true
 | [],_=>rfl
 | .atom (.int k' a) :: r,h=>by
  unfold allI at h
  split at h
  ·simpa [AV.lD,AV.pure] using zh h
  ·cases h
theorem HZ {d:TypeDesc} {kt:TypeId} {kv xv:Value} (hx:jT P d (.atom xv)=true) {w w':World} {S S':Nat→Prop} {μ cC:Mu} (h1:ar w S μ kv (.atom xv)):∀ (es:List MapEntry) (cs:List AV) (i:Nat) (r:Option AV),uN (ar w' S' cC) es cs→look P kt cs (.atom xv)=some r →
  (r=none∧Instr.findNow d kv es i=some none)∨∃ (j:Nat) (e:MapEntry) (v:AV),r=some v∧Instr.findNow d kv es i=some (some (i+j,e.val))∧ar w' S' cC e.val v
 | [],[],i,r,_,h=>by simp only [look,aD] at h;exact .inl ⟨h.symm,rfl⟩
 | e :: es,k :: v :: cs,i,r,hR,h=>by
  obtain ⟨r1,r2,r3⟩:=hR
  simp only [look] at h
  split at h
  ·rename_i hq
   cases h
   obtain ⟨_,q2,_⟩:=wJ hx h1 r1 hq
   exact .inr ⟨0,e,v,rfl,by simp [Instr.findNow,q2],r2⟩
  ·rename_i hq
   obtain ⟨_,q2,_⟩:=wJ hx h1 r1 hq
   rcases HZ hx h1 es cs (i+1) r r3 h with ⟨a,b⟩ | ⟨j,e',v',a,b,c⟩
   ·exact .inl ⟨a,by simp [Instr.findNow,q2,b]⟩
   ·exact .inr ⟨j+1,e',v',a,by simp [Instr.findNow,q2,b];omega,c⟩
  ·cases h
 | [],_ :: _,_,_,hR,_=>by simp [uN] at hR
 | _ :: _,[],_,_,hR,_=>by simp [uN] at hR
 | _ :: _,[_],_,_,hR,_=>by simp [uN] at hR
theorem Kv {d:TypeDesc} {kt:TypeId} {kv xv:Value} {y:AV} (hx:jT P d (.atom xv)=true) {w w':World} {S S':Nat→Prop} {μ cC:Mu} (h1:ar w S μ kv (.atom xv)):∀ (es:List MapEntry) (cs:List AV) (i:Nat) (H0:List AV),uN (ar w' S' cC) es cs→Az P kt cs (.atom xv) y=some H0 →
  (Instr.findNow d kv es i=some none∧H0=cs ++ [.atom xv,y])∨∃ (j:Nat) (e:MapEntry),Instr.findNow d kv es i=some (some (i+j,e.val))∧es[j]?=some e∧e.key=kv∧H0=cs.set (2 * j+1) y
 | [],[],i,H0,_,h=>by simp only [Az,aD] at h;exact .inl ⟨rfl,h.symm⟩
 | e :: es,k :: v :: cs,i,H0,hR,h=>by
  obtain ⟨r1,r2,r3⟩:=hR
  simp only [Az] at h
  split at h
  ·rename_i hq
   cases h
   obtain ⟨_,q2,q3⟩:=wJ hx h1 r1 hq
   exact .inr ⟨0,e,by simp [Instr.findNow,q2],rfl,q3 rfl,rfl⟩
  ·rename_i hq
   obtain ⟨_,q2,_⟩:=wJ hx h1 r1 hq
   simp only [aL] at h
   obtain ⟨l,hl,rfl⟩:=h
   rcases Kv hx h1 es cs (i+1) l r3 hl with ⟨a,b⟩ | ⟨j,e',a,b,c,q⟩
   ·exact .inl ⟨by simp [Instr.findNow,q2,a],by rw [b];rfl⟩
   ·exact .inr ⟨j+1,e',by simp [Instr.findNow,q2,a];omega,by simpa using b,c,by rw [q,show 2 * (j+1)+1=2 * j+1+1+1 by omega];rfl⟩
  ·cases h
 | [],_ :: _,_,_,hR,_=>by simp [uN] at hR
 | _ :: _,[],_,_,hR,_=>by simp [uN] at hR
 | _ :: _,[_],_,_,hR,_=>by simp [uN] at hR
theorem QM {e:TypeId} {k:IntKind} (hu:P.underlying e=some (.int k)):∀ (D n i:Nat) (xs ys:List AV),z9 P D e 1 xs ys i n=some true→∀ j,i≤j→j < i+n→xs[j]?=ys[j]?∧(xs[j]?).isSome=true:=by
 intro D
 induction D with
 | zero =>
  intro n i xs ys h j h1 h2
  cases n with
  | zero=>omega
  | succ n=>simp [z9] at h
 | succ D ih =>
  intro n i xs ys h j h1 h2
  cases n with
  | zero=>omega
  | succ n =>
   simp only [z9,Nat.mul_one] at h
   split at h
   ·rename_i a c _ ha hc
    split at h
    ·rename_i p q hp hq
     simp only [aD,a9] at h
     obtain ⟨rfl,rfl⟩:=h
     by_cases hj:j=i
     ·subst hj
      have cell:∀ (l:List AV) (z:AV),jQ P e l j=some z→l[j]?=some z:=fun l z hz=>by
       unfold jQ at hz
       rw [hu] at hz
       split at hz
       ·rename_i d' n' VX _
        cases VX
        exact hz
       ·cases hz
      rw [cell _ _ ha,cell _ _ hc]
      cases D with
      | zero=>simp [Ck] at hp
      | succ D =>
       simp only [Ck,hu] at hp
       split at hp
       ·split at hp
        ·rename_i hk
         have hk:=oJ hk
         subst hk
         simp only [aD,beq_iff_eq] at hp
         subst hp
         exact ⟨rfl,rfl⟩
        ·cases hp
       ·cases hp
     ·exact ih n (i+1) xs ys hq j (by omega) (by omega)
    ·cases h
   ·cases h
theorem zk {d:TypeDesc} {kt:TypeId} (hd:P.underlying kt=some d) {xs:List AV} (hx:jT P d (.agg xs)=true) {w:World} {S:Nat→Prop} {kv ev:Value} {k:AV} {b:Bool} (h1:ar w S fZ kv (.agg xs)) (h2:ar w S fZ ev k) (h:xk P kt k (.agg xs)=some b) :
  (Op.equal kt kv ev).run P w=.ok b w∧(b=true→ev=kv):=by
 cases k with
 | agg ys =>
  unfold xk at h
  simp only at h
  split at h
  ·rename_i hl
   have hl:=bp hl
   refine ⟨(Kg 64).1 Op.maxDepth kt _ _ _ _ _ (by decide) h1 h2 h,fun hb=>?_⟩
   subst hb
   obtain ⟨n,e,kk,rfl,hu,hs,hn,qz⟩:=zg hx
   obtain ⟨vs,rfl,Hf,Cl⟩:=Bn qz h1
   obtain ⟨us,rfl,J1,G5⟩:=nL h2
   simp only [Ck,hd,hs] at h
   have tk:=QM hu _ _ _ _ _ h
   congr 1
   apply Array.ext
   ·omega
   ·intro i hi1 Tt
    have hi:i < xs.length:=by omega
    obtain ⟨a,Uc,Tu⟩:=Cl i hi
    obtain ⟨hq,_⟩:=tk i (Nat.zero_le _) (by omega)
    rw [Uc] at hq
    have:=db (G5 i _ us[i] hq.symm (dM _))
    rw [this]
    rw [dM Tt] at Tu
    exact (Option.some.inj Tu).symm
  ·cases h
 | _=>simp [xk] at h
theorem Kw {d:TypeDesc} {kt:TypeId} (hd:P.underlying kt=some d) {xs:List AV} (hx:jT P d (.agg xs)=true) {w:World} {S:Nat→Prop} {kv:Value} (h1:ar w S fZ kv (.agg xs)):∀ (es:List MapEntry) (cs:List AV) (i:Nat) (r:Option AV),uN (ar w S fZ) es cs→look P kt cs (.agg xs)=some r →
  (r=none∧(Instr.findAsking kt kv es i).run P w=.ok none w)∨∃ (j:Nat) (e:MapEntry) (v:AV),r=some v∧(Instr.findAsking kt kv es i).run P w=.ok (some (i+j,e.val)) w∧ar w S fZ e.val v
 | [],[],i,r,_,h=>by simp only [look,aD] at h;exact .inl ⟨h.symm,by simp [Instr.findAsking]⟩
 | e :: es,k :: v :: cs,i,r,hR,h=>by
  obtain ⟨r1,r2,r3⟩:=hR
  simp only [look] at h
  split at h
  ·rename_i hq
   cases h
   obtain ⟨q2,_⟩:=zk hd hx h1 r1 hq
   exact .inr ⟨0,e,v,rfl,by simp [Instr.findAsking,q2,Result.andThen],r2⟩
  ·rename_i hq
   obtain ⟨q2,_⟩:=zk hd hx h1 r1 hq
   rcases Kw hd hx h1 es cs (i+1) r r3 h with ⟨a,b⟩ | ⟨j,e',v',a,b,c⟩
   ·exact .inl ⟨a,by simp [Instr.findAsking,q2,Result.andThen,b]⟩
   ·exact .inr ⟨j+1,e',v',a,by simp [Instr.findAsking,q2,Result.andThen,b];omega,c⟩
  ·cases h
 | [],_ :: _,_,_,hR,_=>by simp [uN] at hR
 | _ :: _,[],_,_,hR,_=>by simp [uN] at hR
 | _ :: _,[_],_,_,hR,_=>by simp [uN] at hR
theorem NM {d:TypeDesc} {kt:TypeId} (hd:P.underlying kt=some d) {xs:List AV} {y:AV} (hx:jT P d (.agg xs)=true) {w:World} {S:Nat→Prop} {kv:Value} (h1:ar w S fZ kv (.agg xs)):∀ (es:List MapEntry) (cs:List AV) (i:Nat) (H0:List AV),uN (ar w S fZ) es cs→Az P kt cs (.agg xs) y=some H0 →
  ((Instr.findAsking kt kv es i).run P w=.ok none w∧H0=cs ++ [.agg xs,y])∨∃ (j:Nat) (e:MapEntry),(Instr.findAsking kt kv es i).run P w=.ok (some (i+j,e.val)) w∧es[j]?=some e∧e.key=kv∧H0=cs.set (2 * j+1) y
 | [],[],i,H0,_,h=>by simp only [Az,aD] at h;exact .inl ⟨by simp [Instr.findAsking],h.symm⟩
 | e :: es,k :: v :: cs,i,H0,hR,h=>by
  obtain ⟨r1,r2,r3⟩:=hR
  simp only [Az] at h
  split at h
  ·rename_i hq
   cases h
   obtain ⟨q2,q3⟩:=zk hd hx h1 r1 hq
   exact .inr ⟨0,e,by simp [Instr.findAsking,q2,Result.andThen],rfl,q3 rfl,rfl⟩
  ·rename_i hq
   obtain ⟨q2,_⟩:=zk hd hx h1 r1 hq
   simp only [aL] at h
   obtain ⟨l,hl,rfl⟩:=h
   rcases NM hd hx h1 es cs (i+1) l r3 hl with ⟨a,b⟩ | ⟨j,e',a,b,c,q⟩
   ·exact .inl ⟨by simp [Instr.findAsking,q2,Result.andThen,a],by rw [b];rfl⟩
   ·exact .inr ⟨j+1,e',by simp [Instr.findAsking,q2,Result.andThen,a];omega,by simpa using b,c,by rw [q,show 2 * (j+1)+1=2 * j+1+1+1 by omega];rfl⟩
  ·cases h
 | [],_ :: _,_,_,hR,_=>by simp [uN] at hR
 | _ :: _,[],_,_,hR,_=>by simp [uN] at hR
 | _ :: _,[_],_,_,hR,_=>by simp [uN] at hR
theorem Bo {kt:TypeId} {n:Nat} {e:TypeId} (hd:P.underlying kt=some (.array n e)) {w:World} {vs:Array Value} {es:List MapEntry} {a:Option (Nat×Value)} (h:(Instr.findAsking kt (.agg vs) es 0).run P w=.ok a w):(Instr.findKey kt (.agg vs) es).run P w=.ok a w:=by
 cases es with
 | nil =>
  simp [Instr.findAsking] at h
  subst h
  simp [Instr.findKey,run_underlying hd,Result.andThen,Instr.findNow]
 | cons z es=>simpa [Instr.findKey,run_underlying hd,Result.andThen,Instr.findNow,Instr.sameNow] using h
theorem QN {d:TypeDesc} {kt:TypeId} (hd:P.underlying kt=some d) {x:AV} (hx:jT P d x=true) {w:World} {S:Nat→Prop} {μ:Mu} {kv:Value} (h1:ar w S μ kv x) {es:List MapEntry} {cs:List AV} {r:Option AV} (hR:uN (ar w S fZ) es cs) (h:look P kt cs x=some r) :
  (r=none∧(Instr.findKey kt kv es).run P w=.ok none w)∨∃ (j:Nat) (e:MapEntry) (v:AV),r=some v∧(Instr.findKey kt kv es).run P w=.ok (some (j,e.val)) w∧ar w S fZ e.val v:=by
 cases x with
 | atom xv =>
  rcases HZ hx h1 es cs 0 r hR h with ⟨a,b⟩ | ⟨j,e,v,a,b,c⟩
  ·exact .inl ⟨a,run_findKey hd b⟩
  ·exact .inr ⟨j,e,v,a,by rw [Nat.zero_add] at b;exact run_findKey hd b,c⟩
 | agg xs =>
  obtain ⟨n,e,k,rfl,_,_,_,qz⟩:=zg hx
  have Kx:ar w S fZ kv (.agg xs):=h1.pure (zh qz) fZ
  obtain ⟨vs,rfl,_,_⟩:=Bn qz Kx
  rcases Kw hd hx Kx es cs 0 r hR h with ⟨a,b⟩ | ⟨j,e,v,a,b,c⟩
  ·exact .inl ⟨a,Bo hd b⟩
  ·exact .inr ⟨j,e,v,a,by rw [Nat.zero_add] at b;exact Bo hd b,c⟩
 | _=>cases d<;>simp [jT] at hx
theorem Ud {d:TypeDesc} {kt:TypeId} (hd:P.underlying kt=some d) {x y:AV} (hx:jT P d x=true) {w:World} {S:Nat→Prop} {μ:Mu} {kv:Value} (h1:ar w S μ kv x) {es:List MapEntry} {cs H0:List AV} (hR:uN (ar w S fZ) es cs) (h:Az P kt cs x y=some H0) :
  ((Instr.findKey kt kv es).run P w=.ok none w∧H0=cs ++ [x,y])∨∃ (j:Nat) (e:MapEntry),(Instr.findKey kt kv es).run P w=.ok (some (j,e.val)) w∧es[j]?=some e∧e.key=kv∧H0=cs.set (2 * j+1) y:=by
 cases x with
 | atom xv =>
  rcases Kv hx h1 (y:=y) es cs 0 H0 hR h with ⟨a,b⟩ | ⟨j,e,a,b⟩
  ·exact .inl ⟨run_findKey hd a,b⟩
  ·exact .inr ⟨j,e,by rw [Nat.zero_add] at a;exact run_findKey hd a,b⟩
 | agg xs =>
  obtain ⟨n,e,k,rfl,_,_,_,qz⟩:=zg hx
  have Kx:ar w S fZ kv (.agg xs):=h1.pure (zh qz) fZ
  obtain ⟨vs,rfl,_,_⟩:=Bn qz Kx
  rcases NM hd hx Kx (y:=y) es cs 0 H0 hR h with ⟨a,b⟩ | ⟨j,e,a,b⟩
  ·exact .inl ⟨Bo hd a,b⟩
  ·exact .inr ⟨j,e,by rw [Nat.zero_add] at a;exact Bo hd a,b⟩
 | _=>cases d<;>simp [jT] at hx
theorem QO {d:TypeDesc} {x:AV} (hx:jT P d x=true):x.pure=true:=by
 cases x with
 | atom xv=>rfl
 | agg xs=>obtain ⟨_,_,k,_,_,_,_,qz⟩:=zg hx;simpa [AV.pure] using zh qz
 | _=>cases d<;>simp [jT] at hx
theorem H2 {d:TypeDesc} {kt:TypeId} (hd:P.underlying kt=some d) {x:AV} (hx:jT P d x=true) {w:World} {S:Nat→Prop} {μ:Mu} {kv:Value} (h1:ar w S μ kv x) (b:Bool):(Instr.checkKey b 10000 kt kv).run P w=.ok () w:=by
 cases x with
 | atom xv=>exact run_checkKey hd (Ku hx h1) b 9999
 | agg xs =>
  obtain ⟨n,e,k,rfl,hu,hs,hn,qz⟩:=zg hx
  obtain ⟨vs,rfl,Hf,Cl⟩:=Bn qz h1
  obtain ⟨us,hus,J1,G5⟩:=nL h1
  cases hus
  have loop:∀ (m i:Nat),i+m=n→(forIn (m:=Sem) (List.range' i m) PUnit.unit fun i _=>do
    let z ← sizeOf e
    let q ← part e vs (i * z)
    Instr.checkKey b 9999 e q
    pure (ForInStep.yield PUnit.unit)).run P w=.ok PUnit.unit w:=by
   intro m
   induction m with
   | zero=>intro i _;simp
   | succ m ih =>
    intro i him
    have hi:i < xs.length:=by omega
    obtain ⟨a,Uc,Tu⟩:=Cl i hi
    have hc:jQ P e xs i=some (.atom (.int k a)):=by
     unfold jQ
     rw [hu,hs]
     exact Uc
    obtain ⟨v,r1,r2⟩:=jR Hf G5 hc (fun n' Hj=>by rw [hs] at Hj;cases Hj;omega)
    have:=db r2;subst this
    have WT:(Instr.checkKey b 9999 e (.int k a)).run P w=.ok () w:=run_checkKey hu (show IsKey (.int k) (.int k a) from rfl) b 9998
    rw [List.range'_succ,List.forIn_cons]
    simp only [bJ,eM hs,Nat.mul_one,r1,WT,cO]
    simpa using ih (i+1) (by omega)
  unfold Instr.checkKey
  simp only [bJ,run_underlying hd,cO]
  rw [Std.Legacy.Range.forIn_eq_forIn_range']
  simp only [Std.Legacy.Range.size,Nat.sub_zero,Nat.add_sub_cancel,Nat.div_one]
  have:=loop n 0 (by omega)
  simp [Result.andThen] at this ⊢
  rw [this]
 | _=>cases d<;>simp [jT] at hx
theorem Pd {d:TypeDesc} {x:AV} (hx:jT P d x=true) {w:World} {S:Nat→Prop} {μ:Mu} {kv:Value} (h1:ar w S μ kv x):(Instr.keyThatStays kv kv).run P w=.ok kv w:=by
 cases x with
 | atom xv=>exact run_keyThatStays (Ku hx h1)
 | agg xs =>
  obtain ⟨n,e,k,rfl,hu,hs,hn,qz⟩:=zg hx
  obtain ⟨vs,rfl,Hf,Cl⟩:=Bn qz h1
  have:Instr.sameBits 10000 (.agg vs) (.agg vs)=true:=by
   have hz:∀ l:List Value,(∀ v,v∈l→∃ a,v=.int k a)→(l.zip l).all (fun (x,y)=>Instr.sameBits 9999 x y)=true:=by
    intro l
    induction l with
    | nil=>intro _;rfl
    | cons a l ih =>
     intro h
     obtain ⟨z,rfl⟩:=h a (.head _)
     simp only [List.zip_cons_cons,List.all_cons,a9]
     exact ⟨by simp [Instr.sameBits],ih fun v hv=>h v (.tail _ hv)⟩
   simp only [Instr.sameBits,beq_self_eq_true,Bool.true_and]
   refine hz _ fun v hv=>?_
   obtain ⟨i,hi,rfl⟩:=List.getElem_of_mem hv
   have hi:i < vs.size:=by simpa using hi
   obtain ⟨a,_,ha⟩:=Cl i (by omega)
   rw [dM hi] at ha
   exact ⟨a,by simpa using Option.some.inj ha⟩
  simp [Instr.keyThatStays,this]
 | _=>cases d<;>simp [jT] at hx
theorem Ky (c:Array Value) (h:c.size % 2=0) (a b:Value):ej ((c.push a).push b)=(ej c).push ⟨a,b,c.size / 2⟩:=by
 apply Array.ext
 ·simp [ej];omega
 ·intro i h1 h2
  have hs:i < (c.size+1+1) / 2:=by simpa [ej] using h1
  by_cases hi:i < c.size / 2
  ·rw [Array.getElem_push_lt (by rw [x8];exact hi)]
   have e1:2 * i < c.size:=by omega
   have e2:2 * i+1 < c.size:=by omega
   simp [ej,Array.getElem?_push,e1,e2,Nat.ne_of_lt e1,Nat.ne_of_lt e2,show ¬ 2 * i=c.size+1 by omega,show ¬ 2 * i+1=c.size+1 by omega]
  ·have:i=c.size / 2:=by omega
   subst this
   have e1:2 * (c.size / 2)=c.size:=by omega
   simp [ej,Array.getElem_push,Array.getElem?_push,e1]
theorem Mk (c:Array Value) (j:Nat) (e:MapEntry) (he:(ej c)[j]?=some e) (v:Value):ej (c.setIfInBounds (2 * j+1) v)=(ej c).modify j fun q=>{ q with key:=e.key,val:=v }:=by
 have hj:j < c.size / 2:=by
  have:=(Array.getElem?_eq_some_iff.1 he).1
  rwa [x8] at this
 rw [Mj c j hj] at he
 cases he
 apply Array.ext
 ·simp [ej]
 ·intro i h1 h2
  have hi:i < c.size / 2:=by simpa [ej] using h1
  rw [Array.getElem_modify]
  by_cases Ue:j=i
  ·subst Ue
   simp [ej,Array.getElem?_setIfInBounds,show ¬ 2 * j+1=2 * j by omega,show 2 * j+1 < c.size by omega]
  ·rw [if_neg Ue]
   simp [ej,Array.getElem?_setIfInBounds,show ¬ 2 * j+1=2 * i by omega,show ¬ 2 * j=2 * i by omega,Ue]
def vq (P:Program) (σ:dp) (t:TypeId) (m x:AV) (ok:Bool) (orc:lW):Option (List Prop×AV×List Nat) :=
 match m,P.underlying t with
 | .mp k,some (.map kt et)=>match P.underlying kt,av σ k,su P et with
  | some d,some o,some z=>match jT P d x && Nat.beq o.sz 0 with
   | true=>match ok with
    | false=>some ([(look P kt (o.get 0) x).map (fun r=>r.getD (ofConst z))=some orc.res],orc.res,[k])
    | true=>some ([(look P kt (o.get 0) x).map (fun r=>AV.tup [r.getD (ofConst z),.atom (.bool r.isSome)])=some orc.res],orc.res,[k])
   | false=>none
  | _,_,_=>none
 | _,_=>none
def vu (P:Program) (σ:dp) (t:TypeId) (m x y:AV) (orc:lW):Option (List Prop×rU×List Nat) :=
 match m,P.underlying t,orc.res with
 | .mp k,some (.map kt _),.tup cs=>match P.underlying kt,av σ k with
  | some d,some o=>match jT P d x && Nat.beq o.sz 0 && Nat.beq o.len 0 && y.pure with
   | true=>some ([Az P kt (o.get 0) x y=some cs],[(k,some ⟨o.var,o.sz,o.len,true,fun _=>cs⟩)],[k])
   | false=>none
  | _,_=>none
 | _,_,_=>none
theorem H3 (g:Good E σ S μ w) {k:Nat} {o:Ob} (ho:av σ k=some o) (hz:o.sz=0) {v:Value} (hv:ar w S μ v (.mp k)) :
  ∃ pl c T,μ k=some pl∧gr w S μ o pl c T∧v=.map (some pl.b7):=by
 obtain ⟨pl,c,T,hm,cD⟩:=g.rep.ob k o ho
 cases hv with
 | mp iB fw=>rw [hm] at fw;cases fw;exact ⟨pl,c,T,hm,cD,rfl⟩
theorem Pe (g:Good E σ S μ w) {t:TypeId} {m x:AV} {ok:Bool} {orc:lW} {vm vx:Value} (hm:ar w S μ vm m) (hx:ar w S μ vx x) {ps:List Prop} {val:AV} {rd:List Nat}
  (h:vq P σ t m x ok orc=some (ps,val,rd)) (hp:aX ps):∃ v,(Instr.lookup t vm vx ok).run P w=.ok v w∧ar w S μ v val:=by
 unfold vq at h
 split at h
 ·rename_i k kt et ht
  split at h
  ·rename_i d o z hd ho hz
   split at h
   ·rename_i hb
    simp only [a9] at hb
    have NN:=bp hb.2
    obtain ⟨pl,c,T,qJ,cD,rfl⟩:=H3 g ho NN hm
    obtain ⟨hc,m1,m2,m3,m4⟩:=cD.mp NN
    have Kz:w.heap[pl.b7]?=some (.map (ej c) (c.size / 2)):=(cD.b7 hc).trans (by rw [wu NN])
    have QP:=NJ m1 m2 m4
    have QQ:=fun b=>H2 hd hb.1 hx b
    have main:∀ r,look P kt (o.get 0) x=some r→∃ v,ar w S μ v (r.getD (ofConst z))∧(Instr.lookup t (.map (some pl.b7)) vx ok).run P w=.ok (if ok then .tuple #[v,.bool r.isSome] else v) w:=by
     intro r hr
     rcases QN hd hb.1 hx QP hr with ⟨rfl,q⟩ | ⟨j,e,v,rfl,q1,q2⟩
     ·refine ⟨z,HO w S μ z,?_⟩
      simp [Instr.lookup,run_underlying ht,Go.MapKept.run_getObj_map Kz,QQ,q,HP hz,Result.andThen]
     ·refine ⟨e.val,hH (pr:=true) q2,?_⟩
      simp [Instr.lookup,run_underlying ht,Go.MapKept.run_getObj_map Kz,QQ,q1,Result.andThen]
    split at h
    ·simp only [aD,aA] at h
     obtain ⟨rfl,rfl,rfl⟩:=h
     obtain ⟨tX,_⟩:=hp
     simp only [aL] at tX
     obtain ⟨r,hr,eW⟩:=tX
     obtain ⟨v,h1,h2⟩:=main r hr
     exact ⟨v,by simpa using h2,by rw [← eW];exact h1⟩
    ·simp only [aD,aA] at h
     obtain ⟨rfl,rfl,rfl⟩:=h
     obtain ⟨tX,_⟩:=hp
     simp only [aL] at tX
     obtain ⟨r,hr,eW⟩:=tX
     obtain ⟨v,h1,h2⟩:=main r hr
     refine ⟨.tuple #[v,.bool r.isSome],by simpa using h2,?_⟩
     rw [← eW]
     refine .tup rfl fun j c v' hc hv=>?_
     match j with
     | 0=>simp at hc hv;subst hc hv;exact h1
     | 1=>simp at hc hv;subst hc hv;exact .atom _
     | j+2=>simp at hc
   ·cases h
  ·cases h
 ·cases h
theorem H4 (g:Good E σ S μ w) {t:TypeId} {m x y:AV} {orc:lW} {vm vx vy:Value} (hm:ar w S μ vm m) (hx:ar w S μ vx x) (hy:ar w S μ vy y) {ps:List Prop} {upd:rU} {rd:List Nat}
  (h:vu P σ t m x y orc=some (ps,upd,rd)) (hp:aX ps):∃ w',(Instr.mapUpdate t vm vx vy).run P w=.ok () w'∧Ext w S μ w' S μ∧Good E (eV σ upd) S μ w':=by
 unfold vu at h
 split at h
 ·rename_i k kt et cs ht Kr
  split at h
  ·rename_i d o hd ho
   split at h
   ·rename_i hb
    simp only [aD,aA] at h
    obtain ⟨rfl,rfl,rfl⟩:=h
    simp only [a9] at hb
    obtain ⟨⟨⟨nJ,lN⟩,P4⟩,TP⟩:=hb
    have NN:=bp lN
    have Ki:=bp P4
    obtain ⟨tX,_⟩:=hp
    obtain ⟨pl,c,T,qJ,cD,rfl⟩:=H3 g ho NN hm
    obtain ⟨hc,m1,m2,m3,m4⟩:=cD.mp NN
    have Kz:w.heap[pl.b7]?=some (.map (ej c) (c.size / 2)):=(cD.b7 hc).trans (by rw [wu NN])
    have QP:=NJ m1 m2 m4
    have QQ:=fun b=>H2 hd nJ hx b
    have Y3:=Pd nJ hx
    have hxp:x.pure=true:=QO nJ
    -- the block that is written
    have fin:∀ (c':Array Value),c'.size % 2=0→c'.size=cs.length→(∀ (j:Nat) x v,cs[j]?=some x→c'[j]?=some v→ar w S fZ v x) →
      (Instr.mapUpdate t (.map (some pl.b7)) vx vy).run P w=.ok () { w with heap:=w.heap.setIfInBounds pl.b7 (.map (ej c') (c'.size / 2)) } →
      ∃ w',(Instr.mapUpdate t (.map (some pl.b7)) vx vy).run P w=.ok () w'∧Ext w S μ w' S μ∧Good E (eV σ [(k,some ⟨o.var,o.sz,o.len,true,fun _=>cs⟩)]) S μ w':=by
     intro c' e1 e2 e3 iX
     refine ⟨_,iX,?_⟩
     have Cw:=heap_set (o':=.map (ej c') (c'.size / 2)) Kz
     refine g.TI (w':={ w with heap:=w.heap.setIfInBounds pl.b7 (.map (ej c') (c'.size / 2)) }) ho qJ hc cD rfl rfl rfl (by simp) (fun b hb=>Cw.2 b hb) ⟨o.var,o.sz,o.len,true,fun _=>cs⟩ (pU fun i hi=>absurd hi (by show ¬ i < o.len;omega)) (fun ex=>⟨c',T,cD.sz,fun _=>?_,?_,by show o.len≤pl.cap;omega,cD.out,fun i hi=>absurd hi (by show ¬ i < o.len;omega),fun i j x v hi=>absurd hi (by show ¬ i < o.len;omega),fun _=>⟨hc,e1,e2,rfl,fun j x v hx hv=>(e3 j x v hx hv).mono ex.EV ex.b7 (fun _ _ h=>h)⟩⟩)
     ·show _=some (Ar o.sz c' T)
      rw [wu NN];exact Cw.1
     ·show pl.cap * o.sz≤_
      rw [NN];simp
    rcases Ud hd nJ hx (y:=y) QP tX with ⟨q1,q2⟩ | ⟨j,e,q1,q2,q3,q4⟩
    ·refine fin ((c.push vx).push vy) (by simp;omega) (by rw [q2];simp;omega) ?_ ?_
     ·intro j x' v' ss oM
      rw [q2] at ss
      by_cases hj:j < c.size
      ·rw [eH (by omega)] at ss
       rw [Array.getElem?_push,if_neg (by simp;omega),Array.getElem?_push,if_neg (by omega)] at oM
       exact m4 j x' v' ss oM
      ·rw [gF (by omega)] at ss
       by_cases hj0:j=c.size
       ·subst hj0
        rw [show c.size - (o.get 0).length=0 by omega] at ss
        rw [Array.getElem?_push,if_neg (by simp),Array.getElem?_push,if_pos rfl] at oM
        simp at ss oM
        subst ss oM
        exact hx.pure hxp fZ
       ·by_cases hj1:j=c.size+1
        ·subst hj1
         rw [show c.size+1 - (o.get 0).length=1 by omega] at ss
         rw [Array.getElem?_push,if_pos (by simp)] at oM
         simp at ss oM
         subst ss oM
         exact hy.pure TP fZ
        ·rw [oI (by simp;omega)] at ss;cases ss
     ·rw [Ky c m1]
      have e:((c.push vx).push vy).size / 2=c.size / 2+1:=by simp;omega
      rw [e]
      simp [Instr.mapUpdate,run_underlying ht,Go.MapKept.run_getObj_map Kz,QQ,q1,Go.MapKept.run_setObj_map _ Kz,Result.andThen]
    ·have Tv:(ej c)[j]?=some e:=by simpa using q2
     have hj:j < c.size / 2:=by
      have:=(Array.getElem?_eq_some_iff.1 Tv).1
      rwa [x8] at this
     refine fin (c.setIfInBounds (2 * j+1) vy) (by simpa using m1) (by rw [q4];simpa using m2) ?_ ?_
     ·intro i x' v' ss oM
      rw [q4,List.getElem?_set] at ss
      rw [Array.getElem?_setIfInBounds] at oM
      by_cases hi:2 * j+1=i
      ·subst hi
       rw [if_pos rfl,if_pos (by omega)] at ss
       rw [if_pos rfl,if_pos (by omega)] at oM
       simp at ss oM
       subst ss oM
       exact hy.pure TP fZ
      ·rw [if_neg hi] at ss oM
       exact m4 i x' v' ss oM
     ·rw [Mk c j e Tv vy]
      simp [Instr.mapUpdate,run_underlying ht,Go.MapKept.run_getObj_map Kz,QQ,q1,Tv,q3,Y3,Go.MapKept.run_setObj_map _ Kz,Result.andThen]
   ·cases h
  ·cases h
 ·cases h
theorem Ml (g:Good E σ S μ w) (zU:∀ j,j < 16→μ (nk+j)=none) (oc:E.m0≤nk) {f:AV} {args:List AV} {orc:lW} {r:R} {fv:Value} (hf:ar w S μ fv f) {vargs:Array Value} (ha:RL w S μ vargs args)
  (hz:orc.wE=true→∀ b,¬ E.fp b) (h:Fe P nk σ f args orc=some r) (hp:aX r.Hb) :
  ∃ gid vs,(do let d ← Deferred.ofValue fv vargs;invoke d.target d.args:Sem Next).run P w=.ok (.enter gid vs) w ∧
   Calls P gid vs w fun e w'=>∃ v S' cC,e=.returned v∧Ext w S μ w' S' cC∧Good E (eV σ r.upd) S' cC w'∧(∀ k,(k < nk∨nk+16≤k)→μ k=none→cC k=none)∧ar w' S' cC v r.val :=
 DH (ob:=Sound P) g zU oc hf ha hz (fun _ _ _ _ _ _ vs hs g0 hn qz=>hs w _ _ vs g0 hn qz) h hp
end
end Go.Ab
