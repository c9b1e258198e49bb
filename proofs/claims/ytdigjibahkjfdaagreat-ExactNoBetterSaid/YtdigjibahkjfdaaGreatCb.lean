/- Abstract values over the heap of the machine, and functions read off its code (part 2). No conditions. -/
import Derived.Test.YtdigjibahkjfdaaGreatCa
import Derived.Laws.IdiomStrings
import Derived.MapKept
import Derived.Carry
set_option linter.unusedVariables false
set_option linter.unusedSimpArgs false
namespace Go.Ab
section
variable {P:Program} {E:Env} {nk:Nat} {σ:du} {S:Nat→Prop} {μ:Mu} {w:World}
def QT (P:Program) (T:TypeId) (x:AV):Option AV :=
 match P.underlying T with
 | some .string=>match x with
  | .atom (.string s)=>some (.atom (.int .i64 s.size))
  | _=>none
 | some (.array n _)=>some (.atom (.int .i64 n))
 | some (.slice _)=>match x with
  | .os _ _ n=>some (.atom (.int .i64 n))
  | .sl n _=>some (.atom (.int .i64 n))
  | .nil=>some (.atom (.int .i64 0))
  | _=>none
 | _=>none
theorem Xg {T:TypeId} {x:AV} {v:Value} (hx:aq w S μ v x) {r:AV} (h:QT P T x=some r) (ty:TypeId) :
  ∃ u,(Builtin.len_ #[T] ty #[v]).run P w=.ok u w∧aq w S μ u r:=by
 unfold QT at h
 split at h
 ·rename_i hu
  split at h
  ·cases h
   have:=db hx;subst this
   exact ⟨_,by simp [Builtin.len_,run_underlying hu,goInt],.atom _⟩
  ·cases h
 ·rename_i n e hu
  cases h
  exact ⟨_,by simp [Builtin.len_,run_underlying hu,goInt],.atom _⟩
 ·rename_i e hu
  split at h
  ·cases h
   cases hx with
   | os pl hm h1 h2 h3=>exact ⟨_,by simp [Builtin.len_,run_underlying hu,goInt],.atom _⟩
  ·cases h
   cases hx with
   | sl b off sz f h1 h2 h3 h4 h5=>exact ⟨_,by simp [Builtin.len_,run_underlying hu,goInt],.atom _⟩
  ·cases h
   cases hx
   exact ⟨_,by simp [Builtin.len_,run_underlying hu,goInt],.atom _⟩
  ·cases h
 ·cases h
def vC (σ:du) (sz:Nat) (x:AV):Option (Nat×(Nat→List AV)×Bool×List Prop×List Nat) :=
 match x with
 | .nil=>some (0,fun _=>[],true,[],[])
 | .sl n g=>match Nat.beq (g 0).length sz with
  | true=>some (n,g,true,[∀ i,i < n→AV.kN (g i)=true],[])
  | false=>none
 | .os k off n=>match au σ k with
  | some o=>match Nat.beq o.sz sz with
   | true=>some (n,(fun i=>o.get (bQ off i)),o.pr,[off+n≤o.len,∀ i,i < n→AV.kN (o.get (bQ off i))=true],[k])
   | false=>none
  | none=>none
 | _=>none
theorem AK {n:Nat} {g:Nat→List AV} (h:(List.range n).all (fun i=>AV.kN (g i))=true):∀ i,i < n→AV.kN (g i)=true :=
 fun i hi=>List.all_eq_true.1 h i (mO.2 hi)
structure Src (P:Program) (w:World) (S:Nat→Prop) (μ:Mu) (sz:Nat) (v:Value) (n:Nat) (g:Nat→List AV) (pr:Bool) (news:List Value):Prop where
 len:∀ w':World,(Builtin.lenOf v).run P w'=.ok n w'
 cells:∀ w':World,w'.heap=w.heap→(Builtin.firstCells sz n v).run P w'=.ok news.toArray w'
 size:news.length=n * sz
 one:∀ u∈news,u.oneCell'=true
 tz:∀ i,i < n→(g i).length=sz
 rep:∀ i j x u,i < n→(g i)[j]?=some x→news[i * sz+j]?=some u→aq w S (if pr then fV else μ) u x
 Ul:∀ i,i < n→AV.kN (g i)=true
theorem Ik {n sz q:Nat} (h:q < n * sz):q / sz < n∧q % sz < sz∧q=q / sz * sz+q % sz:=by
 have h0:0 < sz:=by
  rcases Nat.eq_zero_or_pos sz with h1 | h1
  ·subst h1;simp at h
  ·exact h1
 refine ⟨Nat.div_lt_of_lt_mul (by rw [oI];exact h),Nat.mod_lt _ h0,?_⟩
 rw [oI];exact (Nat.div_add_mod q sz).symm
theorem Src.mk' {sz n:Nat} {g:Nat→List AV} {pr:Bool} {b o len cap:Nat} (f:Nat→Nat→Value) (hl:n=len)
  (hc:∀ i j,i < n→j < sz→w.cell? ⟨b,o+i * sz+j,none⟩=some (f i j)) (h1:∀ i,i < n→AV.kN (g i)=true) (pS:∀ i,i < n→(g i).length=sz)
  (hr:∀ i j x,i < n→(g i)[j]?=some x→aq w S (if pr then fV else μ) (f i j) x) :
  ∃ news,Src P w S μ sz (.slice (some ⟨b,o,none⟩) len cap) n g pr news:=by
 subst hl
 refine ⟨(List.range (n * sz)).map fun q=>f (q / sz) (q % sz),?_⟩
 have oa:∀ q u,((List.range (n * sz)).map fun q=>f (q / sz) (q % sz))[q]?=some u→q < n * sz∧u=f (q / sz) (q % sz):=by
  intro q u hq
  have ft:q < n * sz:=by
   have:=(dd.1 hq).1
   simpa using this
  simp [List.getElem?_range ft] at hq
  exact ⟨ft,hq.symm⟩
 refine ⟨fun w'=>by simp [Builtin.lenOf],fun w' hw=>?_,by simp,?_,pS,?_,h1⟩
 ·have sI:∀ a,w'.cell? a=w.cell? a:=fun a=>by simp [World.cell?,hw]
  refine run_firstCells_some w' sz n ⟨b,o,none⟩ n cap _ (by simp) ?_
  intro q u hq
  obtain ⟨ft,rfl⟩:=oa q u hq
  obtain ⟨h2,h3,h4⟩:=Ik ft
  rw [sI,Addr.add_mid]
  have:=hc _ _ h2 h3
  rw [Nat.add_assoc,← h4] at this
  exact this
 ·intro u hu
  obtain ⟨q,hq⟩:=List.getElem?_of_mem hu
  obtain ⟨ft,rfl⟩:=oa q u hq
  obtain ⟨h2,h3,h4⟩:=Ik ft
  have hx:(g (q / sz))[q % sz]?=some ((g (q / sz))[q % sz]'(by rw [pS _ h2];exact h3)):=ke _
  exact (hr _ _ _ h2 hx).Je (Fo (h1 _ h2) hx)
 ·intro i j x u hi hx hu
  obtain ⟨ft,rfl⟩:=oa _ u hu
  have hj:j < sz:=by
   have:=(dd.1 hx).1
   rwa [pS i hi] at this
  have e1:(i * sz+j) / sz=i:=by
   rw [oI,Nat.mul_add_div (by omega),Nat.div_eq_of_lt hj];omega
  have e2:(i * sz+j) % sz=j:=by
   rw [oI,Nat.mul_add_mod,Nat.mod_eq_of_lt hj]
  rw [e1,e2]
  exact hr i j x hi hx
theorem Src.empty {sz:Nat} {g:Nat→List AV} {pr:Bool} {a:Option Addr} {cap:Nat}:Src P w S μ sz (.slice a 0 cap) 0 g pr []:=by
 refine ⟨fun w'=>by simp [Builtin.lenOf],fun w' _=>?_,by simp,by simp,fun i h=>absurd h (by omega),fun i j x u h=>absurd h (by omega),fun i h=>absurd h (by omega)⟩
 cases a with
 | none=>simp [Builtin.firstCells]
 | some a=>simp [Builtin.firstCells,loadCells,loadCellsFrom]
theorem yq (g:Good E σ S μ w) {sz:Nat} {x:AV} {v:Value} (hx:aq w S μ v x) {n:Nat} {gt:Nat→List AV} {pr:Bool} {ps:List Prop} {rd:List Nat}
  (h:vC σ sz x=some (n,gt,pr,ps,rd)) (hp:aW ps):∃ news,Src P w S μ sz v n gt pr news:=by
 unfold vC at h
 split at h
 ·simp only [az,ay] at h
  obtain ⟨rfl,rfl,rfl,rfl,rfl⟩:=h
  cases hx
  exact ⟨[],Src.empty⟩
 ·rename_i n' g'
  split at h
  ·rename_i hb
   have hb:=bm hb
   simp only [az,ay] at h
   obtain ⟨rfl,rfl,rfl,rfl,rfl⟩:=h
   cases hx with
   | sl b off Wl f h1 h2 h3 h4 h5 =>
    rcases Nat.eq_zero_or_pos n' with h0 | h0
    ·subst h0;exact ⟨[],Src.empty⟩
    ·obtain ⟨ha,_⟩:=h1 h0
     subst ha
     have hs:Wl=sz:=by rw [← h2 0 h0,hb]
     subst hs
     exact Src.mk' f rfl h3 hp.1 h2 (fun i j x hi hx=>h4 i j x hi hx)
  ·cases h
 ·rename_i k off n'
  split at h
  ·rename_i o ho
   split at h
   ·rename_i hb
    have hb:=bm hb
    simp only [az,ay] at h
    obtain ⟨rfl,hg,rfl,rfl,rfl⟩:=h
    have Ud:gt=fun i=>o.get (off+i):=by
     rw [← hg];funext i;rw [dq]
    subst Ud
    obtain ⟨hle,HF,_⟩:=hp
    simp only [dq] at HF
    obtain ⟨pl,c,T',hm,cE⟩:=g.rep.ob k o ho
    subst hb
    cases hx with
    | os iJ fy h1 h2 h3 =>
     rename_i cap a
     rw [hm] at fy;cases fy
     rcases Nat.eq_zero_or_pos n' with h0 | h0
     ·subst h0;exact ⟨[],Src.empty⟩
     ·have ha:=h1 (by omega)
      subst ha
      refine Src.mk' (fun i j=>(c[(off+i) * o.sz+j]?).getD undef) rfl ?_ HF (fun i hi=>cE.tz _ (by omega)) ?_
      ·intro i j hi hj
       obtain ⟨v,q1,q2⟩:=di cE (i:=off+i) (by omega) hj
       rw [q1,cE.sz,← ca,q2];rfl
      ·intro i j x hi hx
       obtain ⟨v,q1,q2⟩:=di cE (i:=off+i) (by omega) (by have:=(dd.1 hx).1;rwa [cE.tz _ (by omega)] at this)
       rw [q1]
       exact cE.rep _ j x v (by omega) hx q1
   ·cases h
  ·cases h
 ·cases h
def q9 (P:Program) (nk:Nat) (σ:du) (t:TypeId) (s x:AV):Option (List Prop×AV×List Nat×r7) :=
 match mm P t with
 | some e=>match uj P e,wR P e,sH P e with
  | some sz,some b,some z=>match Nat.ble 1 sz && Nat.ble 1 b && Nat.beq z.cells.size sz,vC σ sz x with
   | true,some (n,g,pr,ps,rd)=>match s with
    | .nil=>some ((n * b≤140737488355328) :: ps,.os nk 0 n,rd,[(nk,some ⟨false,sz,n,pr,g⟩)])
    | .os k 0 len=>match au σ k with
     | some o=>match Nat.beq o.sz sz && !o.var with
      | true=>some ((len=o.len) :: ((len+n) * b≤140737488355328) :: ps,.os nk 0 (len+n),k :: rd,
        [(k,none),(nk,some ⟨false,sz,len+n,o.pr && pr,fun m=>if m < len then o.get m else g (m - len)⟩)])
      | false=>none
     | none=>none
    | _=>none
   | _,_=>none
  | _,_,_=>none
 | none=>none
theorem DW {t ty e:TypeId} {i:TypeInfo} (ht:P.underlying t=some (.slice e)) (hi:P.info? e=some i) {sLen sCap n:Nat} {vx:Value} {news:List Value}
  (hl:∀ w':World,(Builtin.lenOf vx).run P w'=.ok n w') (hc:∀ w':World,w'.heap=w.heap→(Builtin.firstCells i.size n vx).run P w'=.ok news.toArray w') (hle:sLen+n≤sCap) :
  (Builtin.append_ #[t,t] ty #[.slice none sLen sCap,vx]).run P w=.ok (.slice none (sLen+n) sCap) w:=by
 simp [Builtin.append_,run_underlying ht,sizeOf,typeInfo,hi,hl,hle,hc w rfl]
theorem Ft {t ty e:TypeId} {i:TypeInfo} (ht:P.underlying t=some (.slice e)) (hi:P.info? e=some i) {g sLen sCap n:Nat} {cur:Array Value} {T:TypeId} (hg:w.heap[g]?=some (.cells cur T (0,0))) {vx:Value} {news:List Value}
  (hl:∀ w':World,(Builtin.lenOf vx).run P w'=.ok n w') (hc:∀ w':World,w'.heap=w.heap→(Builtin.firstCells i.size n vx).run P w'=.ok news.toArray w') (h1:∀ u∈news,u.oneCell'=true)
  (hle:sLen+n≤sCap) (xY:sLen * i.size+news.length≤cur.size) :
  (Builtin.append_ #[t,t] ty #[.slice (some ⟨g,0,none⟩) sLen sCap,vx]).run P w =
   .ok (.slice (some ⟨g,0,none⟩) (sLen+n) sCap) (w.setRow g (cur.toList.take (sLen * i.size) ++ news ++ cur.toList.drop (sLen * i.size+news.length)).toArray):=by
 have zs:=run_storeCells_at P g (sLen * i.size) T news 0 cur w hg (by simpa using xY) h1
 simp only [Nat.add_zero] at zs
 simp [Builtin.append_,run_underlying ht,sizeOf,typeInfo,hi,hl,hle,hc w rfl,Addr.add_lit,zs]
theorem Mw {t ty e:TypeId} {i:TypeInfo} (ht:P.underlying t=some (.slice e)) (hi:P.info? e=some i) {g b sLen sCap n:Nat} {cur:Array Value} {T:TypeId} (hg:w.heap[g]?=some (.cells cur T (0,0))) {vx:Value} {news:List Value}
  (hl:∀ w':World,(Builtin.lenOf vx).run P w'=.ok n w') (hc:∀ w':World,w'.heap=w.heap→(Builtin.firstCells i.size n vx).run P w'=.ok news.toArray w') (h1:∀ u∈news,u.oneCell'=true)
  (hle:sLen+n≤sCap) (xY:b+sLen * i.size+news.length≤cur.size) :
  (Builtin.append_ #[t,t] ty #[.slice (some ⟨g,b,none⟩) sLen sCap,vx]).run P w =
   .ok (.slice (some ⟨g,b,none⟩) (sLen+n) sCap) (w.setRow g (cur.toList.take (b+sLen * i.size) ++ news ++ cur.toList.drop (b+sLen * i.size+news.length)).toArray):=by
 have zs:=run_storeCells_at P g (b+sLen * i.size) T news 0 cur w hg (by simpa using xY) h1
 simp only [Nat.add_zero] at zs
 simp [Builtin.append_,run_underlying ht,sizeOf,typeInfo,hi,hl,hle,hc w rfl,Addr.add_lit,zs]
theorem wW {t ty e:TypeId} {i:TypeInfo} {z:Value} (ht:P.underlying t=some (.slice e)) (hi:P.info? e=some i) (hz:i.zero=some z) {base:Option Addr} {sLen sCap n:Nat} {vx:Value} {olds news:List Value}
  (ho:∀ w':World,w'.heap=w.heap→(Builtin.firstCells i.size sLen (.slice base sLen sCap)).run P w'=.ok olds.toArray w')
  (hl:∀ w':World,(Builtin.lenOf vx).run P w'=.ok n w') (hc:∀ w':World,w'.heap=w.heap→(Builtin.firstCells i.size n vx).run P w'=.ok news.toArray w')
  (hg:sCap < sLen+n) (hb:1≤i.bytes) (xY:(sLen+n) * i.bytes≤140737488355328) :
  (Builtin.append_ #[t,t] ty #[.slice base sLen sCap,vx]).run P w =
   .ok (.slice (some ⟨w.heap.size,0,none⟩) (sLen+n) (grownCap w (sLen+n) sCap e))
    (w.drew.alloc (.cells (olds.toArray ++ news.toArray ++ Builtin.zeroCells z.cells (grownCap w (sLen+n) sCap e - (sLen+n))) e)):=by
 have hn:¬ (sLen+n≤sCap):=by omega
 have yl:(sLen+n) * 1≤(sLen+n) * i.bytes:=Nat.mul_le_mul_left _ hb
 have abP:¬ (9223372036854775807 < ((sLen:Int)+(n:Int))):=by omega
 have h48:=growslice_fits hg xY
 have abQ:¬ (281474976710656 < Builtin.nextslicecap (sLen+n) sCap * i.bytes):=by omega
 have e1:=hc w.drew rfl
 have e2:=ho w.drew rfl
 simp [Builtin.append_,run_underlying ht,sizeOf,typeInfo,zeroValue,hi,hz,hl,hn,abP,abQ,Question.forced,e1,e2,newRow,grownCap]
 congr 2
 apply Array.ext'
 simp
theorem Fu (w:World) (Zk vB:Nat) (e:TypeId):Zk≤grownCap w Zk vB e:=by simp [grownCap,Question.cut]
theorem Good.grow (g:Good E σ S μ w) (hk:μ nk=none) (hm:E.m0≤nk) {sz n len cap:Nat} {e:TypeId} {olds news:List Value} {rest:Array Value} {pr:Bool} {get:Nat→List AV}
  (ho:olds.length=len * sz) (hn:news.length=n * sz) (hr:rest.size=(cap - (len+n)) * sz) (hle:len+n≤cap)
  (pS:∀ i,i < len+n→(get i).length=sz)
  (xX:∀ i j x u,i < len+n→(get i)[j]?=some x→(olds ++ news)[i * sz+j]?=some u→aq w S (if pr then fV else μ) u x) (CF:sz≠0)
  (TM:MX E.fp E.w0.heap.size (w.drew.alloc (.cells (olds.toArray ++ news.toArray ++ rest) e)) S (cm μ nk ⟨w.heap.size,cap,sz⟩) (sset σ nk ⟨false,sz,len+n,pr,get⟩)) :
  Ext w S μ (w.drew.alloc (.cells (olds.toArray ++ news.toArray ++ rest) e)) S (cm μ nk ⟨w.heap.size,cap,sz⟩) ∧
  Good E (sset σ nk ⟨false,sz,len+n,pr,get⟩) S (cm μ nk ⟨w.heap.size,cap,sz⟩) (w.drew.alloc (.cells (olds.toArray ++ news.toArray ++ rest) e)):=by
 have kr:(olds.toArray ++ news.toArray ++ rest).size=cap * sz:=by
  simp only [Array.size_append,List.size_toArray,ho,hn,hr]
  rw [← ca,← ca];congr 1;omega
 have ga:=g.drew.QF (nk:=nk) hk hm (olds.toArray ++ news.toArray ++ rest) e ⟨false,sz,len+n,pr,get⟩ cap (by rw [kr];exact aP _) hle pS ?_ CF TM
 ·exact ⟨(Ext.drew w S μ).trans ga.1,ga.2⟩
 ·intro i j x v hi hx hv
  have hj:j < sz:=by
   have:=(dd.1 hx).1
   have e:(get i).length=sz:=pS i hi
   exact e ▸ this
  have ft:i * sz+j < (olds ++ news).length:=by
   have h1:(i+1) * sz≤(len+n) * sz:=dC _ (show i+1≤len+n from hi)
   rw [ca,ca] at h1
   simp only [mN,ho,hn]
   omega
  have oJ:(olds ++ news)[i * sz+j]?=some v:=by
   rw [show olds.toArray ++ news.toArray ++ rest=(olds ++ news).toArray ++ rest by simp] at hv
   rw [Array.getElem?_append_left (by simpa using ft)] at hv
   simpa using hv
  have:=xX i j x v hi hx oJ
  exact aq.mono (w:=w) (w':=w.drew) (S':=S) (fun _ h=>h) (fun _ _=>rfl) this (fun _ _ h=>h)
theorem Good.move (g:Good E σ S μ w) (hk:μ nk=none) (hm:E.m0≤nk) {k:Nat} {o:Ob} {pl:Place} (ho:au σ k=some o) (qP:μ k=some pl) (o':Ob) {c:Array Value} {T:TypeId} (cE:gy w S μ o' pl c T)
  (ui:∀ i x,rowOf o' i=some x→rowOf o i=some x) :
  Ext w S μ w S (cm μ nk pl)∧Good E (sset (qz σ k) nk o') S (cm μ nk pl) w:=by
 have gd:=g.del k
 have Hw:∀ n iJ,μ n=some iJ→cm μ nk pl n=some iJ:=fun n iJ h=>by
  unfold cm
  split
  ·rename_i rT;rw [rT,hk] at h;cases h
  ·exact h
 have ex:Ext w S μ w S (cm μ nk pl):=⟨aP _,fun _ h=>h,fun _ _=>rfl,Hw⟩
 refine ⟨ex,⟨g.fr,g.S0,g.S1,g.S2,⟨?_,?_⟩,?_,?_,?_⟩⟩
 rotate_right
 ·have TP:k≠nk:=fun h=>by rw [h,hk] at qP;cases qP
  have key:∀ q i x v,gR w (cm μ nk pl) (sset (qz σ k) nk o') q i x v→(q=nk∧gR w μ σ k i x v)∨(q≠nk∧q≠k∧gR w μ σ q i x v):=by
   rintro q i x v ⟨o2,qA,h1,h2,h3,h4⟩
   rw [bg] at h1
   unfold cm at h3
   by_cases hq:nk=q
   ·rw [if_pos hq] at h1;cases h1
    rw [if_pos hq.symm] at h3;cases h3
    exact .inl ⟨hq.symm,o,pl,ho,ui i x h2,qP,h4⟩
   ·rw [if_neg hq] at h1
    rw [if_neg (fun h=>hq h.symm)] at h3
    rw [eH] at h1
    split at h1
    ·cases h1
    ·rename_i hkq
     exact .inr ⟨fun h=>hq h.symm,fun h=>hkq h.symm,o2,qA,h1,h2,h3,h4⟩
  refine g.mx.tr (fun q=>if q=nk then k else q) (fun q i x v h=>?_) (fun q i x v q' i' x' v' h h' e=>?_) (fun _ h=>h) (fun _ _=>rfl) (fun q i x v b _ h hb=>⟨rfl,(g.mx.b6 h hb).2.1,fun h=>h⟩) (fun q o2 qA h1 h2 h3=>?_)
  ·rcases key q i x v h with ⟨h1,h2⟩ | ⟨h1,_,h2⟩
   ·show gR w μ σ (if q=nk then k else q) i x v
    rw [if_pos h1];exact h2
   ·show gR w μ σ (if q=nk then k else q) i x v
    rw [if_neg h1];exact h2
  ·have e:(if q=nk then k else q)=(if q'=nk then k else q'):=e
   rcases key q i x v h with ⟨h1,_⟩ | ⟨h1,h2,_⟩<;>rcases key q' i' x' v' h' with ⟨h3,_⟩ | ⟨h3,h4,_⟩
   ·exact h1.trans h3.symm
   ·rw [if_pos h1,if_neg h3] at e;exact absurd e.symm h4
   ·rw [if_neg h1,if_pos h3] at e;exact absurd e h2
   ·rw [if_neg h1,if_neg h3] at e;exact e
  ·rw [bg] at h1
   unfold cm at h2
   by_cases hq:nk=q
   ·rw [if_pos hq.symm] at h2;cases h2
    exact .inl ⟨k,o,pl,ho,qP,h3,rfl⟩
   ·rw [if_neg hq,eH] at h1
    rw [if_neg (fun h=>hq h.symm)] at h2
    split at h1
    ·cases h1
    ·exact .inl ⟨q,o2,qA,h1,h2,h3,rfl⟩
 ·intro q oq hq
  rw [bg] at hq
  by_cases hqn:nk=q
  ·rw [if_pos hqn] at hq;cases hq
   exact ⟨pl,c,T,by simp [cm,hqn],cE.ext ex (fun _=>rfl) cE.out⟩
  ·rw [if_neg hqn] at hq
   obtain ⟨qA,c2,T2,AF,Jm⟩:=gd.rep.ob q oq hq
   exact ⟨qA,c2,T2,Hw _ _ AF,Jm.ext ex (fun _=>rfl) Jm.out⟩
 ·intro q q' oq oq' Bn qA ec hq Pr Ao CM c1 c2
  rw [bg] at hq Pr
  simp only [cm] at Ao CM
  by_cases e1:nk=q
  ·rw [if_pos e1.symm] at Ao;cases Ao
   have e2:¬ nk=q':=fun h=>ec (e1.symm.trans h)
   rw [if_neg e2] at Pr;rw [if_neg (fun h=>e2 h.symm)] at CM
   rw [eH] at Pr
   split at Pr
   ·cases Pr
   ·rename_i e3
    exact g.rep.ne k q' o oq' pl qA e3 ho Pr qP CM c1 c2
  ·rw [if_neg e1] at hq;rw [if_neg (fun h=>e1 h.symm)] at Ao
   rw [eH] at hq
   split at hq
   ·cases hq
   ·rename_i e3
    by_cases e2:nk=q'
    ·rw [if_pos e2.symm] at CM;cases CM
     exact g.rep.ne q k oq o Bn pl (fun h=>e3 h.symm) hq ho Ao qP c1 c2
    ·rw [if_neg e2] at Pr;rw [if_neg (fun h=>e2 h.symm)] at CM
     rw [eH] at Pr
     split at Pr
     ·cases Pr
     ·exact g.rep.ne q q' oq oq' Bn qA ec hq Pr Ao CM c1 c2
 ·intro q oq plq hq Ao c1
  rw [bg] at hq
  simp only [cm] at Ao
  by_cases e1:nk=q
  ·rw [if_pos e1.symm] at Ao;cases Ao;exact g.own k o _ ho qP c1
  ·rw [if_neg e1] at hq;rw [if_neg (fun h=>e1 h.symm)] at Ao
   exact gd.own q oq plq hq Ao c1
 ·intro q hq;rw [mZ _ (by omega)];exact g.Bo q hq
theorem Good.congr {dx:du} (g:Good E σ S μ w) (h:∀ n,au dx n=au σ n):Good E dx S μ w :=
 ⟨g.fr,g.S0,g.S1,g.S2,⟨fun k o hk=>g.rep.ob k o (h k ▸ hk),fun k k' o o' pl iJ ec hk lj=>g.rep.ne k k' o o' pl iJ ec (h k ▸ hk) (h k' ▸ lj)⟩,
  fun k o pl hk=>g.own k o pl (h k ▸ hk),g.Bo,g.mx.tr id (fun k i x v ⟨o,pl,h1,h2⟩=>⟨o,pl,h k ▸ h1,h2⟩) (fun _ _ _ _ _ _ _ _ _ _ h=>h) (fun _ h=>h) (fun _ _=>rfl)
   (fun k i x v b _ h hb=>⟨rfl,(g.mx.b6 h hb).2.1,fun h=>h⟩) (fun k o pl h1 h2 h3=>.inl ⟨k,o,pl,h k ▸ h1,h2,h3,rfl⟩)⟩
theorem Il (g:Good E σ S μ w) (hk:μ nk=none) (hm:E.m0≤nk) {t ty:TypeId} {s x:AV} {vs vx:Value} (hs:aq w S μ vs s) (hx:aq w S μ vx x) {ps:List Prop} {val:AV} {rd:List Nat} {upd:r7}
  (h:q9 P nk σ t s x=some (ps,val,rd,upd)) (hp:aW ps):Step P E nk σ S μ w (Builtin.append_ #[t,t] ty #[vs,vx]) val upd:=by
 unfold q9 at h
 split at h
 ·rename_i e he
  have he:=kO he
  split at h
  ·rename_i sz b z kr hb hz
   obtain ⟨ie,CJ,rfl,rfl,Qn⟩:=wS kr hb hz
   split at h
   ·rename_i n gt pr QU NU yl vD
    simp only [aV,Nat.ble_eq] at yl
    obtain ⟨⟨b1,b2⟩,b3⟩:=yl
    have b3:=bm b3
    split at h
    ·simp only [az,ay] at h
     obtain ⟨rfl,rfl,rfl,rfl⟩:=h
     obtain ⟨p1,p2⟩:=hp
     obtain ⟨news,sr⟩:=yq (P:=P) g hx vD p2
     cases hs
     rcases Nat.eq_zero_or_pos n with h0 | h0
     ·subst h0
      have jc:=DW (P:=P) (w:=w) (ty:=ty) (sLen:=0) (sCap:=0) he CJ sr.len sr.cells (by omega)
      have ga:Good E (sset σ nk ⟨false,ie.size,0,pr,gt⟩) S (cm μ nk ⟨0,0,ie.size⟩) w:=by
       have Hw:∀ k pl,μ k=some pl→cm μ nk ⟨0,0,ie.size⟩ k=some pl:=fun k pl h=>by
        unfold cm
        split
        ·rename_i rT;rw [rT,hk] at h;cases h
        ·exact h
       have ex:Ext w S μ w S (cm μ nk ⟨0,0,ie.size⟩):=⟨aP _,fun _ h=>h,fun _ _=>rfl,Hw⟩
       have Pk:∀ i,rowOf ⟨false,ie.size,0,pr,gt⟩ i=none:=pT fun i hi=>absurd hi (dP _)
       refine ⟨g.fr,g.S0,g.S1,g.S2,⟨?_,?_⟩,?_,?_,g.KC hk _ _ (fun h=>absurd h (by simp)) Pk (fun _ _=>rfl) (fun _ h=>h) (fun _ h=>.inl h)⟩
       ·intro k o ho
        rw [bg] at ho
        by_cases rT:nk=k
        ·rw [if_pos rT] at ho;cases ho
         exact ⟨⟨0,0,ie.size⟩,#[],0,by simp [cm,rT],rfl,fun h=>absurd h (by simp),by simp,by simp,fun h=>absurd h (by simp),fun i h=>absurd h (by simp),fun i j x v h=>absurd h (by simp),fun h=>absurd (show ie.size=0 from h) (by omega)⟩
        ·rw [if_neg rT] at ho
         obtain ⟨pl,c,T,fy,cE⟩:=g.rep.ob k o ho
         exact ⟨pl,c,T,Hw _ _ fy,cE.ext ex (fun _=>rfl) cE.out⟩
       ·intro k k' o o' pl iJ ec ho m5 Ao CM c1 c2
        rw [bg] at ho m5
        simp only [cm] at Ao CM
        by_cases h1:nk=k
        ·rw [if_pos h1.symm] at Ao;cases Ao;exact absurd c1 (by simp)
        ·by_cases h2:nk=k'
         ·rw [if_pos h2.symm] at CM;cases CM;exact absurd c2 (by simp)
         ·rw [if_neg h1] at ho;rw [if_neg h2] at m5
          rw [if_neg (fun h=>h1 h.symm)] at Ao;rw [if_neg (fun h=>h2 h.symm)] at CM
          exact g.rep.ne k k' o o' pl iJ ec ho m5 Ao CM c1 c2
       ·intro k o pl ho Ao c1
        rw [bg] at ho
        simp only [cm] at Ao
        by_cases h1:nk=k
        ·rw [if_pos h1.symm] at Ao;cases Ao;exact absurd c1 (by simp)
        ·rw [if_neg h1] at ho;rw [if_neg (fun h=>h1 h.symm)] at Ao
         exact g.own k o pl ho Ao c1
       ·intro k lj
        rw [mZ _ (by omega)];exact g.Bo k lj
      refine ⟨_,w,S,_,jc,⟨aP _,fun _ h=>h,fun _ _=>rfl,?_⟩,ga,fun k lj hn=>by rw [mZ _ lj];exact hn,?_⟩
      ·intro k pl h
       unfold cm
       split
       ·rename_i rT;rw [rT,hk] at h;cases h
       ·exact h
      ·exact aq.os ⟨0,0,ie.size⟩ (by simp [cm]) (fun h=>absurd h (by omega)) (by omega) (by simp)
     ·have jc:=wW (P:=P) (w:=w) (ty:=ty) (base:=none) (sLen:=0) (sCap:=0) (olds:=[]) he CJ Qn (fun w' _=>by simp [Builtin.firstCells]) sr.len sr.cells (by omega) b2 (by simpa using p1)
      simp only [Nat.zero_add] at jc
      have rY:=Fu w n 0 e
      have gg:=g.grow (e:=e) hk hm (sz:=ie.size) (n:=n) (len:=0) (cap:=grownCap w n 0 e) (olds:=[]) (news:=news) (rest:=Builtin.zeroCells z.cells (grownCap w n 0 e - n)) (pr:=pr) (get:=gt)
       (by simp) sr.size (by rw [size_zeroCells,b3,Nat.zero_add]) (by omega) (fun i hi=>sr.tz i (by omega)) (fun i j x u hi hx hu=>sr.rep i j x u (by omega) hx (by simpa using hu)) (by omega)
       (g.KC hk _ _ (fun _=>aP _) (pT fun i hi=>sr.Ul i (by have hi:i < 0+n:=hi;omega)) (fun b h=>eh (w:=w.drew) h) (fun _ h=>h) (fun _ h=>.inl h))
      simp only [Nat.zero_add] at gg
      refine ⟨_,_,S,_,jc,gg.1,gg.2,fun k lj hn=>by rw [mZ _ lj];exact hn,?_⟩
      exact aq.os ⟨w.heap.size,grownCap w n 0 e,ie.size⟩ (by simp [cm]) (by simp) rY (by simp)
    ·rename_i k len
     split at h
     ·rename_i o ho
      split at h
      ·rename_i Kn
       simp only [aV,Bool.not_eq_true'] at Kn
       obtain ⟨Kn,Bv⟩:=Kn
       have Kn:=bm Kn
       simp only [az,ay] at h
       obtain ⟨rfl,rfl,rfl,rfl⟩:=h
       obtain ⟨p0,p1,p2⟩:=hp
       subst p0
       obtain ⟨news,sr⟩:=yq (P:=P) g hx vD p2
       obtain ⟨pl,c,T',qP,cE⟩:=g.rep.ob k o ho
       have rT:k≠nk:=fun h=>by rw [h,hk] at qP;cases qP
       show Step P E nk σ S μ w _ _ [(k,none),(nk,some ⟨false,ie.size,o.len+n,o.pr && pr,fun m=>if m < o.len then o.get m else gt (m - o.len)⟩)]
       have pS:∀ i,i < o.len+n→((fun m=>if m < o.len then o.get m else gt (m - o.len)) i).length=ie.size:=by
        intro i hi
        show (if i < o.len then o.get i else gt (i - o.len)).length=_
        split
        ·rw [cE.tz i (by assumption),Kn]
        ·exact sr.tz _ (by omega)
       have Zl:∀ {u:Value} {x:AV},aq w S (if o.pr then fV else μ) u x→pr=true∨pr=false→aq w S (if (o.pr && pr)=true then fV else μ) u x:=by
        intro u x hh hp
        rcases hp with hp | hp
        ·rw [hp,Bool.and_true];exact hh
        ·rw [hp,Bool.and_false];exact ig hh
       have Um:∀ {u:Value} {x:AV},aq w S (if pr then fV else μ) u x→aq w S (if (o.pr && pr)=true then fV else μ) u x:=by
        intro u x hh
        cases hp:o.pr
        ·rw [Bool.false_and];exact ig hh
        ·rw [Bool.true_and];exact hh
       have prb:pr=true∨pr=false:=by cases pr<;>simp
       have ui:∀ i x,rowOf ⟨false,ie.size,o.len+n,o.pr && pr,fun m=>if m < o.len then o.get m else gt (m - o.len)⟩ i=some x→rowOf o i=some x:=by
        intro i x hx
        obtain ⟨_,q2,q3⟩:=dk hx
        have q2:i < o.len+n:=q2
        have q3:(if i < o.len then o.get i else gt (i - o.len))=[.mr x.1 x.2.1 x.2.2]:=q3
        split at q3
        ·rename_i h1;exact kM Bv h1 q3
        ·have:=sr.Ul (i - o.len) (by omega)
         rw [q3] at this;cases this
       cases hs with
       | os iJ fy h1 h2 h3 =>
        rename_i cap a
        rw [qP] at fy;cases fy
        by_cases KK:o.len+n≤cap
        ·rcases Nat.eq_zero_or_pos cap with uX | uX
         ·have Ms:n=0:=by omega
          have KG:o.len=0:=by omega
          subst Ms
          have KL:news=[]:=List.length_eq_zero_iff.1 (by rw [sr.size];simp)
          have jc:(Builtin.append_ #[t,t] ty #[.slice a o.len cap,vx]).run P w=.ok (.slice a (o.len+0) cap) w:=by
           subst uX
           cases a with
           | none=>exact DW (P:=P) (w:=w) (ty:=ty) he CJ sr.len sr.cells (by omega)
           | some a =>
            have e1:=sr.cells w rfl
            rw [KL] at e1
            simp [Builtin.append_,run_underlying he,sizeOf,typeInfo,CJ,sr.len,KG,e1,storeCells]
          have gm:=g.move hk hm ho qP ⟨false,ie.size,o.len+0,o.pr && pr,fun m=>if m < o.len then o.get m else gt (m - o.len)⟩ (c:=c) (T:=T')
           ⟨cE.sz.trans Kn,Kn ▸ cE.b6,Kn ▸ cE.cap,cE.len,cE.out,pS,fun i j x v hi=>absurd hi (by show ¬ i < o.len+0;omega),fun h=>absurd (show ie.size=0 from h) (by omega)⟩ ui
          exact ⟨_,w,S,cm μ nk pl,jc,gm.1,gm.2,fun k lj hn=>by rw [mZ _ lj];exact hn,aq.os pl (by simp [cm]) h1 (by omega) h3⟩
         ·have ha:=h1 uX
          simp only [Nat.zero_mul] at ha
          subst ha
          have wN:0 < pl.cap:=by omega
          have xY:o.len * ie.size+news.length≤c.size:=by
           have e1:(o.len+n) * ie.size≤pl.cap * ie.size:=dC _ (by omega)
           have e2:=cE.cap
           rw [Kn] at e2
           rw [sr.size,← ca];omega
          have jc:=Ft (P:=P) (w:=w) (ty:=ty) he CJ ((cE.b6 wN).trans (by rw [fx (by omega)])) sr.len sr.cells sr.one KK xY
          generalize jr:(c.toList.take (o.len * ie.size) ++ news ++ c.toList.drop (o.len * ie.size+news.length)).toArray=c' at jc
          have yn:(c.toList.take (o.len * ie.size)).length=o.len * ie.size:=by simp;omega
          have Fs:c'.size=c.size:=by
           rw [← jr]
           simp;omega
          have oa:∀ m,m < o.len * ie.size+news.length→c'[m]?=if m < o.len * ie.size then c[m]? else news[m - o.len * ie.size]?:=by
           intro m hm
           rw [← jr]
           simp only [List.getElem?_toArray]
           rw [eE (by simp;omega)]
           by_cases h1:m < o.len * ie.size
           ·rw [eE (by omega),kg,if_pos h1,if_pos h1]
            simp
           ·rw [gF (by omega),yn,if_neg h1]
          have gw:=g.write ho qP wN cE (by omega) ⟨false,ie.size,o.len+n,o.pr && pr,fun m=>if m < o.len then o.get m else gt (m - o.len)⟩ c' Kn.symm Fs (by show o.len+n≤_;omega) pS (by
           intro i j x v hi hx hv
           have hi:i < o.len+n:=hi
           have hx:(if i < o.len then o.get i else gt (i - o.len))[j]?=some x:=hx
           have hj:j < ie.size:=by
            have e1:=(dd.1 hx).1
            have e2:(if i < o.len then o.get i else gt (i - o.len)).length=ie.size:=pS i hi
            omega
           have hv:c'[i * ie.size+j]?=some v:=hv
           have nM:(i+1) * ie.size≤(o.len+n) * ie.size:=dC _ hi
           rw [ca,ca] at nM
           rw [oa _ (by rw [sr.size];omega)] at hv
           by_cases Hx:i < o.len
           ·have lP:(i+1) * ie.size≤o.len * ie.size:=dC _ Hx
            rw [ca] at lP
            rw [if_pos (by omega)] at hv
            rw [if_pos Hx] at hx
            exact Zl (cE.rep i j x v Hx hx (by rw [Kn];exact hv)) prb
           ·have lP:o.len * ie.size≤i * ie.size:=dC _ (by omega)
            rw [if_neg (by omega)] at hv
            rw [if_neg Hx] at hx
            refine Um (sr.rep (i - o.len) j x v (by omega) hx ?_)
            rw [← hv,Nat.sub_mul];congr 1;omega) (fun i x hx=>⟨ui i x hx,by
           obtain ⟨_,q2,_⟩:=dk (ui i x hx)
           have lP:(i+1) * ie.size≤o.len * ie.size:=dC _ q2
           rw [ca] at lP
           rw [Kn,oa _ (by omega),if_pos (by omega)]⟩)
          obtain ⟨Zm,Xh⟩:=gw
          have Qr:au (sset σ k ⟨false,ie.size,o.len+n,o.pr && pr,fun m=>if m < o.len then o.get m else gt (m - o.len)⟩) k=some ⟨false,ie.size,o.len+n,o.pr && pr,fun m=>if m < o.len then o.get m else gt (m - o.len)⟩:=by
           rw [bg,if_pos rfl]
          obtain ⟨pl3,c3,T3,NN,abT⟩:=Xh.rep.ob k _ Qr
          rw [qP] at NN;cases NN
          have gm:=Xh.move hk hm Qr qP _ abT (fun _ _ h=>h)
          refine ⟨_,_,S,cm μ nk pl,jc,Zm.trans gm.1,gm.2.congr ?_,fun k lj hn=>by rw [mZ _ lj];exact hn,aq.os pl (by simp [cm]) (by simp) KK h3⟩
          intro n
          show au (sset (qz σ k) nk _) n=_
          rw [bg,bg,eH,eH,bg]
          split
          ·rfl
          ·split
           ·rfl
           ·rfl
        ·have hg:cap < o.len+n:=by omega
         have holds:∃ olds:List Value,olds.length=o.len * ie.size∧(∀ w':World,w'.heap=w.heap→(Builtin.firstCells ie.size o.len (.slice a o.len cap)).run P w'=.ok olds.toArray w') ∧
           (∀ (q:Nat) (u:Value),olds[q]?=some u→c[q]?=some u):=by
          rcases Nat.eq_zero_or_pos o.len with KG | KG
          ·refine ⟨[],by simp [KG],fun w' _=>?_,by simp⟩
           rw [KG]
           cases a with
           | none=>simp [Builtin.firstCells]
           | some a=>simp [Builtin.firstCells,loadCells,loadCellsFrom]
          ·have wN:0 < pl.cap:=by have:=cE.len;omega
           have ha:=h1 (by omega)
           simp only [Nat.zero_mul] at ha
           subst ha
           have hle:o.len * ie.size≤c.size:=by
            have e1:o.len * ie.size≤pl.cap * ie.size:=dC _ cE.len
            have e2:=cE.cap
            rw [Kn] at e2;omega
           refine ⟨c.toList.take (o.len * ie.size),by simp;omega,fun w' Ps=>?_,?_⟩
           ·refine run_firstCells_some w' ie.size o.len _ o.len cap _ (by simp;omega) ?_
            intro q u hq
            rw [Addr.add_lit,Nat.zero_add,cell_of_row w' _ _ _ _ _ (by rw [Ps];exact (cE.b6 wN).trans (by rw [fx (by omega)]))]
            rw [kg] at hq
            split at hq
            ·simpa using hq
            ·cases hq
           ·intro q u hq
            rw [kg] at hq
            split at hq
            ·simpa using hq
            ·cases hq
         obtain ⟨olds,YL,hoc,hoo⟩:=holds
         have jc:=wW (P:=P) (w:=w) (ty:=ty) he CJ Qn hoc sr.len sr.cells hg b2 p1
         have rY:=Fu w (o.len+n) cap e
         have gd:=g.del k
         have gg:=gd.grow (e:=e) hk hm (sz:=ie.size) (n:=n) (len:=o.len) (cap:=grownCap w (o.len+n) cap e) (olds:=olds) (news:=news)
          (rest:=Builtin.zeroCells z.cells (grownCap w (o.len+n) cap e - (o.len+n))) (pr:=o.pr && pr) (get:=fun m=>if m < o.len then o.get m else gt (m - o.len))
          YL sr.size (by rw [size_zeroCells,b3]) rY pS (by
           intro i j x u hi hx hu
           have hx:(if i < o.len then o.get i else gt (i - o.len))[j]?=some x:=hx
           have hj:j < ie.size:=by
            have e1:=(dd.1 hx).1
            have e2:(if i < o.len then o.get i else gt (i - o.len)).length=ie.size:=pS i hi
            omega
           by_cases Hx:i < o.len
           ·have lP:(i+1) * ie.size≤o.len * ie.size:=dC _ Hx
            rw [ca] at lP
            rw [if_pos Hx] at hx
            rw [eE (by omega)] at hu
            exact Zl (cE.rep i j x u Hx hx (by rw [Kn];exact hoo _ _ hu)) prb
           ·have lP:o.len * ie.size≤i * ie.size:=dC _ (by omega)
            rw [if_neg Hx] at hx
            rw [gF (by omega),YL] at hu
            refine Um (sr.rep (i - o.len) j x u (by omega) hx ?_)
            rw [← hu,Nat.sub_mul];congr 1;omega) (by omega) (by
          have QV:∀ b,b < w.heap.size→(w.drew.alloc (.cells (olds.toArray ++ news.toArray ++ Builtin.zeroCells z.cells (grownCap w (o.len+n) cap e - (o.len+n))) e)).heap[b]?=w.heap[b]?:=fun b h=>eh (w:=w.drew) h
          have mn:∀ {q:Nat} {o2:Ob} {qA:Place},au σ q=some o2→μ q=some qA→0 < qA.cap→qA.b6 < w.heap.size:=fun {q o2 qA} h1 h2 h3=>by
           obtain ⟨pl3,c3,T3,NN,Md⟩:=g.rep.ob q o2 h1
           rw [h2] at NN;cases NN
           exact cr (Md.b6 h3)
          refine g.mx.tr (fun q=>if q=nk then k else q) (fun q i x v h=>?_) (fun q i x v q' i' x' v' h h' he=>?_) (fun _ h=>h) (fun b hb=>QV b (g.S1 b hb)) (fun q i x v b _ h hb=>?_) (fun q o2 qA h1 h2 h3=>?_)
          ·obtain ⟨o2,qA,h1,h2,h3,h4⟩:=h
           rw [bg] at h1
           unfold cm at h3
           by_cases hq:nk=q
           ·rw [if_pos hq] at h1;cases h1
            rw [if_pos hq.symm] at h3;cases h3
            show gR w μ σ (if q=nk then k else q) i x v
            rw [if_pos hq.symm]
            have hr:=ui i x h2
            obtain ⟨_,q2,_⟩:=dk hr
            refine ⟨o,pl,ho,hr,qP,?_⟩
            have wN:0 < pl.cap:=by have:=cE.len;omega
            have lP:(i+1) * ie.size≤o.len * ie.size:=dC _ q2
            rw [ca] at lP
            have h4:(w.drew.alloc (.cells (olds.toArray ++ news.toArray ++ Builtin.zeroCells z.cells (grownCap w (o.len+n) cap e - (o.len+n))) e)).cell? ⟨w.drew.heap.size,i * ie.size,none⟩=some v:=h4
            rw [cell_of_row _ _ _ _ _ _ (heap_alloc_new w.drew _)] at h4
            rw [Array.getElem?_append_left (by simp;omega),Array.getElem?_append_left (by simp;omega)] at h4
            rw [cell_of_row w _ _ _ _ _ ((cE.b6 wN).trans (by rw [fx (by omega)])),cE.sz,Kn]
            exact hoo _ _ (by simpa using h4)
           ·rw [if_neg hq,eH] at h1
            rw [if_neg (fun h=>hq h.symm)] at h3
            split at h1
            ·cases h1
            ·show gR w μ σ (if q=nk then k else q) i x v
             rw [if_neg (fun h=>hq h.symm)]
             refine ⟨o2,qA,h1,h2,h3,?_⟩
             obtain ⟨pl3,c3,T3,NN,Md⟩:=g.rep.ob q o2 h1
             rw [h3] at NN;cases NN
             rw [← h4]
             exact (qZ (QV _ (cr (Md.b6 (by have:=(dk h2).2.1;have:=Md.len;omega)))) _).symm
          ·have he:(if q=nk then k else q)=(if q'=nk then k else q'):=he
           have DX:∀ {q i x v},gR (w.drew.alloc (.cells (olds.toArray ++ news.toArray ++ Builtin.zeroCells z.cells (grownCap w (o.len+n) cap e - (o.len+n))) e)) (cm μ nk ⟨w.heap.size,grownCap w (o.len+n) cap e,ie.size⟩) (sset (qz σ k) nk ⟨false,ie.size,o.len+n,o.pr && pr,fun m=>if m < o.len then o.get m else gt (m - o.len)⟩) q i x v→q≠nk→q≠k:=by
            rintro q i x v ⟨o2,_,h1,_⟩ hq rfl
            rw [bg,if_neg (fun h=>hq h.symm),eH,if_pos rfl] at h1
            cases h1
           by_cases h1:q=nk<;>by_cases h3:q'=nk
           ·exact h1.trans h3.symm
           ·rw [if_pos h1,if_neg h3] at he;exact absurd he.symm (DX h' h3)
           ·rw [if_neg h1,if_pos h3] at he;exact absurd he (DX h h1)
           ·rw [if_neg h1,if_neg h3] at he;exact he
          ·obtain ⟨q1,q2,q3,_⟩:=g.mx.b6 h hb
           exact ⟨QV b q1,q2,fun h=>h⟩
          ·rw [bg] at h1
           unfold cm at h2
           by_cases hq:nk=q
           ·rw [if_pos hq.symm] at h2;cases h2
            exact .inr (aP _)
           ·rw [if_neg hq,eH] at h1
            rw [if_neg (fun h=>hq h.symm)] at h2
            split at h1
            ·cases h1
            ·exact .inl ⟨q,o2,qA,h1,h2,h3,rfl⟩)
         refine ⟨_,_,S,_,jc,gg.1,gg.2,fun k lj hn=>by rw [mZ _ lj];exact hn,?_⟩
         exact aq.os ⟨w.heap.size,grownCap w (o.len+n) cap e,ie.size⟩ (by simp [cm]) (by simp) rY (by simp)
      ·cases h
     ·cases h
    ·cases h
   ·cases h
  ·cases h
 ·cases h
end
end Go.Ab
namespace Go.Ab
def Mx (w:World) (σ:du) (μ:Mu) (b:Nat):Prop:=(∃ k o pl,au σ k=some o∧μ k=some pl∧0 < pl.cap∧pl.b6=b)∨∃ k i x v,gR w μ σ k i x v∧ptrTo v b
def tC (w:World) (S:Nat→Prop) (σ:du) (μ:Mu) (m:Nat):Env:=⟨w,S,Mx w σ μ,μ,m⟩
def Sound (P:Program) (f:FuncId) (args:List AV) (σ:du) (m:Nat) (res:AV) (dx:du):Prop :=
 ∀ (w:World) (S:Nat→Prop) (μ:Mu) (vs:Array Value),Good (tC w S σ μ m) σ S μ w→(∀ k,m≤k→μ k=none)→RL w S μ vs args →
  Calls P f vs w fun e w'=>∃ v S' cD,e=.returned v∧Good (tC w S σ μ m) dx S' cD w'∧aq w' S' cD v res
section
variable {E:Env} {nk:Nat} {σ:du} {S:Nat→Prop} {μ:Mu} {w:World}
theorem gR.of (g:Good E σ S μ w) {k i:Nat} {o:Ob} {x:Nat×Nat×(Nat→List AV)} (ho:au σ k=some o) (hr:rowOf o i=some x) {pl:Place} (hm:μ k=some pl):∃ v,gR w μ σ k i x v:=by
 obtain ⟨h1,h2,h3⟩:=dk hr
 obtain ⟨iJ,c,T,fy,cE⟩:=g.rep.ob k o ho
 rw [hm] at fy;cases fy
 have hl:=cE.tz i h2
 rw [h3] at hl
 obtain ⟨v,q1,q2⟩:=di cE (i:=i) (j:=0) h2 (by simp at hl;omega)
 exact ⟨v,o,pl,ho,hr,hm,by rw [cE.sz];simpa using q2⟩
theorem gy.QW {o:Ob} {pl:Place} {c:Array Value} {T:TypeId} {cD:Mu} (h:gy w S μ o pl c T) (hv:o.sz≠0) (hμ:∀ k p,μ k=some p→cD k=some p) (i:Nat) (cs:List AV) (hl:cs.length=o.sz)
  (hc:∀ j x v,i < o.len→cs[j]?=some x→c[i * o.sz+j]?=some v→aq w S cD v x):gy w S cD ⟨false,o.sz,o.len,false,fun m=>if m=i then cs else o.get m⟩ pl c T:=by
 refine ⟨h.sz,h.b6,h.cap,h.len,h.out,fun m hm=>?_,fun m j x v hm hx oJ=>?_,fun hz=>absurd hz hv⟩
 ·show (if m=i then cs else o.get m).length=o.sz
  split
  ·exact hl
  ·exact h.tz m hm
 ·have TQ:(if m=i then cs else o.get m)[j]?=some x:=hx
  show aq w S cD v x
  by_cases xF:m=i
  ·rw [if_pos xF] at TQ
   exact hc j x v (xF ▸ hm) TQ (xF ▸ oJ)
  ·rw [if_neg xF] at TQ
   exact (ig (h.rep m j x v hm TQ oJ)).mono (fun _ h=>h) (fun _ _=>rfl) hμ
theorem Good.opn (g:Good E σ S μ w) (hk:μ nk=none) (oc:E.m0≤nk) {k i:Nat} {o:Ob} {x:Nat×Nat×(Nat→List AV)} (ho:au σ k=some o) (hr:rowOf o i=some x) :
  ∃ q:Place,Ext w S μ w S (cm μ nk q)∧Good E (sset (sset σ k ⟨false,o.sz,o.len,false,fun m=>if m=i then [.os nk 0 x.2.1] else o.get m⟩) nk ⟨false,x.1,x.2.1,true,x.2.2⟩) S (cm μ nk q) w:=by
 obtain ⟨Bv,hi,oa⟩:=dk hr
 obtain ⟨pl,c,T,hm,cE⟩:=g.rep.ob k o ho
 have rT:k≠nk:=fun h=>by rw [h,hk] at hm;cases hm
 have kr:o.sz=1:=by have:=cE.tz i hi;rw [oa] at this;simpa using this.symm
 obtain ⟨v,hv⟩:=gR.of g ho hr hm
 obtain ⟨a,cap,rfl,h1,h2,h3⟩:=g.mx.row _ _ _ _ hv
 -- the place of the row
 have hq:∃ q:Place,q.sz=x.1∧cap=q.cap∧(0 < cap→a=some ⟨q.b6,0,none⟩)∧(0 < q.cap→0 < cap)∧(∃ c' T',gy w S fV ⟨false,x.1,x.2.1,true,x.2.2⟩ q c' T')∧(0 < q.cap→E.fp q.b6∨E.w0.heap.size≤q.b6):=by
  rcases Nat.eq_zero_or_pos cap with hc | hc
  ·refine ⟨⟨0,0,x.1⟩,rfl,hc,fun h=>by omega,fun h=>absurd h (sN _),⟨#[],0,rfl,fun h=>absurd h (sN _),by simp,by show x.2.1≤0;omega,fun h=>absurd h (sN _),fun j hj=>absurd hj (by show ¬ j < x.2.1;omega),fun j l y u hj=>absurd hj (by show ¬ j < x.2.1;omega),fun hz=>absurd hz (by have:=h2.1;show x.1≠0;omega)⟩,fun h=>absurd h (sN _)⟩
  ·obtain ⟨b,c',T',rfl,h4,h5⟩:=h3 hc
   exact ⟨⟨b,cap,x.1⟩,rfl,rfl,fun _=>rfl,fun h=>h,⟨c',T',h4⟩,fun _=>h5⟩
 obtain ⟨q,q1,q2,q3,q4,⟨c',T',q5⟩,q6⟩:=hq
 have Hw:∀ n p,μ n=some p→cm μ nk q n=some p:=fun n p h=>by
  unfold cm
  split
  ·rename_i hn;rw [hn,hk] at h;cases h
  ·exact h
 have My:0 < q.cap→ptrTo (.slice a x.2.1 cap) q.b6:=fun h=>⟨_,_,by rw [q3 (q4 h)],q4 h⟩
 have ext:Ext w S μ w S (cm μ nk q):=⟨aP _,fun _ h=>h,fun _ _=>rfl,Hw⟩
 let o':Ob:=⟨false,o.sz,o.len,false,fun m=>if m=i then [.os nk 0 x.2.1] else o.get m⟩
 let oq:Ob:=⟨false,x.1,x.2.1,true,x.2.2⟩
 have Fv:∀ n y,au (sset (sset σ k o') nk oq) n=some y→(n=nk∧y=oq)∨(n≠nk∧n=k∧y=o')∨(n≠nk∧n≠k∧au σ n=some y):=by
  intro n y h
  rw [bg] at h
  by_cases hn:nk=n
  ·rw [if_pos hn] at h;cases h;exact .inl ⟨hn.symm,rfl⟩
  ·rw [if_neg hn,bg] at h
   by_cases NV:k=n
   ·rw [if_pos NV] at h;cases h;exact .inr (.inl ⟨fun h=>hn h.symm,NV.symm,rfl⟩)
   ·rw [if_neg NV] at h;exact .inr (.inr ⟨fun h=>hn h.symm,fun h=>NV h.symm,h⟩)
 have KM:∀ n p,n≠nk→cm μ nk q n=some p→μ n=some p:=fun n p hn h=>by unfold cm at h;rw [if_neg hn] at h;exact h
 have Un:∀ p,cm μ nk q nk=some p→p=q:=fun p h=>by unfold cm at h;rw [if_pos rfl] at h;cases h;rfl
 have hold:∀ n y,au (sset (sset σ k o') nk oq) n=some y→n≠nk→∃ y',au σ n=some y':=fun n y h hn=>by
  rcases Fv n y h with ⟨h1,_⟩ | ⟨_,h1,_⟩ | ⟨_,_,h1⟩
  ·exact absurd h1 hn
  ·exact ⟨o,h1 ▸ ho⟩
  ·exact ⟨y,h1⟩
 refine ⟨q,ext,⟨g.fr,g.S0,g.S1,g.S2,⟨fun n y h=>?_,fun n n' y y' p p' ec h h' hp n6 hc jr=>?_⟩,fun n y p h hp hc=>?_,fun n hn=>?_,?_⟩⟩
 ·rcases Fv n y h with ⟨rfl,rfl⟩ | ⟨hn,rfl,rfl⟩ | ⟨hn,NV,h⟩
  ·refine ⟨q,c',T',by simp [cm],q5.sz,q5.b6,q5.cap,q5.len,q5.out,q5.tz,fun j l y u hj hy hu=>q5.rep j l y u hj hy hu,fun hz=>absurd hz (by have:=h2.1;show x.1≠0;omega)⟩
  ·refine ⟨pl,c,T,Hw _ _ hm,cE.QW (by omega) Hw i [.os nk 0 x.2.1] (by rw [kr];rfl) fun j y u _ hy hu=>?_⟩
   cases j with
   | succ j=>simp at hy
   | zero =>
    simp at hy
    subst hy
    obtain ⟨o2,p2,b1,b2,b3,b4⟩:=hv
    rw [ho] at b1;cases b1
    rw [hm] at b3;cases b3
    have sI:c[i * o.sz+0]?=some (.slice a x.2.1 cap):=by
     have:=cell_of_row w pl.b6 (i * pl.sz) _ _ _ ((cE.b6 (by have:=cE.len;omega)).trans (congrArg some (fx (by omega) c T)))
     rw [this,cE.sz] at b4
     exact b4
    rw [sI] at hu;cases hu
    exact .os q (by simp [cm]) (fun hc=>by rw [q3 hc];simp) h1 (by omega)
  ·obtain ⟨p,c2,T2,AF,Jm⟩:=g.rep.ob n y h
   exact ⟨p,c2,T2,Hw _ _ AF,Jm.ext ext (fun _=>rfl) Jm.out⟩
 ·by_cases hn:n=nk<;>by_cases HH:n'=nk
  ·exact absurd (hn.trans HH.symm) ec
  ·subst hn
   cases Un p hp
   obtain ⟨y2,Hy⟩:=hold n' y' h' HH
   exact fun e=>g.mx.obj _ _ _ _ _ hv (My hc) n' y2 p' Hy (KM _ _ HH n6) jr e.symm
  ·subst HH
   cases Un p' n6
   obtain ⟨y2,Hy⟩:=hold n y h hn
   exact g.mx.obj _ _ _ _ _ hv (My jr) n y2 p Hy (KM _ _ hn hp) hc
  ·obtain ⟨y2,Hy⟩:=hold n y h hn
   obtain ⟨y2',Xi⟩:=hold n' y' h' HH
   exact g.rep.ne n n' y2 y2' p p' ec Hy Xi (KM _ _ hn hp) (KM _ _ HH n6) hc jr
 ·by_cases hn:n=nk
  ·subst hn
   cases Un p hp
   exact q6 hc
  ·obtain ⟨y2,Hy⟩:=hold n y h hn
   exact g.own n y2 p Hy (KM _ _ hn hp) hc
 ·unfold cm;rw [if_neg (by omega)];exact g.Bo n hn
 ·have key:∀ n j y u,gR w (cm μ nk q) (sset (sset σ k o') nk oq) n j y u→gR w μ σ n j y u∧¬ (n=k∧j=i):=by
   rintro n j y u ⟨o2,p2,b1,b2,b3,b4⟩
   rcases Fv n o2 b1 with ⟨rfl,rfl⟩ | ⟨hn,rfl,rfl⟩ | ⟨hn,NV,h⟩
   ·rw [h2.2 j] at b2;cases b2
   ·obtain ⟨_,e2,e3⟩:=dk b2
    have e3:(if j=i then [AV.os nk 0 x.2.1] else o.get j)=[.mr y.1 y.2.1 y.2.2]:=e3
    split at e3
    ·cases e3
    ·rename_i Hz
     exact ⟨⟨o,p2,ho,kM Bv e2 e3,KM _ _ hn b3,b4⟩,fun h=>Hz h.2⟩
   ·exact ⟨⟨o2,p2,h,b2,KM _ _ hn b3,b4⟩,fun h=>NV h.1⟩
  refine ⟨fun n j y u h=>g.mx.row _ _ _ _ (key n j y u h).1,fun n j y u b h hb n' y' p' h1 h2 h3 he=>?_,fun n j y u b n' j' y' u' h h' hb q0=>g.mx.two _ _ _ _ _ _ _ _ _ (key _ _ _ _ h).1 (key _ _ _ _ h').1 hb q0⟩
  obtain ⟨oJ,ec⟩:=key n j y u h
  by_cases hn:n'=nk
  ·subst hn
   cases Un p' h2
   obtain ⟨e1,e2⟩:=g.mx.two _ _ _ _ _ _ _ _ _ oJ hv hb (he ▸ My h3)
   exact ec ⟨e1,e2⟩
  ·obtain ⟨y2,Hy⟩:=hold n' y' h1 hn
   exact g.mx.obj _ _ _ _ _ oJ hb n' y2 p' Hy (KM _ _ hn h2) h3 he
theorem Good.cls (g:Good E σ S μ w) {k q i:Nat} {o oq:Ob} (ho:au σ k=some o) (Xj:au σ q=some oq) (hkq:k≠q) (Bv:o.var=false) (hvq:oq.var=false) (Ko:oq.pr=true) (hsq:1≤oq.sz)
  (hi:i < o.len) (oa:o.get i=[.os q 0 oq.len]) (DX:∀ j,rowOf oq j=none) :
  Good E (sset (qz σ q) k ⟨false,o.sz,o.len,false,fun m=>if m=i then [.mr oq.sz oq.len oq.get] else o.get m⟩) S μ w:=by
 obtain ⟨pl,c,T,hm,cE⟩:=g.rep.ob k o ho
 obtain ⟨pq,cq,Tq,Zn,QX⟩:=g.rep.ob q oq Xj
 have kr:o.sz=1:=by have:=cE.tz i hi;rw [oa] at this;simpa using this.symm
 let o':Ob:=⟨false,o.sz,o.len,false,fun m=>if m=i then [.mr oq.sz oq.len oq.get] else o.get m⟩
 have Fv:∀ n y,au (sset (qz σ q) k o') n=some y→n≠q∧((n=k∧y=o')∨(n≠k∧au σ n=some y)):=by
  intro n y h
  rw [bg] at h
  by_cases hn:k=n
  ·rw [if_pos hn] at h;cases h
   exact ⟨fun h=>hkq (hn.trans h),.inl ⟨hn.symm,rfl⟩⟩
  ·rw [if_neg hn,eH] at h
   split at h
   ·cases h
   ·rename_i hq
    exact ⟨fun h=>hq h.symm,.inr ⟨fun h=>hn h.symm,h⟩⟩
 have hold:∀ n y,au (sset (qz σ q) k o') n=some y→n≠q∧∃ y',au σ n=some y':=fun n y h=>by
  obtain ⟨h0,⟨h1,_⟩ | ⟨_,h1⟩⟩:=Fv n y h
  ·exact ⟨h0,o,h1 ▸ ho⟩
  ·exact ⟨h0,y,h1⟩
 -- the cell that names the row
 have sI:∃ a cap,c[i * o.sz+0]?=some (.slice a oq.len cap)∧w.cell? ⟨pl.b6,i * pl.sz,none⟩=some (.slice a oq.len cap)∧oq.len≤cap∧cap≤pq.cap∧(0 < cap→a=some ⟨pq.b6,0,none⟩):=by
  obtain ⟨u,b1,b2⟩:=di cE (i:=i) (j:=0) hi (by omega)
  have:=ig (cE.rep i 0 (.os q 0 oq.len) u hi (by rw [oa];rfl) b1)
  cases this with
  | os iJ fy e1 e2 e3 =>
   rename_i cap a
   rw [Zn] at fy;cases fy
   exact ⟨a,cap,b1,by rw [cE.sz];simpa using b2,e2,by omega,fun h=>by rw [e1 h];simp⟩
 obtain ⟨a,cap,d1,d2,d3,d4,d5⟩:=sI
 have ui:KB E.fp E.w0.heap.size w S (.slice a oq.len cap) (oq.sz,oq.len,oq.get):=by
  refine ⟨a,cap,rfl,d3,⟨hsq,fun j=>?_⟩,fun hc=>⟨pq.b6,cq,Tq,d5 hc,⟨rfl,fun _=>?_,?_,d3,fun _=>QX.out (by omega),QX.tz,fun j l y u hj hy hu=>?_,fun hz=>absurd hz (by show oq.sz≠0;omega)⟩,g.own q oq pq Xj Zn (by omega)⟩⟩
  ·cases hr:rowOf ⟨false,oq.sz,oq.len,true,oq.get⟩ j with
   | none=>rfl
   | some y =>
    obtain ⟨_,r2,r3⟩:=dk hr
    have:=kM hvq r2 r3
    rw [DX] at this;cases this
  ·exact QX.b6 (by omega)
  ·exact dp (dC _ d4) QX.cap
  ·have:=QX.rep j l y u hj hy hu
   rw [Ko] at this
   exact this
 have key:∀ n j y u,gR w μ (sset (qz σ q) k o') n j y u→(gR w μ σ n j y u∧¬ (n=k∧j=i))∨(n=k∧j=i∧y=(oq.sz,oq.len,oq.get)∧u=.slice a oq.len cap):=by
  rintro n j y u ⟨o2,p2,b1,b2,b3,b4⟩
  obtain ⟨h0,⟨rfl,rfl⟩ | ⟨hn,h1⟩⟩:=Fv n o2 b1
  ·rw [hm] at b3;cases b3
   obtain ⟨_,e2,e3⟩:=dk b2
   have e4:(if j=i then [AV.mr oq.sz oq.len oq.get] else o.get j)=[.mr y.1 y.2.1 y.2.2]:=e3
   clear e3
   by_cases Hz:j=i
   ·rw [if_pos Hz] at e4
    subst Hz
    rw [d2] at b4;cases b4
    obtain ⟨y1,y2,y3⟩:=y
    simp only [List.cons.injEq,AV.mr.injEq,and_true] at e4
    obtain ⟨rfl,rfl,rfl⟩:=e4
    exact .inr ⟨rfl,rfl,rfl,rfl⟩
   ·rw [if_neg Hz] at e4
    have e3:=e4
    exact .inl ⟨⟨o,pl,ho,kM Bv e2 e3,hm,b4⟩,fun h=>Hz h.2⟩
  ·exact .inl ⟨⟨o2,p2,h1,b2,b3,b4⟩,fun h=>hn h.1⟩
 have My:∀ b,ptrTo (.slice a oq.len cap) b→pq.b6=b∧0 < pq.cap:=by
  rintro b ⟨l,cp,e,hc⟩
  injection e with e1 e2 e3
  subst e3
  rw [d5 hc] at e1
  injection e1 with e1
  injection e1 with e1
  exact ⟨e1,by omega⟩
 refine ⟨g.fr,g.S0,g.S1,g.S2,⟨fun n y h=>?_,fun n n' y y' p p' ec h h' hp n6 hc jr=>?_⟩,fun n y p h hp hc=>?_,g.Bo,?_⟩
 ·obtain ⟨h0,⟨rfl,rfl⟩ | ⟨hn,h1⟩⟩:=Fv n y h
  ·exact ⟨pl,c,T,hm,cE.QW (by omega) (fun _ _ h=>h) i _ (by rw [kr];rfl) fun j y u _ hy hu=>by
    cases j with
    | zero=>simp at hy;subst hy;exact .mr
    | succ j=>simp at hy⟩
  ·exact g.rep.ob n y h1
 ·obtain ⟨_,y2,Hy⟩:=hold n y h
  obtain ⟨_,y2',Xi⟩:=hold n' y' h'
  exact g.rep.ne n n' y2 y2' p p' ec Hy Xi hp n6 hc jr
 ·obtain ⟨_,y2,Hy⟩:=hold n y h
  exact g.own n y2 p Hy hp hc
 ·refine ⟨fun n j y u h=>?_,fun n j y u b h hb n' y' p' h1 h2 h3 he=>?_,fun n j y u b n' j' y' u' h h' hb q0=>?_⟩
  ·rcases key n j y u h with ⟨h,_⟩ | ⟨_,_,rfl,rfl⟩
   ·exact g.mx.row _ _ _ _ h
   ·exact ui
  ·obtain ⟨hnq,y2,Hy⟩:=hold n' y' h1
   rcases key n j y u h with ⟨h,_⟩ | ⟨_,_,rfl,rfl⟩
   ·exact g.mx.obj _ _ _ _ _ h hb n' y2 p' Hy h2 h3 he
   ·obtain ⟨e1,e2⟩:=My b hb
    exact g.rep.ne n' q y2 oq p' pq hnq Hy Xj h2 Zn h3 e2 (he.trans e1.symm)
  ·rcases key n j y u h with ⟨h,_⟩ | ⟨n1,j1,rfl,rfl⟩<;>rcases key n' j' y' u' h' with ⟨h',_⟩ | ⟨n2,j2,rfl,rfl⟩
   ·exact g.mx.two _ _ _ _ _ _ _ _ _ h h' hb q0
   ·obtain ⟨e1,e2⟩:=My b q0
    exact (g.mx.obj _ _ _ _ _ h hb q oq pq Xj Zn e2 e1).elim
   ·obtain ⟨e1,e2⟩:=My b hb
    exact (g.mx.obj _ _ _ _ _ h' q0 q oq pq Xj Zn e2 e1).elim
   ·exact ⟨n1.trans n2.symm,j1.trans j2.symm⟩
end
mutual
def AV.jx (f:Nat→Option Nat):AV→AV
 | .op k i j=>match f k with
  | some k'=>.op k' i j
  | none=>.mV
 | .os k off len=>match f k with
  | some k'=>.os k' off len
  | none=>.mV
 | .agg cs=>.agg (AV.uY f cs)
 | .tup cs=>.tup (AV.uY f cs)
 | .fn g a b=>.fn g (AV.uY f a) (AV.uY f b)
 | .when b x=>.when b (x.jx f)
 | .mp k=>match f k with
  | some k'=>.mp k'
  | none=>.mV
 | .bn n=>.bn n
 | .pt b cs=>.pt b cs
 | .atom v=>.atom v
 | .sl n g=>.sl n g
 | .rp c o=>.rp c o
 | .ov _ _ _ _ _=>.mV
 | .Cy _ _ _=>.mV
 | .nq st x=>.nq st (x.jx f)
 | .nil=>.nil
 | .mV=>.mV
 | .mr sz n g=>.mr sz n g
def AV.uY (f:Nat→Option Nat):List AV→List AV
 | []=>[]
 | c :: cs=>c.jx f :: AV.uY f cs
end
theorem wX (f:Nat→Option Nat) (cs:List AV):AV.uY f cs=cs.map (·.jx f):=by
 induction cs with
 | nil=>rfl
 | cons c cs ih=>simp [AV.uY,ih]
theorem aq.jx {w:World} {S:Nat→Prop} {μ:Mu} {v:Value} {x:AV} (h:aq w S μ v x) :
  ∀ {cD:Mu} {f:Nat→Option Nat},(∀ k k' pl,f k=some k'→μ k=some pl→cD k'=some pl)→aq w S cD v (x.jx f):=by
 induction h with
 | atom v=>exact fun _=>.atom v
 | agg h1 h2 ih =>
  intro cD f hf
  simp only [AV.jx,wX]
  refine .agg (by simp [h1]) fun j c v hc hv=>?_
  rw [List.getElem?_map] at hc
  simp only [aJ] at hc
  obtain ⟨c0,uX,rfl⟩:=hc
  exact ih j c0 v uX hv hf
 | tup h1 h2 ih =>
  intro cD f hf
  simp only [AV.jx,wX]
  refine .tup (by simp [h1]) fun j c v hc hv=>?_
  rw [List.getElem?_map] at hc
  simp only [aJ] at hc
  obtain ⟨c0,uX,rfl⟩:=hc
  exact ih j c0 v uX hv hf
 | sl b off sz f h1 h2 h3 h4 h5 _=>exact fun _=>.sl b off sz f h1 h2 h3 h4 h5
 | rp b o f h1 h2 h3 _=>exact fun _=>.rp b o f h1 h2 h3
 | @op μ k i j pl h =>
  intro cD f hf
  simp only [AV.jx]
  split
  ·rename_i k' lj;exact .op pl (hf _ _ _ lj h)
  ·exact .mV
 | @os μ k off len cap a pl h h1 h2 h3 =>
  intro cD f hf
  simp only [AV.jx]
  split
  ·rename_i k' lj;exact .os pl (hf _ _ _ lj h) h1 h2 h3
  ·exact .mV
 | fn h1 h2 _ _ Kk Kl =>
  intro cD f hf
  simp only [AV.jx,wX]
  refine .fn (by simp [h1]) (by simp [h2]) (fun j c v hc hv=>?_) (fun j c v hc hv=>?_)
  ·rw [List.getElem?_map] at hc
   simp only [aJ] at hc
   obtain ⟨c0,uX,rfl⟩:=hc
   exact Kk j c0 v uX hv hf
  ·rw [List.getElem?_map] at hc
   simp only [aJ] at hc
   obtain ⟨c0,uX,rfl⟩:=hc
   exact Kl j c0 v uX hv hf
 | when _ hu ih=>exact fun hf=>.when (fun hb=>ih hb hf) hu
 | @mp μ k pl h =>
  intro cD f hf
  simp only [AV.jx]
  split
  ·rename_i k' lj;exact .mp pl (hf _ _ _ lj h)
  ·exact .mV
 | bn b h=>exact fun _=>.bn b h
 | pt h1 h2 _ =>
  intro cD f hf
  exact .pt (fun hb=>by have:=h1 hb;cases this with
   | rp b o f q1 q2 q3=>exact .rp b o f q1 q2 q3) h2
 | ov=>exact fun _=>.mV
 | Cy=>exact fun _=>.mV
 | nq _ h1 h2 ih=>exact fun hf=>.nq (ih hf) h1 h2
 | nil=>exact fun _=>.nil
 | mV=>exact fun _=>.mV
 | mr=>exact fun _=>.mr
def Ob.jx (f:Nat→Option Nat) (o:Ob):Ob :=
 match o.pr with
 | true=>o
 | false=>{ o with get:=fun i=>AV.uY f (o.get i) }
theorem Ob.tD (f:Nat→Option Nat) (o:Ob):(o.jx f).sz=o.sz:=by unfold Ob.jx;split<;>rfl
theorem Ob.uz (f:Nat→Option Nat) (o:Ob):(o.jx f).len=o.len:=by unfold Ob.jx;split<;>rfl
theorem Ob.CN (f:Nat→Option Nat) (o:Ob):(o.jx f).pr=o.pr:=by unfold Ob.jx;split<;>rfl
theorem QY {f:Nat→Option Nat} {cs:List AV} {sz n:Nat} {g:Nat→List AV} (h:AV.uY f cs=[.mr sz n g]):cs=[.mr sz n g]:=by
 cases cs with
 | nil=>cases h
 | cons c cs =>
  cases cs with
  | cons d ds=>simp [AV.uY] at h
  | nil =>
   simp only [AV.uY,List.cons.injEq,and_true] at h
   cases c with
   | op=>simp only [AV.jx] at h;split at h<;>cases h
   | os=>simp only [AV.jx] at h;split at h<;>cases h
   | mp=>simp only [AV.jx] at h;split at h<;>cases h
   | mr=>simpa [AV.jx] using h
   | _=>cases h
theorem qB (f:Nat→Option Nat) (o:Ob) (i:Nat) (x:Nat×Nat×(Nat→List AV)):rowOf (o.jx f) i=some x↔rowOf o i=some x:=by
 unfold Ob.jx
 split
 ·exact Iff.rfl
 ·constructor
  ·intro h
   obtain ⟨h1,h2,h3⟩:=dk h
   exact kM h1 h2 (QY h3)
  ·intro h
   obtain ⟨h1,h2,h3⟩:=dk h
   exact kM h1 h2 (by show AV.uY f (o.get i)=_;rw [h3];rfl)
theorem gy.jx {w:World} {S:Nat→Prop} {μ cD:Mu} {o:Ob} {pl:Place} {c:Array Value} {T:TypeId} (h:gy w S μ o pl c T) {f:Nat→Option Nat}
  (hf:∀ k k' pl,f k=some k'→μ k=some pl→cD k'=some pl):gy w S cD (o.jx f) pl c T:=by
 refine ⟨(Ob.tD f o).symm ▸ h.sz,(Ob.tD f o).symm ▸ h.b6,(Ob.tD f o).symm ▸ h.cap,(Ob.uz f o).symm ▸ h.len,h.out,?_,?_,fun hz=>?_⟩
 rotate_left 2
 ·rw [Ob.tD] at hz
  obtain ⟨h0,h1,h2,h3,h4⟩:=h.mp hz
  have e:o.jx f=o:=by unfold Ob.jx;rw [h3]
  rw [e];exact ⟨h0,h1,h2,h3,h4⟩
 ·intro i hi
  rw [Ob.uz] at hi
  rw [Ob.tD,← h.tz i hi]
  unfold Ob.jx
  split
  ·rfl
  ·simp [wX]
 ·intro i j x v hi hx hv
  rw [Ob.uz] at hi
  rw [Ob.tD] at hv
  rw [Ob.CN]
  unfold Ob.jx at hx
  split at hx
  ·rename_i hp
   have:=h.rep i j x v hi hx hv
   rw [hp] at this ⊢
   exact this
  ·rename_i hp
   simp only [wX,List.getElem?_map,aJ] at hx
   obtain ⟨y,hy,rfl⟩:=hx
   have:=h.rep i j y v hi hy hv
   rw [hp] at this ⊢
   exact this.jx hf
def idx:List Nat→Nat→Option Nat
 | [],_=>none
 | a :: r,k=>match Nat.beq a k with
  | true=>some 0
  | false=>(idx r k).map (·+1)
theorem m6:∀ (ks:List Nat) (k i:Nat),idx ks k=some i→ks[i]?=some k
 | [],k,i,h=>by simp [idx] at h
 | a :: r,k,i,h=>by
  simp only [idx] at h
  split at h
  ·rename_i hb
   cases h
   simp [bm hb]
  ·simp only [aJ] at h
   obtain ⟨i',oY,rfl⟩:=h
   simpa using m6 r k i' oY
mutual
def AV.fW (σ:du) (ks:List Nat):AV→Option (AV×List Nat×List Prop)
 | .op k i j=>match idx ks k with
  | some n=>some (.op n i j,[],[])
  | none=>some (.mV,[],[])
 | .os k off len=>match idx ks k with
  | some n=>some (.os n off len,[],[])
  | none=>match au σ k with
   | some o=>match o.pr with
    | true=>some (.sl len (fun i=>o.get (bQ off i)),[k],[off+len≤o.len])
    | false=>none
   | none=>none
 | .agg cs=>(AV.qx σ ks cs).map fun (a,b,c)=>(.agg a,b,c)
 | .tup cs=>(AV.qx σ ks cs).map fun (a,b,c)=>(.tup a,b,c)
 | .fn g x y=>match AV.qx σ ks x,AV.qx σ ks y with
  | some (a,b,c),some (a',b',c')=>some (.fn g a a',b ++ b',c ++ c')
  | _,_=>none
 | .when _ _=>none
 | .ov _ _ _ _ _=>none
 | .Cy _ _ _=>none
 | .nq _ _=>none
 | .mp k=>(idx ks k).map fun n=>(.mp n,[],[])
 | .bn n=>some (.bn n,[],[])
 | .pt b cs=>some (.pt b cs,[],[])
 | .atom v=>some (.atom v,[],[])
 | .sl n g=>some (.sl n g,[],[])
 | .rp c o=>some (.rp c o,[],[])
 | .nil=>some (.nil,[],[])
 | .mV=>some (.mV,[],[])
 | .mr _ _ _=>none
def AV.qx (σ:du) (ks:List Nat):List AV→Option (List AV×List Nat×List Prop)
 | []=>some ([],[],[])
 | c :: cs=>match c.fW σ ks,AV.qx σ ks cs with
  | some (a,b,p),some (a',b',p')=>some (a :: a',b ++ b',p ++ p')
  | _,_=>none
end
def kz (μ:Mu) (ks:List Nat):Mu:=fun i=>(ks[i]?).bind μ
def yu (μ:Mu) (bs:List Nat) (b:Nat):Prop:=∃ k∈bs,∃ pl,μ k=some pl∧0 < pl.cap∧pl.b6=b
theorem yw {μ:Mu} {ks:List Nat}:∀ k i pl,idx ks k=some i→μ k=some pl→kz μ ks i=some pl:=by
 intro k i pl h hm
 simp [kz,m6 ks k i h,hm]
section
variable {P:Program} {E:Env} {nk:Nat} {σ:du} {S:Nat→Prop} {μ:Mu} {w:World}
theorem QZ (g:Good E σ S μ w) {ks:List Nat} {v:Value} {x:AV} (h:aq w S μ v x):∀ (S':Nat→Prop),(∀ b,S b→S' b)→∀ {y:AV} {bs:List Nat} {ps:List Prop},
  x.fW σ ks=some (y,bs,ps)→aW ps→(∀ b,yu μ bs b→S' b)→aq w S' (kz μ ks) v y:=by
 have lists:∀ {μ:Mu} {vs:Array Value} {cs:List AV} (S':Nat→Prop),
   (∀ (j:Nat) (c:AV) (v:Value),cs[j]?=some c→vs[j]?=some v→∀ {y:AV} {bs:List Nat} {ps:List Prop},c.fW σ ks=some (y,bs,ps)→aW ps→(∀ b,yu μ bs b→S' b)→aq w S' (kz μ ks) v y) →
   ∀ {ys:List AV} {bs:List Nat} {ps:List Prop},AV.qx σ ks cs=some (ys,bs,ps)→aW ps→(∀ b,yu μ bs b→S' b) →
   ys.length=cs.length∧∀ (j:Nat) (c:AV) (v:Value),ys[j]?=some c→vs[j]?=some v→aq w S' (kz μ ks) v c:=by
  intro μ vs cs S' h
  have gen:∀ (cs:List AV) (o:Nat),(∀ (j:Nat) (c:AV) (v:Value),cs[j]?=some c→vs[o+j]?=some v→∀ {y:AV} {bs:List Nat} {ps:List Prop},c.fW σ ks=some (y,bs,ps)→aW ps→(∀ b,yu μ bs b→S' b)→aq w S' (kz μ ks) v y) →
   ∀ {ys:List AV} {bs:List Nat} {ps:List Prop},AV.qx σ ks cs=some (ys,bs,ps)→aW ps→(∀ b,yu μ bs b→S' b) →
   ys.length=cs.length∧∀ (j:Nat) (c:AV) (v:Value),ys[j]?=some c→vs[o+j]?=some v→aq w S' (kz μ ks) v c:=by
   intro cs
   induction cs with
   | nil =>
    intro o _ ys bs ps h _ _
    simp [AV.qx] at h
    obtain ⟨rfl,rfl,rfl⟩:=h
    exact ⟨rfl,fun j c v hc=>by simp at hc⟩
   | cons c cs ih =>
    intro o hh ys bs ps h hp hb
    simp only [AV.qx] at h
    split at h
    ·rename_i a b p a' b' p' h1 h2
     simp only [az,ay] at h
     obtain ⟨rfl,rfl,rfl⟩:=h
     obtain ⟨ug,vE⟩:=aW.app hp
     have Zo:=ih (o+1) (fun j c v hc hv=>hh (j+1) c v (by simpa using hc) (by rw [← hv];congr 1;omega)) h2 vE (fun q hq=>hb q (by obtain ⟨k,hk,r⟩:=hq;exact ⟨k,by simp [hk],r⟩))
     refine ⟨by simp [Zo.1],?_⟩
     intro j c' v hc hv
     cases j with
     | zero =>
      simp at hc;subst hc
      exact hh 0 c v (by simp) hv h1 ug (fun q hq=>hb q (by obtain ⟨k,hk,r⟩:=hq;exact ⟨k,by simp [hk],r⟩))
     | succ j=>exact Zo.2 j c' v (by simpa using hc) (by rw [← hv];congr 1;omega)
    ·cases h
  intro ys bs ps h1 h2 h3
  have:=gen cs 0 (fun j c v hc hv=>h j c v hc (by simpa using hv)) h1 h2 h3
  exact ⟨this.1,fun j c v hc hv=>this.2 j c v hc (by simpa using hv)⟩
 intro S' hS
 have h0:=h
 clear h
 have key:∀ {DY:Mu} {v:Value} {x:AV},aq w S DY v x→DY=μ→∀ {y:AV} {bs:List Nat} {ps:List Prop},x.fW σ ks=some (y,bs,ps)→aW ps→(∀ b,yu μ bs b→S' b)→aq w S' (kz μ ks) v y:=by
  intro DY v x h
  induction h with
  | atom v=>intro _ y bs ps h _ _;simp [AV.fW] at h;obtain ⟨rfl,_,_⟩:=h;exact .atom v
  | agg h1 h2 ih =>
   intro e y bs ps h hp hb
   subst e
   simp only [AV.fW,aJ] at h
   obtain ⟨⟨a,b,c⟩,h,e⟩:=h
   simp only [ay] at e
   obtain ⟨rfl,rfl,rfl⟩:=e
   obtain ⟨q1,q2⟩:=lists S' (fun j c v hc hv=>ih j c v hc hv rfl) h hp hb
   exact .agg (h1.trans q1.symm) q2
  | tup h1 h2 ih =>
   intro e y bs ps h hp hb
   subst e
   simp only [AV.fW,aJ] at h
   obtain ⟨⟨a,b,c⟩,h,e⟩:=h
   simp only [ay] at e
   obtain ⟨rfl,rfl,rfl⟩:=e
   obtain ⟨q1,q2⟩:=lists S' (fun j c v hc hv=>ih j c v hc hv rfl) h hp hb
   exact .tup (h1.trans q1.symm) q2
  | @sl DY a len cap get b off sz f h1 h2 h3 h4 h5 _ =>
   intro _ y bs ps h _ _
   simp [AV.fW] at h;obtain ⟨rfl,_,_⟩:=h
   have:=(aq.sl (μ:=kz μ ks) b off sz f h1 h2 h3 h4 h5)
   exact this.mono hS (fun _ _=>rfl) (fun _ _ h=>h)
  | @rp DY cs off b o f h1 h2 h3 _ =>
   intro _ y bs ps h _ _
   simp [AV.fW] at h;obtain ⟨rfl,_,_⟩:=h
   have:=(aq.rp (μ:=kz μ ks) (off:=off) b o f h1 h2 h3)
   exact this.mono hS (fun _ _=>rfl) (fun _ _ h=>h)
  | @op DY k i j pl hm =>
   intro e y bs ps h _ _
   subst e
   simp only [AV.fW] at h
   split at h
   ·rename_i n hn
    simp at h;obtain ⟨rfl,_,_⟩:=h
    exact .op pl (yw _ _ _ hn hm)
   ·simp at h;obtain ⟨rfl,_,_⟩:=h
    exact .mV
  | @os DY k off len cap a pl hm h1 h2 h3 =>
   intro e y bs ps h hp hb
   subst e
   simp only [AV.fW] at h
   split at h
   ·rename_i n hn
    simp at h;obtain ⟨rfl,_,_⟩:=h
    exact .os pl (yw _ _ _ hn hm) h1 h2 h3
   ·split at h
    ·rename_i o ho
     split at h
     ·rename_i DV
      simp only [az,ay] at h
      obtain ⟨hy,rfl,rfl⟩:=h
      have hle:=hp.1
      obtain ⟨iJ,c,T,fy,cE⟩:=g.rep.ob k o ho
      rw [hm] at fy;cases fy
      have Ud:y=.sl len fun i=>o.get (off+i):=by
       rw [← hy]
       simp only [dq]
      rw [Ud]
      refine .sl pl.b6 (off * pl.sz) o.sz (fun i j=>(c[(off+i) * o.sz+j]?).getD undef) ?_ (fun i hi=>cE.tz _ (by omega)) ?_ ?_ h2
      ·intro hl
       exact ⟨h1 (by omega),hb _ ⟨k,by simp,pl,hm,by omega,rfl⟩⟩
      ·intro i j hi hj
       obtain ⟨v,q1,q2⟩:=di cE (i:=off+i) (by omega) hj
       rw [q1,cE.sz,← ca,q2];rfl
      ·intro i j c' hi jr
       obtain ⟨v,q1,q2⟩:=di cE (i:=off+i) (by omega) (by have:=(dd.1 jr).1;rwa [cE.tz _ (by omega)] at this)
       rw [q1]
       have:=cE.rep _ j c' v (by omega) jr q1
       rw [DV] at this
       exact aq.mono (S:=S) (S':=S') hS (fun _ _=>rfl) this (fun _ _ h=>h)
     ·cases h
    ·cases h
  | fn h1 h2 _ _ Kk Kl =>
   intro e y bs ps h hp hb
   subst e
   simp only [AV.fW] at h
   split at h
   ·rename_i a b c a' b' c' e1 e2
    simp only [az,ay] at h
    obtain ⟨rfl,rfl,rfl⟩:=h
    obtain ⟨ug,vE⟩:=aW.app hp
    obtain ⟨q1,q2⟩:=lists S' (fun j c v hc hv=>Kk j c v hc hv rfl) e1 ug (fun q hq=>hb q (by obtain ⟨k,hk,r⟩:=hq;exact ⟨k,by simp [hk],r⟩))
    obtain ⟨r1,r2⟩:=lists S' (fun j c v hc hv=>Kl j c v hc hv rfl) e2 vE (fun q hq=>hb q (by obtain ⟨k,hk,r⟩:=hq;exact ⟨k,by simp [hk],r⟩))
    exact .fn (h1.trans q1.symm) (h2.trans r1.symm) q2 r2
   ·cases h
  | when=>intro _ y bs ps h;simp [AV.fW] at h
  | ov=>intro _ y bs ps h;simp [AV.fW] at h
  | Cy=>intro _ y bs ps h;simp [AV.fW] at h
  | nq=>intro _ y bs ps h;simp [AV.fW] at h
  | @mp DY k pl hm =>
   intro e y bs ps h _ _
   subst e
   simp only [AV.fW,aJ,ay] at h
   obtain ⟨n,hn,rfl,_,_⟩:=h
   exact .mp pl (yw _ _ _ hn hm)
  | bn b hb=>intro _ y bs ps h _ _;simp [AV.fW] at h;obtain ⟨rfl,_,_⟩:=h;exact .bn b hb
  | pt h1 h2 _ =>
   intro _ y bs ps h _ _
   simp [AV.fW] at h;obtain ⟨rfl,_,_⟩:=h
   refine .pt (fun hb=>?_) h2
   have:=h1 hb
   cases this with
   | rp b o f q1 q2 q3 =>
    have:=(aq.rp (μ:=kz μ ks) (off:=0) b o f q1 q2 q3)
    exact this.mono hS (fun _ _=>rfl) (fun _ _ h=>h)
  | nil=>intro _ y bs ps h _ _;simp [AV.fW] at h;obtain ⟨rfl,_,_⟩:=h;exact .nil
  | mV=>intro _ y bs ps h _ _;simp [AV.fW] at h;obtain ⟨rfl,_,_⟩:=h;exact .mV
  | mr=>intro _ y bs ps h;simp [AV.fW] at h
 intro y bs ps h1 h2 h3
 exact key h0 rfl h1 h2 h3
end
end Go.Ab
namespace Go.Ab
structure YC where
 l:Nat
 as:List AV
 k:Nat
 o:Ob
 o':Ob
structure lZ where
 ks:List Nat
 same:Bool
 res:AV
 jk:du
 dec:Nat
 wY:Bool
 y:Option YC
def abV:Option lZ→Option YC
 | none=>none
 | some o=>o.y
def abW:Option lZ→Nat
 | none=>0
 | some o=>o.dec
def abX:Option lZ→AV
 | none=>.mV
 | some o=>o.res
structure R where
 HA:List Prop
 val:AV
 rds:List Nat
 upd:r7
def KN (P:Program) (g:FuncId):Bool :=
 match P.funcs[g]? with
 | some fn=>fn.body.isSome && !(fn.name == "runtime.NumGoroutine")
 | none=>false
def canon (σ:du) (ks:List Nat):Nat→List Nat→Option du
 | _,[]=>some []
 | i,k :: r=>match au σ k,canon σ ks (i+1) r with
  | some o,some t=>some ((i,o.jx (idx ks)) :: t)
  | _,_=>none
def back (ks:List Nat) (nk n:Nat):Option Nat :=
 match ks[n]? with
 | some k=>some k
 | none=>match Nat.blt n (ks.length+16) with
  | true=>some (nk+(n - ks.length))
  | false=>none
def yy (ks:List Nat) (nk:Nat) (dx:du):Nat→List Nat→r7
 | _,[]=>[]
 | i,k :: r=>(k,(au dx i).map (Ob.jx (back ks nk))) :: yy ks nk dx (i+1) r
def AL (ks:List Nat) (nk:Nat):du→r7
 | []=>[]
 | (n,o) :: r=>match Nat.ble ks.length n with
  | true=>(nk+(n - ks.length),some (o.jx (back ks nk))) :: AL ks nk r
  | false=>AL ks nk r
def mH:List Nat→Bool
 | []=>true
 | k :: r=>(idx r k).isNone && mH r
def Fw (n:Nat):du→Bool
 | []=>true
 | (k,_) :: r=>Nat.blt k n && Fw n r
def Ob.flat (o:Ob):Bool:=o.var && Nat.beq o.len 1 && Nat.ble 1 o.sz && AV.yi (o.get 0)
mutual
def AV.Kp:AV→Bool
 | .atom _ | .op _ _ _ | .os _ _ _ | .mp _ | .bn _ | .nil=>true
 | .agg cs | .tup cs=>AV.Pt cs
 | .fn _ a b=>AV.Pt a && AV.Pt b
 | _=>false
def AV.Pt:List AV→Bool
 | []=>true
 | c :: cs=>c.Kp && AV.Pt cs
end
theorem Bw {cs:List AV} (h:AV.Pt cs=true) {j:Nat} {c:AV} (hc:cs[j]?=some c):c.Kp=true:=by
 induction cs generalizing j with
 | nil=>simp at hc
 | cons x xs ih =>
  simp only [AV.Pt,aV] at h
  cases j with
  | zero=>simp at hc;exact hc ▸ h.1
  | succ j=>exact ih h.2 (by simpa using hc)
theorem aq.Kp {w:World} {S:Nat→Prop} {μ:Mu} {v:Value} {x:AV} (h:aq w S μ v x):x.Kp=true→∀ w' S',aq w' S' μ v x:=by
 induction h with
 | atom v=>exact fun _ _ _=>.atom v
 | agg h1 _ ih=>exact fun hp w' S'=>.agg h1 fun j c v hc hv=>ih j c v hc hv (Bw (by simpa [AV.Kp] using hp) hc) w' S'
 | tup h1 _ ih=>exact fun hp w' S'=>.tup h1 fun j c v hc hv=>ih j c v hc hv (Bw (by simpa [AV.Kp] using hp) hc) w' S'
 | op pl h=>exact fun _ _ _=>.op pl h
 | os pl h h1 h2 h3=>exact fun _ _ _=>.os pl h h1 h2 h3
 | fn h1 h2 _ _ Kk Kl =>
  intro hp w' S'
  simp only [AV.Kp,aV] at hp
  exact .fn h1 h2 (fun j c v hc hv=>Kk j c v hc hv (Bw hp.1 hc) w' S') (fun j c v hc hv=>Kl j c v hc hv (Bw hp.2 hc) w' S')
 | mp pl h=>exact fun _ _ _=>.mp pl h
 | bn b h=>exact fun _ _ _=>.bn b h
 | nil=>exact fun _ _ _=>.nil
 | sl=>exact fun hp=>by simp [AV.Kp] at hp
 | rp=>exact fun hp=>by simp [AV.Kp] at hp
 | when=>exact fun hp=>by simp [AV.Kp] at hp
 | pt=>exact fun hp=>by simp [AV.Kp] at hp
 | ov=>exact fun hp=>by simp [AV.Kp] at hp
 | Cy=>exact fun hp=>by simp [AV.Kp] at hp
 | nq=>exact fun hp=>by simp [AV.Kp] at hp
 | mV=>exact fun hp=>by simp [AV.Kp] at hp
 | mr=>exact fun hp=>by simp [AV.Kp] at hp
def uA (o:Ob):Option (List Prop) :=
 match o.flat with
 | true=>some []
 | false=>match o.pr && Nat.ble 1 o.sz with
  | true=>some [∀ i,i < o.len→AV.yi (o.get i)=true]
  | false=>none
def Bx (lone:Bool):du→Option (List Prop)
 | []=>some []
 | (_,o) :: r=>match lone with
  | true=>some []
  | false=>match uA o,Bx lone r with
   | some p,some q=>some (p ++ q)
   | _,_=>none
mutual
def AV.closed (f:Nat→Option Nat):AV→Bool
 | .op k _ _=>(f k).isSome
 | .os k _ _=>(f k).isSome
 | .mp k=>(f k).isSome
 | .ov _ _ _ _ _ | .Cy _ _ _ | .mr _ _ _=>false
 | .agg cs | .tup cs=>AV.wZ f cs
 | .fn _ a b=>AV.wZ f a && AV.wZ f b
 | .when _ x=>x.closed f
 | .nq _ x=>x.closed f
 | _=>true
def AV.wZ (f:Nat→Option Nat):List AV→Bool
 | []=>true
 | c :: cs=>c.closed f && AV.wZ f cs
end
def Ob.closed (f:Nat→Option Nat) (o:Ob):Bool:=o.pr || (o.var && Nat.beq o.len 1 && AV.wZ f (o.get 0))
def Fx:List AV→Bool
 | [.mr _ _ _]=>true
 | _=>false
theorem CO {f:Nat→Option Nat} {l:List AV} (h:Fx l=true):AV.uY f l=l:=by
 unfold Fx at h
 split at h
 ·rfl
 ·cases h
def CP (ks:List Nat) (lone:Bool) (o:Ob):Option (List Prop) :=
 match o.flat || (lone && o.closed (idx ks)) with
 | true=>some []
 | false=>match o.pr with
  | true=>uA o
  | false=>match lone && !o.var with
   | true=>some [∀ i,i < o.len→Fx (o.get i)=true]
   | false=>none
def yz (σ:du) (ks:List Nat) (lone:Bool):List Nat→Option (List Prop)
 | []=>some []
 | k :: r=>match au σ k with
  | some o=>match CP ks lone o,yz σ ks lone r with
   | some p,some q=>some (p ++ q)
   | _,_=>none
  | none=>none
mutual
theorem Fy {f g:Nat→Option Nat} (Qs:∀ k i,f k=some i→g i=some k):∀ (x:AV),x.closed f=true→(x.jx f).jx g=x
 | .op k i j,h=>by
  obtain ⟨n,hn⟩:=Option.isSome_iff_exists.1 (by simpa [AV.closed] using h)
  simp [AV.jx,hn,Qs k n hn]
 | .os k i j,h=>by
  obtain ⟨n,hn⟩:=Option.isSome_iff_exists.1 (by simpa [AV.closed] using h)
  simp [AV.jx,hn,Qs k n hn]
 | .agg cs,h=>by simp only [AV.jx];rw [tf Qs cs (by simpa [AV.closed] using h)]
 | .tup cs,h=>by simp only [AV.jx];rw [tf Qs cs (by simpa [AV.closed] using h)]
 | .fn q a b,h=>by
  simp only [AV.closed,aV] at h
  simp only [AV.jx];rw [tf Qs a h.1,tf Qs b h.2]
 | .when b x,h=>by simp only [AV.jx];rw [Fy Qs x (by simpa [AV.closed] using h)]
 | .nq b x,h=>by simp only [AV.jx];rw [Fy Qs x (by simpa [AV.closed] using h)]
 | .mp k,h=>by
  obtain ⟨n,hn⟩:=Option.isSome_iff_exists.1 (by simpa [AV.closed] using h)
  simp [AV.jx,hn,Qs k n hn]
 | .ov _ _ _ _ _,h=>by simp [AV.closed] at h
 | .Cy _ _ _,h=>by simp [AV.closed] at h
 | .mr _ _ _,h=>by simp [AV.closed] at h
 | .bn _,_=>rfl
 | .pt _ _,_=>rfl
 | .atom _,_=>rfl
 | .sl _ _,_=>rfl
 | .rp _ _,_=>rfl
 | .nil,_=>rfl
 | .mV,_=>rfl
theorem tf {f g:Nat→Option Nat} (Qs:∀ k i,f k=some i→g i=some k):∀ (cs:List AV),AV.wZ f cs=true→AV.uY g (AV.uY f cs)=cs
 | [],_=>rfl
 | c :: cs,h=>by
  simp only [AV.wZ,aV] at h
  simp only [AV.uY]
  rw [Fy Qs c h.1,tf Qs cs h.2]
end
theorem Fz:∀ (ks:List Nat),mH ks=true→∀ (i j k:Nat),ks[i]?=some k→ks[j]?=some k→i=j
 | [],_,i,j,k,h,_=>by simp at h
 | a :: r,h,i,j,k,hi,hj=>by
  simp only [mH,aV] at h
  have none:∀ n:Nat,r[n]?=some a→False:=by
   intro n hn
   have:∀ (l:List Nat) (n:Nat),l[n]?=some a→(idx l a).isSome=true:=by
    intro l
    induction l with
    | nil=>intro n hn;simp at hn
    | cons b l ih =>
     intro n hn
     simp only [idx]
     cases hb:Nat.beq b a with
     | true=>rfl
     | false =>
      cases n with
      | zero=>simp at hn;rw [hn] at hb;simp at hb
      | succ n=>simpa using ih n (by simpa using hn)
   have:=this r n hn
   rw [Option.isNone_iff_eq_none] at h
   rw [h.1] at this
   cases this
  cases i with
  | zero =>
   simp at hi;subst hi
   cases j with
   | zero=>rfl
   | succ j=>exact (none j (by simpa using hj)).elim
  | succ i =>
   cases j with
   | zero=>simp at hj;subst hj;exact (none i (by simpa using hi)).elim
   | succ j=>rw [Fz r h.2 i j k (by simpa using hi) (by simpa using hj)]
theorem md:∀ (ks:List Nat) (k:Nat),idx ks k=none→∀ i:Nat,ks[i]?≠some k
 | [],k,_,i=>by simp
 | a :: r,k,h,i=>by
  simp only [idx] at h
  split at h
  ·cases h
  ·rename_i hb
   have h':idx r k=none:=by simpa using h
   cases i with
   | zero=>intro e;simp at e;rw [e] at hb;simp at hb
   | succ i=>simpa using md r k h' i
theorem Im {σ:du} {ks:List Nat}:∀ (l:List Nat) (i:Nat) (rU:du),canon σ ks i l=some rU →
  ∀ n,au rU n=if i≤n then ((l[n - i]?).bind (au σ)).map (Ob.jx (idx ks)) else none
 | [],i,rU,h,n=>by simp [canon] at h;subst h;simp [au]
 | k :: r,i,rU,h,n=>by
  simp only [canon] at h
  split at h
  ·rename_i o t ho ht
   cases h
   simp only [au]
   by_cases mn:i=n
   ·rw [ko mn,if_pos (by omega),mn];simp [ho]
   ·rw [lR mn]
    show au t n=_
    rw [Im r (i+1) t ht n]
    by_cases h1:i+1≤n
    ·rw [if_pos h1,if_pos (by omega),show n - i=(n - (i+1))+1 by omega];simp
    ·rw [if_neg h1,if_neg (by omega)]
  ·cases h
theorem zw {σ:du} {ks:List Nat}:∀ (l:List Nat) (i:Nat) (rU:du),canon σ ks i l=some rU→∀ k∈l,∃ o,au σ k=some o
 | [],i,rU,h,k,hk=>by simp at hk
 | a :: r,i,rU,h,k,hk=>by
  simp only [canon] at h
  split at h
  ·rename_i o t ho ht
   rcases jw.1 hk with rfl | hk
   ·exact ⟨o,ho⟩
   ·exact zw r (i+1) t ht k hk
  ·cases h
theorem CQ {ks:List Nat} {nk:Nat} {dx:du}:∀ (l:List Nat) (i:Nat) (σ:du) (n:Nat),(∀ a b k:Nat,l[a]?=some k→l[b]?=some k→a=b) →
  au (eX σ (yy ks nk dx i l)) n=match idx l n with
   | some j=>(au dx (i+j)).map (Ob.jx (back ks nk))
   | none=>au σ n
 | [],i,σ,n,_=>by simp [yy,eX,idx]
 | k :: r,i,σ,n,hd=>by
  have Wn:∀ a b k:Nat,r[a]?=some k→r[b]?=some k→a=b:=fun a b q ha hb=>by
   have:=hd (a+1) (b+1) q (by simpa using ha) (by simpa using hb)
   omega
  have TP:idx r k=none:=by
   cases hq:idx r k with
   | none=>rfl
   | some j =>
    have:=m6 r k j hq
    have:=hd 0 (j+1) k (by simp) (by simpa using this)
    omega
  simp only [yy]
  have step:au (eX σ ((k,(au dx i).map (Ob.jx (back ks nk))) :: yy ks nk dx (i+1) r)) n=match idx r n with
    | some j=>(au dx (i+1+j)).map (Ob.jx (back ks nk))
    | none=>if k=n then (au dx i).map (Ob.jx (back ks nk)) else au σ n:=by
   cases hs:(au dx i).map (Ob.jx (back ks nk)) with
   | some o =>
    simp only [eX]
    rw [CQ r (i+1) _ n Wn,bg]
   | none =>
    simp only [eX]
    rw [CQ r (i+1) _ n Wn,eH]
  rw [step]
  simp only [idx]
  by_cases rT:k=n
  ·subst rT
   rw [TP,ko rfl]
   simp
  ·rw [lR rT]
   cases hq:idx r n with
   | none=>simp [rT]
   | some j=>simp only [Option.map_some];rw [show i+1+j=i+(j+1) by omega]
def vF (z:Bool) (bs:List Nat):r7:=match z with
 | true=>bs.map fun k=>(k,none)
 | false=>[]
theorem me (z:Bool):∀ (bs:List Nat) (σ:du) (n:Nat),au (eX σ (vF z bs)) n=if z=true∧n∈bs then none else au σ n:=by
 cases z with
 | false=>intro bs σ n;simp [vF,eX]
 | true =>
  intro bs
  induction bs with
  | nil=>intro σ n;simp [vF,eX]
  | cons k r ih =>
   intro σ n
   have:=ih (qz σ k) n
   simp only [vF,List.map_cons,eX] at this ⊢
   rw [this,eH]
   by_cases h:k=n
   ·subst h;simp
   ·have h':¬ n=k:=fun e=>h e.symm
    simp [h,h']
theorem gf:∀ (u v:r7) (σ:du),eX σ (u ++ v)=eX (eX σ u) v
 | [],v,σ=>rfl
 | (k,some o) :: r,v,σ=>by simp only [List.cons_append,eX];exact gf r v _
 | (k,none) :: r,v,σ=>by simp only [List.cons_append,eX];exact gf r v _
def Jn (n:Nat):du→Bool
 | []=>true
 | (k,_) :: r=>Nat.ble n k && Jn n r
theorem Ip {n:Nat}:∀ {τ:du},Jn n τ=true→∀ j,j < n→au τ j=none
 | [],_,_,_=>rfl
 | (k,o) :: r,h,j,hj=>by
  simp only [Jn,aV] at h
  simp only [au]
  rw [lR (by have:=Nat.le_of_ble_eq_true h.1;omega)]
  exact Ip h.2 j hj
theorem FA:∀ (σ τ:du) (n:Nat),au (σ ++ τ) n=match au σ n with
  | some o=>some o
  | none=>au τ n
 | [],τ,n=>rfl
 | (k,o) :: r,τ,n=>by
  simp only [List.cons_append,au]
  split
  ·rfl
  ·exact FA r τ n
def Bz (P:Program) (ob:FuncId→List AV→du→Nat→AV→du→Prop) (nk:Nat) (σ:du) (f:AV) (args:List AV) (orc:lZ):Option R :=
 match f with
 | .fn (.func g) first cap=>match KN P g,AV.qx σ orc.ks (first ++ (args ++ cap)),canon σ orc.ks 0 orc.ks with
  | true,some (as,bs,ps),some rU=>match mH orc.ks && (bs.isEmpty || orc.wY || orc.res.Kp) with
   | true=>match orc.same with
    | true=>match orc.jk with
     | []=>match yz σ orc.ks (bs.isEmpty || orc.wY) orc.ks with
      | some qs=>some ⟨ob g as rU orc.ks.length orc.res rU :: (qs ++ ps),orc.res.jx (back orc.ks nk),orc.ks ++ bs,vF orc.wY bs⟩
      | none=>none
     | q :: τ=>match bs.isEmpty || orc.wY,yz σ orc.ks true orc.ks,Jn orc.ks.length (q :: τ) && Fw (orc.ks.length+16) (q :: τ) && mH ((q :: τ).map (·.1)) with
      | true,some qs,true=>some ⟨ob g as rU orc.ks.length orc.res (rU ++ q :: τ) :: (qs ++ ps),orc.res.jx (back orc.ks nk),orc.ks ++ bs,AL orc.ks nk (q :: τ) ++ vF orc.wY bs⟩
      | _,_,_=>none
    | false=>match Fw (orc.ks.length+16) orc.jk && mH (orc.jk.map (·.1)),Bx (bs.isEmpty || orc.wY) orc.jk with
     | true,some qs=>some ⟨ob g as rU orc.ks.length orc.res orc.jk :: (qs ++ ps),orc.res.jx (back orc.ks nk),orc.ks ++ bs,yy orc.ks nk orc.jk 0 orc.ks ++ (AL orc.ks nk orc.jk ++ vF orc.wY bs)⟩
     | _,_=>none
   | false=>none
  | _,_,_=>none
 | _=>none
def FB (P:Program) (nk:Nat) (σ:du) (f:AV) (args:List AV) (orc:lZ):Option R:=Bz P (Sound P) nk σ f args orc
theorem vG {ks:List Nat} {nk:Nat}:∀ (τ σ:du) (n:Nat),Fw (ks.length+16) τ=true→(n < nk∨nk+16≤n)→au (eX σ (AL ks nk τ)) n=au σ n
 | [],σ,n,_,_=>rfl
 | (k,o) :: r,σ,n,hl,hn=>by
  simp only [Fw,aV] at hl
  have hk:k < ks.length+16:=by
   have:=hl.1
   simp only [Nat.blt,Nat.ble_eq] at this
   exact this
  simp only [AL]
  split
  ·rename_i hb
   have hb:=Nat.le_of_ble_eq_true hb
   simp only [eX]
   rw [vG r _ n hl.2 hn,bg,if_neg (by omega)]
  ·exact vG r σ n hl.2 hn
theorem KO:∀ (τ:du) (n:Nat) (o:Ob),au τ n=some o→n∈τ.map (·.1)
 | [],n,o,h=>by simp [au] at h
 | (k,x) :: r,n,o,h=>by
  simp only [au] at h
  split at h
  ·rename_i hb;rw [← bm hb];simp
  ·exact List.mem_cons_of_mem _ (KO r n o h)
theorem BA {ks:List Nat} {nk:Nat}:∀ (τ σ:du) (j:Nat),mH (τ.map (·.1))=true→au (eX σ (AL ks nk τ)) (nk+j)=match au τ (ks.length+j) with
   | some o=>some (o.jx (back ks nk))
   | none=>au σ (nk+j)
 | [],σ,j,_=>rfl
 | (k,o) :: r,σ,j,hd=>by
  simp only [List.map_cons,mH,aV,Option.isNone_iff_eq_none] at hd
  simp only [AL,au]
  by_cases hk:k=ks.length+j
  ·subst hk
   rw [ko rfl]
   have DX:au r (ks.length+j)=none:=by
    cases hs:au r (ks.length+j) with
    | none=>rfl
    | some x =>
     obtain ⟨i,hi⟩:=List.getElem?_of_mem (KO r _ x hs)
     exact (md _ _ hd.1 i hi).elim
   have abY:Nat.ble ks.length (ks.length+j)=true:=Nat.ble_eq_true_of_le (by omega)
   rw [abY]
   simp only [eX]
   rw [BA r _ j hd.2,DX]
   simp only
   rw [bg,if_pos (by omega)]
  ·rw [lR hk]
   split
   ·rename_i hb
    have hb:=Nat.le_of_ble_eq_true hb
    simp only [eX]
    rw [BA r _ j hd.2]
    split
    ·rfl
    ·rw [bg,if_neg (by omega)]
   ·exact BA r σ j hd.2
mutual
theorem Pu {σ:du} {ks:List Nat}:∀ (x y:AV) (bs:List Nat) (ps:List Prop),x.fW σ ks=some (y,bs,ps)→∀ k∈bs,idx ks k=none∧∃ o,au σ k=some o
 | .op k i j,y,bs,ps,h=>by
  simp only [AV.fW] at h
  split at h
  ·simp at h;obtain ⟨_,rfl,_⟩:=h;simp
  ·simp at h;obtain ⟨_,rfl,_⟩:=h;simp
 | .os k off len,y,bs,ps,h=>by
  simp only [AV.fW] at h
  split at h
  ·simp at h;obtain ⟨_,rfl,_⟩:=h;simp
  ·rename_i hi
   split at h
   ·rename_i o ho
    split at h
    ·simp only [az,ay] at h
     obtain ⟨_,rfl,_⟩:=h
     intro q hq
     simp at hq;subst hq
     exact ⟨hi,o,ho⟩
    ·cases h
   ·cases h
 | .agg cs,y,bs,ps,h=>by
  simp only [AV.fW,aJ] at h
  obtain ⟨⟨a,b,c⟩,h,e⟩:=h
  simp only [ay] at e
  obtain ⟨rfl,rfl,rfl⟩:=e
  exact qC cs a b c h
 | .tup cs,y,bs,ps,h=>by
  simp only [AV.fW,aJ] at h
  obtain ⟨⟨a,b,c⟩,h,e⟩:=h
  simp only [ay] at e
  obtain ⟨rfl,rfl,rfl⟩:=e
  exact qC cs a b c h
 | .fn g x z,y,bs,ps,h=>by
  simp only [AV.fW] at h
  split at h
  ·rename_i a b c a' b' c' e1 e2
   simp only [az,ay] at h
   obtain ⟨_,rfl,_⟩:=h
   intro k hk
   rcases List.mem_append.1 hk with hk | hk
   ·exact qC x a b c e1 k hk
   ·exact qC z a' b' c' e2 k hk
  ·cases h
 | .when _ _,y,bs,ps,h=>by simp [AV.fW] at h
 | .ov _ _ _ _ _,y,bs,ps,h=>by simp [AV.fW] at h
 | .Cy _ _ _,y,bs,ps,h=>by simp [AV.fW] at h
 | .nq _ _,y,bs,ps,h=>by simp [AV.fW] at h
 | .mr _ _ _,y,bs,ps,h=>by simp [AV.fW] at h
 | .mp k,y,bs,ps,h=>by
  simp only [AV.fW,aJ,ay] at h
  obtain ⟨n,hn,_,rfl,_⟩:=h
  simp
 | .bn _,y,bs,ps,h=>by simp [AV.fW] at h;obtain ⟨_,rfl,_⟩:=h;simp
 | .pt _ _,y,bs,ps,h=>by simp [AV.fW] at h;obtain ⟨_,rfl,_⟩:=h;simp
 | .atom _,y,bs,ps,h=>by simp [AV.fW] at h;obtain ⟨_,rfl,_⟩:=h;simp
 | .sl _ _,y,bs,ps,h=>by simp [AV.fW] at h;obtain ⟨_,rfl,_⟩:=h;simp
 | .rp _ _,y,bs,ps,h=>by simp [AV.fW] at h;obtain ⟨_,rfl,_⟩:=h;simp
 | .nil,y,bs,ps,h=>by simp [AV.fW] at h;obtain ⟨_,rfl,_⟩:=h;simp
 | .mV,y,bs,ps,h=>by simp [AV.fW] at h;obtain ⟨_,rfl,_⟩:=h;simp
theorem qC {σ:du} {ks:List Nat}:∀ (xs ys:List AV) (bs:List Nat) (ps:List Prop),AV.qx σ ks xs=some (ys,bs,ps)→∀ k∈bs,idx ks k=none∧∃ o,au σ k=some o
 | [],ys,bs,ps,h=>by simp [AV.qx] at h;obtain ⟨_,rfl,_⟩:=h;simp
 | c :: cs,ys,bs,ps,h=>by
  simp only [AV.qx] at h
  split at h
  ·rename_i a b p a' b' p' e1 e2
   simp only [az,ay] at h
   obtain ⟨_,rfl,_⟩:=h
   intro k hk
   rcases List.mem_append.1 hk with hk | hk
   ·exact Pu c a b p e1 k hk
   ·exact qC cs a' b' p' e2 k hk
  ·cases h
end
end Go.Ab
namespace Go.Ab
section
variable {P:Program} {E:Env} {nk:Nat} {σ:du} {S:Nat→Prop} {μ:Mu} {w:World}
theorem RL.append {vs us:Array Value} {cs ds:List AV} (h:RL w S μ vs cs) (k:RL w S μ us ds):RL w S μ (vs ++ us) (cs ++ ds):=by
 refine ⟨by simp [h.1,k.1],?_⟩
 intro j c v hc hv
 have h1:=h.1
 by_cases hj:j < cs.length
 ·rw [eE hj] at hc
  rw [Array.getElem?_append_left (by omega)] at hv
  exact h.2 j c v hc hv
 ·rw [gF (by omega)] at hc
  rw [Array.getElem?_append_right (by omega),h1] at hv
  exact k.2 _ c v hc hv
theorem Uo (g:Good E σ S μ w) {ks:List Nat} {vs:Array Value} {cs ys:List AV} {bs:List Nat} {ps:List Prop} (h:RL w S μ vs cs) (S':Nat→Prop) (hS:∀ b,S b→S' b)
  (hl:AV.qx σ ks cs=some (ys,bs,ps)) (hp:aW ps) (hb:∀ b,yu μ bs b→S' b):RL w S' (kz μ ks) vs ys:=by
 have:=QZ g (ks:=ks) (aq.agg h.1 h.2) S' hS (y:=.agg ys) (bs:=bs) (ps:=ps) (by simp [AV.fW,hl]) hp hb
 cases this with
 | agg h1 h2=>exact ⟨h1,h2⟩
theorem NW {w':World} {S' Bm:Nat→Prop} {cD Fl:Mu} {o:Ob} {pl:Place} {c:Array Value} {T:TypeId} (h:gy w' S' cD o pl c T) (hf:o.flat=true) (ho:0 < pl.cap→¬ Bm pl.b6) :
  gy w' Bm Fl o pl c T:=by
 unfold Ob.flat at hf
 simp only [aV] at hf
 have hl:=bm hf.1.1.2
 have hz1:=Nat.le_of_ble_eq_true hf.1.2
 refine { h with out:=ho,rep:=?_,mp:=fun hz=>absurd hz (by omega) }
 intro i j x v hi hx hv
 have:i=0:=by omega
 subst this
 exact (h.rep 0 j x v hi hx hv).flat (tc hf.2 hx) _ _ _
mutual
theorem Pv:∀ (x:AV),x.flat=true→x.pure=true
 | .atom _,_=>rfl
 | .nil,_=>rfl
 | .bn _,_=>rfl
 | .pt _ _,h=>by simp [AV.flat] at h
 | .mp _,h=>by simp [AV.flat] at h
 | .ov _ _ _ _ _,h=>by simp [AV.flat] at h
 | .Cy _ _ _,h=>by simp [AV.flat] at h
 | .nq _ _,h=>by simp [AV.flat] at h
 | .agg cs,h=>qD cs h
 | .tup cs,h=>qD cs h
 | .fn _ a b,h=>by
  simp only [AV.flat,aV] at h
  simp only [AV.pure,aV]
  exact ⟨qD a h.1,qD b h.2⟩
 | .sl _ _,h=>by simp [AV.flat] at h
 | .rp _ _,h=>by simp [AV.flat] at h
 | .op _ _ _,h=>by simp [AV.flat] at h
 | .os _ _ _,h=>by simp [AV.flat] at h
 | .when _ _,h=>by simp [AV.flat] at h
 | .mV,h=>by simp [AV.flat] at h
 | .mr _ _ _,h=>by simp [AV.flat] at h
theorem qD:∀ (cs:List AV),AV.yi cs=true→AV.lG cs=true
 | [],_=>rfl
 | c :: cs,h=>by
  simp only [AV.yi,aV] at h
  simp only [AV.lG,aV]
  exact ⟨Pv c h.1,qD cs h.2⟩
end
mutual
theorem FC {f:Nat→Option Nat}:∀ (x:AV),x.pure=true→x.jx f=x
 | .op _ _ _,h=>by simp [AV.pure] at h
 | .os _ _ _,h=>by simp [AV.pure] at h
 | .mp _,h=>by simp [AV.pure] at h
 | .ov _ _ _ _ _,h=>by simp [AV.pure] at h
 | .Cy _ _ _,h=>by simp [AV.pure] at h
 | .mr _ _ _,h=>by simp [AV.pure] at h
 | .bn _,_=>rfl
 | .pt _ _,_=>rfl
 | .agg cs,h=>by simp only [AV.jx];rw [tg cs h]
 | .tup cs,h=>by simp only [AV.jx];rw [tg cs h]
 | .fn q a b,h=>by
  simp only [AV.pure,aV] at h
  simp only [AV.jx];rw [tg a h.1,tg b h.2]
 | .when b x,h=>by simp only [AV.jx];rw [FC x h]
 | .nq b x,h=>by simp only [AV.jx];rw [FC x h]
 | .atom _,_=>rfl
 | .sl _ _,_=>rfl
 | .rp _ _,_=>rfl
 | .nil,_=>rfl
 | .mV,_=>rfl
theorem tg {f:Nat→Option Nat}:∀ (cs:List AV),AV.lG cs=true→AV.uY f cs=cs
 | [],_=>rfl
 | c :: cs,h=>by
  simp only [AV.lG,aV] at h
  simp only [AV.uY]
  rw [FC c h.1,tg cs h.2]
end
theorem NX {w':World} {S':Nat→Prop} {cD:Mu} {o o':Ob} {pl:Place} {c:Array Value} {T:TypeId} (h:gy w' S' cD o' pl c T) (z1:o'.sz=o.sz) (z2:o'.len=o.len) (z3:o'.pr=o.pr)
  (hl:o.len=1) (h0:o'.get 0=o.get 0):gy w' S' cD o pl c T:=by
 have q1:∀ i,i < o.len→o.get i=o'.get i:=fun i hi=>by
  have:i=0:=by omega
  subst this;exact h0.symm
 refine ⟨h.sz.trans z1,z1 ▸ h.b6,z1 ▸ h.cap,z2 ▸ h.len,h.out,?_,?_,fun hz=>by rw [← h0,← z3];exact h.mp (z1.trans hz)⟩
 ·intro i hi
  rw [q1 i hi,← z1]
  exact h.tz i (by omega)
 ·intro i j x v hi hx hv
  rw [q1 i hi] at hx
  rw [← z3]
  exact h.rep i j x v (by omega) hx (by rw [z1];exact hv)
theorem Uq {w':World} {S':Nat→Prop} {cD:Mu} {o o':Ob} {pl:Place} {c:Array Value} {T:TypeId} (h:gy w' S' cD o' pl c T) (z1:o'.sz=o.sz) (z2:o'.len=o.len) (z3:o'.pr=o.pr)
  (DV:o.pr=false) (q1:∀ i,i < o.len→o.get i=o'.get i):gy w' S' cD o pl c T:=by
 refine ⟨h.sz.trans z1,z1 ▸ h.b6,z1 ▸ h.cap,z2 ▸ h.len,h.out,?_,?_,fun hz=>?_⟩
 ·intro i hi
  rw [q1 i hi,← z1]
  exact h.tz i (by omega)
 ·intro i j x v hi hx hv
  rw [q1 i hi] at hx
  rw [← z3]
  exact h.rep i j x v (by omega) hx (by rw [z1];exact hv)
 ·have:=(h.mp (z1.trans hz)).2.2.2.1
  rw [z3,DV] at this;cases this
theorem FD {w':World} {S' Bm:Nat→Prop} {cD Fl:Mu} {o:Ob} {pl:Place} {c:Array Value} {T:TypeId} (h:gy w' S' cD o pl c T) {ps:List Prop} (hf:uA o=some ps) (hp:aW ps) (ho:0 < pl.cap→¬ Bm pl.b6) :
  gy w' Bm Fl o pl c T:=by
 unfold uA at hf
 split at hf
 ·rename_i Pw;exact NW h Pw ho
 ·split at hf
  ·rename_i hb
   cases hf
   simp only [aV] at hb
   have hz1:=Nat.le_of_ble_eq_true hb.2
   refine { h with out:=ho,rep:=?_,mp:=fun hz=>absurd hz (by omega) }
   intro i j x v hi hx hv
   exact (h.rep i j x v hi hx hv).flat (tc (hp.1 i hi) hx) _ _ _
  ·cases hf
theorem BB {w':World} {S' Bm:Nat→Prop} {cD:Mu} {o:Ob} {pl:Place} {c:Array Value} {T:TypeId} (h:gy w' S' cD o pl c T) (hS:∀ b,S' b→Bm b) (ho:0 < pl.cap→¬ Bm pl.b6):gy w' Bm cD o pl c T :=
 { h with
  out:=ho
  rep:=fun i j x v hi hx hv=>aq.mono hS (fun _ _=>rfl) (h.rep i j x v hi hx hv) (fun _ _ h=>h)
  mp:=fun hz=>let ⟨m0,m1,m2,m3,m4⟩:=h.mp hz
   ⟨m0,m1,m2,m3,fun j x v hx hv=>aq.mono hS (fun _ _=>rfl) (m4 j x v hx hv) (fun _ _ h=>h)⟩ }
theorem NY {w':World} {S' Bm:Nat→Prop} {cD Fl:Mu} {o:Ob} {pl:Place} {c:Array Value} {T:TypeId} {ks:List Nat} {nk:Nat} {lone:Bool} (h:gy w' S' cD (o.jx (idx ks)) pl c T)
  {ps:List Prop} (Ek:CP ks lone o=some ps) (hp:aW ps) (hS:lone=true→∀ b,S' b→Bm b) (ho:0 < pl.cap→¬ Bm pl.b6)
  (hm:∀ k k' pl,back ks nk k=some k'→cD k=some pl→Fl k'=some pl):gy w' Bm Fl o pl c T:=by
 unfold CP at Ek
 split at Ek
 case h_2 =>
  split at Ek
  ·rename_i DV
   have e:o.jx (idx ks)=o:=by simp [Ob.jx,DV]
   rw [e] at h
   exact FD h Ek hp ho
  ·rename_i DV
   split at Ek
   case h_2=>cases Ek
   rename_i hl
   cases Ek
   simp only [aV,Bool.not_eq_true'] at hl
   have h2:=h.jx hm
   refine BB (Uq h2 (by rw [Ob.tD,Ob.tD]) (by rw [Ob.uz,Ob.uz]) (by rw [Ob.CN,Ob.CN]) DV fun i hi=>?_) (hS hl.1) ho
   have hr:Fx (o.get i)=true:=hp.1 i hi
   simp only [Ob.jx,DV]
   rw [CO hr,CO hr]
 rename_i hq
 cases hf:o.flat with
 | true =>
  have YM:=hf
  unfold Ob.flat at YM
  simp only [aV] at YM
  have hl:=bm YM.1.1.2
  refine NW (NX h (Ob.tD _ _) (Ob.uz _ _) (Ob.CN _ _) hl ?_) hf ho
  unfold Ob.jx
  split
  ·rfl
  ·exact tg _ (qD _ YM.2)
 | false =>
  rw [hf,Bool.false_or,aV] at hq
  have hS:=hS hq.1
  have h2:=h.jx hm
  have vH:∀ k i,idx ks k=some i→back ks nk i=some k:=fun k i hk=>by
   unfold back
   rw [m6 ks k i hk]
  have h3:gy w' S' Fl o pl c T:=by
   have hc:=hq.2
   unfold Ob.closed at hc
   cases hp:o.pr with
   | true =>
    have e:(o.jx (idx ks)).jx (back ks nk)=o:=by simp [Ob.jx,hp]
    rw [e] at h2;exact h2
   | false =>
    rw [hp,Bool.false_or] at hc
    simp only [aV] at hc
    refine NX h2 (by rw [Ob.tD,Ob.tD]) (by rw [Ob.uz,Ob.uz]) (by rw [Ob.CN,Ob.CN]) (bm hc.1.2) ?_
    simp only [Ob.jx,hp]
    exact tf vH _ hc.2
  exact BB h3 hS ho
theorem w5 {σ:du} {ks:List Nat} {lone:Bool}:∀ (l:List Nat) (qs:List Prop),yz σ ks lone l=some qs→aW qs→∀ k∈l,∀ o,au σ k=some o→∃ ps,CP ks lone o=some ps∧aW ps
 | [],_,_,_,k,hk=>by simp at hk
 | a :: r,qs,h,hq,k,hk=>by
  intro o ho
  simp only [yz] at h
  split at h
  ·rename_i o1 w6
   split at h
   ·rename_i p q h1 h2
    cases h
    obtain ⟨q1,q2⟩:=aW.app hq
    rcases jw.1 hk with rfl | hk
    ·rw [w6] at ho;cases ho;exact ⟨p,h1,q1⟩
    ·exact w5 r q h2 q2 k hk o ho
   ·cases h
  ·cases h
theorem sO {lone:Bool}:∀ (σ:du) (qs:List Prop),Bx lone σ=some qs→aW qs→∀ k o,au σ k=some o→lone=true∨∃ ps,uA o=some ps∧aW ps
 | [],_,_,_,k,o,h=>by simp [au] at h
 | (a,x) :: r,qs,h,hq,k,o,hk=>by
  simp only [Bx] at h
  split at h
  ·exact .inl rfl
  ·split at h
   ·rename_i p q h1 h2
    cases h
    obtain ⟨q1,q2⟩:=aW.app hq
    simp only [au] at hk
    split at hk
    ·cases hk;exact .inr ⟨p,h1,q1⟩
    ·exact sO r q h2 q2 k o hk
   ·cases h
theorem uZ {o:Ob} {ps:List Prop} (h:uA o=some ps) (hp:aW ps) (i:Nat):rowOf o i=none:=by
 unfold uA at h
 split at h
 ·rename_i hf
  unfold Ob.flat at hf
  simp only [aV] at hf
  exact mY hf.1.1.1 i
 ·split at h
  ·cases h
   cases hr:rowOf o i with
   | none=>rfl
   | some x =>
    obtain ⟨_,h2,h3⟩:=dk hr
    have:=hp.1 i h2
    rw [h3] at this;cases this
  ·cases h
theorem Jo {ks:List Nat} {o:Ob} {ps:List Prop} (h:CP ks false o=some ps) (hp:aW ps) (i:Nat):rowOf o i=none:=by
 unfold CP at h
 rw [Bool.false_and,Bool.or_false] at h
 split at h
 ·rename_i hf
  exact uZ (ps:=[]) (by unfold uA;rw [hf]) trivial i
 ·split at h
  ·exact uZ h hp i
  ·rw [Bool.false_and] at h
   cases h
theorem DZ (g:Good E σ S μ w) (Ad:∀ j,j < 16→μ (nk+j)=none) (oc:E.m0≤nk) {f:AV} {args:List AV} {orc:lZ} {r:R} {fv:Value} (hf:aq w S μ fv f) {vargs:Array Value} (ha:RL w S μ vargs args)
  (hz:orc.wY=true→∀ b,¬ E.fp b) {ob:FuncId→List AV→du→Nat→AV→du→Prop}
  (cE:∀ gid as bs rU res dx vs,ob gid as rU orc.ks.length res dx→Good (tC w (fun b=>S b∨yu μ bs b) rU (kz μ orc.ks) orc.ks.length) rU (fun b=>S b∨yu μ bs b) (kz μ orc.ks) w→(∀ k,orc.ks.length≤k→kz μ orc.ks k=none) →
   RL w (fun b=>S b∨yu μ bs b) (kz μ orc.ks) vs as→Calls P gid vs w fun e w'=>∃ v S' cD,e=.returned v∧Good (tC w (fun b=>S b∨yu μ bs b) rU (kz μ orc.ks) orc.ks.length) dx S' cD w'∧aq w' S' cD v res)
  (h:Bz P ob nk σ f args orc=some r) (hp:aW r.HA) :
  ∃ gid vs,(do let d ← Deferred.ofValue fv vargs;invoke d.target d.args:Sem Next).run P w=.ok (.enter gid vs) w ∧
   Calls P gid vs w fun e w'=>∃ v S' cD,e=.returned v∧Ext w S μ w' S' cD∧Good E (eX σ r.upd) S' cD w'∧(∀ k,(k < nk∨nk+16≤k)→μ k=none→cD k=none)∧aq w' S' cD v r.val:=by
 unfold Bz at h
 split at h
 case h_2=>cases h
 rename_i gid first cap
 split at h
 case h_2=>cases h
 rename_i as bs ps rU FE Wo Ur
 split at h
 case h_2=>cases h
 rename_i Zp
 rw [aV] at Zp
 obtain ⟨Us,KP⟩:=Zp
 have Ut:=Fz orc.ks Us
 cases hf with
 | fn f1 f2 f3 f4 =>
 rename_i fvs cvs
 refine ⟨gid,fvs ++ vargs ++ cvs,?_,?_⟩
 ·unfold KN at FE
  split at FE
  ·rename_i fn YN
   simp only [aV,Bool.not_eq_true'] at FE
   have hb:¬ fn.body=none:=by intro hh;rw [hh] at FE;simp at FE
   have ec:¬ fn.name = "runtime.NumGoroutine":=by simpa using FE.2
   simp [Deferred.ofValue,invoke,callFunc,YN,ec,hb]
  ·cases FE
 have Xk:=qC _ _ _ _ Wo
 have Uu:=Im orc.ks 0 rU Ur
 simp only [Nat.zero_le,if_true,Nat.sub_zero] at Uu
 -- the state in which the callee begins
 have Wp:aW ps:=by
  split at h
  ·split at h
   ·split at h
    ·cases h;exact (aW.app hp.2).2
    ·cases h
   ·split at h
    ·cases h;exact (aW.app hp.2).2
    ·cases h
  ·split at h
   ·cases h;exact (aW.app hp.2).2
   ·cases h
 have qE:RL w (fun b=>S b∨yu μ bs b) (kz μ orc.ks) (fvs ++ vargs ++ cvs) as:=by
  have Px:RL w S μ (fvs ++ vargs ++ cvs) (first ++ (args ++ cap)):=by
   have:=RL.append (w:=w) (S:=S) (μ:=μ) ⟨f1,f3⟩ (RL.append ha ⟨f2,f4⟩)
   rwa [← Array.append_assoc] at this
  exact Uo g Px _ (fun _ h=>.inl h) Wo Wp (fun _ h=>.inr h)
 have ft:∀ k o pl,au σ k=some o→μ k=some pl→0 < pl.cap→pl.b6 < w.heap.size:=fun k o pl ho hm hc=>by
  obtain ⟨iJ,c,T,fy,cE⟩:=g.rep.ob k o ho
  rw [hm] at fy;cases fy
  exact cr (cE.b6 hc)
 have Zq:∀ k o pl,au σ k=some o→μ k=some pl→0 < pl.cap→¬ S pl.b6:=fun k o pl ho hm hc=>by
  obtain ⟨iJ,c,T,fy,cE⟩:=g.rep.ob k o ho
  rw [hm] at fy;cases fy
  exact cE.out hc
 have D1:∀ i o',au rU i=some o'→∃ k o,orc.ks[i]?=some k∧au σ k=some o∧o'=o.jx (idx orc.ks):=by
  intro i o' h
  rw [Uu] at h
  simp only [aJ,Option.bind_eq_some_iff] at h
  obtain ⟨o,⟨k,hk,ho⟩,rfl⟩:=h
  exact ⟨k,o,hk,ho,rfl⟩
 have NZ:∀ i j x v,gR w (kz μ orc.ks) rU i j x v→∃ k,orc.ks[i]?=some k∧gR w μ σ k j x v:=by
  rintro i j x v ⟨o',pl,h1,h2,h3,h4⟩
  obtain ⟨k,o,hk,ho,rfl⟩:=D1 i o' h1
  exact ⟨k,hk,o,pl,ho,(qB _ _ _ _).1 h2,by simpa [kz,hk] using h3,h4⟩
 have Q1:∀ b,Mx w rU (kz μ orc.ks) b→(∃ (k i:Nat) (o:Ob) (pl:Place),orc.ks[i]?=some k∧au σ k=some o∧μ k=some pl∧0 < pl.cap∧pl.b6=b) ∨
   ∃ (k i j:Nat) (x:Nat×Nat×(Nat→List AV)) (v:Value),orc.ks[i]?=some k∧gR w μ σ k j x v∧ptrTo v b:=by
  rintro b (⟨i,o',pl,hi,hm,hc,hb⟩ | ⟨i,j,x,v,hv,hb⟩)
  ·obtain ⟨k,o,hk,ho,_⟩:=D1 i o' hi
   refine .inl ⟨k,i,o,pl,hk,ho,?_,hc,hb⟩
   simpa [kz,hk] using hm
  ·obtain ⟨k,hk,oJ⟩:=NZ i j x v hv
   exact .inr ⟨k,i,j,x,v,hk,oJ,hb⟩
 have Q2:∀ k i x v b,gR w μ σ k i x v→ptrTo v b→¬ yu μ bs b:=by
  rintro k i x v b hv hb ⟨k',lj,iJ,fy,jr,he⟩
  obtain ⟨_,o2,Cz⟩:=Xk k' lj
  exact g.mx.obj _ _ _ _ _ hv hb k' o2 iJ Cz fy jr he
 have g0:Good (tC w (fun b=>S b∨yu μ bs b) rU (kz μ orc.ks) orc.ks.length) rU (fun b=>S b∨yu μ bs b) (kz μ orc.ks) w:=by
  refine ⟨Fr.refl _ _,fun _ h=>h,?_,fun _ h=>.inl h,⟨?_,?_⟩,fun k o pl hk hm hc=>.inl (.inl ⟨k,o,pl,hk,hm,hc,rfl⟩),fun _ _=>rfl,?_⟩
  ·rintro b (hb | ⟨k,hk,pl,hm,hc,rfl⟩)
   ·exact g.S1 b hb
   ·obtain ⟨_,o,ho⟩:=Xk k hk
    exact ft k o pl ho hm hc
  ·intro i o' hi
   obtain ⟨k,o,hk,ho,rfl⟩:=D1 i o' hi
   obtain ⟨pl,c,T,hm,cE⟩:=g.rep.ob k o ho
   refine ⟨pl,c,T,by simp [kz,hk,hm],?_⟩
   have h1:=cE.jx (f:=idx orc.ks) (cD:=kz μ orc.ks) (fun a b pl ha hb=>yw a b pl ha hb)
   refine h1.ext (w':=w) ⟨aP _,fun _ h=>.inl h,fun _ _=>rfl,fun _ _ h=>h⟩ (fun _=>rfl) ?_
   rintro hc (hS | ⟨k',lj,iJ,fy,jr,he⟩)
   ·exact cE.out hc hS
   ·obtain ⟨DX,o2,Cz⟩:=Xk k' lj
    have ec:k≠k':=fun h=>md _ _ DX i (h ▸ hk)
    exact g.rep.ne k k' o o2 pl iJ ec ho Cz hm fy hc jr he.symm
  ·intro i i' o o' pl iJ ec hi oY hm fy hc jr
   obtain ⟨k,oo,hk,ho,_⟩:=D1 i o hi
   obtain ⟨k',oo',lj,m5,_⟩:=D1 i' o' oY
   have Mz:k≠k':=fun h=>ec (Ut i i' k hk (h ▸ lj))
   exact g.rep.ne k k' oo oo' pl iJ Mz ho m5 (by simpa [kz,hk] using hm) (by simpa [kz,lj] using fy) hc jr
  ·refine g.mx.tr (fun i=>orc.ks.getD i 0) (fun i j x v h=>?_) (fun i j x v i' j' x' v' h h' e=>?_) (fun _ h=>.inl h) (fun _ _=>rfl) (fun i j x v b hv h hb=>?_) (fun i o' pl h1 h2 h3=>?_)
   ·obtain ⟨k,hk,hv⟩:=NZ i j x v h
    show gR w μ σ (orc.ks.getD i 0) j x v
    rw [ee,hk];exact hv
   ·obtain ⟨k,hk,_⟩:=NZ i j x v h
    obtain ⟨k',lj,_⟩:=NZ i' j' x' v' h'
    have e:orc.ks.getD i 0=orc.ks.getD i' 0:=e
    rw [ee,ee,hk,lj] at e
    have e:k=k':=e
    exact Ut i i' k hk (e ▸ lj)
   ·obtain ⟨q1,q2,q3,_⟩:=g.mx.b6 h hb
    exact ⟨rfl,fun hs=>hs.elim q2 (Q2 _ _ _ _ _ h hb),fun _=>.inl (.inr ⟨i,j,x,v,hv,hb⟩)⟩
   ·obtain ⟨k,o,hk,ho,_⟩:=D1 i o' h1
    exact .inl ⟨k,o,pl,ho,by simpa [kz,hk] using h2,h3,rfl⟩
 have Q3:∀ k,orc.ks.length≤k→kz μ orc.ks k=none:=fun k hk=>by simp [kz,oE hk]
 -- behind the call
 have rT:∀ k o,au σ k=some o→k < nk∨nk+16≤k:=by
  intro k o ho
  rcases Nat.lt_or_ge k nk with h1 | h1
  ·exact .inl h1
  ·rcases Nat.lt_or_ge k (nk+16) with h2 | h2
   ·obtain ⟨pl,c,T,hm,_⟩:=g.rep.ob k o ho
    have:=Ad (k - nk) (by omega)
    rw [show nk+(k - nk)=k by omega,hm] at this
    cases this
   ·exact .inr h2
 have fin:∀ (dx:du) (MA:du),ob gid as rU orc.ks.length orc.res dx →
   (∀ n,idx orc.ks n=none→(n < nk∨nk+16≤n)→au MA n=if orc.wY=true∧n∈bs then none else au σ n) →
   (∀ j,j < 16→∀ o,au MA (nk+j)=some o→∃ o1,au dx (orc.ks.length+j)=some o1∧o=o1.jx (back orc.ks nk)) →
   (∀ (w':World) (S' Bm:Nat→Prop) (cD:Mu),((bs.isEmpty || orc.wY)=true→∀ b,S' b→Bm b)→∀ j,j < 16→∀ o1 pl c T,au dx (orc.ks.length+j)=some o1→gy w' S' cD o1 pl c T→(0 < pl.cap→¬ Bm pl.b6)→gy w' Bm cD o1 pl c T) →
   (∀ (w':World) (S' Bm:Nat→Prop) (cD KQ:Mu),Good (tC w (fun b=>S b∨yu μ bs b) rU (kz μ orc.ks) orc.ks.length) dx S' cD w'→((bs.isEmpty || orc.wY)=true→∀ b,S' b→Bm b) →
    (∀ k k' pl,back orc.ks nk k=some k'→cD k=some pl→KQ k'=some pl)→∀ (k i:Nat) (o:Ob) (pl:Place),orc.ks[i]?=some k→au MA k=some o→μ k=some pl→(0 < pl.cap→¬ Bm pl.b6)→∃ c T,gy w' Bm KQ o pl c T) →
   (∀ (k i:Nat) (o:Ob),orc.ks[i]?=some k→au MA k=some o→(∃ o1,au σ k=some o1)∧∃ o2,au dx i=some o2) →
   (∀ (k i:Nat) (o:Ob),orc.ks[i]?=some k→au MA k=some o→∀ j x,rowOf o j=some x→∃ o2,au dx i=some o2∧rowOf o2 j=some x) →
   ((bs.isEmpty || orc.wY)=false→∀ n o,au dx n=some o→∀ i,rowOf o i=none) →
   Calls P gid (fvs ++ vargs ++ cvs) w fun e w'=>∃ v S' cD,e=.returned v∧Ext w S μ w' S' cD∧Good E MA S' cD w'∧(∀ k,(k < nk∨nk+16≤k)→μ k=none→cD k=none)∧aq w' S' cD v (orc.res.jx (back orc.ks nk)):=by
  intro dx MA Xl Jp QG Zr abZ Uv Zs Xm
  refine (cE gid as bs rU _ _ _ Xl g0 Q3 qE).mono ?_
  rintro e w' ⟨v,S',cD,rfl,g',hv⟩
  have KR:∀ b,b < w.heap.size→(∀ (k i:Nat) (o:Ob) (pl:Place),orc.ks[i]?=some k→au σ k=some o→μ k=some pl→0 < pl.cap→pl.b6≠b) →
    (∀ (k i j:Nat) (x:Nat×Nat×(Nat→List AV)) (v:Value),orc.ks[i]?=some k→gR w μ σ k j x v→¬ ptrTo v b)→w'.heap[b]?=w.heap[b]?:=by
   intro b hb DX ab0
   refine g'.fr.b6 b hb fun HI=>?_
   rcases Q1 b HI with ⟨k,i,o,pl,hk,ho,hm,hc,he⟩ | ⟨k,i,j,x,v,hk,hv,he⟩
   ·exact DX k i o pl hk ho hm hc he
   ·exact ab0 k i j x v hk hv he
  have hSb:∀ b,S b→w'.heap[b]?=w.heap[b]?:=fun b hb=>KR b (g.S1 b hb) (fun k i o pl hk ho hm hc he=>Zq k o pl ho hm hc (he ▸ hb)) fun k i j x v hk hv he=>(g.mx.b6 hv he).2.1 hb
  let KQ:Mu:=fun k=>if nk≤k∧k < nk+16 then cD (orc.ks.length+(k - nk)) else μ k
  have FF:∀ k,(k < nk∨nk+16≤k)→KQ k=μ k:=fun k hk=>by
   show (if nk≤k∧k < nk+16 then _ else _)=_
   rw [if_neg (by omega)]
  have FG:∀ j,j < 16→KQ (nk+j)=cD (orc.ks.length+j):=fun j hj=>by
   show (if nk≤nk+j∧nk+j < nk+16 then _ else _)=_
   rw [if_pos (by omega)];congr 1;omega
  have Uw:∀ k pl,μ k=some pl→KQ k=some pl:=by
   intro k pl hk
   have hn:k < nk∨nk+16≤k:=by
    rcases Nat.lt_or_ge k nk with h1 | h1
    ·exact .inl h1
    ·rcases Nat.lt_or_ge k (nk+16) with h2 | h2
     ·have:=Ad (k - nk) (by omega)
      rw [show nk+(k - nk)=k by omega,hk] at this
      cases this
     ·exact .inr h2
   rw [FF k hn];exact hk
  have vH:∀ k k' pl,back orc.ks nk k=some k'→cD k=some pl→KQ k'=some pl:=by
   intro k k' pl hk hm
   unfold back at hk
   split at hk
   ·rename_i q hq
    cases hk
    have ft:k < orc.ks.length:=(dd.1 hq).1
    rw [g'.Bo k ft] at hm
    have:kz μ orc.ks k=some pl:=hm
    refine Uw _ _ ?_
    simpa [kz,show orc.ks[k]?=some _ from hq] using this
   ·rename_i hq
    split at hk
    ·rename_i hb
     cases hk
     have ft:k < orc.ks.length+16:=by
      simp only [Nat.blt,Nat.ble_eq] at hb;exact hb
     have hge:orc.ks.length≤k:=List.getElem?_eq_none_iff.1 hq
     rw [FG _ (by omega),show orc.ks.length+(k - orc.ks.length)=k by omega];exact hm
    ·cases hk
  let SF:Nat→Prop:=fun b=>S b∨(orc.wY=true∧yu μ bs b)∨(S' b∧w.heap.size≤b)
  have hSF:∀ b,SF b→S' b:=by
   rintro b (h1 | ⟨_,h1⟩ | ⟨h1,_⟩)
   ·exact g'.S0 b (.inl h1)
   ·exact g'.S0 b (.inr h1)
   ·exact h1
  have YO:(bs.isEmpty || orc.wY)=true→∀ b,S' b→SF b:=by
   intro he b hb
   rcases g'.S2 b hb with (h1 | h0) | h1
   ·exact .inl h1
   ·rcases Bool.or_eq_true_iff.1 he with he | he
    ·obtain ⟨k,hk,_⟩:=h0
     rw [List.isEmpty_iff] at he;rw [he] at hk;simp at hk
    ·exact .inr (.inl ⟨he,h0⟩)
   ·exact .inr (.inr ⟨hb,h1⟩)
  have hold:∀ k o,au MA k=some o→(k < nk∨nk+16≤k)→∃ o1,au σ k=some o1:=by
   intro k o ho hn
   cases hi:idx orc.ks k with
   | none =>
    rw [Jp k hi hn] at ho
    split at ho
    ·cases ho
    ·exact ⟨o,ho⟩
   | some i=>exact (Uv k i o (m6 _ _ _ hi) ho).1
  have hnl:∀ k o,au MA k=some o→orc.wY=true→k ∉ bs:=by
   intro k o ho Mq hk
   obtain ⟨DX,o2,Cz⟩:=Xk k hk
   rw [Jp k DX (rT k o2 Cz),if_pos ⟨Mq,hk⟩] at ho
   cases ho
  have Iq:∀ k o0 o pl,au MA k=some o0→au σ k=some o→μ k=some pl→0 < pl.cap→¬ SF pl.b6:=by
   rintro k o0 o pl pk ho hm hc (h1 | ⟨Mq,k',lj,iJ,fy,jr,he⟩ | ⟨_,h1⟩)
   ·exact Zq k o pl ho hm hc h1
   ·obtain ⟨_,o2,Cz⟩:=Xk k' lj
    have ec:k≠k':=fun h=>hnl k o0 pk Mq (h ▸ lj)
    exact g.rep.ne k k' o o2 pl iJ ec ho Cz hm fy hc jr he.symm
   ·have:=ft k o pl ho hm hc;omega
  -- a new object, as the callee has left it
  have MB:∀ j,j < 16→∀ o,au MA (nk+j)=some o→∃ o1 pl c T,au dx (orc.ks.length+j)=some o1∧o=o1.jx (back orc.ks nk)∧cD (orc.ks.length+j)=some pl∧gy w' S' cD o1 pl c T:=by
   intro j hj o ho
   obtain ⟨o1,h1,h2⟩:=QG j hj o ho
   obtain ⟨pl,c,T,h3,h4⟩:=g'.rep.ob _ o1 h1
   exact ⟨o1,pl,c,T,h1,h2,h3,h4⟩
  have yA:∀ k,(k < nk∨nk+16≤k)∨∃ j,j < 16∧k=nk+j:=fun k=>by
   rcases Nat.lt_or_ge k nk with h1 | h1
   ·exact .inl (.inl h1)
   ·rcases Nat.lt_or_ge k (nk+16) with h2 | h2
    ·exact .inr ⟨k - nk,by omega,by omega⟩
    ·exact .inl (.inr h2)
  -- the block of a new object is none of the caller's
  have Wq:∀ j o1 pl,au dx (orc.ks.length+j)=some o1→cD (orc.ks.length+j)=some pl→0 < pl.cap →
    (∃ (k i:Nat) (o:Ob) (iJ:Place),orc.ks[i]?=some k∧au σ k=some o∧μ k=some iJ∧0 < iJ.cap∧iJ.b6=pl.b6) ∨
    (∃ (k i j:Nat) (x:Nat×Nat×(Nat→List AV)) (v:Value),orc.ks[i]?=some k∧gR w μ σ k j x v∧ptrTo v pl.b6)∨w.heap.size≤pl.b6:=by
   intro j o1 pl h1 h2 h3
   rcases g'.own _ o1 pl h1 h2 h3 with h4 | h4
   ·exact (Q1 _ h4).elim .inl fun h=>.inr (.inl h)
   ·exact .inr (.inr h4)
  -- new and old ones lie apart
  have Q4:∀ j,j < 16→∀ k o o' pl iJ,au MA (nk+j)=some o→au MA k=some o'→(k < nk∨nk+16≤k)→KQ (nk+j)=some pl→KQ k=some iJ→0 < pl.cap→0 < iJ.cap→pl.b6≠iJ.b6:=by
   intro j hj k o o' pl iJ ho m5 hn hm fy hc jr he
   obtain ⟨o1,Bn,c1,T1,h1,h2,h3,h4⟩:=MB j hj o ho
   rw [FG j hj,h3] at hm;cases hm
   rw [FF k hn] at fy
   cases hi:idx orc.ks k with
   | some i =>
    have Qt:=m6 _ _ _ hi
    obtain ⟨_,o2,Cz⟩:=Uv k i o' Qt m5
    have yh:i < orc.ks.length:=(dd.1 Qt).1
    have xF:cD i=some iJ:=by
     rw [g'.Bo i yh]
     show kz μ orc.ks i=_
     simp [kz,Qt,fy]
    exact g'.rep.ne (orc.ks.length+j) i o1 o2 pl iJ (by omega) h1 Cz h3 xF hc jr he
   | none =>
    obtain ⟨o3,Md⟩:=hold k o' m5 hn
    rcases Wq j o1 pl h1 h3 hc with ⟨k2,i2,o4,Ux,q1,q2,q3,q4,q5⟩ | ⟨k2,i2,j2,x2,v2,q1,q2,q3⟩ | h5
    ·have ec:k2≠k:=fun h=>md _ _ hi i2 (h ▸ q1)
     exact g.rep.ne k2 k o4 o3 Ux iJ ec q2 Md q3 fy q4 jr (q5.trans he)
    ·exact g.mx.obj _ _ _ _ _ q2 q3 k o3 iJ Md fy jr he.symm
    ·have:=ft k o3 iJ Md fy jr
     omega
  have ext:Ext w S μ w' SF KQ:=⟨g'.fr.size,fun _ h=>.inl h,hSb,Uw⟩
  -- the rows
  have cls:∀ k i x v,gR w' KQ MA k i x v→(idx orc.ks k=none∧(k < nk∨nk+16≤k)∧gR w μ σ k i x v)∨((bs.isEmpty || orc.wY)=true∧∃ q,back orc.ks nk q=some k∧gR w' cD dx q i x v):=by
   rintro k i x v ⟨o,pl,h1,h2,h3,h4⟩
   have Wr:∀ n o2,au dx n=some o2→rowOf o2 i=some x→(bs.isEmpty || orc.wY)=true:=by
    intro n o2 Cz eW
    cases Pw:(bs.isEmpty || orc.wY) with
    | true=>rfl
    | false=>rw [Xm Pw n o2 Cz i] at eW;cases eW
   rcases yA k with hn | ⟨j,hj,rfl⟩
   ·cases hi:idx orc.ks k with
    | none =>
     have pk:=h1
     rw [Jp k hi hn] at pk
     split at pk
     ·cases pk
     rw [FF k hn] at h3
     obtain ⟨qA,c,T,hm,cE⟩:=g.rep.ob k o pk
     rw [h3] at hm;cases hm
     refine .inl ⟨rfl,hn,o,pl,pk,h2,h3,?_⟩
     have hc:0 < pl.cap:=by have:=(dk h2).2.1;have:=cE.len;omega
     rw [← h4]
     refine (qZ (KR _ (cr (cE.b6 hc)) ?_ ?_) _).symm
     ·intro k' i' o' iJ lj m5 fy jr he
      have ec:k'≠k:=fun h=>md _ _ hi i' (h ▸ lj)
      exact g.rep.ne k' k o' o iJ pl ec m5 pk fy h3 jr hc he
     ·intro k' i' j' x' v' lj oJ he
      exact g.mx.obj _ _ _ _ _ oJ he k o pl pk h3 hc rfl
    | some i0 =>
     have Qt:=m6 _ _ _ hi
     obtain ⟨o2,Cz,eW⟩:=Zs k i0 o Qt h1 i x h2
     have yh:i0 < orc.ks.length:=(dd.1 Qt).1
     refine .inr ⟨Wr i0 o2 Cz eW,i0,by unfold back;rw [Qt],o2,pl,Cz,eW,?_,h4⟩
     rw [g'.Bo i0 yh]
     rw [FF k hn] at h3
     show kz μ orc.ks i0=_
     simp [kz,Qt,h3]
   ·obtain ⟨o1,q1,q2⟩:=QG j hj o h1
    rw [q2] at h2
    have eW:=(qB _ _ _ _).1 h2
    refine .inr ⟨Wr _ o1 q1 eW,orc.ks.length+j,?_,o1,pl,q1,eW,by rw [← FG j hj];exact h3,h4⟩
    unfold back
    rw [oE (by omega)]
    have:Nat.blt (orc.ks.length+j) (orc.ks.length+16)=true:=by simp only [Nat.blt,Nat.ble_eq];omega
    rw [this]
    simp
  have Zt:∀ k i x v b,gR w μ σ k i x v→ptrTo v b→idx orc.ks k=none→w'.heap[b]?=w.heap[b]?∧¬ SF b:=by
   intro k i x v b hv hb hi
   obtain ⟨q1,q2,q3,_⟩:=g.mx.b6 hv hb
   refine ⟨KR b q1 (fun k' i' o' iJ lj m5 fy jr he=>g.mx.obj _ _ _ _ _ hv hb k' o' iJ m5 fy jr he) (fun k' i' j' x' v' lj oJ he=>?_),?_⟩
   ·obtain ⟨e1,_⟩:=g.mx.two _ _ _ _ _ _ _ _ _ hv oJ hb he
    exact md _ _ hi i' (e1 ▸ lj)
   ·rintro (h1 | ⟨_,h1⟩ | ⟨_,h1⟩)
    ·exact q2 h1
    ·exact Q2 _ _ _ _ _ hv hb h1
    ·omega
  have Q5:∀ k i x v b,gR w μ σ k i x v→ptrTo v b→idx orc.ks k=none→∀ b',(Mx w rU (kz μ orc.ks) b'∨w.heap.size≤b')→b'≠b:=by
   rintro k i x v b hv hb hi b' (h1 | h1) rfl
   ·rcases Q1 _ h1 with ⟨k2,i2,o4,Ux,q1,q2,q3,q4,q5⟩ | ⟨k2,i2,j2,x2,v2,q1,q2,q3⟩
    ·exact g.mx.obj _ _ _ _ _ hv hb k2 o4 Ux q2 q3 q4 q5
    ·obtain ⟨e1,_⟩:=g.mx.two _ _ _ _ _ _ _ _ _ hv q2 hb q3
     exact md _ _ hi i2 (e1 ▸ q1)
   ·have:=(g.mx.b6 hv hb).1;omega
  have ab2:MX E.fp E.w0.heap.size w' SF KQ MA:=by
   refine ⟨fun k i x v h=>?_,fun k i x v b h hb k' o' iJ h1 h2 h3=>?_,fun k i x v b k' i' x' v' h h' hb q0=>?_⟩
   ·rcases cls k i x v h with ⟨hi,hn,hv⟩ | ⟨Pw,q,hq,hv⟩
    ·exact (g.mx.row _ _ _ _ hv).ext (fun _ h=>.inl h) hSb fun b hb=>let ⟨a1,a2⟩:=Zt _ _ _ _ _ hv hb hi;⟨a1,a2,fun h=>h⟩
    ·refine (g'.mx.row _ _ _ _ hv).ext (YO Pw) (fun _ _=>rfl) fun b hb=>⟨rfl,fun hs=>(g'.mx.b6 hv hb).2.1 (hSF b hs),?_⟩
     rintro (h1 | h1)
     ·rcases Q1 _ h1 with ⟨k2,i2,o4,Ux,q1,q2,q3,q4,q5⟩ | ⟨k2,i2,j2,x2,v2,q1,q2,q3⟩
      ·rw [← q5];exact g.own k2 o4 Ux q2 q3 q4
      ·exact (g.mx.b6 q2 q3).2.2.1
     ·exact .inr (dp g.fr.size h1)
   ·rcases cls k i x v h with ⟨hi,hn,hv⟩ | ⟨Pw,q,hq,hv⟩
    ·rcases yA k' with HH | ⟨j',sJ,rfl⟩
     ·obtain ⟨o2,Cz⟩:=hold k' o' h1 HH
      rw [FF k' HH] at h2
      exact g.mx.obj _ _ _ _ _ hv hb k' o2 iJ Cz h2 h3
     ·obtain ⟨o1,Bn,c1,T1,q1,q2,q3,q4⟩:=MB j' sJ o' h1
      rw [FG j' sJ,q3] at h2;cases h2
      exact Q5 _ _ _ _ _ hv hb hi _ (g'.own _ o1 iJ q1 q3 h3)
    ·rcases yA k' with HH | ⟨j',sJ,rfl⟩
     ·rw [FF k' HH] at h2
      cases hi:idx orc.ks k' with
      | some i2 =>
       have Qt:=m6 _ _ _ hi
       obtain ⟨_,o2,Cz⟩:=Uv k' i2 o' Qt h1
       have yh:i2 < orc.ks.length:=(dd.1 Qt).1
       have xF:cD i2=some iJ:=by
        rw [g'.Bo i2 yh]
        show kz μ orc.ks i2=_
        simp [kz,Qt,h2]
       exact g'.mx.obj _ _ _ _ _ hv hb i2 o2 iJ Cz xF h3
      | none =>
       obtain ⟨o3,Md⟩:=hold k' o' h1 HH
       intro he
       rcases (g'.mx.b6 hv hb).2.2.1 with h4 | h4
       ·rcases Q1 _ h4 with ⟨k2,i2,o4,Ux,q1,q2,q3,q4,q5⟩ | ⟨k2,i2,j2,x2,v2,q1,q2,q3⟩
        ·have ec:k2≠k':=fun h=>md _ _ hi i2 (h ▸ q1)
         exact g.rep.ne k2 k' o4 o3 Ux iJ ec q2 Md q3 h2 q4 h3 (q5.trans he.symm)
        ·exact g.mx.obj _ _ _ _ _ q2 q3 k' o3 iJ Md h2 h3 he
       ·have:=ft k' o3 iJ Md h2 h3
        have h4:w.heap.size≤b:=h4
        omega
     ·obtain ⟨o1,Bn,c1,T1,q1,q2,q3,q4⟩:=MB j' sJ o' h1
      rw [FG j' sJ,q3] at h2;cases h2
      exact g'.mx.obj _ _ _ _ _ hv hb _ o1 iJ q1 q3 h3
   ·rcases cls k i x v h with ⟨hi,hn,hv⟩ | ⟨Pw,q,hq,hv⟩<;>rcases cls k' i' x' v' h' with ⟨oY,HH,oJ⟩ | ⟨afS,q',Pr,oJ⟩
    ·exact g.mx.two _ _ _ _ _ _ _ _ _ hv oJ hb q0
    ·exact (Q5 _ _ _ _ _ hv hb hi _ (g'.mx.b6 oJ q0).2.2.1 rfl).elim
    ·exact (Q5 _ _ _ _ _ oJ q0 oY _ (g'.mx.b6 hv hb).2.2.1 rfl).elim
    ·obtain ⟨e1,e2⟩:=g'.mx.two _ _ _ _ _ _ _ _ _ hv oJ hb q0
     rw [e1,Pr] at hq
     exact ⟨(Option.some.inj hq).symm,e2⟩
  refine ⟨v,SF,KQ,rfl,ext,⟨?_,fun b h=>.inl (g.S0 b h),?_,?_,⟨?_,?_⟩,?_,fun k hk=>by rw [FF k (.inl (by omega))];exact g.Bo k hk,ab2⟩,fun k hn h=>by rw [FF k hn];exact h,?_⟩
  ·refine ⟨g'.fr.os.trans g.fr.os,g'.fr.tape.trans g.fr.tape,g'.fr.output.trans g.fr.output,dp g.fr.size g'.fr.size,fun b hb hnf=>?_⟩
   rw [← g.fr.b6 b hb hnf]
   refine KR b (lX hb g.fr.size) ?_ ?_
   ·intro k i o pl hk ho hm hc he
    rcases g.own k o pl ho hm hc with h1 | h1
    ·exact hnf (he ▸ h1)
    ·have:pl.b6=b:=he
     omega
   ·intro k i j x v hk hv he
    rcases (g.mx.b6 hv he).2.2.1 with h1 | h1
    ·exact hnf h1
    ·omega
  ·rintro b (hb | ⟨_,k,hk,pl,hm,hc,rfl⟩ | ⟨hb,_⟩)
   ·exact lX (g.S1 b hb) g'.fr.size
   ·obtain ⟨_,o,ho⟩:=Xk k hk
    exact lX (ft k o pl ho hm hc) g'.fr.size
   ·exact g'.S1 b hb
  ·rintro b (hb | ⟨Mq,k,hk,pl,hm,hc,rfl⟩ | ⟨_,hb⟩)
   ·exact g.S2 b hb
   ·obtain ⟨_,o,ho⟩:=Xk k hk
    rcases g.own k o pl ho hm hc with h1 | h1
    ·exact (hz Mq _ h1).elim
    ·exact .inr h1
   ·exact .inr (dp g.fr.size hb)
  ·intro k o ho
   rcases yA k with hn | ⟨j,hj,rfl⟩
   ·cases hi:idx orc.ks k with
    | none =>
     have pk:=ho
     rw [Jp k hi hn] at ho
     split at ho
     ·cases ho
     obtain ⟨pl,c,T,hm,cE⟩:=g.rep.ob k o ho
     refine ⟨pl,c,T,Uw _ _ hm,cE.ext ext ?_ (Iq k o o pl pk ho hm)⟩
     intro hc
     refine KR _ (cr (cE.b6 hc)) ?_ (fun k' i' j' x' v' lj oJ he=>g.mx.obj _ _ _ _ _ oJ he k o pl ho hm hc rfl)
     intro k' i' o' iJ lj m5 fy jr he
     have ec:k'≠k:=fun h=>md _ _ hi i' (h ▸ lj)
     exact g.rep.ne k' k o' o iJ pl ec m5 ho fy hm jr hc he
    | some i =>
     have hk:=m6 _ _ _ hi
     obtain ⟨⟨o1,w6⟩,_⟩:=Uv k i o hk ho
     obtain ⟨pl,c,T,hm,_⟩:=g.rep.ob k o1 w6
     obtain ⟨c',T',cE⟩:=abZ w' S' SF cD KQ g' YO vH k i o pl hk ho hm (Iq k o o1 pl ho w6 hm)
     exact ⟨pl,c',T',Uw _ _ hm,cE⟩
   ·obtain ⟨o1,pl,c,T,h1,h2,h3,h4⟩:=MB j hj o ho
    have h5:=Zr w' S' SF cD YO j hj o1 pl c T h1 h4 (fun hc hb=>h4.out hc (hSF _ hb))
    exact ⟨pl,c,T,by rw [FG j hj];exact h3,by rw [h2];exact h5.jx vH⟩
  ·intro k k' o o' pl iJ ec ho m5 hm fy hc jr
   rcases yA k with hn | ⟨j,hj,rfl⟩
   ·rcases yA k' with HH | ⟨j',sJ,rfl⟩
    ·obtain ⟨o1,w6⟩:=hold k o ho hn
     obtain ⟨o2,Cz⟩:=hold k' o' m5 HH
     rw [FF k hn] at hm
     rw [FF k' HH] at fy
     exact g.rep.ne k k' o1 o2 pl iJ ec w6 Cz hm fy hc jr
    ·exact fun he=>Q4 j' sJ k o' o iJ pl m5 ho hn fy hm jr hc he.symm
   ·rcases yA k' with HH | ⟨j',sJ,rfl⟩
    ·exact Q4 j hj k' o o' pl iJ ho m5 HH hm fy hc jr
    ·obtain ⟨o1,Bn,c1,T1,h1,h2,h3,h4⟩:=MB j hj o ho
     obtain ⟨o2,qA,c2,T2,k1,k2,k3,k4⟩:=MB j' sJ o' m5
     rw [FG j hj,h3] at hm;cases hm
     rw [FG j' sJ,k3] at fy;cases fy
     exact g'.rep.ne _ _ o1 o2 pl iJ (by omega) h1 k1 h3 k3 hc jr
  ·intro k o pl ho hm hc
   rcases yA k with hn | ⟨j,hj,rfl⟩
   ·obtain ⟨o1,w6⟩:=hold k o ho hn
    rw [FF k hn] at hm
    exact g.own k o1 pl w6 hm hc
   ·obtain ⟨o1,Bn,c1,T1,h1,h2,h3,h4⟩:=MB j hj o ho
    rw [FG j hj,h3] at hm;cases hm
    rcases Wq j o1 pl h1 h3 hc with ⟨k2,i2,o4,Ux,q1,q2,q3,q4,q5⟩ | ⟨k2,i2,j2,x2,v2,q1,q2,q3⟩ | h5
    ·rw [← q5];exact g.own k2 o4 Ux q2 q3 q4
    ·exact (g.mx.b6 q2 q3).2.2.1
    ·exact .inr (dp g.fr.size h5)
  ·cases he:(bs.isEmpty || orc.wY) with
   | true=>exact (hv.jx (f:=back orc.ks nk) vH).mono (YO he) (fun _ _=>rfl) (fun _ _ h=>h)
   | false =>
    rw [he,Bool.false_or] at KP
    exact (hv.Kp KP w' SF).jx (f:=back orc.ks nk) vH
 split at h
 ·split at h
  ·split at h
   ·rename_i qs Ek
    cases h
    obtain ⟨hq,_⟩:=aW.app hp.2
    have Uy:∀ k i:Nat,orc.ks[i]?=some k→∀ o,au (eX σ (vF orc.wY bs)) k=some o→au σ k=some o:=fun k i hk o ho=>by
     rw [me] at ho
     split at ho
     ·cases ho
     ·exact ho
    refine fin rU _ hp.1 (fun n _ _=>me _ _ _ _) ?_ ?_ ?_ ?_ ?_ ?_
    ·intro j hj o ho
     have ho:au (eX σ (vF orc.wY bs)) (nk+j)=some o:=ho
     rw [me] at ho
     split at ho
     ·cases ho
     ·rcases rT _ o ho with h1 | h1<;>omega
    ·intro w' S' Bm cD _ j hj o1 pl c T h1
     obtain ⟨k,o,hk,_⟩:=D1 _ o1 h1
     rw [oE (by omega)] at hk;cases hk
    ·intro w' S' Bm cD KQ g' hS vH k i o pl hk ho hm Me
     have ho:=Uy k i hk o ho
     obtain ⟨QU,TR,Qq⟩:=w5 _ _ Ek hq k (List.mem_of_getElem? hk) o ho
     have hci:au rU i=some (o.jx (idx orc.ks)):=by rw [Uu];simp [hk,ho]
     obtain ⟨qA,c,T,AF,cE⟩:=g'.rep.ob i _ hci
     have ft:i < orc.ks.length:=(dd.1 hk).1
     rw [g'.Bo i ft] at AF
     have:μ k=some qA:=by simpa [tC,kz,hk] using AF
     rw [hm] at this;cases this
     exact ⟨c,T,NY cE TR Qq hS Me vH⟩
    ·intro k i o hk ho
     have ho:=Uy k i hk o ho
     exact ⟨⟨o,ho⟩,o.jx (idx orc.ks),by rw [Uu];simp [hk,ho]⟩
    ·intro k i o hk ho j x hx
     have ho:=Uy k i hk o ho
     exact ⟨o.jx (idx orc.ks),by rw [Uu];simp [hk,ho],(qB _ _ _ _).2 hx⟩
    ·intro Pw n o' m5 i
     obtain ⟨k,o,hk,ho,rfl⟩:=D1 n o' m5
     obtain ⟨QU,TR,Qq⟩:=w5 _ _ Ek hq k (List.mem_of_getElem? hk) o ho
     rw [Pw] at TR
     cases hr:rowOf (o.jx (idx orc.ks)) i with
     | none=>rfl
     | some x =>
      have:=(qB _ _ _ _).1 hr
      rw [Jo TR Qq] at this;cases this
   ·cases h
  ·rename_i q τ afT
   split at h
   ·rename_i qs HF Ek Ws
    cases h
    obtain ⟨hq,_⟩:=aW.app hp.2
    simp only [aV] at Ws
    obtain ⟨⟨hge,Zu⟩,ab5⟩:=Ws
    have N7:∀ k i:Nat,orc.ks[i]?=some k→k < nk∨nk+16≤k:=fun k i hk=>by
     obtain ⟨o,ho⟩:=zw orc.ks 0 rU Ur k (List.mem_of_getElem? hk)
     exact rT k o ho
    have Uy:∀ k i:Nat,orc.ks[i]?=some k→∀ o,au (eX σ (AL orc.ks nk (q :: τ) ++ vF orc.wY bs)) k=some o→au σ k=some o:=fun k i hk o ho=>by
     rw [gf,me] at ho
     split at ho
     ·cases ho
     ·rw [vG _ _ _ Zu (N7 k i hk)] at ho;exact ho
    have CR:∀ i:Nat,i < orc.ks.length→au (rU ++ q :: τ) i=au rU i:=fun i hi=>by
     rw [FA]
     cases hs:au rU i with
     | some o=>rfl
     | none=>exact Ip hge i hi
    have Zv:∀ j:Nat,au (rU ++ q :: τ) (orc.ks.length+j)=au (q :: τ) (orc.ks.length+j):=fun j=>by
     rw [FA]
     have:au rU (orc.ks.length+j)=none:=by rw [Uu];simp
     rw [this]
    refine fin (rU ++ q :: τ) _ hp.1 ?_ ?_ ?_ ?_ ?_ ?_ ?_
    ·intro n hn MC
     show au (eX σ (AL orc.ks nk (q :: τ) ++ vF orc.wY bs)) n=_
     rw [gf,me,vG _ _ _ Zu MC]
    ·intro j hj o ho
     have ho:au (eX σ (AL orc.ks nk (q :: τ) ++ vF orc.wY bs)) (nk+j)=some o:=ho
     rw [gf,me] at ho
     split at ho
     ·cases ho
     rw [BA _ _ _ ab5] at ho
     split at ho
     ·rename_i o1 w6
      cases ho
      exact ⟨o1,(Zv j).trans w6,rfl⟩
     ·rcases rT _ o ho with h1 | h1<;>omega
    ·intro w' S' Bm cD hS j hj o1 pl c T h1 h2 h3
     exact BB h2 (hS HF) h3
    ·intro w' S' Bm cD KQ g' hS vH k i o pl hk ho hm Me
     have ho:=Uy k i hk o ho
     obtain ⟨QU,TR,Qq⟩:=w5 _ _ Ek hq k (List.mem_of_getElem? hk) o ho
     have ft:i < orc.ks.length:=(dd.1 hk).1
     have hci:au (rU ++ q :: τ) i=some (o.jx (idx orc.ks)):=by rw [CR i ft,Uu];simp [hk,ho]
     obtain ⟨qA,c,T,AF,cE⟩:=g'.rep.ob i _ hci
     rw [g'.Bo i ft] at AF
     have:μ k=some qA:=by simpa [tC,kz,hk] using AF
     rw [hm] at this;cases this
     exact ⟨c,T,NY cE TR Qq (fun _=>hS HF) Me vH⟩
    ·intro k i o hk ho
     have ho:=Uy k i hk o ho
     exact ⟨⟨o,ho⟩,o.jx (idx orc.ks),by rw [CR i (dd.1 hk).1,Uu];simp [hk,ho]⟩
    ·intro k i o hk ho j x hx
     have ho:=Uy k i hk o ho
     exact ⟨o.jx (idx orc.ks),by rw [CR i (dd.1 hk).1,Uu];simp [hk,ho],(qB _ _ _ _).2 hx⟩
    ·intro Uz
     rw [HF] at Uz;cases Uz
   ·cases h
 ·split at h
  ·rename_i qs Ek Pw
   cases h
   obtain ⟨hq,_⟩:=aW.app hp.2
   rw [aV] at Ek
   have Wb:∀ n,au (eX σ (yy orc.ks nk orc.jk 0 orc.ks)) n=match idx orc.ks n with
     | some j=>(au orc.jk (0+j)).map (Ob.jx (back orc.ks nk))
     | none=>au σ n:=fun n=>CQ orc.ks 0 σ n Ut
   have ab6:∀ k i:Nat,orc.ks[i]?=some k→idx orc.ks k=some i:=by
    intro k i hk
    cases hi:idx orc.ks k with
    | none=>exact (md _ _ hi i hk).elim
    | some j=>rw [Ut i j k hk (m6 _ _ _ hi)]
   have N7:∀ k i:Nat,orc.ks[i]?=some k→k < nk∨nk+16≤k:=fun k i hk=>by
    obtain ⟨o,ho⟩:=zw orc.ks 0 rU Ur k (List.mem_of_getElem? hk)
    exact rT k o ho
   have Q6:∀ k i:Nat,orc.ks[i]?=some k→∀ o,au (eX σ (yy orc.ks nk orc.jk 0 orc.ks ++ (AL orc.ks nk orc.jk ++ vF orc.wY bs))) k=some o→(au orc.jk i).map (Ob.jx (back orc.ks nk))=some o:=by
    intro k i hk o ho
    rw [gf,gf,me] at ho
    split at ho
    ·cases ho
    rw [vG _ _ _ Ek.1 (N7 k i hk),Wb k,ab6 k i hk] at ho
    simpa using ho
   refine fin orc.jk _ hp.1 ?_ ?_ ?_ ?_ ?_ ?_ ?_
   ·intro n hn MC
    show au (eX σ (yy orc.ks nk orc.jk 0 orc.ks ++ (AL orc.ks nk orc.jk ++ vF orc.wY bs))) n=_
    rw [gf,gf,me,vG _ _ _ Ek.1 MC,Wb n,hn]
   ·intro j hj o ho
    have ho:au (eX σ (yy orc.ks nk orc.jk 0 orc.ks ++ (AL orc.ks nk orc.jk ++ vF orc.wY bs))) (nk+j)=some o:=ho
    rw [gf,gf,me] at ho
    split at ho
    ·cases ho
    rw [BA _ _ _ Ek.2] at ho
    split at ho
    ·rename_i o1 w6
     cases ho
     exact ⟨o1,w6,rfl⟩
    ·rw [Wb] at ho
     cases hi:idx orc.ks (nk+j) with
     | some i =>
      rcases N7 _ i (m6 _ _ _ hi) with h1 | h1<;>omega
     | none =>
      rw [hi] at ho
      rcases rT _ o ho with h1 | h1<;>omega
   ·intro w' S' Bm cD hS j hj o1 pl c T h1 h2 h3
    rcases sO _ _ Pw hq _ o1 h1 with hl | ⟨QU,hf,HI⟩
    ·exact BB h2 (hS hl) h3
    ·exact FD h2 hf HI h3
   ·intro w' S' Bm cD KQ g' hS vH k i o pl hk ho hm Me
    have ho:=Q6 k i hk o ho
    simp only [aJ] at ho
    obtain ⟨o1,w6,rfl⟩:=ho
    obtain ⟨qA,c,T,AF,cE⟩:=g'.rep.ob i _ w6
    have ft:i < orc.ks.length:=(dd.1 hk).1
    rw [g'.Bo i ft] at AF
    have:μ k=some qA:=by simpa [tC,kz,hk] using AF
    rw [hm] at this;cases this
    refine ⟨c,T,?_⟩
    rcases sO _ _ Pw hq _ o1 w6 with hl | ⟨QU,hf,HI⟩
    ·exact (BB cE (hS hl) Me).jx vH
    ·exact (FD (Fl:=cD) cE hf HI Me).jx vH
   ·intro k i o hk ho
    have ho:=Q6 k i hk o ho
    simp only [aJ] at ho
    obtain ⟨o1,w6,_⟩:=ho
    exact ⟨zw orc.ks 0 rU Ur k (List.mem_of_getElem? hk),o1,w6⟩
   ·intro k i o hk ho j x hx
    have ho:=Q6 k i hk o ho
    simp only [aJ] at ho
    obtain ⟨o1,w6,rfl⟩:=ho
    exact ⟨o1,w6,(qB _ _ _ _).1 hx⟩
   ·intro Uz n o1 w6 i
    rcases sO _ _ Pw hq _ o1 w6 with hl | ⟨QU,hf,HI⟩
    ·rw [Uz] at hl;cases hl
    ·exact uZ hf HI i
  ·cases h
def Xn:List AV→Bool
 | [.atom v]=>match v with
  | .int k _=>match k with
   | .u8=>true
   | _=>false
  | _=>false
 | _=>false
def u8v:List AV→Int
 | [.atom v]=>match v with
  | .int _ x=>x
  | _=>0
 | _=>0
def strOf (n:Nat) (g:Nat→List AV):ByteArray:=⟨((List.range n).map fun i=>UInt8.ofNat (u8v (g i)).toNat).toArray⟩
theorem UA {l:List AV} (h:Xn l=true):l=[.atom (.int .u8 (u8v l))]:=by
 unfold Xn at h
 split at h
 ·split at h
  ·split at h
   ·rfl
   ·cases h
  ·cases h
 ·cases h
def zx (P:Program) (σ:du) (src dst:TypeId) (x:AV):Option (List Prop×AV×List Nat) :=
 match P.underlying src,P.underlying dst with
 | some .string,some (.slice e)=>match P.underlying e,x with
  | some (.int .u8),.atom (.string b)=>some ([],.sl b.size (fun i=>[.atom (.int .u8 (AI b i))]),[])
  | _,_=>none
 | some (.slice e),some .string=>match P.underlying e,vC σ 1 x with
  | some (.int .u8),some (n,g,_,ps,rd)=>some ((∀ i,i < n→Xn (g i)=true) :: ps,.atom (.string (strOf n g)),rd)
  | _,_=>none
 | _,_=>none
theorem foldl_push (l:List Int):∀ (r:ByteArray),l.foldl (fun r n=>r.push (UInt8.ofNat n.toNat)) r=⟨r.data ++ (l.map fun n=>UInt8.ofNat n.toNat).toArray⟩:=by
 induction l with
 | nil=>intro r;simp
 | cons b l ih =>
  intro r
  simp only [List.foldl_cons]
  rw [ih]
  simp [ByteArray.push]
theorem Q7 (g:Good E σ S μ w) {src dst:TypeId} {x:AV} {v:Value} (hx:aq w S μ v x) {ps:List Prop} {val:AV} {rd:List Nat} (h:zx P σ src dst x=some (ps,val,rd)) (hp:aW ps) :
  Step P E nk σ S μ w (convert src dst v) val []:=by
 unfold zx at h
 split at h
 ·rename_i e hs hd
  split at h
  ·rename_i b he
   simp only [az,ay] at h
   obtain ⟨rfl,rfl,rfl⟩:=h
   have:=db hx;subst this
   have jc:=run_bytes_of_string w src dst e b hs hd he
   have ga:=g.drew.Pm (.cells (bytesRow b (grownCap w b.size 0 e)) e ((bytesRow b (grownCap w b.size 0 e)).size,(bytesRow b (grownCap w b.size 0 e)).size+1))
   refine ⟨_,_,_,_,jc,(Ext.drew w S μ).trans ga.1,ga.2,fun _ _ h=>h,?_⟩
   refine .sl w.heap.size 0 1 (fun i _=>.int .u8 (AI b i)) (fun _=>⟨rfl,.inr rfl⟩) (fun i hi=>rfl) ?_ ?_ ?_
   ·intro i j hi hj
    have hj:j=0:=by omega
    subst hj
    have:=World.cell?_alloc_mark w.drew (bytesRow b (grownCap w b.size 0 e)) e ((bytesRow b (grownCap w b.size 0 e)).size,(bytesRow b (grownCap w b.size 0 e)).size+1) i
    simp only [Nat.zero_add,Nat.mul_one,Nat.add_zero]
    refine this.trans ?_
    have oY:i < b.data.size:=hi
    simp [bytesRow,Array.getElem?_append,AI,ByteArray.getElem_eq_getElem_data,getElem?_pos,hi]
   ·intro i j c hi hc
    cases j with
    | zero=>simp at hc;subst hc;exact .atom _
    | succ j=>simp at hc
   ·simp [grownCap,Question.cut]
  ·cases h
 ·rename_i e hs hd
  split at h
  ·rename_i n gt pr qs NU he vD
   simp only [az,ay] at h
   obtain ⟨rfl,rfl,rfl⟩:=h
   obtain ⟨hu,n6⟩:=hp
   obtain ⟨news,hn⟩:=yq g (P:=P) hx vD n6
   have Zw:∃ a len cap,v=.slice a len cap:=by
    unfold vC at vD
    split at vD
    ·cases hx;exact ⟨_,_,_,rfl⟩
    ·cases hx;exact ⟨_,_,_,rfl⟩
    ·cases hx;exact ⟨_,_,_,rfl⟩
    ·cases vD
   obtain ⟨a,len,cap,rfl⟩:=Zw
   have hlen:len=n:=by
    have:=hn.len w
    simpa [Builtin.lenOf] using this
   subst hlen
   have KL:news=((List.range len).map fun i=>Value.int .u8 (u8v (gt i))):=by
    have kr:news.length=len:=by simpa using hn.size
    apply List.ext_getElem?
    intro i
    by_cases hi:i < len
    ·have h1:news[i]?=some (news[i]'(by omega)):=ke _
     have hg:=UA (hu i hi)
     have h2:=hn.rep i 0 _ _ hi (by rw [hg];rfl) (by simpa only [Nat.mul_one,Nat.add_zero] using h1)
     have h3:=db h2
     rw [h1,h3]
     simp [hi]
    ·rw [oE (by omega),oE (by simp;omega)]
   have ab7:(((List.range len).map fun i=>u8v (gt i)).foldl (fun r n=>r.push (UInt8.ofNat n.toNat)) ByteArray.empty)=strOf len gt:=by
    rw [foldl_push]
    have h0:ByteArray.empty.data=#[]:=rfl
    rw [h0];simp [strOf]
   refine Step.pure g (v:=.string (strOf len gt)) ?_ (.atom _)
   rw [run_convert_bytes_string w src dst e a len cap hs he hd]
   cases a with
   | none =>
    have:len=0:=by
     rcases Nat.eq_zero_or_pos len with h0 | h0
     ·exact h0
     ·have:=hn.cells w rfl
      have hz:news=[]:=by
       have:news.toArray=#[]:=by simpa [Builtin.firstCells] using this.symm
       simpa using this
      rw [hz] at KL
      have:=congrArg List.length KL
      simp at this;omega
    subst this
    rfl
   | some a =>
    rw [← ab7]
    refine run_bytesToString w a len cap _ ?_
    have:=hn.cells w rfl
    rw [KL] at this
    simpa [Builtin.firstCells,Function.comp_def] using this
  ·cases h
 ·cases h
open Go.MapKept
def xG (P:Program) (kt:TypeId) (a b:AV):Option Bool :=
 match a,b with
 | .atom a,.atom b=>match a,b with
  | .string s,.string t=>some (Bs s t)
  | .int k x,.int k' y=>match decide (k=k') with
   | true=>some (x == y)
   | false=>none
  | _,_=>none
 | .agg ys,.agg xs=>match Nat.beq ys.length xs.length with
  | true=>CG P 64 kt (.agg xs) (.agg ys)
  | false=>none
 | _,_=>none
def look (P:Program) (kt:TypeId):List AV→AV→Option (Option AV)
 | k :: v :: r,x=>match xG P kt k x with
  | some true=>some (some v)
  | some false=>look P kt r x
  | none=>none
 | [_],_=>none
 | [],_=>some none
def AM (P:Program) (kt:TypeId):List AV→AV→AV→Option (List AV)
 | k :: v :: r,x,y=>match xG P kt k x with
  | some true=>some (k :: y :: r)
  | some false=>(AM P kt r x y).map fun l=>k :: v :: l
  | none=>none
 | [_],_,_=>none
 | [],x,y=>some [x,y]
def allI (k:IntKind):List AV→Bool
 | []=>true
 | .atom (.int k' _) :: r=>match decide (k'=k) with
  | true=>allI k r
  | false=>false
 | _ :: _=>false
def j3 (P:Program) (d:TypeDesc) (x:AV):Bool :=
 match d,x with
 | .string,.atom v=>match v with
  | .string _=>true
  | _=>false
 | .int k,.atom v=>match v with
  | .int k' _=>decide (k'=k)
  | _=>false
 | .array n e,.agg xs=>match P.underlying e,uj P e with
  | some (.int k),some m=>Nat.beq m 1 && Nat.beq xs.length n && allI k xs
  | _,_=>false
 | _,_=>false
def u5 (R:Value→AV→Prop):List MapEntry→List AV→Prop
 | [],[]=>True
 | e :: es,k :: v :: cs=>R e.key k∧R e.val v∧u5 R es cs
 | _,_=>False
theorem MD (c:Array Value) (i:Nat) (hi:i < c.size / 2):(ef c)[i]?=some ⟨c[2 * i]?.getD undef,c[2 * i+1]?.getD undef,i⟩:=by
 simp [ef,hi]
theorem yB (c:Array Value):(ef c).size=c.size / 2:=by simp [ef]
theorem N8 {R:Value→AV→Prop} {c:Array Value} {cs:List AV} (h1:c.size % 2=0) (h2:c.size=cs.length) (h3:∀ (j:Nat) x v,cs[j]?=some x→c[j]?=some v→R v x):u5 R (ef c).toList cs:=by
 have key:∀ (n o:Nat),2 * (o+n)=c.size→u5 R ((List.range' o n).map fun i=>(⟨c[2 * i]?.getD undef,c[2 * i+1]?.getD undef,i⟩:MapEntry)) (cs.drop (2 * o)):=by
  intro n
  induction n with
  | zero=>intro o h;rw [List.drop_of_length_le (by omega)];trivial
  | succ n ih =>
   intro o h
   have e1:2 * o < cs.length:=by omega
   have e2:2 * o+1 < cs.length:=by omega
   rw [List.range'_succ,List.map_cons,List.drop_eq_getElem_cons e1,List.drop_eq_getElem_cons e2]
   have d1:c[2 * o]?=some c[2 * o]:=dN _
   have d2:c[2 * o+1]?=some c[2 * o+1]:=dN _
   have Zo:=ih (o+1) (by omega)
   rw [show 2 * (o+1)=2 * o+1+1 by omega] at Zo
   refine ⟨?_,?_,Zo⟩
   ·rw [d1];exact h3 _ _ _ (ke e1) d1
   ·rw [d2];exact h3 _ _ _ (ke e2) d2
 have:=key (c.size / 2) 0 (by omega)
 have e:(ef c).toList=(List.range' 0 (c.size / 2)).map fun i=>(⟨c[2 * i]?.getD undef,c[2 * i+1]?.getD undef,i⟩:MapEntry):=by
  unfold ef
  rw [Array.toList_map,Array.toList_range,List.range_eq_range']
 rw [e];exact this
theorem N9 (a b:ByteArray):(a == b)=Bs a b:=by
 have hl:∀ x:ByteArray,x.toList=x.data.toList:=fun x=>ByteArray.toList_eq x
 rw [Bool.eq_iff_iff,bytes_beq]
 unfold Bs
 rw [hl,hl,beq_iff_eq]
 constructor
 ·rintro rfl;rfl
 ·intro h
  cases a;cases b
  simp only at h
  rw [Array.toList_inj.1 h]
theorem w7 {d:TypeDesc} {kt:TypeId} {kv ev:Value} {v:Value} {k:AV} {b:Bool} (hx:j3 P d (.atom v)=true) {w w':World} {S S':Nat→Prop} {μ cD:Mu} (h1:aq w S μ kv (.atom v)) (h2:aq w' S' cD ev k) (h:xG P kt k (.atom v)=some b) :
  IsKey d kv∧Instr.sameNow d kv ev=some b∧(b=true→ev=kv):=by
 have:=db h1;subst this
 cases k with
 | atom u =>
  have:=db h2;subst this
  cases d<;>cases kv<;>simp [j3] at hx
  ·rename_i k0 k' n
   subst hx
   cases ev<;>simp [xG] at h
   rename_i ka a
   by_cases hk:ka=k'
   ·subst hk
    rw [decide_eq_true rfl] at h
    simp only [az] at h
    subst h
    refine ⟨rfl,?_,?_⟩
    ·simp only [Instr.sameNow,if_true]
     congr 1
     rw [Bool.eq_iff_iff];simp only [beq_iff_eq];exact eq_comm
    ·intro hb
     rw [beq_iff_eq] at hb
     rw [hb]
   ·rw [decide_eq_false hk] at h;cases h
  ·cases ev<;>simp [xG] at h
   rename_i s a
   subst h
   refine ⟨trivial,?_,?_⟩
   ·simp only [Instr.sameNow,N9]
    congr 1
    unfold Bs;rw [Bool.eq_iff_iff];simp only [beq_iff_eq];exact eq_comm
   ·intro hb
    rw [← N9,bytes_beq] at hb
    rw [hb]
 | _=>simp [xG] at h
theorem KS {d:TypeDesc} {kv v:Value} (hx:j3 P d (.atom v)=true) {w:World} {S:Nat→Prop} {μ:Mu} (h1:aq w S μ kv (.atom v)):IsKey d kv:=by
 have:=db h1;subst this
 cases d<;>cases kv<;>simp [j3] at hx
 ·exact hx
 ·trivial
theorem zy {d:TypeDesc} {xs:List AV} (hx:j3 P d (.agg xs)=true):∃ n e k,d=.array n e∧P.underlying e=some (.int k)∧uj P e=some 1∧xs.length=n∧allI k xs=true:=by
 cases d<;>simp [j3] at hx
 rename_i n e
 split at hx
 ·rename_i k m h1 h2
  simp only [aV] at hx
  have hm:=bm hx.1.1
  subst hm
  exact ⟨n,e,k,rfl,h1,h2,bm hx.1.2,hx.2⟩
 ·cases hx
theorem Oa {k:IntKind}:∀ {xs:List AV},allI k xs=true→∀ i,i < xs.length→∃ a,xs[i]?=some (.atom (.int k a))
 | [],_,i,h=>by simp at h
 | .atom (.int k' a) :: r,h,i,hi=>by
  unfold allI at h
  split at h
  ·rename_i hk
   have hk:=oG hk
   subst hk
   cases i with
   | zero=>exact ⟨a,rfl⟩
   | succ i=>simpa using Oa h i (by simpa using hi)
  ·cases h
theorem BC {k:IntKind} {xs:List AV} (h:allI k xs=true) {w:World} {S:Nat→Prop} {μ:Mu} {kv:Value} (hr:aq w S μ kv (.agg xs)):∃ vs:Array Value,kv=.agg vs∧vs.size=xs.length∧∀ i,i < xs.length→∃ a,xs[i]?=some (.atom (.int k a))∧vs[i]?=some (.int k a):=by
 obtain ⟨vs,rfl,h1,h2⟩:=nO hr
 refine ⟨vs,rfl,h1,fun i hi=>?_⟩
 obtain ⟨a,ha⟩:=Oa h i hi
 have hv:vs[i]?=some vs[i]:=dN _
 have:=db (h2 i _ _ ha hv)
 exact ⟨a,ha,by rw [hv,this]⟩
theorem zz {k:IntKind}:∀ {xs:List AV},allI k xs=true→AV.lG xs=true
 | [],_=>rfl
 | .atom (.int k' a) :: r,h=>by
  unfold allI at h
  split at h
  ·simpa [AV.lG,AV.pure] using zz h
  ·cases h
theorem Ir {d:TypeDesc} {kt:TypeId} {kv xv:Value} (hx:j3 P d (.atom xv)=true) {w w':World} {S S':Nat→Prop} {μ cD:Mu} (h1:aq w S μ kv (.atom xv)):∀ (es:List MapEntry) (cs:List AV) (i:Nat) (r:Option AV),u5 (aq w' S' cD) es cs→look P kt cs (.atom xv)=some r →
  (r=none∧Instr.findNow d kv es i=some none)∨∃ (j:Nat) (e:MapEntry) (v:AV),r=some v∧Instr.findNow d kv es i=some (some (i+j,e.val))∧aq w' S' cD e.val v
 | [],[],i,r,_,h=>by simp only [look,az] at h;exact .inl ⟨h.symm,rfl⟩
 | e :: es,k :: v :: cs,i,r,hR,h=>by
  obtain ⟨r1,r2,r3⟩:=hR
  simp only [look] at h
  split at h
  ·rename_i hq
   cases h
   obtain ⟨_,q2,_⟩:=w7 hx h1 r1 hq
   exact .inr ⟨0,e,v,rfl,by simp [Instr.findNow,q2],r2⟩
  ·rename_i hq
   obtain ⟨_,q2,_⟩:=w7 hx h1 r1 hq
   rcases Ir hx h1 es cs (i+1) r r3 h with ⟨a,b⟩ | ⟨j,e',v',a,b,c⟩
   ·exact .inl ⟨a,by simp [Instr.findNow,q2,b]⟩
   ·exact .inr ⟨j+1,e',v',a,by simp [Instr.findNow,q2,b];omega,c⟩
  ·cases h
 | [],_ :: _,_,_,hR,_=>by simp [u5] at hR
 | _ :: _,[],_,_,hR,_=>by simp [u5] at hR
 | _ :: _,[_],_,_,hR,_=>by simp [u5] at hR
theorem KT {d:TypeDesc} {kt:TypeId} {kv xv:Value} {y:AV} (hx:j3 P d (.atom xv)=true) {w w':World} {S S':Nat→Prop} {μ cD:Mu} (h1:aq w S μ kv (.atom xv)):∀ (es:List MapEntry) (cs:List AV) (i:Nat) (Is:List AV),u5 (aq w' S' cD) es cs→AM P kt cs (.atom xv) y=some Is →
  (Instr.findNow d kv es i=some none∧Is=cs ++ [.atom xv,y])∨∃ (j:Nat) (e:MapEntry),Instr.findNow d kv es i=some (some (i+j,e.val))∧es[j]?=some e∧e.key=kv∧Is=cs.set (2 * j+1) y
 | [],[],i,Is,_,h=>by simp only [AM,az] at h;exact .inl ⟨rfl,h.symm⟩
 | e :: es,k :: v :: cs,i,Is,hR,h=>by
  obtain ⟨r1,r2,r3⟩:=hR
  simp only [AM] at h
  split at h
  ·rename_i hq
   cases h
   obtain ⟨_,q2,q3⟩:=w7 hx h1 r1 hq
   exact .inr ⟨0,e,by simp [Instr.findNow,q2],rfl,q3 rfl,rfl⟩
  ·rename_i hq
   obtain ⟨_,q2,_⟩:=w7 hx h1 r1 hq
   simp only [aJ] at h
   obtain ⟨l,hl,rfl⟩:=h
   rcases KT hx h1 es cs (i+1) l r3 hl with ⟨a,b⟩ | ⟨j,e',a,b,c,q⟩
   ·exact .inl ⟨by simp [Instr.findNow,q2,a],by rw [b];rfl⟩
   ·exact .inr ⟨j+1,e',by simp [Instr.findNow,q2,a];omega,by simpa using b,c,by rw [q,show 2 * (j+1)+1=2 * j+1+1+1 by omega];rfl⟩
  ·cases h
 | [],_ :: _,_,_,hR,_=>by simp [u5] at hR
 | _ :: _,[],_,_,hR,_=>by simp [u5] at hR
 | _ :: _,[_],_,_,hR,_=>by simp [u5] at hR
theorem Q8 {e:TypeId} {k:IntKind} (hu:P.underlying e=some (.int k)):∀ (D n i:Nat) (xs ys:List AV),Ap P D e 1 xs ys i n=some true→∀ j,i≤j→j < i+n→xs[j]?=ys[j]?∧(xs[j]?).isSome=true:=by
 intro D
 induction D with
 | zero =>
  intro n i xs ys h j h1 h2
  cases n with
  | zero=>omega
  | succ n=>simp [Ap] at h
 | succ D ih =>
  intro n i xs ys h j h1 h2
  cases n with
  | zero=>omega
  | succ n =>
   simp only [Ap,Nat.mul_one] at h
   split at h
   ·rename_i a c _ ha hc
    split at h
    ·rename_i p q hp hq
     simp only [az,aV] at h
     obtain ⟨rfl,rfl⟩:=h
     by_cases hj:j=i
     ·subst hj
      have cell:∀ (l:List AV) (z:AV),jX P e l j=some z→l[j]?=some z:=fun l z hz=>by
       unfold jX at hz
       rw [hu] at hz
       split at hz
       ·rename_i d' n' Wn _
        cases Wn
        exact hz
       ·cases hz
      rw [cell _ _ ha,cell _ _ hc]
      cases D with
      | zero=>simp [CG] at hp
      | succ D =>
       simp only [CG,hu] at hp
       split at hp
       ·split at hp
        ·rename_i hk
         have hk:=oG hk
         subst hk
         simp only [az,beq_iff_eq] at hp
         subst hp
         exact ⟨rfl,rfl⟩
        ·cases hp
       ·cases hp
     ·exact ih n (i+1) xs ys hq j (by omega) (by omega)
    ·cases h
   ·cases h
theorem zB {d:TypeDesc} {kt:TypeId} (hd:P.underlying kt=some d) {xs:List AV} (hx:j3 P d (.agg xs)=true) {w:World} {S:Nat→Prop} {kv ev:Value} {k:AV} {b:Bool} (h1:aq w S fV kv (.agg xs)) (h2:aq w S fV ev k) (h:xG P kt k (.agg xs)=some b) :
  (Op.equal kt kv ev).run P w=.ok b w∧(b=true→ev=kv):=by
 cases k with
 | agg ys =>
  unfold xG at h
  simp only at h
  split at h
  ·rename_i hl
   have hl:=bm hl
   refine ⟨(KE 64).1 Op.maxDepth kt _ _ _ _ _ (by decide) h1 h2 h,fun hb=>?_⟩
   subst hb
   obtain ⟨n,e,kk,rfl,hu,hs,hn,qE⟩:=zy hx
   obtain ⟨vs,rfl,HD,CH⟩:=BC qE h1
   obtain ⟨us,rfl,Km,Hu⟩:=nO h2
   simp only [CG,hd,hs] at h
   have tA:=Q8 hu _ _ _ _ _ h
   congr 1
   apply Array.ext
   ·omega
   ·intro i hi1 TS
    have hi:i < xs.length:=by omega
    obtain ⟨a,UB,TU⟩:=CH i hi
    obtain ⟨hq,_⟩:=tA i (Nat.zero_le _) (by omega)
    rw [UB] at hq
    have:=db (Hu i _ us[i] hq.symm (dN _))
    rw [this]
    rw [dN TS] at TU
    exact (Option.some.inj TU).symm
  ·cases h
 | _=>simp [xG] at h
theorem KU {d:TypeDesc} {kt:TypeId} (hd:P.underlying kt=some d) {xs:List AV} (hx:j3 P d (.agg xs)=true) {w:World} {S:Nat→Prop} {kv:Value} (h1:aq w S fV kv (.agg xs)):∀ (es:List MapEntry) (cs:List AV) (i:Nat) (r:Option AV),u5 (aq w S fV) es cs→look P kt cs (.agg xs)=some r →
  (r=none∧(Instr.findAsking kt kv es i).run P w=.ok none w)∨∃ (j:Nat) (e:MapEntry) (v:AV),r=some v∧(Instr.findAsking kt kv es i).run P w=.ok (some (i+j,e.val)) w∧aq w S fV e.val v
 | [],[],i,r,_,h=>by simp only [look,az] at h;exact .inl ⟨h.symm,by simp [Instr.findAsking]⟩
 | e :: es,k :: v :: cs,i,r,hR,h=>by
  obtain ⟨r1,r2,r3⟩:=hR
  simp only [look] at h
  split at h
  ·rename_i hq
   cases h
   obtain ⟨q2,_⟩:=zB hd hx h1 r1 hq
   exact .inr ⟨0,e,v,rfl,by simp [Instr.findAsking,q2,Result.andThen],r2⟩
  ·rename_i hq
   obtain ⟨q2,_⟩:=zB hd hx h1 r1 hq
   rcases KU hd hx h1 es cs (i+1) r r3 h with ⟨a,b⟩ | ⟨j,e',v',a,b,c⟩
   ·exact .inl ⟨a,by simp [Instr.findAsking,q2,Result.andThen,b]⟩
   ·exact .inr ⟨j+1,e',v',a,by simp [Instr.findAsking,q2,Result.andThen,b];omega,c⟩
  ·cases h
 | [],_ :: _,_,_,hR,_=>by simp [u5] at hR
 | _ :: _,[],_,_,hR,_=>by simp [u5] at hR
 | _ :: _,[_],_,_,hR,_=>by simp [u5] at hR
theorem Oc {d:TypeDesc} {kt:TypeId} (hd:P.underlying kt=some d) {xs:List AV} {y:AV} (hx:j3 P d (.agg xs)=true) {w:World} {S:Nat→Prop} {kv:Value} (h1:aq w S fV kv (.agg xs)):∀ (es:List MapEntry) (cs:List AV) (i:Nat) (Is:List AV),u5 (aq w S fV) es cs→AM P kt cs (.agg xs) y=some Is →
  ((Instr.findAsking kt kv es i).run P w=.ok none w∧Is=cs ++ [.agg xs,y])∨∃ (j:Nat) (e:MapEntry),(Instr.findAsking kt kv es i).run P w=.ok (some (i+j,e.val)) w∧es[j]?=some e∧e.key=kv∧Is=cs.set (2 * j+1) y
 | [],[],i,Is,_,h=>by simp only [AM,az] at h;exact .inl ⟨by simp [Instr.findAsking],h.symm⟩
 | e :: es,k :: v :: cs,i,Is,hR,h=>by
  obtain ⟨r1,r2,r3⟩:=hR
  simp only [AM] at h
  split at h
  ·rename_i hq
   cases h
   obtain ⟨q2,q3⟩:=zB hd hx h1 r1 hq
   exact .inr ⟨0,e,by simp [Instr.findAsking,q2,Result.andThen],rfl,q3 rfl,rfl⟩
  ·rename_i hq
   obtain ⟨q2,_⟩:=zB hd hx h1 r1 hq
   simp only [aJ] at h
   obtain ⟨l,hl,rfl⟩:=h
   rcases Oc hd hx h1 es cs (i+1) l r3 hl with ⟨a,b⟩ | ⟨j,e',a,b,c,q⟩
   ·exact .inl ⟨by simp [Instr.findAsking,q2,Result.andThen,a],by rw [b];rfl⟩
   ·exact .inr ⟨j+1,e',by simp [Instr.findAsking,q2,Result.andThen,a];omega,by simpa using b,c,by rw [q,show 2 * (j+1)+1=2 * j+1+1+1 by omega];rfl⟩
  ·cases h
 | [],_ :: _,_,_,hR,_=>by simp [u5] at hR
 | _ :: _,[],_,_,hR,_=>by simp [u5] at hR
 | _ :: _,[_],_,_,hR,_=>by simp [u5] at hR
theorem BD {kt:TypeId} {n:Nat} {e:TypeId} (hd:P.underlying kt=some (.array n e)) {w:World} {vs:Array Value} {es:List MapEntry} {a:Option (Nat×Value)} (h:(Instr.findAsking kt (.agg vs) es 0).run P w=.ok a w):(Instr.findKey kt (.agg vs) es).run P w=.ok a w:=by
 cases es with
 | nil =>
  simp [Instr.findAsking] at h
  subst h
  simp [Instr.findKey,run_underlying hd,Result.andThen,Instr.findNow]
 | cons z es=>simpa [Instr.findKey,run_underlying hd,Result.andThen,Instr.findNow,Instr.sameNow] using h
theorem Q9 {d:TypeDesc} {kt:TypeId} (hd:P.underlying kt=some d) {x:AV} (hx:j3 P d x=true) {w:World} {S:Nat→Prop} {μ:Mu} {kv:Value} (h1:aq w S μ kv x) {es:List MapEntry} {cs:List AV} {r:Option AV} (hR:u5 (aq w S fV) es cs) (h:look P kt cs x=some r) :
  (r=none∧(Instr.findKey kt kv es).run P w=.ok none w)∨∃ (j:Nat) (e:MapEntry) (v:AV),r=some v∧(Instr.findKey kt kv es).run P w=.ok (some (j,e.val)) w∧aq w S fV e.val v:=by
 cases x with
 | atom xv =>
  rcases Ir hx h1 es cs 0 r hR h with ⟨a,b⟩ | ⟨j,e,v,a,b,c⟩
  ·exact .inl ⟨a,run_findKey hd b⟩
  ·exact .inr ⟨j,e,v,a,by rw [Nat.zero_add] at b;exact run_findKey hd b,c⟩
 | agg xs =>
  obtain ⟨n,e,k,rfl,_,_,_,qE⟩:=zy hx
  have It:aq w S fV kv (.agg xs):=h1.pure (zz qE) fV
  obtain ⟨vs,rfl,_,_⟩:=BC qE It
  rcases KU hd hx It es cs 0 r hR h with ⟨a,b⟩ | ⟨j,e,v,a,b,c⟩
  ·exact .inl ⟨a,BD hd b⟩
  ·exact .inr ⟨j,e,v,a,by rw [Nat.zero_add] at b;exact BD hd b,c⟩
 | _=>cases d<;>simp [j3] at hx
theorem UC {d:TypeDesc} {kt:TypeId} (hd:P.underlying kt=some d) {x y:AV} (hx:j3 P d x=true) {w:World} {S:Nat→Prop} {μ:Mu} {kv:Value} (h1:aq w S μ kv x) {es:List MapEntry} {cs Is:List AV} (hR:u5 (aq w S fV) es cs) (h:AM P kt cs x y=some Is) :
  ((Instr.findKey kt kv es).run P w=.ok none w∧Is=cs ++ [x,y])∨∃ (j:Nat) (e:MapEntry),(Instr.findKey kt kv es).run P w=.ok (some (j,e.val)) w∧es[j]?=some e∧e.key=kv∧Is=cs.set (2 * j+1) y:=by
 cases x with
 | atom xv =>
  rcases KT hx h1 (y:=y) es cs 0 Is hR h with ⟨a,b⟩ | ⟨j,e,a,b⟩
  ·exact .inl ⟨run_findKey hd a,b⟩
  ·exact .inr ⟨j,e,by rw [Nat.zero_add] at a;exact run_findKey hd a,b⟩
 | agg xs =>
  obtain ⟨n,e,k,rfl,_,_,_,qE⟩:=zy hx
  have It:aq w S fV kv (.agg xs):=h1.pure (zz qE) fV
  obtain ⟨vs,rfl,_,_⟩:=BC qE It
  rcases Oc hd hx It (y:=y) es cs 0 Is hR h with ⟨a,b⟩ | ⟨j,e,a,b⟩
  ·exact .inl ⟨BD hd a,b⟩
  ·exact .inr ⟨j,e,by rw [Nat.zero_add] at a;exact BD hd a,b⟩
 | _=>cases d<;>simp [j3] at hx
theorem Ra {d:TypeDesc} {x:AV} (hx:j3 P d x=true):x.pure=true:=by
 cases x with
 | atom xv=>rfl
 | agg xs=>obtain ⟨_,_,k,_,_,_,_,qE⟩:=zy hx;simpa [AV.pure] using zz qE
 | _=>cases d<;>simp [j3] at hx
theorem Iu {d:TypeDesc} {kt:TypeId} (hd:P.underlying kt=some d) {x:AV} (hx:j3 P d x=true) {w:World} {S:Nat→Prop} {μ:Mu} {kv:Value} (h1:aq w S μ kv x) (b:Bool):(Instr.checkKey b 10000 kt kv).run P w=.ok () w:=by
 cases x with
 | atom xv=>exact run_checkKey hd (KS hx h1) b 9999
 | agg xs =>
  obtain ⟨n,e,k,rfl,hu,hs,hn,qE⟩:=zy hx
  obtain ⟨vs,rfl,HD,CH⟩:=BC qE h1
  obtain ⟨us,hus,Km,Hu⟩:=nO h1
  cases hus
  have loop:∀ (m i:Nat),i+m=n→(forIn (m:=Sem) (List.range' i m) PUnit.unit fun i _=>do
    let z ← sizeOf e
    let q ← part e vs (i * z)
    Instr.checkKey b 9999 e q
    pure (ForInStep.yield PUnit.unit)).run P w=.ok PUnit.unit w:=by
   intro m
   induction m with
   | zero=>intro i _;simp
   | succ m ih =>
    intro i him
    have hi:i < xs.length:=by omega
    obtain ⟨a,UB,TU⟩:=CH i hi
    have hc:jX P e xs i=some (.atom (.int k a)):=by
     unfold jX
     rw [hu,hs]
     exact UB
    obtain ⟨v,r1,r2⟩:=jY HD Hu hc (fun n' HH=>by rw [hs] at HH;cases HH;omega)
    have:=db r2;subst this
    have Xo:(Instr.checkKey b 9999 e (.int k a)).run P w=.ok () w:=run_checkKey hu (show IsKey (.int k) (.int k a) from rfl) b 9998
    rw [List.range'_succ,List.forIn_cons]
    simp only [bH,eM hs,Nat.mul_one,r1,Xo,cN]
    simpa using ih (i+1) (by omega)
  unfold Instr.checkKey
  simp only [bH,run_underlying hd,cN]
  rw [Std.Legacy.Range.forIn_eq_forIn_range']
  simp only [Std.Legacy.Range.size,Nat.sub_zero,Nat.add_sub_cancel,Nat.div_one]
  have:=loop n 0 (by omega)
  simp [Result.andThen] at this ⊢
  rw [this]
 | _=>cases d<;>simp [j3] at hx
theorem Py {d:TypeDesc} {x:AV} (hx:j3 P d x=true) {w:World} {S:Nat→Prop} {μ:Mu} {kv:Value} (h1:aq w S μ kv x):(Instr.keyThatStays kv kv).run P w=.ok kv w:=by
 cases x with
 | atom xv=>exact run_keyThatStays (KS hx h1)
 | agg xs =>
  obtain ⟨n,e,k,rfl,hu,hs,hn,qE⟩:=zy hx
  obtain ⟨vs,rfl,HD,CH⟩:=BC qE h1
  have:Instr.sameBits 10000 (.agg vs) (.agg vs)=true:=by
   have hz:∀ l:List Value,(∀ v,v∈l→∃ a,v=.int k a)→(l.zip l).all (fun (x,y)=>Instr.sameBits 9999 x y)=true:=by
    intro l
    induction l with
    | nil=>intro _;rfl
    | cons a l ih =>
     intro h
     obtain ⟨z,rfl⟩:=h a (.head _)
     simp only [List.zip_cons_cons,List.all_cons,aV]
     exact ⟨by simp [Instr.sameBits],ih fun v hv=>h v (.tail _ hv)⟩
   simp only [Instr.sameBits,beq_self_eq_true,Bool.true_and]
   refine hz _ fun v hv=>?_
   obtain ⟨i,hi,rfl⟩:=List.getElem_of_mem hv
   have hi:i < vs.size:=by simpa using hi
   obtain ⟨a,_,ha⟩:=CH i (by omega)
   rw [dN hi] at ha
   exact ⟨a,by simpa using Option.some.inj ha⟩
  simp [Instr.keyThatStays,this]
 | _=>cases d<;>simp [j3] at hx
theorem KV (c:Array Value) (h:c.size % 2=0) (a b:Value):ef ((c.push a).push b)=(ef c).push ⟨a,b,c.size / 2⟩:=by
 apply Array.ext
 ·simp [ef];omega
 ·intro i h1 h2
  have hs:i < (c.size+1+1) / 2:=by simpa [ef] using h1
  by_cases hi:i < c.size / 2
  ·rw [Array.getElem_push_lt (by rw [yB];exact hi)]
   have e1:2 * i < c.size:=by omega
   have e2:2 * i+1 < c.size:=by omega
   simp [ef,Array.getElem?_push,e1,e2,Nat.ne_of_lt e1,Nat.ne_of_lt e2,show ¬ 2 * i=c.size+1 by omega,show ¬ 2 * i+1=c.size+1 by omega]
  ·have:i=c.size / 2:=by omega
   subst this
   have e1:2 * (c.size / 2)=c.size:=by omega
   simp [ef,Array.getElem_push,Array.getElem?_push,e1]
theorem ME (c:Array Value) (j:Nat) (e:MapEntry) (he:(ef c)[j]?=some e) (v:Value):ef (c.setIfInBounds (2 * j+1) v)=(ef c).modify j fun q=>{ q with key:=e.key,val:=v }:=by
 have hj:j < c.size / 2:=by
  have:=(Array.getElem?_eq_some_iff.1 he).1
  rwa [yB] at this
 rw [MD c j hj] at he
 cases he
 apply Array.ext
 ·simp [ef]
 ·intro i h1 h2
  have hi:i < c.size / 2:=by simpa [ef] using h1
  rw [Array.getElem_modify]
  by_cases UD:j=i
  ·subst UD
   simp [ef,Array.getElem?_setIfInBounds,show ¬ 2 * j+1=2 * j by omega,show 2 * j+1 < c.size by omega]
  ·rw [if_neg UD]
   simp [ef,Array.getElem?_setIfInBounds,show ¬ 2 * j+1=2 * i by omega,show ¬ 2 * j=2 * i by omega,UD]
def vI (P:Program) (σ:du) (t:TypeId) (m x:AV) (ok:Bool) (orc:lZ):Option (List Prop×AV×List Nat) :=
 match m,P.underlying t with
 | .mp k,some (.map kt et)=>match P.underlying kt,au σ k,sH P et with
  | some d,some o,some z=>match j3 P d x && Nat.beq o.sz 0 with
   | true=>match ok with
    | false=>some ([(look P kt (o.get 0) x).map (fun r=>r.getD (ofConst z))=some orc.res],orc.res,[k])
    | true=>some ([(look P kt (o.get 0) x).map (fun r=>AV.tup [r.getD (ofConst z),.atom (.bool r.isSome)])=some orc.res],orc.res,[k])
   | false=>none
  | _,_,_=>none
 | _,_=>none
def vJ (P:Program) (σ:du) (t:TypeId) (m x y:AV) (orc:lZ):Option (List Prop×r7×List Nat) :=
 match m,P.underlying t,orc.res with
 | .mp k,some (.map kt _),.tup cs=>match P.underlying kt,au σ k with
  | some d,some o=>match j3 P d x && Nat.beq o.sz 0 && Nat.beq o.len 0 && y.pure with
   | true=>some ([AM P kt (o.get 0) x y=some cs],[(k,some ⟨o.var,o.sz,o.len,true,fun _=>cs⟩)],[k])
   | false=>none
  | _,_=>none
 | _,_,_=>none
theorem Iv (g:Good E σ S μ w) {k:Nat} {o:Ob} (ho:au σ k=some o) (hz:o.sz=0) {v:Value} (hv:aq w S μ v (.mp k)) :
  ∃ pl c T,μ k=some pl∧gy w S μ o pl c T∧v=.map (some pl.b6):=by
 obtain ⟨pl,c,T,hm,cE⟩:=g.rep.ob k o ho
 cases hv with
 | mp iJ fy=>rw [hm] at fy;cases fy;exact ⟨pl,c,T,hm,cE,rfl⟩
theorem Pz (g:Good E σ S μ w) {t:TypeId} {m x:AV} {ok:Bool} {orc:lZ} {vm vx:Value} (hm:aq w S μ vm m) (hx:aq w S μ vx x) {ps:List Prop} {val:AV} {rd:List Nat}
  (h:vI P σ t m x ok orc=some (ps,val,rd)) (hp:aW ps):∃ v,(Instr.lookup t vm vx ok).run P w=.ok v w∧aq w S μ v val:=by
 unfold vI at h
 split at h
 ·rename_i k kt et ht
  split at h
  ·rename_i d o z hd ho hz
   split at h
   ·rename_i hb
    simp only [aV] at hb
    have Oe:=bm hb.2
    obtain ⟨pl,c,T,qP,cE,rfl⟩:=Iv g ho Oe hm
    obtain ⟨hc,m1,m2,m3,m4⟩:=cE.mp Oe
    have KW:w.heap[pl.b6]?=some (.map (ef c) (c.size / 2)):=(cE.b6 hc).trans (by rw [wQ Oe])
    have Rb:=N8 m1 m2 m4
    have Rc:=fun b=>Iu hd hb.1 hx b
    have main:∀ r,look P kt (o.get 0) x=some r→∃ v,aq w S μ v (r.getD (ofConst z))∧(Instr.lookup t (.map (some pl.b6)) vx ok).run P w=.ok (if ok then .tuple #[v,.bool r.isSome] else v) w:=by
     intro r hr
     rcases Q9 hd hb.1 hx Rb hr with ⟨rfl,q⟩ | ⟨j,e,v,rfl,q1,q2⟩
     ·refine ⟨z,Ic w S μ z,?_⟩
      simp [Instr.lookup,run_underlying ht,Go.MapKept.run_getObj_map KW,Rc,q,Ie hz,Result.andThen]
     ·refine ⟨e.val,ig (pr:=true) q2,?_⟩
      simp [Instr.lookup,run_underlying ht,Go.MapKept.run_getObj_map KW,Rc,q1,Result.andThen]
    split at h
    ·simp only [az,ay] at h
     obtain ⟨rfl,rfl,rfl⟩:=h
     obtain ⟨ug,_⟩:=hp
     simp only [aJ] at ug
     obtain ⟨r,hr,eW⟩:=ug
     obtain ⟨v,h1,h2⟩:=main r hr
     exact ⟨v,by simpa using h2,by rw [← eW];exact h1⟩
    ·simp only [az,ay] at h
     obtain ⟨rfl,rfl,rfl⟩:=h
     obtain ⟨ug,_⟩:=hp
     simp only [aJ] at ug
     obtain ⟨r,hr,eW⟩:=ug
     obtain ⟨v,h1,h2⟩:=main r hr
     refine ⟨.tuple #[v,.bool r.isSome],by simpa using h2,?_⟩
     rw [← eW]
     refine .tup rfl fun j c v' hc hv=>?_
     match j with
     | 0=>simp at hc hv;subst hc hv;exact h1
     | 1=>simp at hc hv;subst hc hv;exact .atom _
     | j+2=>simp at hc
   ·cases h
  ·cases h
 ·cases h
theorem Iw (g:Good E σ S μ w) {t:TypeId} {m x y:AV} {orc:lZ} {vm vx vy:Value} (hm:aq w S μ vm m) (hx:aq w S μ vx x) (hy:aq w S μ vy y) {ps:List Prop} {upd:r7} {rd:List Nat}
  (h:vJ P σ t m x y orc=some (ps,upd,rd)) (hp:aW ps):∃ w',(Instr.mapUpdate t vm vx vy).run P w=.ok () w'∧Ext w S μ w' S μ∧Good E (eX σ upd) S μ w':=by
 unfold vJ at h
 split at h
 ·rename_i k kt et cs ht KP
  split at h
  ·rename_i d o hd ho
   split at h
   ·rename_i hb
    simp only [az,ay] at h
    obtain ⟨rfl,rfl,rfl⟩:=h
    simp only [aV] at hb
    obtain ⟨⟨⟨nM,lP⟩,Qp⟩,Uj⟩:=hb
    have Oe:=bm lP
    have KG:=bm Qp
    obtain ⟨ug,_⟩:=hp
    obtain ⟨pl,c,T,qP,cE,rfl⟩:=Iv g ho Oe hm
    obtain ⟨hc,m1,m2,m3,m4⟩:=cE.mp Oe
    have KW:w.heap[pl.b6]?=some (.map (ef c) (c.size / 2)):=(cE.b6 hc).trans (by rw [wQ Oe])
    have Rb:=N8 m1 m2 m4
    have Rc:=fun b=>Iu hd nM hx b
    have Zx:=Py nM hx
    have hxp:x.pure=true:=Ra nM
    -- the block that is written
    have fin:∀ (c':Array Value),c'.size % 2=0→c'.size=cs.length→(∀ (j:Nat) x v,cs[j]?=some x→c'[j]?=some v→aq w S fV v x) →
      (Instr.mapUpdate t (.map (some pl.b6)) vx vy).run P w=.ok () { w with heap:=w.heap.setIfInBounds pl.b6 (.map (ef c') (c'.size / 2)) } →
      ∃ w',(Instr.mapUpdate t (.map (some pl.b6)) vx vy).run P w=.ok () w'∧Ext w S μ w' S μ∧Good E (eX σ [(k,some ⟨o.var,o.sz,o.len,true,fun _=>cs⟩)]) S μ w':=by
     intro c' e1 e2 e3 jc
     refine ⟨_,jc,?_⟩
     have CS:=heap_set (o':=.map (ef c') (c'.size / 2)) KW
     refine g.Uc (w':={ w with heap:=w.heap.setIfInBounds pl.b6 (.map (ef c') (c'.size / 2)) }) ho qP hc cE rfl rfl rfl (by simp) (fun b hb=>CS.2 b hb) ⟨o.var,o.sz,o.len,true,fun _=>cs⟩ (pT fun i hi=>absurd hi (by show ¬ i < o.len;omega)) (fun ex=>⟨c',T,cE.sz,fun _=>?_,?_,by show o.len≤pl.cap;omega,cE.out,fun i hi=>absurd hi (by show ¬ i < o.len;omega),fun i j x v hi=>absurd hi (by show ¬ i < o.len;omega),fun _=>⟨hc,e1,e2,rfl,fun j x v hx hv=>(e3 j x v hx hv).mono ex.Fk ex.b6 (fun _ _ h=>h)⟩⟩)
     ·show _=some (AE o.sz c' T)
      rw [wQ Oe];exact CS.1
     ·show pl.cap * o.sz≤_
      rw [Oe];simp
    rcases UC hd nM hx (y:=y) Rb ug with ⟨q1,q2⟩ | ⟨j,e,q1,q2,q3,q4⟩
    ·refine fin ((c.push vx).push vy) (by simp;omega) (by rw [q2];simp;omega) ?_ ?_
     ·intro j x' v' sG oJ
      rw [q2] at sG
      by_cases hj:j < c.size
      ·rw [eE (by omega)] at sG
       rw [Array.getElem?_push,if_neg (by simp;omega),Array.getElem?_push,if_neg (by omega)] at oJ
       exact m4 j x' v' sG oJ
      ·rw [gF (by omega)] at sG
       by_cases hj0:j=c.size
       ·subst hj0
        rw [show c.size - (o.get 0).length=0 by omega] at sG
        rw [Array.getElem?_push,if_neg (by simp),Array.getElem?_push,if_pos rfl] at oJ
        simp at sG oJ
        subst sG oJ
        exact hx.pure hxp fV
       ·by_cases hj1:j=c.size+1
        ·subst hj1
         rw [show c.size+1 - (o.get 0).length=1 by omega] at sG
         rw [Array.getElem?_push,if_pos (by simp)] at oJ
         simp at sG oJ
         subst sG oJ
         exact hy.pure Uj fV
        ·rw [oE (by simp;omega)] at sG;cases sG
     ·rw [KV c m1]
      have e:((c.push vx).push vy).size / 2=c.size / 2+1:=by simp;omega
      rw [e]
      simp [Instr.mapUpdate,run_underlying ht,Go.MapKept.run_getObj_map KW,Rc,q1,Go.MapKept.run_setObj_map _ KW,Result.andThen]
    ·have TV:(ef c)[j]?=some e:=by simpa using q2
     have hj:j < c.size / 2:=by
      have:=(Array.getElem?_eq_some_iff.1 TV).1
      rwa [yB] at this
     refine fin (c.setIfInBounds (2 * j+1) vy) (by simpa using m1) (by rw [q4];simpa using m2) ?_ ?_
     ·intro i x' v' sG oJ
      rw [q4,List.getElem?_set] at sG
      rw [Array.getElem?_setIfInBounds] at oJ
      by_cases hi:2 * j+1=i
      ·subst hi
       rw [if_pos rfl,if_pos (by omega)] at sG
       rw [if_pos rfl,if_pos (by omega)] at oJ
       simp at sG oJ
       subst sG oJ
       exact hy.pure Uj fV
      ·rw [if_neg hi] at sG oJ
       exact m4 i x' v' sG oJ
     ·rw [ME c j e TV vy]
      simp [Instr.mapUpdate,run_underlying ht,Go.MapKept.run_getObj_map KW,Rc,q1,TV,q3,Zx,Go.MapKept.run_setObj_map _ KW,Result.andThen]
   ·cases h
  ·cases h
 ·cases h
theorem MF (g:Good E σ S μ w) (Ad:∀ j,j < 16→μ (nk+j)=none) (oc:E.m0≤nk) {f:AV} {args:List AV} {orc:lZ} {r:R} {fv:Value} (hf:aq w S μ fv f) {vargs:Array Value} (ha:RL w S μ vargs args)
  (hz:orc.wY=true→∀ b,¬ E.fp b) (h:FB P nk σ f args orc=some r) (hp:aW r.HA) :
  ∃ gid vs,(do let d ← Deferred.ofValue fv vargs;invoke d.target d.args:Sem Next).run P w=.ok (.enter gid vs) w ∧
   Calls P gid vs w fun e w'=>∃ v S' cD,e=.returned v∧Ext w S μ w' S' cD∧Good E (eX σ r.upd) S' cD w'∧(∀ k,(k < nk∨nk+16≤k)→μ k=none→cD k=none)∧aq w' S' cD v r.val :=
 DZ (ob:=Sound P) g Ad oc hf ha hz (fun _ _ _ _ _ _ vs hs g0 hn qE=>hs w _ _ vs g0 hn qE) h hp
end
end Go.Ab
