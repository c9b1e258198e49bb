/- Abstract values over the heap of the machine, and functions read off its code (part 5). No conditions. -/
import Derived.Test.YtkejjbiabpdhjaaGreatCd
import Derived.Maps.RangeRun
set_option linter.unusedVariables false
set_option linter.unusedSimpArgs false
namespace Go.Ab
inductive adX (w:World) (S:Nat->Prop) {α β:Type} (cK:α->AV) (cV:β->AV):List MapEntry->List (α×β)->Prop where
 | nil:adX w S cK cV [] []
 | cons {e:MapEntry} {x:α×β} {es:List MapEntry} {xs:List (α×β)}:aE w S lI e.key (cK x.1)->aE w S lI e.val (cV x.2)->adX w S cK cV es xs->adX w S cK cV (e :: es) (x :: xs)
section
variable {α β:Type} {cK:α->AV} {cV:β->AV}
structure ItE (E0 E:Env) (I:Nat) (cK:α->AV) (cV:β->AV) (cur:Option (α×β)) (rem:List (α×β)):Prop where
 back:∀ σ S μ w,Good E σ S μ w->Good E0 σ S μ w
 m0:E0.m0<=E.m0
 new:E0.w0.heap.size<=I
 st:∀ b,E.S0 b->¬ E.fp b
 stl:∀ b,E.S0 b->b < E.w0.heap.size
 fi:¬ E.fp I
 ex:∃ M since seen last es clock,E.w0.heap[I]?=some (.mapIter (some M) since seen last)/\E.w0.heap[M]?=some (.map es clock)/\¬ E.fp M/\(∀ x∈es.toList,x.born < since)/\since<=last/\since<=clock /\
  (es.toList.map (·.born)).Nodup/\adX E.w0 E.S0 cK cV (leftOf es seen).toList rem /\
  ∀ x,cur=some x->∃ (e:MapEntry) (asu:Array Nat),e∈es.toList/\seen=asu.push e.born/\last=clock/\aE E.w0 E.S0 lI e.key (cK x.1)/\aE E.w0 E.S0 lI e.val (cV x.2)
section
variable {P:Program}
inductive amP (ops:Array Oper):Nat->Array Bool->List Nat->Prop where
 | zero {cX:Array Bool}:amP ops 0 cX []
 | stop {n:Nat} {cX:Array Bool}:Region.ready .any ops cX=[]->amP ops (n+1) cX []
 | step {n:Nat} {cX:Array Bool} {i:Nat} {l:List Nat}:i∈Region.ready .any ops cX->amP ops n (cX.setIfInBounds i true) l->amP ops (n+1) cX (i :: l)
section
variable {ops:Array Oper} {perm:List Nat} {x:Nat×Nat}
end
end
section
variable {P:Program} {E E0:Env} {fn:FuncId} {nt m:Nat} {k:List Item} {st:St} {gV:gp} {res:AV}
end
end
section
variable {P:Program} {E E0:Env} {fn:FuncId} {nt m:Nat} {k:List Item} {st:St} {gV:gp} {res:AV} {α β:Type} {cK:α->AV} {cV:β->AV}
end
def asv (a b:Nat->List AV):Nat->Prop
 | 0=>True
 | n+1=>asv a b n/\Uf (a n) (b n)
theorem upN {a b:Nat->List AV}:{n:Nat}->asv a b n->∀ i,i < n->Uf (a i) (b i)
 | 0,_,_,h=>absurd h (iq _)
 | n+1,h,i,hi=>if e:i=n then e ▸ h.2 else upN h.1 i (Nat.lt_of_le_of_ne (Nat.le_of_lt_succ hi) e)
theorem Alike.slU {n m:Nat} {g d:Nat->List AV} (k:n=m) (e:∀ i,i < m->Uf (g i) (d i)):Alike (.sl n g) (.sl m d):=by
 subst k;intro w S μ v h;cases h with
 | sl b off sz f l o p q r =>
  refine .sl b off sz f l (fun i hi=>(Uf.len (e i hi)).trans (o i hi)) p (fun i j c hi s=>?_) r;obtain ⟨a,t,u⟩:=Uf.get (e i hi) s;have h:=q i j a hi t;rcases u with rfl | ⟨rfl,f',rfl⟩
  ·exact h
  ·exact Alike.nil _ _ _ _ h
end Go.Ab
