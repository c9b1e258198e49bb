/- Abstract values over the heap of the machine, and functions read off its code (part 3). No conditions. -/
import Derived.Test.YtlgddcmiekcdiaaGreatCb
import Derived.OrdersIn
import Derived.RangeFuncSeq
set_option linter.unusedVariables false
set_option linter.unusedSimpArgs false
namespace Go.Ab
def cW:List (Nat×AV)→Nat→AV
 | [],_=>.k6
 | (k,x) :: r,n=>match Nat.beq k n with
  | true=>x
  | false=>cW r n
def vd (tm:List (Nat×AV)):Operand→AV
 | .tmp t=>cW tm t
 | .const v=>ofConst v
 | .global g=>.atom (.pointer (some ⟨g,0,none⟩))
 | .func f=>.fn (.func f) [] []
def conds (e:Operand→AV):List Operand→List Prop
 | []=>[]
 | x :: r=>(e x).strip.2 ++ conds e r
def KH (b:Bool):List Prop→List Prop
 | []=>[]
 | p :: ps=>[b=true→aV (p :: ps)]
def KI (mx:Bool) (x y:AV):Option AV :=
 match x,y with
 | .atom (.int k a),.atom (.int k' b)=>match decide (k=k') with
  | true=>some (.atom (.int k (match mx with
   | true=>if b > a then b else a
   | false=>if b < a then b else a)))
  | false=>none
 | _,_=>none
def zs (mx:Bool):AV→List AV→Option AV
 | a,[]=>some a
 | a,b :: r=>match KI mx a b with
  | some v=>zs mx v r
  | none=>none
def o5 (ps:List Prop) (x:Option AV):Option R:=x.map fun v=>⟨ps,v,[],[]⟩
def O6 (l:List Nat) (k:Nat):Bool:=l.any fun x=>Nat.beq x k
def wc (P:Program) (nk:Nat) (σ:cz) (e:Operand→AV) (b:Builtin) (args:List Operand) (Eb:List TypeId):Option R :=
 let s:=fun x=>(e x).strip.1
 let c:=fun xs=>conds e xs
 match b,args,Eb with
 | .len,[x],[t]=>o5 (c [x]) (Km P t (s x))
 | .append,[x,y],[t,t']=>match Nat.beq t t' with
  | true=>(ot P nk σ t (s x) (s y)).map fun (ps,v,rd,u)=>⟨c [x,y] ++ ps,v,rd,u⟩
  | false=>none
 | .min,x :: r,_=>o5 (c (x :: r)) (zs false (s x) (r.map s))
 | .max,x :: r,_=>o5 (c (x :: r)) (zs true (s x) (r.map s))
 | _,_,_=>none
def cV (P:Program) (nk:Nat) (σ:cz) (op:Op) (e:Operand→AV) (aY:Option l8):Option R :=
 let s:=fun x=>(e x).strip.1
 let c:=fun xs=>conds e xs
 match op with
 | .move x | .assign x=>some ⟨[],e x,[],[]⟩
 | .pick q a b=>match s q,s a,s b with
  | .atom (.bool qb),.atom (.bool x),.atom (.bool y) =>
   some ⟨(e q).strip.2 ++ (KH qb (e a).strip.2 ++ KH (!qb) (e b).strip.2),.atom (.bool (cond qb x y)),[],[]⟩
  | _,_,_=>none
 | .alloc T=>(EK P nk T).map fun (v,u)=>⟨[],v,[],u⟩
 | .box _ x=>(Kc nk (s x)).map fun (v,u)=>⟨c [x],v,[],u⟩
 | .build t parts=>o5 (c (parts.toList.map (·.2))) (EL P t (parts.toList.map fun (i,x)=>(i,s x)))
 | .buildSlice t len parts=>match Nat.beq len 0 && !parts.toList.isEmpty with
  | true=>none
  | false=>(ti P nk t len (parts.toList.map fun (i,x)=>(i,s x))).map fun (v,u)=>⟨c (parts.toList.map (·.2)),v,[],u⟩
 | .load T a=>(uW P σ T (s a)).map fun (ps,v,rd)=>⟨c [a] ++ ps,v,rd,[]⟩
 | .store T a x=>(vZ P σ T (s a) (s x)).map fun (ps,u,rd)=>⟨c [a,x] ++ ps,.k6,rd,u⟩
 | .nilCheck x=>match s x with
  | .op k i j=>some ⟨c [x],.op k i j,[],[]⟩
  | .rp cs j=>some ⟨c [x],.rp cs j,[],[]⟩
  | .pt b cs=>some ⟨c [x] ++ [b=true],.rp cs 0,[],[]⟩
  | _=>none
 | .binOp o t x y _=>(Ka P o t (s x) (s y)).map fun (ps,v)=>⟨c [x,y] ++ ps,v,[],[]⟩
 | .unOp o _ x=>o5 (c [x]) (OI o (s x))
 | .convert src dst x=>match Hk P src dst (s x) with
  | some v=>some ⟨c [x],v,[],[]⟩
  | none=>(v8 P σ src dst (s x)).map fun (ps,v,rd)=>⟨c [x] ++ ps,v,rd,[]⟩
 | .makeMap _ none=>some ⟨[],.mp nk,[],[(nk,some ⟨false,0,0,true,fun _=>[]⟩)]⟩
 | .lookup t m x ok=>match aY with
  | some o=>(se P σ t (s m) (s x) ok o).map fun (ps,v,rd)=>⟨c [m,x] ++ ps,v,rd,[]⟩
  | none=>none
 | .mapUpdate t m x y | .insert t m x y=>match aY with
  | some o=>(sf P σ t (s m) (s x) (s y) o).map fun (ps,u,rd)=>⟨c [m,x,y] ++ ps,.k6,rd,u⟩
  | none=>none
 | .makeFunc f first cap=>some ⟨c (first.toList ++ cap.toList),.fn f (first.toList.map s) (cap.toList.map s),[],[]⟩
 | .makeSlice t l m=>(Hm P nk t (s l) (s m)).map fun (ps,v,u)=>⟨c [l,m] ++ ps,v,[],u⟩
 | .slice t x lo hi none=>(v3 P σ t (s x) (lo.map s) (hi.map s)).map fun (ps,v,rd)=>⟨c (x :: (lo.toList ++ hi.toList)) ++ ps,v,rd,[]⟩
 | .fieldAddr T x f=>o5 (c [x]) (uY P T (s x) f)
 | .field T x f=>o5 (c [x]) (EP P T (s x) f)
 | .indexAddr T x i=>(mS P σ T (s x) (s i)).map fun (ps,v,rd)=>⟨c [x,i] ++ ps,v,rd,[]⟩
 | .index T x i=>(ES P T (s x) (s i)).map fun (ps,v)=>⟨c [x,i] ++ ps,v,[],[]⟩
 | .extract x i=>match s x with
  | .tup cs=>o5 (c [x]) cs[i]?
  | _=>none
 | .call ⟨.value f,args,_⟩=>match aY with
  | some o=>(B1 P nk σ (s f) (args.toList.map s) o).map fun r=>{ r with D2:=r.D2 ++ c (f :: args.toList) }
  | none=>none
 | .call ⟨.builtin b,args,Eb⟩=>wc P nk σ e b args.toList Eb.toList
 | _=>none
section
variable {P:Program} {E:Env} {nk:Nat} {σ:cz} {S:Nat→Prop} {μ:Mu} {w:World}
theorem we {e:Operand→AV}:∀ {xs:List Operand},aV (conds e xs)→∀ x∈xs,aV (e x).strip.2
 | [],_,x,hx=>by simp at hx
 | y :: r,h,x,hx=>by
  obtain ⟨h1,h2⟩:=aV.app h
  rcases jW.1 hx with rfl | hx
  ·exact h1
  ·exact we h2 x hx
theorem Ec {b:Bool} {ps:List Prop} (h:aV (KH b ps)) (hb:b=true):aV ps:=by
 cases ps with
 | nil=>trivial
 | cons p ps=>exact h.1 hb
theorem Hv {mx:Bool} {ρ:Operand→Value} {e:Operand→AV}:∀ (l:List Operand) (va:Value) (a r:AV),an w S μ va a→(∀ x∈l,an w S μ (ρ x) ((e x).strip.1)) →
  zs mx a (l.map fun x=>(e x).strip.1)=some r→∃ z,((l.map ρ).foldlM (match mx with | true=>Builtin.max2 | false=>Builtin.min2) va:Sem Value).run P w=.ok z w∧an w S μ z r
 | [],va,a,r,ha,_,h=>by
  simp only [List.map_nil,zs,aA] at h
  simp_all
 | x :: l,va,a,r,ha,hl,h=>by
  simp only [List.map_cons,zs] at h
  split at h
  ·rename_i v hv
   have hx:=hl x (by simp)
   obtain ⟨u,h1,h2⟩:∃ u,((match mx with | true=>Builtin.max2 | false=>Builtin.min2) va (ρ x):Sem Value).run P w=.ok u w∧an w S μ u v:=by
    unfold KI at hv
    split at hv
    ·rename_i k p k' q hp hq
     rw [hq] at hx
     have e2:=b8 hx
     have e1:=b8 ha
     split at hv
     ·cases hv
      cases mx with
      | true=>exact ⟨_,by simp [e1,e2,Builtin.max2],.atom _⟩
      | false=>exact ⟨_,by simp [e1,e2,Builtin.min2],.atom _⟩
     ·cases hv
    ·cases hv
   obtain ⟨z,h3,h4⟩:=Hv l u v r h2 (fun y hy=>hl y (by simp [hy])) h
   simp_all
  ·cases h
theorem ML {v:Value} {b:Bool} {cs:List AV} (h:an w S μ v (.pt b cs)) (hb:b=true):an w S μ v (.rp cs 0):=by
 cases h with
 | pt h1 _=>exact h1 hb
def KJ (E:Env) (nk:Nat) (σ:cz) (S:Nat→Prop) (μ:Mu) (w:World) (r:R) (K:Value→World→Prop):Prop :=
 ∀ v w' S' cu,Ext w S μ w' S' cu→Good E (dL σ r.ko) S' cu w'→(∀ k,(k < nk∨nk+16≤k)→μ k=none→cu k=none)→an w' S' cu v r.val→K v w'
theorem Ed {ρ:Operand→Value} {e:Operand→AV} {parts:Array (Nat×Operand)} (he:∀ x∈(parts.toList.map (·.2)),an w S μ (ρ x) ((e x).strip.1)) :
  (parts.map fun (i,x)=>(i,ρ x)).toList.map (·.1)=(parts.toList.map fun (i,x)=>(i,(e x).strip.1)).map (·.1) ∧
  ∀ (j:Nat) x y,(parts.toList.map fun (i,x)=>(i,(e x).strip.1))[j]?=some x→(parts.map fun (i,x)=>(i,ρ x)).toList[j]?=some y→an w S μ y.2 x.2:=by
 refine ⟨by simp,?_⟩
 grind
theorem B6 {ρ:Operand→Value} {e:Operand→AV} {xs:Array Operand} (he:∀ x∈xs.toList,an w S μ (ρ x) ((e x).strip.1)) :
  RL w S μ (xs.map ρ) (xs.toList.map fun x=>(e x).strip.1):=by
 refine ⟨by simp,?_⟩
 grind
theorem Gi {o:Oper} {a:Act} {e:Operand→AV} {aY:Option l8} {r:R} {next:Act→World→Prop} {Q:Exit→Act→World→Prop}
  (he:∀ x∈o.op.operands.toList,an w S μ (a.eval x) (e x)) (g:Good E σ S μ w) (xl:∀ j,j < 16→μ (nk+j)=none) (hm:E.m0≤nk)
  (hz:∀ x,aY=some x→x.uB=true→∀ b,¬ E.fp b) (h:cV P nk σ o.op e aY=some r) (hp:aV r.D2) (hK:KJ E nk σ S μ w r fun v w'=>next (a.put o.dst v) w'):o.wp P a w next Q:=by
 have hk:μ nk=none:=xl 0 (by omega)
 -- a value without a change
 have pv:∀ (s:Sem Value),execOp a.eval o=(do pure (.value (← s)):Sem Next)→r.ko=[]→(∃ v,s.run P w=.ok v w∧an w S μ v r.val)→o.wp P a w next Q:=by
  rintro s hs hu ⟨v,h1,h2⟩
  unfold Oper.wp
  rw [hs]
  simp only [bc,h1,b7,Sem.run_pure]
  exact hK v w S μ (Ext.refl _ _ _) (by rw [hu];exact g) (fun _ _ h=>h) h2
 have P8:∀ (v:Value),execOp a.eval o=pure (.value v)→r.ko=[]→an w S μ v r.val→o.wp P a w next Q:=by
  intro v hs hu h2
  unfold Oper.wp
  rw [hs]
  exact hK v w S μ (Ext.refl _ _ _) (by rw [hu];exact g) (fun _ _ h=>h) h2
 have sv:∀ (s:Sem Value),execOp a.eval o=(do pure (.value (← s)):Sem Next)→Step P E nk σ S μ w s r.val r.ko→o.wp P a w next Q:=by
  rintro s hs ⟨v,w',S',cu,h1,h2,h3,h4,h5⟩
  unfold Oper.wp
  rw [hs]
  simp only [bc,h1,b7,Sem.run_pure]
  exact hK v w' S' cu h2 h3 (fun k mE=>h4 k (by omega)) h5
 have st:∀ (xs:List Operand),aV (conds e xs)→(∀ x∈xs,x∈o.op.operands.toList)→∀ x∈xs,an w S μ (a.eval x) ((e x).strip.1) :=
  fun xs h1 h2 x hx=>(he x (h2 x hx)).strip (we h1 x hx)
 obtain ⟨dst,op,ty,pos,after,guard⟩:=o
 simp only at he h hK pv P8 sv st ⊢
 cases op with
 | move x =>
  simp only [cV,aA] at h;subst h
  exact P8 (a.eval x) rfl rfl (he x (by simp [Op.operands]))
 | assign x =>
  simp only [cV,aA] at h;subst h
  exact P8 (a.eval x) rfl rfl (he x (by simp [Op.operands]))
 | pick q x y =>
  simp only [cV] at h
  split at h
  ·rename_i qb xb yb hq hx hy
   cases h
   obtain ⟨p1,p2⟩:=aV.app hp
   obtain ⟨p2,p3⟩:=aV.app p2
   have e1:=(he q (by simp [Op.operands])).strip p1
   rw [hq] at e1
   have e1:=b8 e1
   refine pv (do pure (if ← asBool (a.eval q) then a.eval x else a.eval y)) (by simp [execOp]) rfl ?_
   cases qb with
   | true =>
    have e2:=(he x (by simp [Op.operands])).strip (Ec p2 rfl)
    simp_all [asBool]
   | false =>
    have e2:=(he y (by simp [Op.operands])).strip (Ec p3 rfl)
    simp_all [asBool]
  ·cases h
 | alloc T =>
  simp only [cV,aE] at h
  obtain ⟨⟨v,u⟩,h1,rfl⟩:=h
  exact sv _ rfl (Kb g hk hm h1)
 | box T x =>
  simp only [cV,aE] at h
  obtain ⟨⟨v,u⟩,h1,rfl⟩:=h
  exact sv _ rfl (OJ g hk hm (st [x] hp (by simp [Op.operands]) x (by simp)) h1)
 | build t parts =>
  simp only [cV,o5,aE] at h
  obtain ⟨v,h1,rfl⟩:=h
  have Hc:=Ed (st _ hp (by simp [Op.operands]))
  exact pv _ rfl rfl (Ke Hc.1 Hc.2 h1)
 | buildSlice t len parts =>
  simp only [cV] at h
  split at h
  ·cases h
  ·rename_i F0
   simp only [aE] at h
   obtain ⟨⟨v,u⟩,h1,rfl⟩:=h
   have Hc:=Ed (st _ hp (by simp [Op.operands]))
   refine sv _ rfl (Ds g hk hm Hc.1 Hc.2 h1 ?_)
   intro hz
   subst hz
   simp only [Bool.and_eq_false_iff] at F0
   rcases F0 with h0 | h0
   ·simp at h0
   ·simp only [Bool.not_eq_false',List.isEmpty_iff] at h0
    simp [h0]
 | load T x =>
  simp only [cV,aE] at h
  obtain ⟨⟨ps,v,rd⟩,h1,rfl⟩:=h
  obtain ⟨p1,p2⟩:=aV.app hp
  exact pv _ rfl rfl (EM g (st [x] p1 (by simp [Op.operands]) x (by simp)) h1 p2)
 | store T x y =>
  simp only [cV,aE] at h
  obtain ⟨⟨ps,u,rd⟩,h1,rfl⟩:=h
  obtain ⟨p1,p2⟩:=aV.app hp
  have s:=st [x,y] p1 (by simp [Op.operands])
  obtain ⟨w',r1,r2,r3⟩:=Ki g (s x (by simp)) (s y (by simp)) h1 p2
  unfold Oper.wp
  have ex:execOp a.eval ⟨dst,.store T x y,ty,pos,after,guard⟩=(do Instr.storeAt T (a.eval x) (a.eval y);pure .skip:Sem Next):=rfl
  rw [ex]
  simp only [bc,r1,b7,Sem.run_pure]
  exact hK undef w' S μ r2 r3 (fun _ _ h=>h) .k6
 | nilCheck x =>
  simp only [cV] at h
  split at h
  ·rename_i k i j hx
   cases h
   have e1:=st [x] hp (by simp [Op.operands]) x (by simp)
   rw [hx] at e1
   cases hv:a.eval x with
   | pointer q =>
    rw [hv] at e1
    cases q with
    | none=>cases e1
    | some q=>exact P8 (.pointer (some q)) (by simp [execOp,hv]) rfl e1
   | _=>rw [hv] at e1;cases e1
  ·rename_i cs j hx
   cases h
   have e1:=st [x] hp (by simp [Op.operands]) x (by simp)
   rw [hx] at e1
   cases hv:a.eval x with
   | pointer q =>
    rw [hv] at e1
    cases q with
    | none=>cases e1
    | some q=>exact P8 (.pointer (some q)) (by simp [execOp,hv]) rfl e1
   | _=>rw [hv] at e1;cases e1
  ·rename_i b cs hx
   cases h
   obtain ⟨hp,hb,_⟩:=aV.app hp
   have e1:=st [x] hp (by simp [Op.operands]) x (by simp)
   rw [hx] at e1
   have e1:=ML e1 hb
   cases hv:a.eval x with
   | pointer q =>
    rw [hv] at e1
    cases q with
    | none=>cases e1
    | some q=>exact P8 (.pointer (some q)) (by simp [execOp,hv]) rfl e1
   | _=>rw [hv] at e1;cases e1
  ·cases h
 | binOp o' t x y yt =>
  simp only [cV,aE] at h
  obtain ⟨⟨ps,v⟩,h1,rfl⟩:=h
  obtain ⟨p1,p2⟩:=aV.app hp
  have s:=st [x,y] p1 (by simp [Op.operands])
  exact pv (do eqGuard o' t x y (a.eval x) (a.eval y);binOp o' t (a.eval x) (a.eval y)) rfl rfl (OG (s x (by simp)) (s y (by simp)) h1 p2)
 | unOp o' t x =>
  simp only [cV,o5,aE] at h
  obtain ⟨v,h1,rfl⟩:=h
  exact pv _ rfl rfl (Qs (st [x] hp (by simp [Op.operands]) x (by simp)) h1)
 | convert src dt x =>
  simp only [cV] at h
  split at h
  ·rename_i v h1
   cases h
   exact pv _ rfl rfl (Ml (st [x] hp (by simp [Op.operands]) x (by simp)) h1)
  ·simp only [aE] at h
   obtain ⟨⟨ps,v,rd⟩,h1,rfl⟩:=h
   obtain ⟨p1,p2⟩:=aV.app hp
   exact sv _ rfl (KC g (st [x] p1 (by simp [Op.operands]) x (by simp)) h1 p2)
 | makeMap t hint =>
  cases hint with
  | some _=>simp [cV] at h
  | none =>
   simp only [cV,aA] at h;subst h
   have ga:=g.allocMap hk hm
   refine sv (Instr.makeMap t none) rfl ⟨_,_,_,_,Go.RowKit.run_makeMap t w,ga.1,ga.2,fun k mE hn=>by rw [k9 _ mE];exact hn,?_⟩
   exact an.mp (μ:=bz μ nk ⟨w.heap.size,1,0⟩) ⟨w.heap.size,1,0⟩ (by simp [bz])
 | lookup t m x ok =>
  simp only [cV] at h
  split at h
  ·simp only [aE] at h
   obtain ⟨⟨ps,v,rd⟩,h1,rfl⟩:=h
   obtain ⟨p1,p2⟩:=aV.app hp
   have s:=st [m,x] p1 (by simp [Op.operands])
   exact pv _ rfl rfl (Jv g (s m (by simp)) (s x (by simp)) h1 p2)
  ·cases h
 | mapUpdate t m x y =>
  simp only [cV] at h
  split at h
  ·simp only [aE] at h
   obtain ⟨⟨ps,u,rd⟩,h1,rfl⟩:=h
   obtain ⟨p1,p2⟩:=aV.app hp
   have s:=st [m,x,y] p1 (by simp [Op.operands])
   obtain ⟨w',r1,r2,r3⟩:=Ea g (s m (by simp)) (s x (by simp)) (s y (by simp)) h1 p2
   unfold Oper.wp
   have ex:execOp a.eval ⟨dst,.mapUpdate t m x y,ty,pos,after,guard⟩=(do Instr.mapUpdate t (a.eval m) (a.eval x) (a.eval y);pure .skip:Sem Next):=rfl
   rw [ex]
   simp only [bc,r1,b7,Sem.run_pure]
   exact hK undef w' S μ r2 r3 (fun _ _ h=>h) .k6
  ·cases h
 | insert t m x y =>
  simp only [cV] at h
  split at h
  ·simp only [aE] at h
   obtain ⟨⟨ps,u,rd⟩,h1,rfl⟩:=h
   obtain ⟨p1,p2⟩:=aV.app hp
   have s:=st [m,x,y] p1 (by simp [Op.operands])
   obtain ⟨w',r1,r2,r3⟩:=Ea g (s m (by simp)) (s x (by simp)) (s y (by simp)) h1 p2
   unfold Oper.wp
   have ex:execOp a.eval ⟨dst,.insert t m x y,ty,pos,after,guard⟩=(do Instr.mapUpdate t (a.eval m) (a.eval x) (a.eval y);pure .skip:Sem Next):=rfl
   rw [ex]
   simp only [bc,r1,b7,Sem.run_pure]
   exact hK undef w' S μ r2 r3 (fun _ _ h=>h) .k6
  ·cases h
 | makeFunc f first cap =>
  simp only [cV,aA] at h;subst h
  have s:=st (first.toList ++ cap.toList) hp (by simp [Op.operands])
  have l1:=B6 (xs:=first) (fun x hx=>s x (by simp only [List.mem_append];exact .inl hx))
  have l2:=B6 (xs:=cap) (fun x hx=>s x (by simp only [List.mem_append];exact .inr hx))
  exact pv _ rfl rfl ⟨_,by simp [Instr.makeFunc],.fn l1.1 l2.1 l1.2 l2.2⟩
 | makeSlice t x y =>
  simp only [cV,aE] at h
  obtain ⟨⟨ps,v,u⟩,h1,rfl⟩:=h
  obtain ⟨p1,p2⟩:=aV.app hp
  have s:=st [x,y] p1 (by simp [Op.operands])
  exact sv _ rfl (Mo g hk hm (s x (by simp)) (s y (by simp)) h1 p2)
 | slice t x lo hi mx =>
  cases mx with
  | some _=>simp [cV] at h
  | none =>
   simp only [cV,aE] at h
   obtain ⟨⟨ps,v,rd⟩,h1,rfl⟩:=h
   obtain ⟨p1,p2⟩:=aV.app hp
   have s:=st (x :: (lo.toList ++ hi.toList)) p1 (by
    intro y hy
    simp only [jW,List.mem_append,Option.mem_toList] at hy
    simp only [Op.operands]
    rcases hy with rfl | hy | hy
    ·simp
    ·simp [hy]
    ·simp [hy])
   refine pv (Instr.sliceAt t (a.eval x) (lo.map a.eval) (hi.map a.eval) none) rfl rfl (Kl g (s x (by simp)) ?_ ?_ h1 p2)
   ·refine ⟨by simp,?_⟩
    intro p q qL hq
    simp only [aE] at qL hq
    obtain ⟨y,hy,rfl⟩:=qL
    obtain ⟨z,hz,rfl⟩:=hq
    rw [hy] at hz;cases hz
    exact s y (by simp [hy])
   ·refine ⟨by simp,?_⟩
    intro p q qL hq
    simp only [aE] at qL hq
    obtain ⟨y,hy,rfl⟩:=qL
    obtain ⟨z,hz,rfl⟩:=hq
    rw [hy] at hz;cases hz
    exact s y (by simp [hy])
 | fieldAddr T x f =>
  simp only [cV,o5,aE] at h
  obtain ⟨v,h1,rfl⟩:=h
  exact pv _ rfl rfl (EO (st [x] hp (by simp [Op.operands]) x (by simp)) h1)
 | field T x f =>
  simp only [cV,o5,aE] at h
  obtain ⟨v,h1,rfl⟩:=h
  exact pv _ rfl rfl (Kj (st [x] hp (by simp [Op.operands]) x (by simp)) h1)
 | indexAddr T x i =>
  simp only [cV,aE] at h
  obtain ⟨⟨ps,v,rd⟩,h1,rfl⟩:=h
  obtain ⟨p1,p2⟩:=aV.app hp
  have s:=st [x,i] p1 (by simp [Op.operands])
  exact pv _ rfl rfl (ER g (s x (by simp)) (s i (by simp)) h1 p2)
 | index T x i =>
  simp only [cV,aE] at h
  obtain ⟨⟨ps,v⟩,h1,rfl⟩:=h
  obtain ⟨p1,p2⟩:=aV.app hp
  have s:=st [x,i] p1 (by simp [Op.operands])
  exact pv _ rfl rfl (Kk (s x (by simp)) (s i (by simp)) h1 p2)
 | extract x i =>
  simp only [cV] at h
  split at h
  ·rename_i cs hx
   simp only [o5,aE] at h
   obtain ⟨v,h1,rfl⟩:=h
   have e1:=st [x] hp (by simp [Op.operands]) x (by simp)
   rw [hx] at e1
   refine pv _ rfl rfl ?_
   cases hv:a.eval x with
   | tuple vs =>
    rw [hv] at e1
    cases e1 with
    | tup q1 q2 =>
     have fY:i < vs.size:=by rw [q1];exact (cJ.1 h1).1
     exact ⟨vs[i],by simp [Instr.extract,gG fY],q2 i v _ h1 (gG fY)⟩
   | _=>rw [hv] at e1;cases e1
  ·cases h
 | call c =>
  obtain ⟨callee,args,argTypes⟩:=c
  cases callee with
  | invoke=>simp [cV] at h
  | value f =>
   simp only [cV] at h
   split at h
   ·rename_i o'
    simp only [aE] at h
    obtain ⟨r',h1,rfl⟩:=h
    obtain ⟨p1,p2⟩:=aV.app hp
    have s:=st (f :: args.toList) p2 (by simp [Op.operands,Call.operands])
    have l1:=B6 (xs:=args) (fun x hx=>s x (List.mem_cons_of_mem _ hx))
    obtain ⟨gid,vs,r1,r2⟩:=Hu g xl hm (s f (by simp)) l1 (hz _ rfl) h1 p1
    unfold Oper.wp
    have ex:execOp a.eval ⟨dst,.call ⟨.value f,args,argTypes⟩,ty,pos,after,guard⟩=(do let d ← Deferred.ofValue (a.eval f) (args.map a.eval);invoke d.target d.args:Sem Next):=rfl
    rw [ex,r1]
    simp only [Oper.upon]
    refine r2.mono ?_
    rintro e' w' ⟨v,S',cu,rfl,q1,q2,q3,q4⟩
    exact hK v w' S' cu q1 q2 q3 q4
   ·cases h
  | builtin b =>
   simp only [cV] at h
   unfold wc at h
   split at h
   case h_1 x t ha ht =>
    obtain ⟨rfl⟩:args=#[x]:=Array.toList_inj.1 (by rw [ha])
    obtain ⟨rfl⟩:argTypes=#[t]:=Array.toList_inj.1 (by rw [ht])
    simp only [o5,aE] at h
    obtain ⟨v,h1,rfl⟩:=h
    have s:=st [x] hp (by simp [Op.operands,Call.operands])
    exact pv (Builtin.len_ #[t] ty #[a.eval x]) (by simp [execOp,resolve,invoke,builtin]) rfl (OS (s x (by simp)) h1 ty)
   case h_2 x y t t' ha ht =>
    obtain ⟨rfl⟩:args=#[x,y]:=Array.toList_inj.1 (by rw [ha])
    obtain ⟨rfl⟩:argTypes=#[t,t']:=Array.toList_inj.1 (by rw [ht])
    split at h
    ·rename_i hb
     have hb:=bj hb
     subst hb
     simp only [aE] at h
     obtain ⟨⟨ps,v,rd,u⟩,h1,rfl⟩:=h
     obtain ⟨p1,p2⟩:=aV.app hp
     have s:=st [x,y] p1 (by simp [Op.operands,Call.operands])
     exact sv (Builtin.append_ #[t,t] ty #[a.eval x,a.eval y]) (by simp [execOp,resolve,invoke,builtin]) (D0 g hk hm (s x (by simp)) (s y (by simp)) h1 p2)
    ·cases h
   case h_3 x r ha =>
    simp only [o5,aE] at h
    obtain ⟨v,h1,rfl⟩:=h
    have s:=st (x :: r) hp (by intro y hy;simpa [Op.operands,Call.operands,ha] using hy)
    refine pv (Builtin.min_ argTypes ty (args.map a.eval)) (by simp [execOp,resolve,invoke,builtin]) rfl ?_
    obtain ⟨z,h3,h4⟩:=Hv (P:=P) r (a.eval x) _ v (s x (by simp)) (fun y hy=>s y (by simp [hy])) h1
    refine ⟨z,?_,h4⟩
    unfold Builtin.min_
    rw [Array.toList_map,ha,List.map_cons]
    exact h3
   case h_4 x r ha =>
    simp only [o5,aE] at h
    obtain ⟨v,h1,rfl⟩:=h
    have s:=st (x :: r) hp (by intro y hy;simpa [Op.operands,Call.operands,ha] using hy)
    refine pv (Builtin.max_ argTypes ty (args.map a.eval)) (by simp [execOp,resolve,invoke,builtin]) rfl ?_
    obtain ⟨z,h3,h4⟩:=Hv (P:=P) r (a.eval x) _ v (s x (by simp)) (fun y hy=>s y (by simp [hy])) h1
    refine ⟨z,?_,h4⟩
    unfold Builtin.max_
    rw [Array.toList_map,ha,List.map_cons]
    exact h3
   case h_5=>cases h
 | _=>simp [cV] at h
def SL:Option l8→Option l8
 | some o=>match o.same with
  | false=>some o
  | true=>none
 | none=>none
def wg (P:Program) (σ:cz) (T:TypeId) (a x:AV):Option (List Prop×AV×List Nat) :=
 match a,P.underlying T,qM P T with
 | .op k i j,some d,some n=>match d.isRow,Nat.beq n 1,ar σ k with
  | false,true,some o=>some ([i < o.len,(o.get i)[j]?=some x],x,[k])
  | _,_,_=>none
 | _,_,_=>none
theorem KK (g:Good E σ S μ w) {T:TypeId} {a x:AV} {va:Value} (ha:an w S μ va a) {ps:List Prop} {y:AV} {rd:List Nat} (h:wg P σ T a x=some (ps,y,rd)) (hp:aV ps) :
  ∃ v,(Instr.loadAt T va).run P w=.ok v w∧an w S μ v y:=by
 unfold wg at h
 split at h
 case h_2=>cases h
 rename_i k i j d n hd hn
 split at h
 case h_2=>cases h
 rename_i o h1 h2 ho
 simp only [aA,ax] at h
 obtain ⟨rfl,rfl,rfl⟩:=h
 obtain ⟨hi,hx,_⟩:=hp
 have Kh:=bj h2
 subst Kh
 refine EM (T:=T) g ha (ps:=[i < o.len]) (rd:=[k]) ?_ ⟨hi,trivial⟩
 unfold uW
 simp only [hd,hn,ho,h1]
 unfold Mp
 have:Nat.ble (j+1) (o.get i).length=true:=by rw [Nat.ble_eq];exact (cJ.1 hx).1
 rw [this]
 simp [hx]
def EZ (σ:cz) (k q i:Nat):Option (List Prop×oZ) :=
 match ar σ k,ar σ q with
 | some o,some oq=>match !o.var && !oq.var && oq.pr && Nat.ble 1 oq.sz && !Nat.beq k q with
  | true=>some ([i < o.len,o.get i=[.os q 0 oq.len],∀ j,j < oq.len→lW (oq.get j)=true],[(q,none),(k,some ⟨false,o.sz,o.len,false,fun m=>if m=i then [.mr oq.sz oq.len oq.get] else o.get m⟩)])
  | false=>none
 | _,_=>none
theorem Ee {k q i:Nat} {ps:List Prop} {u:oZ} (h:EZ σ k q i=some (ps,u)) (hp:aV ps) (g:Good E σ S μ w):Good E (dL σ u) S μ w:=by
 unfold EZ at h
 split at h
 case h_2=>cases h
 rename_i o oq ho OV
 split at h
 case h_2=>cases h
 rename_i hb
 simp only [aA,ax] at h
 obtain ⟨rfl,rfl⟩:=h
 simp only [aR,Bool.not_eq_true',Nat.ble_eq] at hb
 obtain ⟨⟨⟨⟨h1,h2⟩,h3⟩,h4⟩,h5⟩:=hb
 obtain ⟨p1,p2,p3,_⟩:=hp
 refine g.cls ho OV (fun e=>?_) h1 h2 h3 h4 p1 p2 fun j=>?_
 ·simp_all
 ·cases hr:rowOf oq j with
  | none=>rfl
  | some x =>
   obtain ⟨_,r2,r3⟩:=ca hr
   have:=p3 j r2
   rw [r3] at this;cases this
def QJ:AV→Nat
 | .os _ _ len=>len
 | _=>0
def pP (P:Program) (nk:Nat) (σ:cz) (t:TypeId) (s x:AV) (aY:l8):Option (List Prop×AV×List Nat×oZ) :=
 match aY.ks,ot P nk σ t s x with
 | [q],some (ps,v,rd,u)=>match O6 (rd ++ u.map (·.1)) q,EZ (dL σ u) nk q (QJ s) with
  | false,some (Oh,u2)=>some (ps ++ Oh,v,q :: rd,u ++ u2)
  | _,_=>none
 | _,_=>none
theorem Hw (g:Good E σ S μ w) (hk:μ nk=none) (hm:E.m0≤nk) {t ty:TypeId} {s x:AV} {aY:l8} {vs vx:Value} (hs:an w S μ vs s) (hx:an w S μ vx x) {ps:List Prop} {val:AV} {rd:List Nat} {ko:oZ}
  (h:pP P nk σ t s x aY=some (ps,val,rd,ko)) (hp:aV ps):Step P E nk σ S μ w (Builtin.append_ #[t,t] ty #[vs,vx]) val ko:=by
 unfold pP at h
 split at h
 case h_2=>cases h
 rename_i q p1 v Il u hq ha
 split at h
 case h_2=>cases h
 rename_i p2 u2 _ hc
 simp only [aA,ax] at h
 obtain ⟨rfl,rfl,rfl,rfl⟩:=h
 obtain ⟨xk,wE⟩:=aV.app hp
 obtain ⟨v',w',S',cu,h1,h2,h3,h4,h5⟩:=D0 (ty:=ty) g hk hm hs hx ha xk
 exact ⟨v',w',S',cu,h1,h2,by grind [eB,Ee],h4,h5⟩
def B7 (P:Program) (T:TypeId) (x lo hi mx:AV):Option (List Prop×AV×List Nat) :=
 match P.underlying T,x,lo,hi,mx with
 | some (.slice e),.os _ _ len,.atom (.int _ l),.atom (.int _ h),.atom (.int _ m)=>match qM P e with
  | some _=>some ([0≤l∧l≤h∧h≤m∧m≤len],.k6,[])
  | none=>none
 | _,_,_,_,_=>none
theorem Jx {T:TypeId} {x lo hi mx:AV} {v vl vh vm:Value} (hx:an w S μ v x) (hl:an w S μ vl lo) (hh:an w S μ vh hi) (hm:an w S μ vm mx) {ps:List Prop} {r:AV} {rd:List Nat}
  (h:B7 P T x lo hi mx=some (ps,r,rd)) (hp:aV ps):∃ u,(Instr.sliceAt T v (some vl) (some vh) (some vm)).run P w=.ok u w∧an w S μ u r:=by
 unfold B7 at h
 split at h
 case h_2=>cases h
 rename_i e k off len kl l kh h' km m hu
 split at h
 case h_2=>cases h
 rename_i sz oX
 simp only [aA,ax] at h
 obtain ⟨rfl,rfl,rfl⟩:=h
 obtain ⟨⟨p1,p2,p3,p4⟩,_⟩:=hp
 have e1:=b8 hl
 have e2:=b8 hh
 have e3:=b8 hm
 subst e1 e2 e3
 cases hx with
 | os pl eM h1 h2 h3 =>
  rename_i cap a
  have q1:0≤m∧m≤(cap:Int):=by omega
  have q2:0≤h'∧h'≤(m.toNat:Int):=by omega
  have q3:0≤l∧l≤(h'.toNat:Int):=by omega
  have hb:(Instr.sliceBounds true len cap (some (.int kl l)) (some (.int kh h')) (some (.int km m))).run P w=.ok (l.toNat,h'.toNat,m.toNat) w:=by
   simp only [Instr.sliceBounds,Instr.sliceBound,asIntOf,bc,Sem.run_pure,b7,Sem.run_ite,if_pos q1,if_pos q2,if_pos q3]
  exact ⟨.slice (if m.toNat=l.toNat then a else a.map (·.add (l.toNat * sz))) (h'.toNat - l.toNat) (m.toNat - l.toNat),by simp [Instr.sliceAt,Instr.slice,run_underlying hu,hb,df oX],.k6⟩
def si (P:Program) (σ:cz) (T:TypeId) (x:AV) (lo hi:Option AV):Option (List Prop×AV×List Nat) :=
 match P.underlying T,x with
 | some (.slice e),.os k off len=>match qM P e,bound 0 lo,bound len hi,ar σ k with
  | some sz,some l,some h,some o=>match Nat.beq o.sz sz with
   | true=>some ((l≤h∧off+h≤o.len) :: (rm lo ++ rm hi),.os k (a8 off l) (h - l),[k])
   | false=>none
  | _,_,_,_=>none
 | _,_=>none
theorem Jy (g:Good E σ S μ w) {T:TypeId} {x:AV} {v:Value} (hx:an w S μ v x) {lo hi:Option AV} {vlo vhi:Option Value}
  (OO:(vlo=none↔lo=none)∧∀ a b,lo=some a→vlo=some b→an w S μ b a)
  (Jo:(vhi=none↔hi=none)∧∀ a b,hi=some a→vhi=some b→an w S μ b a) {ps:List Prop} {r:AV} {rd:List Nat} (h:si P σ T x lo hi=some (ps,r,rd)) (hp:aV ps) :
  ∃ u,(Instr.sliceAt T v vlo vhi none).run P w=.ok u w∧an w S μ u r:=by
 unfold si at h
 split at h
 case h_2=>cases h
 rename_i e k off len hu
 split at h
 case h_2=>cases h
 rename_i sz l hh o oX hl OP ho
 split at h
 case h_2=>cases h
 rename_i hb
 have hb:=bj hb
 simp only [aA,ax] at h
 obtain ⟨rfl,rfl,rfl⟩:=h
 obtain ⟨⟨p1,p2⟩,p3⟩:=hp
 obtain ⟨pl,c,T',hm,b9⟩:=g.rep.ob k o ho
 cases hx with
 | os hH eM h1 h2 h3 =>
  rename_i cap a
  rw [hm] at eM;cases eM
  have hc:hh≤cap:=by have:=b9.len;omega
  have OQ:=tj (P:=P) (w:=w) true (cap:=cap) OO Jo hl OP p1 hc p3
  refine ⟨.slice (if cap=l then a else a.map (·.add (l * sz))) (hh - l) (cap - l),?_,?_⟩
  ·simp [Instr.sliceAt,Instr.slice,run_underlying hu,OQ,df oX]
  ·refine .os pl hm ?_ (by omega) (by rw [cl];omega)
   intro hc
   have:=h1 (by omega)
   subst this
   rw [if_neg (by omega)]
   simp only [Option.map_some,Addr.add_mid]
   rw [cl,b9.sz,hb,bL]
def zt (P:Program) (σ:cz) (t:TypeId) (s x:AV):Option (List Prop×AV×List Nat×oZ) :=
 match kK P t with
 | some e=>match qM P e,tf P e,oY P e,s,x with
  | some sz,some _,some _,.os k 0 len,.os k' off n=>match Nat.beq k k',ar σ k with
   | true,some o=>match Nat.ble 1 sz && Nat.beq o.sz sz && !o.var with
    | true=>some ([0 < o.len∧len+n≤o.len,off+n≤o.len,∀ i,i < o.len→AV.fx (o.get i)=true],.os k 0 (len+n),[k],
      [(k,some ⟨false,sz,o.len,o.pr,fun m=>if m < len then o.get m else if m < len+n then o.get (a8 off (m - len)) else o.get m⟩)])
    | false=>none
   | _,_=>none
  | _,_,_,_,_=>none
 | none=>none
theorem Ef {o:Ob} (h:∀ i,i < o.len→AV.fx (o.get i)=true) (i:Nat):rowOf o i=none:=by
 cases hr:rowOf o i with
 | none=>rfl
 | some x =>
  obtain ⟨_,r2,r3⟩:=ca hr
  have:=h i r2
  rw [r3] at this;cases this
theorem MM (g:Good E σ S μ w) {t ty:TypeId} {s x:AV} {vs vx:Value} (hs:an w S μ vs s) (hx:an w S μ vx x) {ps:List Prop} {val:AV} {rd:List Nat} {ko:oZ}
  (h:zt P σ t s x=some (ps,val,rd,ko)) (hp:aV ps):Step P E nk σ S μ w (Builtin.append_ #[t,t] ty #[vs,vx]) val ko:=by
 unfold zt at h
 split at h
 case h_2=>cases h
 rename_i e he
 have he:=iY he
 split at h
 case h_2=>cases h
 rename_i sz b z k len k' off n oX hb hz
 obtain ⟨ie,Bz,rfl,rfl,JX⟩:=tg oX hb hz
 split at h
 case h_2=>cases h
 rename_i o Kw ho
 have Kw:=bj Kw
 subst Kw
 split at h
 case h_2=>cases h
 rename_i zh
 simp only [aR,Nat.ble_eq,Bool.not_eq_true'] at zh
 obtain ⟨⟨b1,b2⟩,ya⟩:=zh
 have b2:=bj b2
 simp only [aA,ax] at h
 obtain ⟨rfl,rfl,rfl,rfl⟩:=h
 obtain ⟨⟨p0,p1⟩,p2,p3,_⟩:=hp
 obtain ⟨news,sr⟩:=uZ (P:=P) (sz:=ie.size) (n:=n) (gt:=fun i=>o.get (a8 off i)) (pr:=o.pr) (ps:=[off+n≤o.len,∀ i,i < n→AV.fx (o.get (a8 off i))=true]) (rd:=[k]) g hx
  (by unfold sa;simp only [ho,oV b2]) ⟨p2,fun i hi=>p3 _ (by rw [cl];omega),trivial⟩
 obtain ⟨pl,c,T',rn,b9⟩:=g.rep.ob k o ho
 cases hs with
 | os hH eM h1 h2 h3 =>
  rename_i cap a
  rw [rn] at eM;cases eM
  have P2:=b9.len
  have ha:=h1 (by omega)
  simp only [Nat.zero_mul] at ha
  subst ha
  have ta:0 < pl.cap:=by omega
  have F4:len+n≤cap:=by omega
  have uA:len * ie.size+news.length≤c.size:=by
   have e1:(len+n) * ie.size≤pl.cap * ie.size:=cG _ (by omega)
   have e2:=b9.cap
   rw [b2] at e2
   rw [sr.size,← bL];omega
  have jC:=BR (P:=P) (w:=w) (ty:=ty) he Bz ((b9.bR ta).trans (by rw [dS (by omega)])) sr.len sr.cells sr.one F4 uA
  generalize ml:(c.toList.take (len * ie.size) ++ news ++ c.toList.drop (len * ie.size+news.length)).toArray=c' at jC
  have uX:(c.toList.take (len * ie.size)).length=len * ie.size:=by simp;omega
  have EN:c'.size=c.size:=by
   rw [← ml]
   simp;omega
  have nR:∀ m,c'[m]?=if m < len * ie.size then c[m]? else if m < len * ie.size+news.length then news[m - len * ie.size]? else c[m]?:=by
   intro m
   rw [← ml]
   simp only [List.getElem?_toArray]
   by_cases h1:m < len * ie.size
   ·rw [gH (by simp;omega),gH (by omega),ph,if_pos h1,if_pos h1]
    simp
   ·rw [if_neg h1]
    by_cases h2:m < len * ie.size+news.length
    ·rw [gH (by simp;omega),iW (by omega),uX,if_pos h2]
    ·rw [if_neg h2,iW (by simp;omega)]
     simp only [kU,uX,nf]
     rw [show len * ie.size+news.length+(m - (len * ie.size+news.length))=m by omega]
     simp
  have ni:∀ i,i < o.len→(if i < len then o.get i else if i < len+n then o.get (a8 off (i - len)) else o.get i).length=ie.size:=by
   intro i hi
   split
   ·rw [b9.qK i hi,b2]
   ·split
    ·rw [b9.qK _ (by rw [cl];omega),b2]
    ·rw [b9.qK i hi,b2]
  have Dq:=Ef p3
  have gw:=g.write ho rn ta b9 (by omega) ⟨false,ie.size,o.len,o.pr,fun m=>if m < len then o.get m else if m < len+n then o.get (a8 off (m - len)) else o.get m⟩ c' b2.symm EN b9.len ni (by
   intro i j x v hi hx hv
   have hi:i < o.len:=hi
   have hx:(if i < len then o.get i else if i < len+n then o.get (a8 off (i - len)) else o.get i)[j]?=some x:=hx
   have hj:j < ie.size:=by
    have e1:=(cJ.1 hx).1
    have e2:=ni i hi
    omega
   have hv:c'[i * ie.size+j]?=some v:=hv
   rw [nR] at hv
   by_cases Dp:i < len
   ·have nh:(i+1) * ie.size≤len * ie.size:=cG _ Dp
    rw [bL] at nh
    rw [if_pos (by omega)] at hv
    rw [if_pos Dp] at hx
    exact b9.rep i j x v hi hx (by rw [b2];exact hv)
   ·have nh:len * ie.size≤i * ie.size:=cG _ (by omega)
    rw [if_neg (by omega),sr.size] at hv
    rw [if_neg Dp] at hx
    by_cases Im:i < len+n
    ·have JY:(i+1) * ie.size≤(len+n) * ie.size:=cG _ Im
     rw [bL,bL] at JY
     rw [if_pos (by omega)] at hv
     rw [if_pos Im] at hx
     refine sr.rep (i - len) j x v (by omega) hx ?_
     rw [← hv,Nat.sub_mul];congr 1;omega
    ·have JY:(len+n) * ie.size≤i * ie.size:=cG _ (by omega)
     rw [bL] at JY
     rw [if_neg (by omega)] at hv
     rw [if_neg Im] at hx
     exact b9.rep i j x v hi hx (by rw [b2];exact hv))
   (fun i x hx=>absurd hx (by
    rw [Ef (o:=⟨false,ie.size,o.len,o.pr,fun m=>if m < len then o.get m else if m < len+n then o.get (a8 off (m - len)) else o.get m⟩) (fun i hi=>by
     show AV.fx (if i < len then o.get i else if i < len+n then o.get (a8 off (i - len)) else o.get i)=true
     have hi:i < o.len:=hi
     split
     ·exact p3 i hi
     ·split
      ·exact p3 _ (by rw [cl];omega)
      ·exact p3 i hi)]
    intro h;cases h))
  exact ⟨_,_,S,μ,jC,gw.1,gw.2,fun _ _ h=>h,an.os pl rn (by simp) F4 h3⟩
theorem KL {o:Ob} (h:∀ i,i < o.len→lW (o.get i)=true) (i:Nat):rowOf o i=none:=by
 cases hr:rowOf o i with
 | none=>rfl
 | some x =>
  obtain ⟨_,r2,r3⟩:=ca hr
  have:=h i r2
  rw [r3] at this;cases this
theorem Gj {l:List AV} (h:AV.fx l=true):lW l=true:=by
 induction l with
 | nil=>rfl
 | cons x l ih =>
  simp only [AV.fx,aR] at h
  simp only [lW,aR]
  refine ⟨?_,ih h.2⟩
  cases x<;>first | rfl | cases h.1
theorem Good.KM (g:Good E σ S μ w) {k:Nat} {o:Ob} (ho:ar σ k=some o) {pl:Place} {c:Array Value} {T':TypeId} (rn:μ k=some pl) (b9:eJ w S μ o pl c T') (ta:0 < pl.cap) {sz p n:Nat}
  {gt:Nat→List AV} {pr:Bool} {v:Value} {news:List Value} (sr:Src P w S μ sz v n gt pr news) (b2:o.sz=sz) (b1:1≤sz) (hle:p+n≤o.len) (Dq:∀ i,i < o.len→lW (o.get i)=true) {c':Array Value}
  (ml:(c.toList.take (p * sz) ++ news ++ c.toList.drop (p * sz+news.length)).toArray=c'):p * sz+news.length≤c.size ∧
  Ext w S μ (w.setRow pl.bR c') S μ∧Good E (sset σ k ⟨false,sz,o.len,o.pr && pr,fun m=>if m < p then o.get m else if m < p+n then gt (m - p) else o.get m⟩) S μ (w.setRow pl.bR c'):=by
 have P2:=b9.len
 have uA:p * sz+news.length≤c.size:=by
  have e1:(p+n) * sz≤pl.cap * sz:=cG _ (by omega)
  have e2:=b9.cap
  rw [b2] at e2
  rw [sr.size,← bL];omega
 have uX:(c.toList.take (p * sz)).length=p * sz:=by simp;omega
 have EN:c'.size=c.size:=by
  rw [← ml]
  simp;omega
 have nR:∀ m,c'[m]?=if m < p * sz then c[m]? else if m < p * sz+news.length then news[m - p * sz]? else c[m]?:=by
  intro m
  rw [← ml]
  simp only [List.getElem?_toArray]
  by_cases h1:m < p * sz
  ·rw [gH (by simp;omega),gH (by omega),ph,if_pos h1,if_pos h1]
   simp
  ·rw [if_neg h1]
   by_cases h2:m < p * sz+news.length
   ·rw [gH (by simp;omega),iW (by omega),uX,if_pos h2]
   ·rw [if_neg h2,iW (by simp;omega)]
    simp only [kU,uX,nf]
    rw [show p * sz+news.length+(m - (p * sz+news.length))=m by omega]
    simp
 have ni:∀ i,i < o.len→(if i < p then o.get i else if i < p+n then gt (i - p) else o.get i).length=sz:=by
  intro i hi
  split
  ·rw [b9.qK i hi,b2]
  ·split
   ·exact sr.qK _ (by omega)
   ·rw [b9.qK i hi,b2]
 have Qw:∀ {u:Value} {x:AV},an w S (if o.pr then fw else μ) u x→an w S (if (o.pr && pr)=true then fw else μ) u x:=by
  intro u x hh
  cases hp:pr
  ·rw [Bool.and_false];exact fy hh
  ·rw [Bool.and_true];exact hh
 have Mv:∀ {u:Value} {x:AV},an w S (if pr then fw else μ) u x→an w S (if (o.pr && pr)=true then fw else μ) u x:=by
  intro u x hh
  cases hp:o.pr
  ·rw [Bool.false_and];exact fy hh
  ·rw [Bool.true_and];exact hh
 refine ⟨uA,g.write ho rn ta b9 (by omega) ⟨false,sz,o.len,o.pr && pr,fun m=>if m < p then o.get m else if m < p+n then gt (m - p) else o.get m⟩ c' b2.symm EN b9.len ni (by
   intro i j x v hi hx hv
   have hi:i < o.len:=hi
   have hx:(if i < p then o.get i else if i < p+n then gt (i - p) else o.get i)[j]?=some x:=hx
   have hj:j < sz:=by
    have e1:=(cJ.1 hx).1
    have e2:=ni i hi
    omega
   have hv:c'[i * sz+j]?=some v:=hv
   rw [nR] at hv
   by_cases Dp:i < p
   ·have nh:(i+1) * sz≤p * sz:=cG _ Dp
    rw [bL] at nh
    rw [if_pos (by omega)] at hv
    rw [if_pos Dp] at hx
    exact Qw (b9.rep i j x v hi hx (by rw [b2];exact hv))
   ·have nh:p * sz≤i * sz:=cG _ (by omega)
    rw [if_neg (by omega),sr.size] at hv
    rw [if_neg Dp] at hx
    by_cases Im:i < p+n
    ·have JY:(i+1) * sz≤(p+n) * sz:=cG _ Im
     rw [bL,bL] at JY
     rw [if_pos (by omega)] at hv
     rw [if_pos Im] at hx
     refine Mv (sr.rep (i - p) j x v (by omega) hx ?_)
     rw [← hv,Nat.sub_mul];congr 1;omega
    ·have JY:(p+n) * sz≤i * sz:=cG _ (by omega)
     rw [bL] at JY
     rw [if_neg (by omega)] at hv
     rw [if_neg Im] at hx
     exact Qw (b9.rep i j x v hi hx (by rw [b2];exact hv)))
   (fun i x hx=>absurd hx (by
    rw [KL (o:=⟨false,sz,o.len,o.pr && pr,fun m=>if m < p then o.get m else if m < p+n then gt (m - p) else o.get m⟩) (fun i hi=>by
     show lW (if i < p then o.get i else if i < p+n then gt (i - p) else o.get i)=true
     have hi:i < o.len:=hi
     split
     ·exact Dq i hi
     ·split
      ·exact Gj (sr.Mt _ (by omega))
      ·exact Dq i hi)]
    intro h;cases h))⟩
def zu (P:Program) (σ:cz) (t:TypeId) (s x:AV):Option (List Prop×AV×List Nat×oZ) :=
 match kK P t with
 | some e=>match qM P e,s,x with
  | some sz,.os k xm nd,.os k' B8 ns=>match Nat.beq k k',ar σ k with
   | true,some o=>match Nat.ble 1 sz && Nat.beq o.sz sz && !o.var with
    | true=>some ([nd≤ns,xm+nd≤o.len,B8+nd≤o.len,∀ i,i < o.len→AV.fx (o.get i)=true],.atom (.int .i64 nd),[k],
      [(k,some ⟨false,sz,o.len,o.pr,fun m=>if m < xm then o.get m else if m < xm+nd then o.get (a8 B8 (m - xm)) else o.get m⟩)])
    | false=>none
   | _,_=>none
  | _,_,_=>none
 | none=>none
theorem MN (g:Good E σ S μ w) {t t' ty:TypeId} {s x:AV} {vs vx:Value} (hs:an w S μ vs s) (hx:an w S μ vx x) {ps:List Prop} {val:AV} {rd:List Nat} {ko:oZ}
  (h:zu P σ t s x=some (ps,val,rd,ko)) (hp:aV ps):Step P E nk σ S μ w (Builtin.copy_ #[t,t'] ty #[vs,vx]) val ko:=by
 unfold zu at h
 split at h
 case h_2=>cases h
 rename_i e he
 have he:=iY he
 split at h
 case h_2=>cases h
 rename_i sz k xm nd k' B8 ns oX
 obtain ⟨ie,Bz,rfl⟩:∃ ie,P.info? e=some ie∧ie.size=sz:=by
  unfold qM at oX
  simp_all
 split at h
 case h_2=>cases h
 rename_i o Kw ho
 have Kw:=bj Kw
 subst Kw
 split at h
 case h_2=>cases h
 rename_i zh
 simp only [aR,Nat.ble_eq,Bool.not_eq_true'] at zh
 obtain ⟨⟨b1,b2⟩,ya⟩:=zh
 have b2:=bj b2
 simp only [aA,ax] at h
 obtain ⟨rfl,rfl,rfl,rfl⟩:=h
 obtain ⟨p0,p1,p2,p3,_⟩:=hp
 obtain ⟨pl,c,T',rn,b9⟩:=g.rep.ob k o ho
 cases hs with
 | os hH eM h1 h2 h3 =>
  rename_i cap a
  rw [rn] at eM;cases eM
  cases hx with
  | os pj BN g1 g2 g3 =>
   rename_i O7 a2
   rw [rn] at BN;cases BN
   rcases Nat.eq_zero_or_pos nd with h0 | h0
   ·subst h0
    have jC:(Builtin.copy_ #[t,t'] ty #[.slice a 0 cap,.slice a2 ns O7]).run P w=.ok (goInt 0) w:=by
     have e0:Nat.min ns 0=0:=by simp
     cases a<;>cases a2<;>simp [Builtin.copy_,run_underlying he,Builtin.lenOf,Builtin.firstCells,sizeOf,typeInfo,Bz,storeCells,loadCells,loadCellsFrom]
    have eo:(⟨false,ie.size,o.len,o.pr,fun m=>if m < xm then o.get m else if m < xm+0 then o.get (a8 B8 (m - xm)) else o.get m⟩:Ob)=o:=by
     have:(fun m=>if m < xm then o.get m else if m < xm+0 then o.get (a8 B8 (m - xm)) else o.get m)=o.get:=by
      funext m
      split
      ·rfl
      ·split
       ·omega
       ·rfl
     rw [this,← b2,← ya]
    refine ⟨_,w,S,μ,jC,Ext.refl _ _ _,g.congr fun n=>?_,fun _ _ h=>h,.atom _⟩
    show ar (sset σ k _) n=_
    grind [aP]
   ·have ha:=h1 (by omega)
    have Mb:=g1 (by omega)
    subst ha Mb
    have ta:0 < pl.cap:=by have:=b9.len;omega
    obtain ⟨news,sr⟩:=uZ (P:=P) (sz:=ie.size) (x:=.os k B8 nd) (v:=.slice (some ⟨pl.bR,B8 * pl.sz,none⟩) nd O7) (n:=nd) (gt:=fun i=>o.get (a8 B8 i)) (pr:=o.pr) (ps:=[B8+nd≤o.len,∀ i,i < nd→AV.fx (o.get (a8 B8 i))=true]) (rd:=[k]) g
     (.os pl rn g1 (by omega) g3) (by grind [sa,oV]) ⟨p2,fun i hi=>p3 _ (by rw [cl];omega),trivial⟩
    obtain ⟨uA,Qx,OT⟩:=g.KM ho rn b9 ta sr b2 b1 p1 (fun i hi=>Gj (p3 i hi)) rfl
    have Ax:=run_storeCells_at P pl.bR (xm * ie.size) T' news 0 c w ((b9.bR ta).trans (by rw [dS (by omega)])) (by simpa using uA) sr.one
    simp only [Nat.add_zero] at Ax
    have N5:=sr.cells w rfl
    simp only [Builtin.firstCells] at N5
    have SN:Nat.min ns nd=nd:=Nat.min_eq_right p0
    have jC:(Builtin.copy_ #[t,t'] ty #[.slice (some ⟨pl.bR,xm * pl.sz,none⟩) nd cap,.slice (some ⟨pl.bR,B8 * pl.sz,none⟩) ns O7]).run P w=.ok (goInt nd) (w.setRow pl.bR (c.toList.take (xm * ie.size) ++ news ++ c.toList.drop (xm * ie.size+news.length)).toArray):=by
     rw [b9.sz,b2] at N5 ⊢
     simp [Builtin.copy_,run_underlying he,Builtin.lenOf,Builtin.firstCells,sizeOf,typeInfo,Bz,SN,N5,Ax]
    rw [Bool.and_self] at OT
    exact ⟨_,_,S,μ,jC,Qx,OT,fun _ _ h=>h,.atom _⟩
def zw (P:Program) (σ:cz) (t:TypeId) (s x:AV):Option (List Prop×AV×List Nat×oZ) :=
 match kK P t with
 | some e=>match qM P e,tf P e,oY P e,s with
  | some sz,some _,some _,.os k off m=>match sa σ sz x,ar σ k with
   | some (n,gt,pr,ps,rd),some o=>match Nat.ble 1 sz && Nat.beq o.sz sz && !o.var with
    | true=>some ((0 < n∧a8 off m+n≤o.len) :: (∀ i,i < o.len→lW (o.get i)=true) :: ps,.os k off (m+n),k :: rd,
      [(k,some ⟨false,sz,o.len,o.pr && pr,fun j=>if j < a8 off m then o.get j else if j < a8 off m+n then gt (j - a8 off m) else o.get j⟩)])
    | false=>none
   | _,_=>none
  | _,_,_,_=>none
 | none=>none
theorem MO (g:Good E σ S μ w) {t ty:TypeId} {s x:AV} {vs vx:Value} (hs:an w S μ vs s) (hx:an w S μ vx x) {ps:List Prop} {val:AV} {rd:List Nat} {ko:oZ}
  (h:zw P σ t s x=some (ps,val,rd,ko)) (hp:aV ps):Step P E nk σ S μ w (Builtin.append_ #[t,t] ty #[vs,vx]) val ko:=by
 unfold zw at h
 split at h
 case h_2=>cases h
 rename_i e he
 have he:=iY he
 split at h
 case h_2=>cases h
 rename_i sz b z k off m oX hb hz
 obtain ⟨ie,Bz,rfl,rfl,JX⟩:=tg oX hb hz
 split at h
 case h_2=>cases h
 rename_i n gt pr Ko Il o sb ho
 split at h
 case h_2=>cases h
 rename_i zh
 simp only [aR,Nat.ble_eq,Bool.not_eq_true'] at zh
 obtain ⟨⟨b1,b2⟩,ya⟩:=zh
 have b2:=bj b2
 simp only [aA,ax] at h
 obtain ⟨rfl,rfl,rfl,rfl⟩:=h
 obtain ⟨⟨p0,p1⟩,p2,p3⟩:=hp
 obtain ⟨news,sr⟩:=uZ (P:=P) g hx sb p3
 obtain ⟨pl,c,T',rn,b9⟩:=g.rep.ob k o ho
 cases hs with
 | os hH eM h1 h2 h3 =>
  rename_i cap a
  rw [rn] at eM;cases eM
  have P2:=b9.len
  have ez:a8 off m=off+m:=cl _ _
  have QK:pl.sz=ie.size:=b9.sz.trans b2
  have ha:=h1 (by omega)
  rw [QK] at ha
  subst ha
  obtain ⟨uA,Qx,OT⟩:=g.KM ho rn b9 (by omega) sr b2 b1 p1 p2 rfl
  have jC:=Ho (P:=P) (w:=w) (ty:=ty) he Bz ((b9.bR (by omega)).trans (by rw [dS (by omega)])) sr.len sr.cells sr.one (b:=off * ie.size) (sLen:=m) (sCap:=cap) (by omega) (by rw [← bL,← ez];exact uA)
  rw [← bL,← ez] at jC
  exact ⟨_,_,S,μ,jC,Qx,OT,fun _ _ h=>h,an.os pl rn (fun _=>by rw [QK]) (by omega) h3⟩
def zx (P:Program) (nk:Nat) (σ:cz) (t:TypeId) (s x:AV):Option (List Prop×AV×List Nat×oZ) :=
 match kK P t with
 | some e=>match qM P e,tf P e,oY P e,s with
  | some sz,some b,some z,.za k off m=>match sa σ sz x,ar σ k with
   | some (n,gt,pr,ps,rd),some o=>match Nat.ble 1 sz && Nat.ble 1 b && Nat.beq z.cells.size sz && Nat.beq o.sz sz && !o.var with
    | true=>some ((0 < n∧a8 off m=o.len) :: ((m+n) * b≤140737488355328) :: (∀ i,i < o.len→AV.fx (o.get i)=true) :: ps,.os nk 0 (m+n),k :: rd,
      [(nk,some ⟨false,sz,m+n,o.pr && pr,fun j=>if j < m then o.get (a8 off j) else gt (j - m)⟩)])
    | false=>none
   | _,_=>none
  | _,_,_,_=>none
 | none=>none
theorem MP (g:Good E σ S μ w) (hk:μ nk=none) (hm:E.m0≤nk) {t ty:TypeId} {s x:AV} {vs vx:Value} (hs:an w S μ vs s) (hx:an w S μ vx x) {ps:List Prop} {val:AV} {rd:List Nat} {ko:oZ}
  (h:zx P nk σ t s x=some (ps,val,rd,ko)) (hp:aV ps):Step P E nk σ S μ w (Builtin.append_ #[t,t] ty #[vs,vx]) val ko:=by
 unfold zx at h
 split at h
 case h_2=>cases h
 rename_i e he
 have he:=iY he
 split at h
 case h_2=>cases h
 rename_i sz b z k off m oX hb hz
 obtain ⟨ie,Bz,rfl,rfl,JX⟩:=tg oX hb hz
 split at h
 case h_2=>cases h
 rename_i n gt pr Ko Il o sb ho
 split at h
 case h_2=>cases h
 rename_i zh
 simp only [aR,Nat.ble_eq,Bool.not_eq_true'] at zh
 obtain ⟨⟨⟨⟨b1,bb⟩,b3⟩,b2⟩,ya⟩:=zh
 have b2:=bj b2
 have b3:=bj b3
 simp only [aA,ax] at h
 obtain ⟨rfl,rfl,rfl,rfl⟩:=h
 obtain ⟨⟨p0,BN⟩,p1,p2,p3⟩:=hp
 rw [cl] at BN
 obtain ⟨news,sr⟩:=uZ (P:=P) g hx sb p3
 obtain ⟨pl,c,T',rn,b9⟩:=g.rep.ob k o ho
 cases hs with
 | za hH eM h1 h2 =>
  rename_i a
  rw [rn] at eM;cases eM
  obtain ⟨olds,so⟩:=uZ (P:=P) (sz:=ie.size) (x:=.os k off m) (v:=.slice a m m) (n:=m) (gt:=fun i=>o.get (a8 off i)) (pr:=o.pr) (ps:=[off+m≤o.len,∀ i,i < m→AV.fx (o.get (a8 off i))=true]) (rd:=[k]) g
   (.os pl rn h1 (a7 _) h2) (by grind [sa,oV]) ⟨by omega,fun i hi=>p2 _ (by rw [cl];omega),trivial⟩
  have jC:=tk (P:=P) (w:=w) (ty:=ty) he Bz JX so.cells sr.len sr.cells (by omega) bb p1
  have uz:=BS w (m+n) m e
  have ni:∀ i,i < m+n→((fun q=>if q < m then o.get (a8 off q) else gt (q - m)) i).length=ie.size:=by
   intro i hi
   show (if i < m then o.get (a8 off i) else gt (i - m)).length=_
   split
   ·rw [b9.qK (a8 off i) (by rw [cl];omega),b2]
   ·exact sr.qK _ (by omega)
  have gg:=g.grow (e:=e) hk hm (sz:=ie.size) (n:=n) (len:=m) (cap:=grownCap w (m+n) m e) (olds:=olds) (news:=news)
   (rest:=Builtin.zeroCells z.cells (grownCap w (m+n) m e - (m+n))) (pr:=o.pr && pr) (get:=fun q=>if q < m then o.get (a8 off q) else gt (q - m))
   so.size sr.size (by rw [size_zeroCells,b3]) uz ni (by
    intro i j x u hi hx hu
    have hx:(if i < m then o.get (a8 off i) else gt (i - m))[j]?=some x:=hx
    have hj:j < ie.size:=by
     have e1:=(cJ.1 hx).1
     have e2:(if i < m then o.get (a8 off i) else gt (i - m)).length=ie.size:=ni i hi
     omega
    by_cases Dp:i < m
    ·have nh:(i+1) * ie.size≤m * ie.size:=cG _ Dp
     rw [bL] at nh
     rw [if_pos Dp] at hx
     rw [gH (by rw [so.size];omega)] at hu
     have:=so.rep i j x u Dp hx hu
     cases hp:pr
     ·rw [Bool.and_false];exact fy this
     ·rw [Bool.and_true];exact this
    ·have nh:m * ie.size≤i * ie.size:=cG _ (by omega)
     rw [if_neg Dp] at hx
     rw [iW (by rw [so.size];omega),so.size] at hu
     have:=sr.rep (i - m) j x u (by omega) hx (by rw [← hu,Nat.sub_mul];congr 1;omega)
     cases hp:o.pr
     ·rw [Bool.false_and];exact fy this
     ·rw [Bool.true_and];exact this) (by omega)
   (g.FU hk _ _ (fun _=>a7 _) (nj fun i hi=>by
    have hi:i < m+n:=hi
    show AV.fx (if i < m then o.get (a8 off i) else gt (i - m))=true
    split
    ·exact p2 _ (by rw [cl];omega)
    ·exact sr.Mt _ (by omega)) (fun b h=>dH (w:=w.drew) h) (fun _ h=>h) (fun _ h=>.inl h))
  refine ⟨_,_,S,_,jC,gg.1,gg.2,fun k mE hn=>by rw [k9 _ mE];exact hn,?_⟩
  exact an.os ⟨w.heap.size,grownCap w (m+n) m e,ie.size⟩ (by simp [bz]) (by simp) uz (by simp)
def wh (P:Program) (σ:cz) (t:TypeId) (x:AV):Option (List Prop×AV×List Nat×oZ) :=
 match kK P t with
 | some e=>match qM P e,tf P e,oY P e,x with
  | some sz,some _,some z,.os k off n=>match ar σ k with
   | some o=>match Nat.ble 1 sz && Nat.beq o.sz sz && !o.var && Nat.beq z.cells.size sz && z.cells.toList.all (·.oneCell') with
    | true=>some ([0 < n∧off+n≤o.len],.k6,[k],[(k,some ⟨false,sz,off,o.pr,o.get⟩)])
    | false=>none
   | none=>none
  | _,_,_,_=>none
 | none=>none
theorem KN (g:Good E σ S μ w) {t ty:TypeId} {x:AV} {vx:Value} (hx:an w S μ vx x) {ps:List Prop} {val:AV} {rd:List Nat} {ko:oZ}
  (h:wh P σ t x=some (ps,val,rd,ko)) (hp:aV ps):Step P E nk σ S μ w (Builtin.clear_ #[t] ty #[vx]) val ko:=by
 unfold wh at h
 split at h
 case h_2=>cases h
 rename_i e he
 have he:=iY he
 split at h
 case h_2=>cases h
 rename_i sz b z k off n oX hb hz
 obtain ⟨ie,Bz,rfl,rfl,JX⟩:=tg oX hb hz
 split at h
 case h_2=>cases h
 rename_i o ho
 split at h
 case h_2=>cases h
 rename_i zh
 simp only [aR,Nat.ble_eq,Bool.not_eq_true'] at zh
 obtain ⟨⟨⟨⟨b1,b2⟩,ya⟩,b3⟩,b4⟩:=zh
 have b2:=bj b2
 have b3:=bj b3
 simp only [aA,ax] at h
 obtain ⟨rfl,rfl,rfl,rfl⟩:=h
 obtain ⟨⟨p0,p1⟩,_⟩:=hp
 obtain ⟨pl,c,T',rn,b9⟩:=g.rep.ob k o ho
 cases hx with
 | os hH eM h1 h2 h3 =>
  rename_i cap a
  rw [rn] at eM;cases eM
  have P2:=b9.len
  have ha:=h1 (by omega)
  subst ha
  have ta:0 < pl.cap:=by omega
  have VS:(Builtin.zeroCells z.cells n).toList.length=n * ie.size:=by simp [Builtin.zeroCells,b3]
  have Dt:∀ u∈(Builtin.zeroCells z.cells n).toList,u.oneCell'=true:=by
   intro u hu
   simp only [Builtin.zeroCells,Array.toList_map,List.mem_map] at hu
   obtain ⟨i,hi,rfl⟩:=hu
   have fY:i % z.cells.size < z.cells.size:=Nat.mod_lt _ (by omega)
   rw [getElem!_pos z.cells (i % z.cells.size) fY]
   rw [List.all_eq_true] at b4
   exact b4 _ (Array.mem_toList_iff.2 (Array.getElem_mem fY))
  have uA:off * ie.size+(Builtin.zeroCells z.cells n).toList.length≤c.size:=by
   have e1:(off+n) * ie.size≤pl.cap * ie.size:=cG _ (by omega)
   have e2:=b9.cap
   rw [b2] at e2
   rw [VS,← bL];omega
  have Ax:=run_storeCells_at P pl.bR (off * ie.size) T' (Builtin.zeroCells z.cells n).toList 0 c w ((b9.bR ta).trans (by rw [dS (by omega)])) (by simpa using uA) Dt
  simp only [Nat.add_zero] at Ax
  generalize ml:(c.toList.take (off * ie.size) ++ (Builtin.zeroCells z.cells n).toList ++ c.toList.drop (off * ie.size+(Builtin.zeroCells z.cells n).toList.length)).toArray=c' at Ax
  have jC:(Builtin.clear_ #[t] ty #[.slice (some ⟨pl.bR,off * pl.sz,none⟩) n cap]).run P w=.ok (.tuple #[]) (w.setRow pl.bR c'):=by
   rw [b9.sz,b2]
   obtain ⟨m,rfl⟩:∃ m,n=m+1:=⟨n - 1,by omega⟩
   simp [Builtin.clear_,run_underlying he,zeroValue,typeInfo,Bz,JX,Ax]
  have uX:(c.toList.take (off * ie.size)).length=off * ie.size:=by simp;omega
  have EN:c'.size=c.size:=by
   rw [← ml]
   simp only [List.size_toArray,kU,uX,List.length_drop,Array.length_toList]
   rw [Array.length_toList] at uA
   omega
  have nR:∀ m,m < off * ie.size→c'[m]?=c[m]?:=by
   intro m h1
   rw [← ml]
   simp only [List.getElem?_toArray]
   rw [gH (by simp;omega),gH (by omega),ph,if_pos h1]
   simp
  have td:∀ i x,rowOf ⟨false,ie.size,off,o.pr,o.get⟩ i=some x→rowOf o i=some x∧i < off:=fun i x hx=>by
   obtain ⟨_,q2,q3⟩:=ca hx
   have q2:i < off:=q2
   exact ⟨iX ya (by omega) q3,q2⟩
  have KO:∀ i,i < off→∀ j,j < ie.size→i * ie.size+j < off * ie.size:=fun i hi j hj=>by
   have nh:(i+1) * ie.size≤off * ie.size:=cG _ hi
   rw [bL] at nh;omega
  have gw:=g.write ho rn ta b9 (by omega) ⟨false,ie.size,off,o.pr,o.get⟩ c' b2.symm EN (show off≤pl.cap by omega) (fun i hi=>by
   have hi:i < off:=hi
   show (o.get i).length=ie.size
   rw [b9.qK i (by omega),b2]) (by
   intro i j x v hi hx hv
   have hi:i < off:=hi
   have hx:(o.get i)[j]?=some x:=hx
   have hj:j < ie.size:=by
    have e1:=(cJ.1 hx).1
    rw [b9.qK i (by omega),b2] at e1;exact e1
   have hv:c'[i * ie.size+j]?=some v:=hv
   rw [nR _ (KO i hi j hj)] at hv
   exact b9.rep i j x v (by omega) hx (by rw [b2];exact hv)) (fun i x hx=>⟨(td i x hx).1,by
    rw [b2];exact nR _ (by have:=KO i (td i x hx).2 0 (by omega);omega)⟩)
  exact ⟨_,_,S,μ,jC,gw.1,gw.2,fun _ _ h=>h,.k6⟩
def ve (P:Program) (nk:Nat) (σ:cz) (op:Op) (e:Operand→AV) (aY:Option l8):Option R :=
 match SL aY with
 | none=>cV P nk σ op e aY
 | some q=>match op with
  | .load T a=>(wg P σ T ((e a).strip.1) q.res).map fun (ps,v,rd)=>⟨conds e [a] ++ ps,v,rd,[]⟩
  | .call ⟨.builtin .append,args,Eb⟩=>match args.toList,Eb.toList with
   | [x,y],[t,t']=>match Nat.beq t t' with
    | true=>(match q.ks,q.res with
     | [],.k6=>zt P σ t ((e x).strip.1) ((e y).strip.1)
     | [],.nil=>zw P σ t ((e x).strip.1) ((e y).strip.1)
     | [],_=>zx P nk σ t ((e x).strip.1) ((e y).strip.1)
     | _,_=>pP P nk σ t ((e x).strip.1) ((e y).strip.1) q).map fun (ps,v,rd,u)=>⟨conds e [x,y] ++ ps,v,rd,u⟩
    | false=>none
   | _,_=>none
  | .call ⟨.builtin .copy,args,Eb⟩=>match args.toList,Eb.toList with
   | [x,y],[t,_]=>(zu P σ t ((e x).strip.1) ((e y).strip.1)).map fun (ps,v,rd,u)=>⟨conds e [x,y] ++ ps,v,rd,u⟩
   | _,_=>none
  | .call ⟨.builtin .clear,args,Eb⟩=>match args.toList,Eb.toList with
   | [x],[t]=>(wh P σ t ((e x).strip.1)).map fun (ps,v,rd,u)=>⟨conds e [x] ++ ps,v,rd,u⟩
   | _,_=>none
  | .slice t x lo hi mx=>match mx with
   | none=>(si P σ t ((e x).strip.1) (lo.map fun y=>(e y).strip.1) (hi.map fun y=>(e y).strip.1)).map fun (ps,v,rd)=>⟨conds e (x :: (lo.toList ++ hi.toList)) ++ ps,v,rd,[]⟩
   | some m=>match lo,hi with
    | some l,some h=>(B7 P t ((e x).strip.1) ((e l).strip.1) ((e h).strip.1) ((e m).strip.1)).map fun (ps,v,rd)=>⟨conds e [x,l,h,m] ++ ps,v,rd,[]⟩
    | _,_=>none
  | op=>cV P nk σ op e aY
theorem Eg {o:Oper} {a:Act} {e:Operand→AV} {aY:Option l8} {r:R} {next:Act→World→Prop} {Q:Exit→Act→World→Prop}
  (he:∀ x∈o.op.operands.toList,an w S μ (a.eval x) (e x)) (g:Good E σ S μ w) (xl:∀ j,j < 16→μ (nk+j)=none) (hm:E.m0≤nk)
  (hz:∀ x,aY=some x→x.uB=true→∀ b,¬ E.fp b) (h:ve P nk σ o.op e aY=some r) (hp:aV r.D2) (hK:KJ E nk σ S μ w r fun v w'=>next (a.put o.dst v) w'):o.wp P a w next Q:=by
 unfold ve at h
 split at h
 ·exact Gi he g xl hm hz h hp hK
 ·have hk:μ nk=none:=xl 0 (by omega)
  have st:∀ (xs:List Operand),aV (conds e xs)→(∀ x∈xs,x∈o.op.operands.toList)→∀ x∈xs,an w S μ (a.eval x) ((e x).strip.1) :=
   fun xs h1 h2 x hx=>(he x (h2 x hx)).strip (we h1 x hx)
  obtain ⟨dst,op,ty,pos,after,guard⟩:=o
  simp only at he h hK st ⊢
  split at h
  ·rename_i T x
   simp only [aE] at h
   obtain ⟨⟨ps,v,rd⟩,h1,rfl⟩:=h
   obtain ⟨p1,p2⟩:=aV.app hp
   obtain ⟨u,r1,r2⟩:=KK g (st [x] p1 (by simp [Op.operands]) x (by simp)) h1 p2
   unfold Oper.wp
   have ex:execOp a.eval ⟨dst,.load T x,ty,pos,after,guard⟩=(do pure (.value (← Instr.loadAt T (a.eval x))):Sem Next):=rfl
   rw [ex]
   simp only [bc,r1,b7,Sem.run_pure]
   exact hK u w S μ (Ext.refl _ _ _) g (fun _ _ h=>h) r2
  ·rename_i args Eb
   split at h
   case h_2=>cases h
   rename_i x y t t' ha ht
   split at h
   case h_2=>cases h
   rename_i hb
   have hb:=bj hb
   subst hb
   obtain ⟨rfl⟩:args=#[x,y]:=Array.toList_inj.1 (by rw [ha])
   obtain ⟨rfl⟩:Eb=#[t,t]:=Array.toList_inj.1 (by rw [ht])
   simp only [aE] at h
   obtain ⟨⟨ps,v,rd,u⟩,h1,rfl⟩:=h
   obtain ⟨p1,p2⟩:=aV.app hp
   have s:=st [x,y] p1 (by simp [Op.operands,Call.operands])
   have Ax:Step P E nk σ S μ w (Builtin.append_ #[t,t] ty #[a.eval x,a.eval y]) v u:=by
    split at h1
    ·exact MM (ty:=ty) g (s x (by simp)) (s y (by simp)) h1 p2
    ·exact MO (ty:=ty) g (s x (by simp)) (s y (by simp)) h1 p2
    ·exact MP (ty:=ty) g hk hm (s x (by simp)) (s y (by simp)) h1 p2
    ·exact Hw (ty:=ty) g hk hm (s x (by simp)) (s y (by simp)) h1 p2
   obtain ⟨v',w',S',cu,r1,r2,r3,r4,r5⟩:=Ax
   unfold Oper.wp
   have ex:execOp a.eval ⟨dst,.call ⟨.builtin .append,#[x,y],#[t,t]⟩,ty,pos,after,guard⟩=(do pure (.value (← Builtin.append_ #[t,t] ty #[a.eval x,a.eval y])):Sem Next):=by simp [execOp,resolve,invoke,builtin]
   rw [ex]
   simp only [bc,r1,b7,Sem.run_pure]
   exact hK v' w' S' cu r2 r3 (fun k mE=>r4 k (by omega)) r5
  ·rename_i args Eb
   split at h
   case h_2=>cases h
   rename_i x y t t' ha ht
   obtain ⟨rfl⟩:args=#[x,y]:=Array.toList_inj.1 (by rw [ha])
   obtain ⟨rfl⟩:Eb=#[t,t']:=Array.toList_inj.1 (by rw [ht])
   simp only [aE] at h
   obtain ⟨⟨ps,v,rd,u⟩,h1,rfl⟩:=h
   obtain ⟨p1,p2⟩:=aV.app hp
   have s:=st [x,y] p1 (by simp [Op.operands,Call.operands])
   obtain ⟨v',w',S',cu,r1,r2,r3,r4,r5⟩:=MN (nk:=nk) (t':=t') (ty:=ty) g (s x (by simp)) (s y (by simp)) h1 p2
   unfold Oper.wp
   have ex:execOp a.eval ⟨dst,.call ⟨.builtin .copy,#[x,y],#[t,t']⟩,ty,pos,after,guard⟩=(do pure (.value (← Builtin.copy_ #[t,t'] ty #[a.eval x,a.eval y])):Sem Next):=by simp [execOp,resolve,invoke,builtin]
   rw [ex]
   simp only [bc,r1,b7,Sem.run_pure]
   exact hK v' w' S' cu r2 r3 (fun k mE=>r4 k (by omega)) r5
  ·rename_i args Eb
   split at h
   case h_2=>cases h
   rename_i x t ha ht
   obtain ⟨rfl⟩:args=#[x]:=Array.toList_inj.1 (by rw [ha])
   obtain ⟨rfl⟩:Eb=#[t]:=Array.toList_inj.1 (by rw [ht])
   simp only [aE] at h
   obtain ⟨⟨ps,v,rd,u⟩,h1,rfl⟩:=h
   obtain ⟨p1,p2⟩:=aV.app hp
   have s:=st [x] p1 (by simp [Op.operands,Call.operands])
   obtain ⟨v',w',S',cu,r1,r2,r3,r4,r5⟩:=KN (nk:=nk) (ty:=ty) g (s x (by simp)) h1 p2
   unfold Oper.wp
   have ex:execOp a.eval ⟨dst,.call ⟨.builtin .clear,#[x],#[t]⟩,ty,pos,after,guard⟩=(do pure (.value (← Builtin.clear_ #[t] ty #[a.eval x])):Sem Next):=by simp [execOp,resolve,invoke,builtin]
   rw [ex]
   simp only [bc,r1,b7,Sem.run_pure]
   exact hK v' w' S' cu r2 r3 (fun k mE=>r4 k (by omega)) r5
  ·rename_i t x lo hi mx
   have ex:∀ y,execOp a.eval ⟨dst,.slice t x lo hi y,ty,pos,after,guard⟩=(do pure (.value (← Instr.sliceAt t (a.eval x) (lo.map a.eval) (hi.map a.eval) (y.map a.eval))):Sem Next):=fun y=>rfl
   cases mx with
   | none =>
    simp only [aE] at h
    obtain ⟨⟨ps,v,rd⟩,h1,rfl⟩:=h
    obtain ⟨p1,p2⟩:=aV.app hp
    have s:=st (x :: (lo.toList ++ hi.toList)) p1 (by
     intro y hy
     simp only [jW,List.mem_append,Option.mem_toList] at hy
     simp only [Op.operands]
     rcases hy with rfl | hy | hy
     ·simp
     ·simp [hy]
     ·simp [hy])
    obtain ⟨u,r1,r2⟩:=Jy (P:=P) (vlo:=lo.map a.eval) (vhi:=hi.map a.eval) g (s x (by simp)) (by
     refine ⟨by simp,?_⟩
     intro p q qL hq
     simp only [aE] at qL hq
     obtain ⟨y,hy,rfl⟩:=qL
     obtain ⟨z,hz,rfl⟩:=hq
     rw [hy] at hz;cases hz
     exact s y (by simp [hy])) (by
     refine ⟨by simp,?_⟩
     intro p q qL hq
     simp only [aE] at qL hq
     obtain ⟨y,hy,rfl⟩:=qL
     obtain ⟨z,hz,rfl⟩:=hq
     rw [hy] at hz;cases hz
     exact s y (by simp [hy])) h1 p2
    unfold Oper.wp
    rw [ex none]
    simp only [Option.map_none,bc,r1,b7,Sem.run_pure]
    exact hK u w S μ (Ext.refl _ _ _) g (fun _ _ h=>h) r2
   | some m =>
    simp only at h
    split at h
    case h_2=>cases h
    rename_i l hh
    simp only [aE] at h
    obtain ⟨⟨ps,v,rd⟩,h1,rfl⟩:=h
    obtain ⟨p1,p2⟩:=aV.app hp
    have s:=st [x,l,hh,m] p1 (by simp [Op.operands])
    obtain ⟨u,r1,r2⟩:=Jx (P:=P) (s x (by simp)) (s l (by simp)) (s hh (by simp)) (s m (by simp)) h1 p2
    unfold Oper.wp
    rw [ex (some m)]
    simp only [Option.map_some,bc,r1,b7,Sem.run_pure]
    exact hK u w S μ (Ext.refl _ _ _) g (fun _ _ h=>h) r2
  ·exact Gi (o:=⟨dst,op,ty,pos,after,guard⟩) he g xl hm hz h hp hK
def SF (μ:Mu) (F:List Nat) (σ:cz) (S:Nat→Prop) (b:Nat):Prop:=S b∨∃ k o pl,k∈F∧ar σ k=some o∧μ k=some pl∧0 < pl.cap∧pl.bR=b
theorem Good.freeze (g:Good E σ S μ w) (F:List Nat) (hz:∀ b,¬ E.fp b):Good E (dL σ (sc true F)) (SF μ F σ S) μ w:=by
 have sg:∀ n o,ar (dL σ (sc true F)) n=some o→ar σ n=some o∧n ∉ F:=fun n o h=>by
  rw [ku] at h
  simp_all
 have e:Ext w S μ w (SF μ F σ S) μ:=⟨a7 _,fun _ h=>.inl h,fun _ _=>rfl,fun _ _ h=>h⟩
 refine ⟨g.fr,fun b h=>.inl (g.S0 b h),?_,?_,⟨?_,?_⟩,?_,g.Bw,?_⟩
 ·rintro b (h1 | ⟨k1,o1,xY,MQ,ud,Hf,qV,rfl⟩)
  ·exact g.S1 b h1
  ·obtain ⟨hH,c,T,eM,KP⟩:=g.rep.ob k1 o1 ud
   rw [Hf] at eM;cases eM
   exact eA (KP.bR qV)
 ·rintro b (h1 | ⟨k1,o1,xY,MQ,ud,Hf,qV,rfl⟩)
  ·exact g.S2 b h1
  ·rcases g.own k1 o1 xY ud Hf qV with h2 | h2
   ·exact (hz _ h2).elim
   ·exact .inr h2
 ·intro k o MR
  obtain ⟨h0,SO⟩:=sg k o MR
  obtain ⟨pl,c,T,qW,rA⟩:=g.rep.ob k o h0
  refine ⟨pl,c,T,qW,rA.ext e (fun _=>rfl) ?_⟩
  rintro hc (h1 | ⟨k1,o1,xY,MQ,ud,Hf,qV,hb⟩)
  ·exact rA.out hc h1
  ·exact g.rep.ne k1 k o1 o xY pl (fun h=>SO (h ▸ MQ)) ud h0 Hf qW qV hc hb
 ·intro k k' o o' pl hH iI h1 h2 h3 h4 h5 h6
  exact g.rep.ne k k' o o' pl hH iI (sg _ _ h1).1 (sg _ _ h2).1 h3 h4 h5 h6
 ·exact fun k o pl h1 h2 h3=>g.own k o pl (sg _ _ h1).1 h2 h3
 ·have QL:∀ k i x v,fJ w μ (dL σ (sc true F)) k i x v→fJ w μ σ k i x v:=fun k i x v ⟨o,pl,h1,h2,h3,h4⟩=>⟨o,pl,(sg _ _ h1).1,h2,h3,h4⟩
  refine g.mx.tr (fun k=>k) QL (fun _ _ _ _ _ _ _ _ _ _ h=>h) (fun _ h=>.inl h) (fun _ _=>rfl) (fun k i x v b _ h hb=>⟨rfl,?_,fun h=>h⟩) (fun k o pl h1 h2 h3=>.inl ⟨k,o,pl,(sg _ _ h1).1,h2,h3,rfl⟩)
  rintro (h1 | ⟨k1,o1,xY,_,ud,Hf,qV,h1⟩)
  ·exact (g.mx.bR h hb).2.1 h1
  ·exact g.mx.obj _ _ _ _ _ h hb k1 o1 xY ud Hf qV h1
def Mc (σ:cz):cz→Option (List Prop)
 | []=>some []
 | (k,o') :: r=>match ar σ k,Mc σ r with
  | some o,some ps=>match o.pr with
   | true=>some ((o'.len≤o.len) :: (∀ i,i < o'.len→o'.get i=o.get i) :: ps)
   | false=>none
  | _,_=>none
mutual
def Oi (τ:cz):AV→AV
 | .os k off len=>match off,ar τ k with
  | 0,some o=>.sl o.len o.get
  | _,_=>.os k off len
 | .agg cs=>.agg (O8 τ cs)
 | x=>x
def O8 (τ:cz):List AV→List AV
 | []=>[]
 | c :: cs=>Oi τ c :: O8 τ cs
end
mutual
def O9 (τ:cz):AV→List Prop
 | .os k off len=>match off,ar τ k with
  | 0,some o=>[len=o.len]
  | _,_=>[]
 | .agg cs=>MT τ cs
 | _=>[]
def MT (τ:cz):List AV→List Prop
 | []=>[]
 | c :: cs=>O9 τ c ++ MT τ cs
end
def P9 (τ:cz) (e:Operand→AV):List Operand→List Prop
 | []=>[]
 | x :: r=>O9 τ (e x) ++ P9 τ e r
theorem Iz:∀ {τ:cz} {ps:List Prop},Mc σ τ=some ps→aV ps→∀ {k:Nat} {o':Ob},ar τ k=some o'→k∈τ.map (·.1)∧∃ o,ar σ k=some o∧o.pr=true∧o'.len≤o.len∧∀ i,i < o'.len→o'.get i=o.get i
 | [],ps,_,_,k,o',h=>by simp [ar] at h
 | (k0,o0) :: r,ps,h,hp,k,o',hk=>by
  simp only [Mc] at h
  split at h
  ·rename_i o qs ho hr
   split at h
   ·rename_i Hc
    cases h
    obtain ⟨p1,p2,p3⟩:=hp
    simp only [ar] at hk
    split at hk
    ·simp_all
    ·obtain ⟨q1,q2⟩:=Iz hr p3 hk
     simp_all
   ·cases h
  ·cases h
theorem iy {cu:Mu} {v:Value} {x:AV} {F:List Nat} (h:an w S cu v x):an w (SF μ F σ S) cu v x:=h.mono (fun _ h=>.inl h) (fun _ _=>rfl) (fun _ _ h=>h)
theorem QM (g:Good E σ S μ w) {τ:cz} {qs:List Prop} (hs:Mc σ τ=some qs) (hq:aV qs) {k off len:Nat} {v:Value} (h:an w S μ v (.os k off len)) (hp:aV (O9 τ (.os k off len))):an w (SF μ (τ.map (·.1)) σ S) μ v (Oi τ (.os k off len)):=by
 simp only [Oi,O9] at hp ⊢
 split at hp
 ·rename_i o' tc
  obtain ⟨rfl,_⟩:=hp
  obtain ⟨hF,o,ho,Hc,p2,p3⟩:=Iz hs hq tc
  obtain ⟨pl,c,T,hm,b9⟩:=g.rep.ob k o ho
  cases h with
  | os hH eM h1 h2 h3 =>
   rename_i cap a
   rw [hm] at eM;cases eM
   refine .sl pl.bR (0 * pl.sz) o.sz (fun i j=>(c[(0+i) * o.sz+j]?).getD undef) ?_ (fun i hi=>by rw [p3 i hi];exact b9.qK _ (by omega)) ?_ ?_ h2
   ·intro hl
    exact ⟨h1 (by omega),.inr ⟨k,o,pl,hF,ho,hm,by omega,rfl⟩⟩
   ·intro i j hi hj
    obtain ⟨v,q1,q2⟩:=bW b9 (i:=0+i) (by omega) hj
    simp_all
   ·intro i j c' hi ml
    rw [p3 i hi] at ml
    obtain ⟨v,q1,q2⟩:=bW b9 (i:=0+i) (by omega) (by have:=(cJ.1 ml).1;rw [b9.qK _ (by omega)] at this;exact this)
    rw [q1]
    have:=b9.rep _ j c' v (by omega) (by simp_all) q1
    grind [iy]
 ·exact iy h
mutual
theorem KQ (g:Good E σ S μ w) {τ:cz} {qs:List Prop} (hs:Mc σ τ=some qs) (hq:aV qs):∀ (x:AV) (v:Value),an w S μ v x→aV (O9 τ x)→an w (SF μ (τ.map (·.1)) σ S) μ v (Oi τ x)
 | .os _ _ _,_,h,hp=>QM g hs hq h hp
 | .agg cs,v,h,hp=>by
  simp only [Oi,O9] at hp ⊢
  obtain ⟨vs,rfl,h1,h2⟩:=lF h
  obtain ⟨q1,q2⟩:=IA g hs hq cs hp
  refine .agg (h1.trans q1.symm) fun j c v hc hv=>?_
  grind
 | .nil,_,h,_=>iy h
 | .atom _,_,h,_=>iy h
 | .tup _,_,h,_=>iy h
 | .sl _ _,_,h,_=>iy h
 | .rp _ _,_,h,_=>iy h
 | .op _ _ _,_,h,_=>iy h
 | .fn _ _ _,_,h,_=>iy h
 | .when _ _,_,h,_=>iy h
 | .mp _,_,h,_=>iy h
 | .bn _,_,h,_=>iy h
 | .pt _ _,_,h,_=>iy h
 | .ov _ _ _ _ _,_,h,_=>iy h
 | .za _ _ _,_,h,_=>iy h
 | .nq _ _,_,h,_=>iy h
 | .k6,_,h,_=>iy h
 | .mr _ _ _,_,h,_=>iy h
theorem IA (g:Good E σ S μ w) {τ:cz} {qs:List Prop} (hs:Mc σ τ=some qs) (hq:aV qs):∀ (cs:List AV),aV (MT τ cs)→(O8 τ cs).length=cs.length ∧
  ∀ (j:Nat) c y v,cs[j]?=some c→(O8 τ cs)[j]?=some y→an w S μ v c→an w (SF μ (τ.map (·.1)) σ S) μ v y
 | [],_=>⟨rfl,fun j c y v hc=>by simp at hc⟩
 | c :: cs,hp=>by
  simp only [MT] at hp
  obtain ⟨p1,p2⟩:=aV.app hp
  obtain ⟨q1,q2⟩:=IA g hs hq cs p2
  refine ⟨by simp [O8,q1],fun j c' y v hc hy h=>?_⟩
  cases j with
  | zero =>
   simp only [O8,List.getElem?_cons_zero,aA] at hc hy
   subst hc hy
   exact KQ g hs hq c v h p1
  | succ j =>
   simp only [O8,Bv] at hc hy
   exact q2 j c' y v hc hy h
end
def KR (op:Op):Option l8→Option cz
 | none=>none
 | some q=>match q.uB,op with
  | true,.buildSlice _ _ _=>some q.mc
  | true,.build _ _=>some q.mc
  | true,.box _ _=>some q.mc
  | true,.store _ _ _=>some q.mc
  | _,_=>none
theorem Hx {c:Call} (aY:Option l8):KR (.defer c) aY=none:=by
 cases aY with
 | none=>rfl
 | some q=>grind [KR]
theorem KS {op:Op} {aY:Option l8} {τ:cz} (h:KR op aY=some τ):∃ x,aY=some x∧x.uB=true:=by
 unfold KR at h
 grind
def w5 (P:Program) (nk:Nat) (σ:cz) (op:Op) (e:Operand→AV) (aY:Option l8):Option R :=
 match KR op aY with
 | none=>ve P nk σ op e aY
 | some τ=>match Mc σ τ,ve P nk (dL σ (sc true (τ.map (·.1)))) op (fun x=>Oi τ (e x)) aY with
  | some ps,some r=>some ⟨ps ++ (P9 τ e op.operands.toList ++ r.D2),r.val,τ.map (·.1) ++ r.Hd,sc true (τ.map (·.1)) ++ r.ko⟩
  | _,_=>none
theorem IC {τ:cz} {e:Operand→AV}:∀ {xs:List Operand},aV (P9 τ e xs)→∀ x∈xs,aV (O9 τ (e x))
 | [],_,x,hx=>by simp at hx
 | y :: r,h,x,hx=>by
  obtain ⟨h1,h2⟩:=aV.app h
  rcases jW.1 hx with rfl | hx
  ·exact h1
  ·exact IC h2 x hx
theorem Jz {o:Oper} {a:Act} {e:Operand→AV} {aY:Option l8} {r:R} {next:Act→World→Prop} {Q:Exit→Act→World→Prop}
  (he:∀ x∈o.op.operands.toList,an w S μ (a.eval x) (e x)) (g:Good E σ S μ w) (xl:∀ j,j < 16→μ (nk+j)=none) (hm:E.m0≤nk)
  (hz:∀ x,aY=some x→x.uB=true→∀ b,¬ E.fp b) (h:w5 P nk σ o.op e aY=some r) (hp:aV r.D2) (hK:KJ E nk σ S μ w r fun v w'=>next (a.put o.dst v) w'):o.wp P a w next Q:=by
 unfold w5 at h
 split at h
 ·grind [Eg]
 ·rename_i τ VT
  split at h
  ·rename_i ps r0 h1 h2
   cases h
   obtain ⟨p1,VU⟩:=aV.app hp
   obtain ⟨p2,p3⟩:=aV.app VU
   obtain ⟨q,Du,cR⟩:=KS VT
   have g1:=g.freeze (τ.map (·.1)) (hz q Du cR)
   have e1:Ext w S μ w (SF μ (τ.map (·.1)) σ S) μ:=⟨a7 _,fun _ h=>.inl h,fun _ _=>rfl,fun _ _ h=>h⟩
   refine Eg (e:=fun x=>Oi τ (e x)) (fun x hx=>KQ g h1 p1 _ _ (he x hx) (IC p2 x hx)) g1 xl hm hz h2 p3 ?_
   intro v w' S' cu x1 x2 x3 x4
   exact hK v w' S' cu (e1.trans x1) (by rw [eB];exact x2) x3 x4
  ·cases h
end
end Go.Ab
namespace Go.Ab
structure St where
 tm:List (Nat×AV)
 mc:cz
 nk:Nat
def rB:AV→Bool→Option Bool
 | .atom (.bool b),want=>some (match want with
  | true=>b
  | false=>!b)
 | .when g x,want=>(rB x want).map fun b=>g && b
 | _,_=>none
structure Rec where
 D2:List Prop
 dst:Option Nat
 val:AV
 Hd:List Nat
 ko:oZ
def yk (σ:cz) (op:Op) (e:Operand→AV) (y:YC):Option R :=
 match op with
 | .call ⟨.value f,args,_⟩=>match (e f).strip.1,ar σ y.k with
  | .atom (.func (.yield l) vs ws),some o=>some ⟨(l=y.l∧vs=#[]∧ws=#[]∧args.toList.map (fun x=>(e x).strip.1)=y.as∧o=y.o) :: conds e (f :: args.toList),.atom (.bool true),[y.k],[(y.k,some y.o')]⟩
  | _,_=>none
 | _=>none
def vf (P:Program) (nk:Nat) (σ:cz) (op:Op) (e:Operand→AV) (aY:Option l8):Option R :=
 match Sw aY with
 | some y=>yk σ op e y
 | none=>w5 P nk σ op e aY
def under (g:Bool):List Prop→List Prop
 | []=>[]
 | p :: ps=>[g=true→aV (p :: ps)]
def KT (ops:List Oper) (j:Nat):Option Nat:=(ops[j]?).bind (·.dst)
def Oj (nt:Nat):Option Nat→Bool
 | none=>true
 | some d=>Nat.blt d nt
def w6 (P:Program) (nt:Nat) (ops:List Oper) (nk:Nat) (tm:List (Nat×AV)) (σ:cz) (o:Oper) (aY:Option l8):Option Rec :=
 match Oj nt o.dst with
 | false=>none
 | true=>match o.guard with
  | none=>(vf P nk σ o.op (vd tm) aY).map fun r=>⟨r.D2,o.dst,r.val,r.Hd,r.ko⟩
  | some (j,want)=>match KT ops j with
   | none=>none
   | some d=>match Sx aY with
    | 0=>match rB (cW tm d) want,vf P nk σ o.op (vd tm) aY with
     | some g,some r=>match r.ko with
      | []=>some ⟨under g r.D2,o.dst,.when g r.val,r.Hd,[]⟩
      | _ :: _=>none
     | _,_=>none
    | 1=>match rB (cW tm d) want,vf P nk σ o.op (vd tm) aY with
     | some g,some r=>some ⟨(g=true) :: r.D2,o.dst,r.val,r.Hd,r.ko⟩
     | _,_=>none
    | _=>match rB (cW tm d) want with
     | some g=>some ⟨[g=false],o.dst,.when g (Sy aY),[],[]⟩
     | none=>none
def AE (tm:List (Nat×AV)) (d:Option Nat) (x:AV):List (Nat×AV) :=
 match d with
 | none=>tm
 | some d=>(d,x) :: tm
def nX:List (Nat×l8)→Nat→Option l8
 | [],_=>none
 | (k,o) :: r,n=>match Nat.beq k n with
  | true=>some o
  | false=>nX r n
def po (P:Program) (nt:Nat) (ops:List Oper) (nk:Nat) (orcs:List (Nat×l8)):List Oper→Nat→List (Nat×AV)→cz→Option (List Rec)
 | [],_,_,_=>some []
 | o :: r,i,tm,σ=>match w6 P nt ops (nk+16 * i) tm σ o (nX orcs i) with
  | none=>none
  | some x=>(po P nt ops nk orcs r (i+1) (AE tm x.dst x.val) (dL σ x.ko)).map fun l=>x :: l
def AF:List Rec→List (Nat×AV)→List (Nat×AV)
 | [],tm=>tm
 | x :: r,tm=>AF r (AE tm x.dst x.val)
def vg:List Rec→cz→cz
 | [],σ=>σ
 | x :: r,σ=>vg r (dL σ x.ko)
def B9:List Rec→List Prop
 | []=>[]
 | x :: r=>x.D2 ++ B9 r
def J2 (E:Env) (st:St) (tm:Array Value) (w:World):Prop :=
 ∃ S μ,Good E st.mc S μ w∧(∀ k,st.nk≤k→μ k=none)∧E.m0≤st.nk∧∀ t,an w S μ (tm.getD t undef) (cW st.tm t)
theorem mT {tm:List (Nat×AV)} {d:Option Nat} {x:AV} (t:Nat):cW (AE tm d x) t=if d=some t then x else cW tm t:=by
 cases d with
 | none=>simp [AE]
 | some d =>
  simp only [AE,cW,aA]
  by_cases h:d=t
  ·rw [oV h,if_pos h]
  ·rw [mQ h,if_neg h]
theorem IE (a:Act) (d:Option Nat) (v:Value) (t:Nat) (h:∀ n,d=some n→n < a.tmps.size):(a.put d v).tmps.getD t undef=if d=some t then v else a.tmps.getD t undef:=by
 cases d with
 | none=>simp [Act.put]
 | some d =>
  simp only [Act.put,aA]
  have hd:=h d rfl
  by_cases ht:d=t
  ·simp_all
  simp_all
theorem Gk (a:Act) (d:Option Nat) (v:Value):(a.put d v).tmps.size=a.tmps.size:=by cases d<;>simp [Act.put]
theorem AG (a:Act) (d:Option Nat) (v:Value):(a.put d v).defers=a.defers:=by cases d<;>simp [Act.put]
theorem yl {w:World} {S:Nat→Prop} {μ:Mu} {a:Act} {tm:List (Nat×AV)} (h:∀ t,an w S μ (a.tmps.getD t undef) (cW tm t)) (x:Operand):an w S μ (a.eval x) (vd tm x):=by
 cases x with
 | tmp t=>exact h t
 | const v=>exact DT w S μ v
 | global g=>exact .atom _
 | func f=>exact .fn (by simp) (by simp) (fun j c v hc=>by simp at hc) (fun j c v hc=>by simp at hc)
def Ca:Value→Option Bool
 | .bool b=>some b
 | _=>none
theorem Gl {w:World} {S:Nat→Prop} {μ:Mu} {v:Value} {x:AV} (h:an w S μ v x):∀ {want g:Bool},rB x want=some g→(Ca v == some want)=g:=by
 induction h with
 | atom v =>
  intro want g hg
  cases v with
  | bool b =>
   simp only [rB,aA] at hg
   subst hg
   cases b<;>cases want<;>rfl
  | _=>simp [rB] at hg
 | @when μ b v x h1 hu ih =>
  intro want g hg
  simp only [rB,aE] at hg
  obtain ⟨g',VV,rfl⟩:=hg
  cases b with
  | true=>simpa using ih rfl VV
  | false =>
   rw [hu rfl]
   simp [undef,Ca]
 | _=>grind [rB]
section
variable {P:Program} {E:Env} {σ:cz} {S:Nat→Prop} {μ:Mu} {w:World}
def FW (rd:Option Nat):Fence:={ Fence.wide with round:=rd }
theorem MU {rd:Option Nat} {o:Oper} {a:Act} {next:Act→World→Prop} {Q:Exit→Act→World→Prop} {r:Result Next} (h:o.upon P a next Q r):o.uponIn (FW rd) 0 P a next Q r:=by
 cases r with
 | ok x w' =>
  cases x with
  | value v=>exact h
  | skip=>exact h
  | defer d=>exact h
  | enter f args=>exact ⟨fun hh=>by simp [FW,Fence.wide] at hh,(callsIn_wide (n:=0)).2 h⟩
  | row row args=>exact ⟨fun hh=>by simp [FW,Fence.wide] at hh,fun c cs _=>let ⟨v,w',q1,q2⟩:=h c cs;⟨v,w',q1,stepsIn_wide.2 q2⟩⟩
  | _=>exact h.elim
 | halt x w' =>
  cases x with
  | panic v=>exact h
  | _=>exact h.elim
def RR (P:Program) (E:Env) (y:YC):Prop:=∀ (w:World) (S:Nat→Prop) (μ:Mu) (σ:cz) (vs:Array Value),Good E σ S μ w→RL w S μ vs y.as→ar σ y.k=some y.o →
 YieldAt Fence.wide 0 P y.l vs w fun e w'=>e=.returned (.bool true)∧∃ S',Ext w S μ w' S' μ∧Good E (sset σ y.k y.o') S' μ w'
def Gm (P:Program) (E:Env) (aY:Option l8):Prop:=(∀ x,aY=some x→x.uB=true→∀ b,¬ E.fp b)∧∀ x y,aY=some x→x.y=some y→RR P E y
theorem Gn {rd:Option Nat} {o:Oper} {a:Act} {e:Operand→AV} {y:YC} {r:R} {next:Act→World→Prop} {Q:Exit→Act→World→Prop}
  (he:∀ x∈o.op.operands.toList,an w S μ (a.eval x) (e x)) (g:Good E σ S μ w) {nk:Nat} (hy:RR P E y) (h:yk σ o.op e y=some r) (hp:aV r.D2)
  (hK:KJ E nk σ S μ w r fun v w'=>next (a.put o.dst v) w'):o.wpIn (FW rd) 0 P a w next Q:=by
 obtain ⟨dst,op,ty,pos,after,guard⟩:=o
 unfold yk at h
 simp only at h he
 split at h
 case h_2=>cases h
 rename_i f args Eb
 split at h
 case h_2=>cases h
 rename_i l vs ws o1 VW ud
 simp only [aA] at h
 subst h
 obtain ⟨⟨rfl,rfl,rfl,has,rfl⟩,hc⟩:=hp
 have QN:=we hc
 have mem:∀ x,x∈f :: args.toList→x∈(Op.call ⟨.value f,args,Eb⟩).operands.toList:=by
  intro x hx
  simp only [Op.operands,Call.operands] at *
  simpa using hx
 have hs:∀ x,x∈f :: args.toList→an w S μ (a.eval x) ((e x).strip.1):=fun x hx=>(he x (mem x hx)).strip (QN x hx)
 have hf:=hs f (by simp)
 rw [VW] at hf
 have hf:=b8 hf
 have RN:RL w S μ (args.map a.eval) y.as:=by
  rw [← has]
  refine ⟨by simp,fun j c v hc hv=>?_⟩
  simp only [List.getElem?_map,aE,Array.getElem?_map] at hc hv
  obtain ⟨x,hx,rfl⟩:=hc
  obtain ⟨x',ub,rfl⟩:=hv
  rw [← Array.getElem?_toList,hx] at ub
  cases ub
  exact hs x (List.mem_cons_of_mem _ (List.mem_of_getElem? hx))
 obtain ⟨fn,tmps,assign,body,jC,Pa⟩:=hy w S μ σ _ g RN ud
 refine ⟨fun _ _=>trivial,?_⟩
 have ex:(Oper.semAt (FW rd).round a.eval ⟨dst,.call ⟨.value f,args,Eb⟩,ty,pos,after,guard⟩).run P w=.ok (.round y.l fn tmps assign body) w:=by
  rw [Oper.semAt_eq _ _ _ (fun c=>by simp)]
  have:execOp a.eval ⟨dst,.call ⟨.value f,args,Eb⟩,ty,pos,after,guard⟩=(do let d ← Deferred.ofValue (a.eval f) (args.map a.eval);invoke d.target d.args:Sem Next):=rfl
  rw [this,hf]
  simpa [Deferred.ofValue,invoke] using jC
 rw [ex]
 refine ⟨fun hh=>by simp [FW,Fence.wide] at hh,RoundIn.mono (F:=Fence.wide) Pa ?_⟩
 rintro e' w' ⟨rfl,S',hx,hg⟩
 exact hK _ w' S' μ hx (by simpa [dL] using hg) (fun _ _ h=>h) (.atom _)
theorem zy {rd:Option Nat} {o:Oper} {a:Act} {e:Operand→AV} {aY:Option l8} {r:R} {nk:Nat} {next:Act→World→Prop} {Q:Exit→Act→World→Prop}
  (he:∀ x∈o.op.operands.toList,an w S μ (a.eval x) (e x)) (g:Good E σ S μ w) (xl:∀ j,j < 16→μ (nk+j)=none) (hm:E.m0≤nk)
  (hz:Gm P E aY) (h:vf P nk σ o.op e aY=some r) (hp:aV r.D2) (hK:KJ E nk σ S μ w r fun v w'=>next (a.put o.dst v) w'):o.wpIn (FW rd) 0 P a w next Q:=by
 unfold vf at h
 split at h
 ·rename_i y hy
  have:∃ x,aY=some x∧x.y=some y:=by
   cases aY with
   | none=>cases hy
   | some x=>exact ⟨x,rfl,hy⟩
  obtain ⟨x,h1,h2⟩:=this
  exact Gn (nk:=nk) he g (hz.2 x y h1 h2) h hp hK
 ·refine ⟨fun _ _=>trivial,?_⟩
  have hd:∀ c,o.op≠.defer c:=fun c hc=>by grind [w5,Hx,ve,cV]
  rw [Oper.semAt_eq _ _ _ hd]
  exact MU (Jz he g xl hm hz.1 h hp hK)
theorem Eh {rd:Option Nat} {nt nk:Nat} {ops:Array Oper} {i:Nat} {o:Oper} {a:Act} {tm:List (Nat×AV)} {aY:Option l8} {x:Rec} {K:Act→World→Prop} {Q:Exit→Act→World→Prop}
  (hi:ops[i]?=some o) (ht:∀ t,an w S μ (a.tmps.getD t undef) (cW tm t)) (g:Good E σ S μ w) (hk:∀ j,j < 16→μ (nk+j)=none) (hm:E.m0≤nk)
  (hz:Gm P E aY) (h:w6 P nt ops.toList nk tm σ o aY=some x) (hp:aV x.D2)
  (hK:∀ v w' S' cu,Ext w S μ w' S' cu→Good E (dL σ x.ko) S' cu w'→(∀ k,(k < nk∨nk+16≤k)→μ k=none→cu k=none)→an w' S' cu v x.val→K (a.put x.dst v) w') :
  wpOpIn (FW rd) 0 P ops Q i K a w:=by
 unfold w6 at h
 split at h
 ·cases h
 ·split at h
  ·rename_i RS
   simp only [aE] at h
   obtain ⟨r,h1,rfl⟩:=h
   unfold wpOpIn
   rw [hi]
   simp only [Region.wanted,RS,if_true]
   exact zy (fun x _=>yl ht x) g hk hm hz h1 hp hK
  ·rename_i j want RS
   split at h
   ·cases h
   ·rename_i d hd
    have Pb:∀ gb,rB (cW tm d) want=some gb→Region.wanted o (yielded ops a.tmps)=gb:=fun gb hg=>by
     have hy:yielded ops a.tmps j=Ca (a.tmps.getD d undef):=by
      unfold yielded
      unfold KT at hd
      have P4:(ops[j]?).bind (·.dst)=some d:=by simpa using hd
      rw [P4]
      simp only [dG,rk]
      cases a.tmps[d]? with
      | none=>simp [undef,Ca]
      | some v=>cases v<;>simp [Ca]
     grind [Region.wanted,Gl]
    split at h
    rotate_left
    ·split at h
     ·rename_i gb r hg h1
      cases h
      unfold wpOpIn
      rw [hi]
      have hw:=Pb gb hg
      obtain ⟨SP,xk⟩:=hp
      subst SP
      simp only [hw,if_true]
      exact zy (fun x _=>yl ht x) g hk hm hz h1 xk hK
     ·cases h
    ·split at h
     ·rename_i gb hg
      cases h
      unfold wpOpIn
      rw [hi]
      have hw:=Pb gb hg
      obtain ⟨SP,-⟩:=hp
      subst SP
      simp only [hw,Bool.false_eq_true,if_false]
      refine ⟨fun _ _=>trivial,?_⟩
      exact hK undef w S μ (Ext.refl _ _ _) g (fun _ _ h=>h) (.when (fun h=>by cases h) (fun _=>rfl))
     ·cases h
    split at h
    ·rename_i gb r hg h1
     split at h
     ·rename_i hu
      cases h
      unfold wpOpIn
      rw [hi]
      have hw:Region.wanted o (yielded ops a.tmps)=gb:=Pb gb hg
      simp only [hw]
      cases gb with
      | true =>
       simp only [if_true]
       have qL:aV r.D2:=by
        cases hr:r.D2 with
        | nil=>trivial
        | cons p ps =>
         rw [hr] at hp
         exact hp.1 rfl
       refine zy (fun x _=>yl ht x) g hk hm hz h1 qL ?_
       intro v w' S' cu q1 q2 q3 q4
       rw [hu] at q2
       exact hK v w' S' cu q1 q2 q3 (.when (fun _=>q4) (fun h=>by cases h))
      | false =>
       simp only [Bool.false_eq_true,if_false]
       refine ⟨fun _ _=>trivial,?_⟩
       exact hK undef w S μ (Ext.refl _ _ _) g (fun _ _ h=>h) (.when (fun h=>by cases h) (fun _=>rfl))
     ·cases h
    ·cases h
theorem Ei {nt nk:Nat} {ops:List Oper} {tm:List (Nat×AV)} {o:Oper} {aY:Option l8} {x:Rec} (h:w6 P nt ops nk tm σ o aY=some x):x.dst=o.dst∧∀ n,o.dst=some n→n < nt:=by
 unfold w6 at h
 split at h
 ·cases h
 ·rename_i hd
  have h2:∀ n,o.dst=some n→n < nt:=fun n hn=>by
   rw [hn] at hd;simp only [Oj,Nat.blt,Nat.ble_eq] at hd;exact hd
  split at h
  ·simp only [aE] at h
   grind
  grind
theorem Ej {rd:Option Nat} {ds:List Deferred} {nt nk:Nat} {ops:Array Oper} {orcs:List (Nat×l8)} (hz:∀ i,Gm P E (nX orcs i)) (hm:E.m0≤nk) {Q:Exit→Act→World→Prop}:∀ (l:List Oper) (i:Nat) (a:Act) (w:World) (tm:List (Nat×AV)) (σ:cz) (S:Nat→Prop) (μ:Mu) (cb:List Rec),
  ops.toList.drop i=l→i+l.length=ops.size→a.tmps.size=nt→a.defers=ds→Good E σ S μ w→(∀ k,nk+16 * i≤k→μ k=none)→(∀ t,an w S μ (a.tmps.getD t undef) (cW tm t)) →
  po P nt ops.toList nk orcs l i tm σ=some cb→aV (B9 cb) →
  (∀ a' w' S' cu,a'.tmps.size=nt→a'.defers=ds→Good E (vg cb σ) S' cu w'→(∀ k,nk+16 * ops.size≤k→cu k=none)→(∀ t,an w' S' cu (a'.tmps.getD t undef) (cW (AF cb tm) t))→Q .normal a' w') →
  wpOpsIn (FW rd) 0 P ops Q (List.range' i l.length) a w
 | [],i,a,w,tm,σ,S,μ,cb,hl,He,hs,Md,g,hk,ht,h,hp,hQ=>by
  simp only [po,aA] at h
  subst h
  simp only [List.length_nil,List.range'_zero,wpOpsIn]
  refine hQ a w S μ hs Md g (fun k mE=>hk k (by simp at He;omega)) ht
 | o :: r,i,a,w,tm,σ,S,μ,cb,hl,He,hs,Md,g,hk,ht,h,hp,hQ=>by
  simp only [po] at h
  split at h
  ·cases h
  ·rename_i x hx
   simp only [aE] at h
   obtain ⟨l',h2,rfl⟩:=h
   obtain ⟨p1,p2⟩:=aV.app hp
   have hi:ops[i]?=some o:=by
    have:(ops.toList.drop i)[0]?=some o:=by rw [hl];rfl
    rw [nf] at this
    simpa using this
   have VX:ops.toList.drop (i+1)=r:=by
    rw [← List.tail_drop,hl];rfl
   obtain ⟨d1,d2⟩:=Ei hx
   simp only [vY,List.range'_succ]
   rw [wpOpsIn_cons]
   refine Eh hi ht g (fun j hj=>hk _ (by omega)) (by omega) (hz i) hx p1 ?_
   intro v w' S' cu q1 q2 q3 q4
   refine Ej hz hm r (i+1) _ w' _ _ S' cu l' VX (by simp at He;omega) (by rw [Gk];exact hs) (by rw [AG];exact Md) q2 (fun k mE=>q3 k (by omega) (hk k (by omega))) ?_ h2 p2 hQ
   intro t
   rw [IE a x.dst v t (fun n hn=>by rw [hs];exact d2 n (d1 ▸ hn)),mT]
   split
   ·exact q4
   ·exact (ht t).ext q1
end
end Go.Ab
namespace Go.Ab
def gJ (u:oZ):List Nat:=u.map (·.1)
section
variable {P:Program} {nk:Nat} {σ dm:cz}
theorem gV {e e':Operand→AV}:∀ {xs:List Operand},(∀ x∈xs,e' x=e x)→conds e' xs=conds e xs
 | [],_=>rfl
 | x :: r,h=>by simp only [conds];rw [h x (by simp),gV fun y hy=>h y (by simp [hy])]
theorem KU {op:Op} {e e':Operand→AV} {aY:Option l8} (he:∀ x∈op.operands.toList,e' x=e x):cV P nk σ op e' aY=cV P nk σ op e aY:=by
 cases op with
 | move x=>grind [cV,Op.operands]
 | assign x=>grind [cV,Op.operands]
 | pick q a b=>grind [cV,Op.operands]
 | alloc T=>rfl
 | box T x=>grind [cV,conds,Op.operands]
 | build t parts =>
  simp only [cV]
  have h1:∀ x∈parts.toList.map (·.2),e' x=e x:=fun x hx=>he x (by grind [Op.operands])
  rw [gV h1]
  congr 2
  apply List.map_congr_left
  grind
 | buildSlice t len parts =>
  simp only [cV]
  have h1:∀ x∈parts.toList.map (·.2),e' x=e x:=fun x hx=>he x (by grind [Op.operands])
  rw [gV h1]
  have h2:(parts.toList.map fun p=>(p.1,(e' p.2).strip.1))=(parts.toList.map fun p=>(p.1,(e p.2).strip.1)):=by
   apply List.map_congr_left
   intro p hp
   grind
  rw [h2]
 | load T x=>grind [cV,conds,Op.operands]
 | store T x y=>grind [cV,conds,Op.operands]
 | nilCheck x=>grind [cV,conds,Op.operands]
 | binOp o t x y yt=>grind [cV,conds,Op.operands]
 | unOp o t x=>grind [cV,conds,Op.operands]
 | convert s d x=>grind [cV,conds,Op.operands]
 | makeMap t r=>cases r<;>simp [cV]
 | lookup t m x ok=>simp_all [cV,conds,Op.operands]
 | mapUpdate t m x y=>simp_all [cV,conds,Op.operands]
 | insert t m x y=>simp_all [cV,conds,Op.operands]
 | makeFunc f first cap =>
  simp only [cV]
  have h1:∀ x∈first.toList ++ cap.toList,e' x=e x:=fun x hx=>he x (by simpa [Op.operands] using hx)
  rw [gV h1]
  congr 3
  ·apply List.map_congr_left;intro x hx;rw [h1 x (by simp only [List.mem_append];exact .inl hx)]
  ·apply List.map_congr_left;intro x hx;rw [h1 x (by simp only [List.mem_append];exact .inr hx)]
 | makeSlice t x y=>grind [cV,conds,Op.operands]
 | slice t x lo hi mx =>
  cases mx with
  | some _=>simp [cV]
  | none =>
   simp only [cV]
   have h1:∀ y∈x :: (lo.toList ++ hi.toList),e' y=e y:=fun y hy=>he y (by
    simp only [jW,List.mem_append,Option.mem_toList] at hy
    simp only [Op.operands]
    simp_all)
   rw [gV h1,h1 x (by simp)]
   have h2:(lo.map fun x=>(e' x).strip.1)=lo.map fun x=>(e x).strip.1:=by
    cases lo with
    | none=>rfl
    | some y=>simp [h1 y (by simp)]
   have h3:(hi.map fun x=>(e' x).strip.1)=hi.map fun x=>(e x).strip.1:=by
    cases hi with
    | none=>rfl
    | some y=>simp [h1 y (by simp)]
   rw [h2,h3]
 | fieldAddr T x f=>grind [cV,conds,Op.operands]
 | field T x f=>grind [cV,conds,Op.operands]
 | indexAddr T x i=>grind [cV,conds,Op.operands]
 | index T x i=>grind [cV,conds,Op.operands]
 | extract x i=>grind [cV,conds,Op.operands]
 | call c =>
  obtain ⟨callee,args,argTypes⟩:=c
  cases callee with
  | invoke=>simp [cV]
  | value f =>
   simp only [cV]
   have h1:∀ x∈f :: args.toList,e' x=e x:=fun x hx=>he x (by simpa [Op.operands,Call.operands] using hx)
   rw [gV h1,h1 f (by simp)]
   have h2:(args.toList.map fun x=>(e' x).strip.1)=args.toList.map fun x=>(e x).strip.1:=by
    apply List.map_congr_left;intro x hx;rw [h1 x (by simp [hx])]
   rw [h2]
  | builtin b =>
   simp only [cV]
   have h1:∀ x∈args.toList,e' x=e x:=fun x hx=>he x (by grind [Op.operands,Call.operands])
   unfold wc
   split
   ·grind [conds]
   ·grind [conds]
   ·rename_i x r ha
    rw [ha] at h1
    dsimp only
    rw [gV h1,h1 x (by simp)]
    have h2:(r.map fun x=>(e' x).strip.1)=r.map fun x=>(e x).strip.1:=by
     apply List.map_congr_left;intro y hy;rw [h1 y (by simp [hy])]
    rw [h2]
   ·rename_i x r ha
    rw [ha] at h1
    dsimp only
    rw [gV h1,h1 x (by simp)]
    have h2:(r.map fun x=>(e' x).strip.1)=r.map fun x=>(e x).strip.1:=by
     apply List.map_congr_left;intro y hy;rw [h1 y (by simp [hy])]
    rw [h2]
   ·rfl
 | _=>simp [cV]
theorem KV {T:TypeId} {a:AV} {ps:List Prop} {x:AV} {rd:List Nat} (h:uW P σ T a=some (ps,x,rd)) (hs:∀ k∈rd,ar dm k=ar σ k):uW P dm T a=some (ps,x,rd):=by
 unfold uW at h ⊢
 split at h
 ·split at h
  ·rename_i k i j
   split at h
   ·rename_i o ho
    simp only [aE,ax] at h
    grind
   ·cases h
  ·exact h
  ·grind
  ·cases h
 ·cases h
theorem Hy {T:TypeId} {a x:AV} {ps:List Prop} {u:oZ} {rd:List Nat} (h:mb P σ T a x=some (ps,u,rd)) (hs:∀ k∈rd,ar dm k=ar σ k):mb P dm T a x=some (ps,u,rd):=by
 unfold mb at h ⊢
 grind
theorem JA {T:TypeId} {a x:AV} {ps:List Prop} {u:oZ} {rd:List Nat} (h:vZ P σ T a x=some (ps,u,rd)) (hs:∀ k∈rd,ar dm k=ar σ k):vZ P dm T a x=some (ps,u,rd):=by
 unfold vZ at h ⊢
 split at h
 ·grind
 ·exact Hy h hs
theorem Dv {T:TypeId} {x i:AV} {ps:List Prop} {v:AV} {rd:List Nat} (h:mS P σ T x i=some (ps,v,rd)) (hs:∀ k∈rd,ar dm k=ar σ k):mS P dm T x i=some (ps,v,rd):=by
 unfold mS at h ⊢
 split at h
 ·split at h
  ·grind
  ·cases h
 ·omega
 ·cases h
theorem JB {T:TypeId} {x:AV} {lo hi:Option AV} {ps:List Prop} {v:AV} {rd:List Nat} (h:v3 P σ T x lo hi=some (ps,v,rd)) (hs:∀ k∈rd,ar dm k=ar σ k):v3 P dm T x lo hi=some (ps,v,rd):=by
 unfold v3 at h ⊢
 split at h
 ·exact h
 ·split at h
  ·grind
  ·cases h
 ·cases h
theorem ym {sz:Nat} {x:AV} {n:Nat} {g:Nat→List AV} {pr:Bool} {ps:List Prop} {rd:List Nat} (h:sa σ sz x=some (n,g,pr,ps,rd)) (hs:∀ k∈rd,ar dm k=ar σ k):sa dm sz x=some (n,g,pr,ps,rd):=by
 unfold sa at h ⊢
 grind
theorem JC {src dst:TypeId} {x:AV} {ps:List Prop} {v:AV} {rd:List Nat} (h:v8 P σ src dst x=some (ps,v,rd)) (hs:∀ k∈rd,ar dm k=ar σ k):v8 P dm src dst x=some (ps,v,rd):=by
 unfold v8 at h ⊢
 split at h
 ·exact h
 ·split at h
  ·rename_i n gt pr qs Il he sb
   simp only [aA,ax] at h
   obtain ⟨rfl,rfl,rfl⟩:=h
   rw [ym sb hs,he]
  ·cases h
 ·cases h
theorem Cb {t:TypeId} {s x:AV} {ps:List Prop} {v:AV} {rd:List Nat} {u:oZ} (h:ot P nk σ t s x=some (ps,v,rd,u)) (hs:∀ k∈rd,ar dm k=ar σ k):ot P nk dm t s x=some (ps,v,rd,u):=by
 unfold ot at h ⊢
 split at h
 ·split at h
  ·rename_i sz b z h1 h2 h3
   split at h
   ·rename_i n g pr Ko Il hb sb
    split at h
    ·have Me:rd=Il:=by simp only [aA,ax] at h;exact h.2.2.1.symm
     rw [ym sb (fun k hk=>hs k (Me ▸ hk))]
     simp only [hb]
     exact h
    ·rename_i k len
     split at h
     ·rename_i o ho
      split at h
      ·rename_i FK
       have Me:rd=k :: Il:=by simp only [aA,ax] at h;exact h.2.2.1.symm
       rw [ym sb (fun k hk=>hs k (by rw [Me];simp [hk]))]
       simp only [hb,hs k (by simp [Me]),ho,FK]
       exact h
      ·cases h
     ·cases h
    ·cases h
   ·cases h
  ·cases h
 ·cases h
mutual
theorem KW {ks:List Nat}:∀ (x y:AV) (bs:List Nat) (ps:List Prop),x.eu σ ks=some (y,bs,ps)→(∀ k∈bs,ar dm k=ar σ k)→x.eu dm ks=some (y,bs,ps)
 | .op k i j,y,bs,ps,h,_=>by simpa [AV.eu] using h
 | .mp k,y,bs,ps,h,_=>by simpa [AV.eu] using h
 | .ov _ _ _ _ _,y,bs,ps,h,_=>by simp [AV.eu] at h
 | .za _ _ _,y,bs,ps,h,_=>by simp [AV.eu] at h
 | .nq _ _,y,bs,ps,h,_=>by simp [AV.eu] at h
 | .bn _,y,bs,ps,h,_=>by simpa [AV.eu] using h
 | .pt _ _,y,bs,ps,h,_=>by simpa [AV.eu] using h
 | .os k off len,y,bs,ps,h,hs=>by
  simp only [AV.eu] at h ⊢
  split at h
  ·rename_i n hn;exact h
  ·rename_i hn
   split at h
   ·rename_i o ho
    split at h
    ·rename_i hp
     have hb:bs=[k]:=by simp only [aA,ax] at h;exact h.2.1.symm
     simp only [hs k (by simp [hb]),ho,hp]
     exact h
    ·cases h
   ·cases h
 | .agg cs,y,bs,ps,h,hs=>by
  simp only [AV.eu,aE] at h ⊢
  obtain ⟨⟨a,b,c⟩,h,e⟩:=h
  simp only [ax] at e
  obtain ⟨rfl,rfl,rfl⟩:=e
  exact ⟨(a,b,c),pQ cs a b c h hs,rfl⟩
 | .tup cs,y,bs,ps,h,hs=>by
  simp only [AV.eu,aE] at h ⊢
  obtain ⟨⟨a,b,c⟩,h,e⟩:=h
  simp only [ax] at e
  obtain ⟨rfl,rfl,rfl⟩:=e
  exact ⟨(a,b,c),pQ cs a b c h hs,rfl⟩
 | .fn g x z,y,bs,ps,h,hs=>by
  simp only [AV.eu] at h ⊢
  split at h
  ·rename_i a b c a' b' c' e1 e2
   simp only [aA,ax] at h
   obtain ⟨rfl,rfl,rfl⟩:=h
   rw [pQ x a b c e1 (fun k hk=>hs k (by simp [hk])),pQ z a' b' c' e2 (fun k hk=>hs k (by simp [hk]))]
  ·cases h
 | .when _ _,y,bs,ps,h,_=>by simp [AV.eu] at h
 | .mr _ _ _,y,bs,ps,h,_=>by simp [AV.eu] at h
 | .atom _,y,bs,ps,h,_=>by simpa [AV.eu] using h
 | .sl _ _,y,bs,ps,h,_=>by simpa [AV.eu] using h
 | .rp _ _,y,bs,ps,h,_=>by simpa [AV.eu] using h
 | .nil,y,bs,ps,h,_=>by simpa [AV.eu] using h
 | .k6,y,bs,ps,h,_=>by simpa [AV.eu] using h
theorem pQ {ks:List Nat}:∀ (xs ys:List AV) (bs:List Nat) (ps:List Prop),AV.nP σ ks xs=some (ys,bs,ps)→(∀ k∈bs,ar dm k=ar σ k)→AV.nP dm ks xs=some (ys,bs,ps)
 | [],ys,bs,ps,h,_=>by simpa [AV.nP] using h
 | c :: cs,ys,bs,ps,h,hs=>by
  simp only [AV.nP] at h ⊢
  split at h
  ·rename_i a b p a' b' p' e1 e2
   simp only [aA,ax] at h
   obtain ⟨rfl,rfl,rfl⟩:=h
   rw [KW c a b p e1 (fun k hk=>hs k (by simp [hk])),pQ cs a' b' p' e2 (fun k hk=>hs k (by simp [hk]))]
  ·cases h
end
theorem Ek {ks:List Nat}:∀ (l:List Nat) (i:Nat),(∀ k∈l,ar dm k=ar σ k)→canon dm ks i l=canon σ ks i l
 | [],i,_=>rfl
 | k :: r,i,h=>by simp only [canon];rw [h k (by simp),Ek r (i+1) fun k hk=>h k (by simp [hk])]
theorem xn {ks:List Nat} {lone:Bool}:∀ (l:List Nat),(∀ k∈l,ar dm k=ar σ k)→u7 dm ks lone l=u7 σ ks lone l
 | [],_=>rfl
 | k :: r,h=>by simp only [u7];rw [h k (by simp),xn r fun k hk=>h k (by simp [hk])]
theorem KX {f:AV} {args:List AV} {aY:l8} {r:R} (h:B1 P nk σ f args aY=some r) (hs:∀ k∈r.Hd,ar dm k=ar σ k):B1 P nk dm f args aY=some r:=by
 unfold B1 BB at h ⊢
 split at h
 case h_2=>cases h
 rename_i gid first cap
 split at h
 case h_2=>cases h
 rename_i as bs ps ru h1 h2 h3
 split at h
 case h_2=>cases h
 rename_i h4
 have hr:r.Hd=aY.ks ++ bs:=by
  split at h
  ·split at h
   ·split at h
    ·cases h;rfl
    ·cases h
   ·split at h
    ·cases h;rfl
    ·cases h
  ·split at h
   ·cases h;rfl
   ·cases h
 rw [hr] at hs
 simp only [h1,pQ _ _ _ _ h2 (fun k hk=>hs k (by simp [hk])),Ek aY.ks 0 (fun k hk=>hs k (by simp [hk])),xn (ks:=aY.ks) (lone:=bs.isEmpty || aY.uB) aY.ks (fun k hk=>hs k (by simp [hk])),xn (ks:=aY.ks) (lone:=true) aY.ks (fun k hk=>hs k (by simp [hk])),h3,h4]
 exact h
theorem Hz {t:TypeId} {m x:AV} {ok:Bool} {aY:l8} {ps:List Prop} {v:AV} {rd:List Nat} (h:se P σ t m x ok aY=some (ps,v,rd)) (hs:∀ k∈rd,ar dm k=ar σ k):se P dm t m x ok aY=some (ps,v,rd):=by
 unfold se at h ⊢
 grind
theorem Cc {t:TypeId} {m x y:AV} {aY:l8} {ps:List Prop} {u:oZ} {rd:List Nat} (h:sf P σ t m x y aY=some (ps,u,rd)) (hs:∀ k∈rd,ar dm k=ar σ k):sf P dm t m x y aY=some (ps,u,rd):=by
 unfold sf at h ⊢
 grind
theorem Gp {op:Op} {e:Operand→AV} {aY:Option l8} {r:R} (h:cV P nk σ op e aY=some r) (hs:∀ k∈r.Hd,ar dm k=ar σ k):cV P nk dm op e aY=some r:=by
 cases op with
 | load T x =>
  simp only [cV,aE] at h ⊢
  obtain ⟨⟨ps,v,rd⟩,h1,rfl⟩:=h
  exact ⟨_,KV h1 hs,rfl⟩
 | store T x y =>
  simp only [cV,aE] at h ⊢
  obtain ⟨⟨ps,v,rd⟩,h1,rfl⟩:=h
  exact ⟨_,JA h1 hs,rfl⟩
 | indexAddr T x i =>
  simp only [cV,aE] at h ⊢
  obtain ⟨⟨ps,v,rd⟩,h1,rfl⟩:=h
  exact ⟨_,Dv h1 hs,rfl⟩
 | slice t x lo hi mx =>
  cases mx with
  | some _=>simp [cV] at h
  | none =>
   simp only [cV,aE] at h ⊢
   obtain ⟨⟨ps,v,rd⟩,h1,rfl⟩:=h
   exact ⟨_,JB h1 hs,rfl⟩
 | convert src dst x =>
  simp only [cV] at h ⊢
  split at h
  ·omega
  ·rename_i h0
   simp only [aE] at h ⊢
   obtain ⟨⟨ps,v,rd⟩,h1,rfl⟩:=h
   exact ⟨_,JC h1 hs,rfl⟩
 | makeMap t r=>cases r with
  | none=>exact h
  | some _=>simp [cV] at h
 | lookup t m x ok =>
  simp only [cV] at h ⊢
  split at h
  ·simp only [aE] at h ⊢
   obtain ⟨⟨ps,v,rd⟩,h1,rfl⟩:=h
   exact ⟨_,Hz h1 hs,rfl⟩
  ·cases h
 | mapUpdate t m x y =>
  simp only [cV] at h ⊢
  split at h
  ·simp only [aE] at h ⊢
   obtain ⟨⟨ps,u,rd⟩,h1,rfl⟩:=h
   exact ⟨_,Cc h1 hs,rfl⟩
  ·cases h
 | insert t m x y =>
  simp only [cV] at h ⊢
  split at h
  ·simp only [aE] at h ⊢
   obtain ⟨⟨ps,u,rd⟩,h1,rfl⟩:=h
   exact ⟨_,Cc h1 hs,rfl⟩
  ·cases h
 | call c =>
  obtain ⟨callee,args,argTypes⟩:=c
  cases callee with
  | invoke=>simp [cV] at h
  | value f =>
   simp only [cV] at h ⊢
   split at h
   ·simp only [aE] at h ⊢
    obtain ⟨r',h1,rfl⟩:=h
    exact ⟨_,KX h1 hs,rfl⟩
   ·cases h
  | builtin b =>
   simp only [cV] at h ⊢
   unfold wc at h ⊢
   split at h
   ·exact h
   ·split at h
    ·simp only [aE] at h ⊢
     obtain ⟨⟨ps,v,rd,u⟩,h1,rfl⟩:=h
     exact ⟨_,Cb h1 hs,rfl⟩
    ·cases h
   ·exact h
   ·exact h
   ·cases h
 | _=>exact h
theorem MV {op:Op} {e e':Operand→AV} {aY:Option l8} (he:∀ x∈op.operands.toList,e' x=e x):ve P nk σ op e' aY=ve P nk σ op e aY:=by
 unfold ve
 split
 ·exact KU he
 ·split
  ·grind [conds,Op.operands]
  ·grind [Op.operands,Call.operands,conds]
  ·grind [Op.operands,Call.operands,conds]
  ·grind [Op.operands,Call.operands,conds]
  ·rename_i t x lo hi mx
   have h1:e' x=e x:=he x (by simp [Op.operands])
   have h2:∀ y∈lo,e' y=e y:=fun y hy=>he y (by cases hy;simp [Op.operands])
   have h3:∀ y∈hi,e' y=e y:=fun y hy=>he y (by cases hy;simp [Op.operands])
   have h4:∀ y∈mx,e' y=e y:=fun y hy=>he y (by cases hy;simp [Op.operands])
   split
   ·have e2:(lo.map fun y=>(e' y).strip.1)=lo.map fun y=>(e y).strip.1:=by
     cases lo with
     | none=>rfl
     | some y=>simp only [Option.map_some];rw [h2 y rfl]
    have e3:(hi.map fun y=>(e' y).strip.1)=hi.map fun y=>(e y).strip.1:=by
     cases hi with
     | none=>rfl
     | some y=>simp only [Option.map_some];rw [h3 y rfl]
    have e4:conds e' (x :: (lo.toList ++ hi.toList))=conds e (x :: (lo.toList ++ hi.toList)):=gV fun y hy=>by
     simp only [jW,List.mem_append,Option.mem_toList] at hy
     rcases hy with rfl | hy | hy
     ·exact h1
     ·exact h2 _ hy
     ·exact h3 _ hy
    rw [h1,e2,e3,e4]
   ·split
    ·rename_i l h
     simp only [conds];rw [h1,h2 l rfl,h3 h rfl,h4 _ rfl]
    ·rfl
  ·exact KU he
theorem JD {T:TypeId} {a x:AV} {ps:List Prop} {y:AV} {rd:List Nat} (h:wg P σ T a x=some (ps,y,rd)) (hs:∀ k∈rd,ar dm k=ar σ k):wg P dm T a x=some (ps,y,rd):=by
 unfold wg at h ⊢
 grind
theorem E0:∀ (u:oZ) (n:Nat),(∀ τ QO:cz,ar (dL τ u) n=ar (dL QO u) n)∨∀ τ:cz,ar (dL τ u) n=ar τ n
 | [],n=>.inr fun _=>rfl
 | (k,some o) :: u,n=>by
  simp only [dL]
  rcases E0 u n with h | h
  ·grind
  ·by_cases hk:k=n
   ·simp_all [aP,if_pos]
   simp_all [aP,if_neg]
 | (k,none) :: u,n=>by
  simp only [dL]
  rcases E0 u n with h | h
  ·grind
  ·by_cases hk:k=n
   ·simp_all [dY,if_pos]
   simp_all [dY,if_neg]
theorem MW {τ QO:cz} {k q i:Nat} (h1:ar QO k=ar τ k) (h2:ar QO q=ar τ q):EZ QO k q i=EZ τ k q i:=by
 unfold EZ;rw [h1,h2]
theorem Gq {t:TypeId} {s x:AV} {aY:l8} {ps:List Prop} {v:AV} {rd:List Nat} {u:oZ} (h:pP P nk σ t s x aY=some (ps,v,rd,u)) (hs:∀ k∈rd,ar dm k=ar σ k):pP P nk dm t s x aY=some (ps,v,rd,u):=by
 unfold pP at h ⊢
 split at h
 case h_2=>cases h
 rename_i q p1 v' Il u1 hq ha
 split at h
 case h_2=>cases h
 rename_i p2 u2 hb hc
 have Me:rd=q :: Il:=by simp only [aA,ax] at h;exact h.2.2.1.symm
 have Hg:=Cb ha (fun k hk=>hs k (by rw [Me];simp [hk]))
 have Sp:ar (dL dm u1) nk=ar (dL σ u1) nk:=by
  have hu:∃ o,u1=[(nk,some o)]∨∃ k,u1=[(k,none),(nk,some o)]:=by
   unfold ot at ha
   split at ha
   ·split at ha
    ·grind
    ·cases ha
   ·cases ha
  obtain ⟨o,rfl | ⟨k,rfl⟩⟩:=hu<;>simp only [dL]<;>rw [aP,aP,if_pos rfl,if_pos rfl]
 have Xk:ar (dL dm u1) q=ar (dL σ u1) q:=by
  rcases E0 u1 q with h1 | h1
  ·exact h1 _ _
  ·simp_all
 grind [MW]
theorem HA {T:TypeId} {x:AV} {lo hi:Option AV} {ps:List Prop} {v:AV} {rd:List Nat} (h:si P σ T x lo hi=some (ps,v,rd)) (hs:∀ k∈rd,ar dm k=ar σ k):si P dm T x lo hi=some (ps,v,rd):=by
 unfold si at h ⊢
 split at h
 case h_2=>cases h
 grind
theorem KY {t:TypeId} {s x:AV} {ps:List Prop} {v:AV} {rd:List Nat} {u:oZ} (h:zt P σ t s x=some (ps,v,rd,u)) (hs:∀ k∈rd,ar dm k=ar σ k):zt P dm t s x=some (ps,v,rd,u):=by
 unfold zt at h ⊢
 split at h
 case h_2=>cases h
 grind
theorem KZ {t:TypeId} {s x:AV} {ps:List Prop} {v:AV} {rd:List Nat} {u:oZ} (h:zu P σ t s x=some (ps,v,rd,u)) (hs:∀ k∈rd,ar dm k=ar σ k):zu P dm t s x=some (ps,v,rd,u):=by
 unfold zu at h ⊢
 split at h
 case h_2=>cases h
 grind
theorem K0 {t:TypeId} {s x:AV} {ps:List Prop} {v:AV} {rd:List Nat} {u:oZ} (h:zw P σ t s x=some (ps,v,rd,u)) (hs:∀ k∈rd,ar dm k=ar σ k):zw P dm t s x=some (ps,v,rd,u):=by
 unfold zw at h ⊢
 split at h
 case h_2=>cases h
 rename_i e he
 split at h
 case h_2=>cases h
 rename_i sz b z k off m oX hb hz
 split at h
 case h_2=>cases h
 rename_i n gt pr Ko Il o sb ho
 split at h
 case h_2=>cases h
 rename_i zh
 have Me:rd=k :: Il:=by simp only [aA,ax] at h;exact h.2.2.1.symm
 rw [ym sb (fun k hk=>hs k (by rw [Me];simp [hk]))]
 grind
theorem K1 {t:TypeId} {s x:AV} {ps:List Prop} {v:AV} {rd:List Nat} {u:oZ} (h:zx P nk σ t s x=some (ps,v,rd,u)) (hs:∀ k∈rd,ar dm k=ar σ k):zx P nk dm t s x=some (ps,v,rd,u):=by
 unfold zx at h ⊢
 split at h
 case h_2=>cases h
 rename_i e he
 split at h
 case h_2=>cases h
 rename_i sz b z k off m oX hb hz
 split at h
 case h_2=>cases h
 rename_i n gt pr Ko Il o sb ho
 split at h
 case h_2=>cases h
 rename_i zh
 have Me:rd=k :: Il:=by simp only [aA,ax] at h;exact h.2.2.1.symm
 rw [ym sb (fun k hk=>hs k (by rw [Me];simp [hk]))]
 grind
theorem JE {t:TypeId} {x:AV} {ps:List Prop} {v:AV} {rd:List Nat} {u:oZ} (h:wh P σ t x=some (ps,v,rd,u)) (hs:∀ k∈rd,ar dm k=ar σ k):wh P dm t x=some (ps,v,rd,u):=by
 unfold wh at h ⊢
 split at h
 case h_2=>cases h
 grind
theorem El {op:Op} {e:Operand→AV} {aY:Option l8} {r:R} (h:ve P nk σ op e aY=some r) (hs:∀ k∈r.Hd,ar dm k=ar σ k):ve P nk dm op e aY=some r:=by
 unfold ve at h ⊢
 split at h
 ·exact Gp h hs
 ·rename_i q h0
  split at h
  ·simp only [aE] at h ⊢
   obtain ⟨⟨ps,v,rd⟩,h1,rfl⟩:=h
   exact ⟨_,JD h1 hs,rfl⟩
  ·split at h
   ·rename_i x y t t' ha ht
    split at h
    ·rename_i hb
     simp only [aE] at h
     obtain ⟨⟨ps,v,rd,u⟩,h1,rfl⟩:=h
     simp only [ha,ht,hb,aE]
     refine ⟨⟨ps,v,rd,u⟩,?_,rfl⟩
     split at h1
     ·exact KY h1 hs
     ·exact K0 h1 hs
     ·exact K1 h1 hs
     ·exact Gq h1 hs
    ·cases h
   ·cases h
  ·split at h
   ·rename_i x y t t' ha ht
    simp only [aE] at h
    obtain ⟨⟨ps,v,rd,u⟩,h1,rfl⟩:=h
    simp only [ha,ht,aE]
    exact ⟨_,KZ h1 hs,rfl⟩
   ·cases h
  ·split at h
   ·rename_i x t ha ht
    simp only [aE] at h
    obtain ⟨⟨ps,v,rd,u⟩,h1,rfl⟩:=h
    simp only [ha,ht,aE]
    exact ⟨_,JE h1 hs,rfl⟩
   ·cases h
  ·split at h
   ·simp only [aE] at h ⊢
    obtain ⟨⟨ps,v,rd⟩,h1,rfl⟩:=h
    exact ⟨_,HA h1 hs,rfl⟩
   ·exact h
  ·exact Gp h hs
theorem Em {τ:cz} {e e':Operand→AV}:∀ {xs:List Operand},(∀ x∈xs,e' x=e x)→P9 τ e' xs=P9 τ e xs
 | [],_=>rfl
 | x :: r,h=>by simp only [P9];rw [h x (by simp),Em fun y hy=>h y (by simp [hy])]
theorem En:∀ {τ:cz} {ps:List Prop},Mc σ τ=some ps→(∀ k∈τ.map (·.1),ar dm k=ar σ k)→Mc dm τ=some ps
 | [],ps,h,_=>h
 | (k,o') :: r,ps,h,hs=>by
  simp only [Mc] at h ⊢
  split at h
  ·rename_i o qs ho hr
   rw [hs k (by simp),ho,En hr fun k hk=>hs k (by simp_all)]
   exact h
  ·cases h
theorem MY {op:Op} {e e':Operand→AV} {aY:Option l8} (he:∀ x∈op.operands.toList,e' x=e x):w5 P nk σ op e' aY=w5 P nk σ op e aY:=by
 simp_all [w5,MV,Em,Oi]
theorem JF {op:Op} {e:Operand→AV} {aY:Option l8} {r:R} (h:w5 P nk σ op e aY=some r) (hs:∀ k∈r.Hd,ar dm k=ar σ k):w5 P nk dm op e aY=some r:=by
 unfold w5 at h ⊢
 split at h
 ·exact El h hs
 ·split at h
  ·rename_i ps r0 h1 h2
   cases h
   rw [En h1 fun k hk=>hs k (List.mem_append_left _ hk),El h2 fun k hk=>by rw [ku,ku,hs k (List.mem_append_right _ hk)]]
  ·cases h
end
end Go.Ab
namespace Go.Ab
def K2 (l:List Nat) (k:Nat):Bool:=l.any fun x=>Nat.beq x k
theorem Cd {l:List Nat} {k:Nat}:K2 l k=true↔k∈l:=by
 simp only [K2,List.any_eq_true]
 simp
theorem K3 {a b:Nat} (h:a < b):Nat.blt a b=true:=by
 simp_all
theorem AH {a b:Nat} (h:¬ a < b):Nat.blt a b=false:=by
 cases hb:Nat.blt a b with
 | false=>rfl
 | true=>simp only [Nat.blt,Nat.ble_eq] at hb;exact (h hb).elim
theorem K4 {a b:Nat} (h:Nat.blt a b=true):a < b:=by
 simp_all
def tmpsOf:List Operand→List Nat
 | []=>[]
 | .tmp t :: r=>t :: tmpsOf r
 | _ :: r=>tmpsOf r
def Ce (ops:List Oper) (o:Oper):List Nat :=
 tmpsOf o.op.operands.toList ++ (match o.guard with
  | some (j,_)=>(KT ops j).toList
  | none=>[])
theorem Cf:∀ {l:List Operand} {t:Nat},Operand.tmp t∈l→t∈tmpsOf l
 | [],_,h=>by simp at h
 | x :: r,t,h=>by
  rcases jW.1 h with rfl | h'
  ·simp [tmpsOf]
  ·have:=Cf h'
   cases x<;>simp [tmpsOf,this]
def n9 (o:Oper):List Nat:=(o.after.toList.filter (Region.binds .any ·)).map (·.on)
def Eo (ops:List Oper):Nat→Nat→Nat→Bool
 | 0,_,_=>false
 | n+1,i,j=>match ops[j]? with
  | none=>false
  | some o=>(n9 o).any fun e=>Nat.beq e i || Eo ops n i e
def E1:Option Nat→Option Nat→Bool
 | some a,some b=>Nat.beq a b
 | _,_=>false
def meets (l m:List Nat):Bool:=l.any fun k=>K2 m k
def Cg (ops:List Oper) (o p:Oper) (x y:Rec):Bool :=
 meets x.dst.toList (Ce ops p) || meets y.dst.toList (Ce ops o) || meets (gJ x.ko) (y.Hd ++ gJ y.ko) || meets x.Hd (gJ y.ko)
def HC (ops:List Oper) (cb:List Rec) (i j:Nat):Bool :=
 match ops[i]?,ops[j]?,cb[i]?,cb[j]? with
 | some o,some p,some x,some y=>!E1 x.dst y.dst && (!Cg ops o p x y || Eo ops ops.length i j)
 | _,_,_,_=>false
def E2 (ops:List Oper) (j:Nat):Bool :=
 match ops[j]? with
 | some o=>(n9 o).all fun e=>Nat.blt e j
 | none=>false
def K5 (ops:List Oper) (cb:List Rec):Bool :=
 (List.range ops.length).all fun j=>E2 ops j && (List.range j).all fun i=>HC ops cb i j
def Dw (L:Nat→Bool):List Rec→Nat→List (Nat×AV)→List (Nat×AV)
 | [],_,tm=>tm
 | x :: r,i,tm=>Dw L r (i+1) (match L i with
  | true=>AE tm x.dst x.val
  | false=>tm)
def sj (L:Nat→Bool):List Rec→Nat→cz→cz
 | [],_,σ=>σ
 | x :: r,i,σ=>sj L r (i+1) (match L i with
  | true=>dL σ x.ko
  | false=>σ)
theorem kx:∀ (u:oZ) (σ:cz) (k:Nat),ar (dL σ u) k=if k∈gJ u then ar (dL [] u) k else ar σ k
 | [],σ,k=>by simp [gJ,dL]
 | (n,some o) :: r,σ,k=>by
  simp only [dL]
  rw [kx r (sset σ n o) k,kx r (sset [] n o) k,aP,aP]
  by_cases h1:k∈gJ r
  ·simp [gJ] at h1 ⊢;simp [h1]
  ·by_cases h2:n=k
   ·subst h2;simp [gJ]
   ·have:¬ k∈gJ ((n,some o) :: r):=by simp [gJ] at h1 ⊢;exact ⟨fun h=>h2 h.symm,h1⟩
    rw [if_neg h1,if_neg h2,if_neg this]
 | (n,none) :: r,σ,k=>by
  simp only [dL]
  rw [kx r (r9 σ n) k,kx r (r9 [] n) k,dY,dY]
  by_cases h1:k∈gJ r
  ·simp [gJ] at h1 ⊢;simp [h1]
  ·by_cases h2:n=k
   ·subst h2;simp [gJ]
   ·have:¬ k∈gJ ((n,none) :: r):=by simp [gJ] at h1 ⊢;exact ⟨fun h=>h2 h.symm,h1⟩
    rw [if_neg h1,if_neg h2,if_neg this]
theorem Ch {L L':Nat→Bool} {t:Nat}:∀ (cb:List Rec) (i:Nat) (tm HD:List (Nat×AV)),cW tm t=cW HD t →
  (∀ (m:Nat) (x:Rec),cb[m]?=some x→L (i+m)≠L' (i+m)→x.dst≠some t)→cW (Dw L cb i tm) t=cW (Dw L' cb i HD) t
 | [],_,_,_,h,_=>h
 | x :: r,i,tm,HD,h,hd=>by
  simp only [Dw]
  refine Ch r (i+1) _ _ ?_ (fun m y hy iI=>hd (m+1) y (by simpa using hy) (by grind))
  by_cases he:L i=L' i
  ·grind [mT]
  ·have:=hd 0 x (by simp) (by simpa using he)
   have e1:cW (AE tm x.dst x.val) t=cW tm t:=by rw [mT,if_neg this]
   have e2:cW (AE HD x.dst x.val) t=cW HD t:=by rw [mT,if_neg this]
   grind
theorem zz {L L':Nat→Bool} {k:Nat}:∀ (cb:List Rec) (i:Nat) (σ dm:cz),ar σ k=ar dm k →
  (∀ (m:Nat) (x:Rec),cb[m]?=some x→L (i+m)≠L' (i+m)→k ∉ gJ x.ko)→ar (sj L cb i σ) k=ar (sj L' cb i dm) k
 | [],_,_,_,h,_=>h
 | x :: r,i,σ,dm,h,hd=>by
  simp only [sj]
  refine zz r (i+1) _ _ ?_ (fun m y hy iI=>hd (m+1) y (by simpa using hy) (by grind))
  by_cases he:L i=L' i
  ·grind [kx]
  ·have:=hd 0 x (by simp) (by simpa using he)
   have e1:ar (dL σ x.ko) k=ar σ k:=by rw [kx,if_neg this]
   have e2:ar (dL dm x.ko) k=ar dm k:=by rw [kx,if_neg this]
   grind
theorem IG {L:Nat→Bool} {i0:Nat} {x:Rec} {t:Nat}:∀ (cb:List Rec) (i:Nat) (tm:List (Nat×AV)),i≤i0→cb[i0 - i]?=some x →
  (∀ (m:Nat) (y:Rec),cb[m]?=some y→i0 < i+m→x.dst=some t→y.dst≠some t) →
  cW (Dw (fun q=>L q || Nat.beq q i0) cb i tm) t=if x.dst=some t then x.val else cW (Dw L cb i tm) t
 | [],i,tm,_,h,_=>by simp at h
 | y :: r,i,tm,hi,h,hd=>by
  simp only [Dw]
  by_cases he:i=i0
  ·subst he
   simp at h;subst h
   rw [oV rfl,Bool.or_true]
   have Pc:∀ SQ SR:List (Nat×AV),cW SQ t=cW SR t→cW (Dw (fun q=>L q || Nat.beq q i) r (i+1) SQ) t=cW (Dw L r (i+1) SR) t:=by
    intro SQ SR VY
    refine Ch r (i+1) _ _ VY ?_
    intro m z hz iI
    exfalso
    apply iI
    rw [mQ (by omega),Bool.or_false]
   by_cases hx:y.dst=some t
   ·rw [if_pos hx]
    have Dq:∀ (l:List Rec) (n:Nat) (tm:List (Nat×AV)) (M:Nat→Bool),(∀ (m:Nat) (z:Rec),l[m]?=some z→z.dst≠some t)→cW (Dw M l n tm) t=cW tm t:=by
     intro l
     induction l with
     | nil=>intro n tm M _;rfl
     | cons z l ih =>
      intro n tm M hz
      simp only [Dw]
      rw [ih _ _ _ (fun m u hu=>hz (m+1) u (by simpa using hu))]
      split
      ·rw [mT,if_neg (hz 0 z (by simp))]
      ·rfl
    rw [Dq r _ _ _ (fun m z hz=>hd (m+1) z (by simpa using hz) (by omega) hx),mT,if_pos hx]
   ·rw [if_neg hx]
    refine Pc _ _ ?_
    rw [mT,if_neg hx]
    split
    ·rw [mT,if_neg hx]
    ·rfl
  ·rw [mQ he,Bool.or_false]
   refine IG r (i+1) _ (by omega) ?_ (fun m z hz fY=>hd (m+1) z (by simpa using hz) (by omega))
   rw [show i0 - i=(i0 - (i+1))+1 by omega] at h
   simpa using h
theorem Gr {L:Nat→Bool} {i0:Nat} {x:Rec} {k:Nat}:∀ (cb:List Rec) (i:Nat) (σ:cz),i≤i0→cb[i0 - i]?=some x →
  (∀ (m:Nat) (y:Rec),cb[m]?=some y→i0 < i+m→L (i+m)=true→k∈gJ x.ko→k ∉ gJ y.ko) →
  ar (sj (fun q=>L q || Nat.beq q i0) cb i σ) k=if k∈gJ x.ko then ar (dL [] x.ko) k else ar (sj L cb i σ) k
 | [],i,σ,_,h,_=>by simp at h
 | y :: r,i,σ,hi,h,hd=>by
  simp only [sj]
  by_cases he:i=i0
  ·subst he
   simp at h;subst h
   rw [oV rfl,Bool.or_true]
   by_cases hx:k∈gJ y.ko
   ·rw [if_pos hx]
    have Dq:∀ (l:List Rec) (n:Nat) (σ:cz) (M:Nat→Bool),(∀ (m:Nat) (z:Rec),l[m]?=some z→M (n+m)=true→k ∉ gJ z.ko)→ar (sj M l n σ) k=ar σ k:=by
     intro l
     induction l with
     | nil=>intro n tm M _;rfl
     | cons z l ih =>
      intro n σ M hz
      simp only [sj]
      rw [ih _ _ _ (fun m u hu hM=>hz (m+1) u (by simpa using hu) (by grind))]
      split
      ·rename_i hM
       rw [kx,if_neg (hz 0 z (by simp) (by simpa using hM))]
      ·rfl
    rw [Dq r _ _ _ ?_,kx,if_pos hx]
    intro m z hz hM
    rw [mQ (by omega),Bool.or_false] at hM
    exact hd (m+1) z (by simpa using hz) (by omega) (by grind) hx
   ·rw [if_neg hx]
    refine zz r (i+1) _ _ ?_ ?_
    ·rw [kx,if_neg hx]
     split
     ·rw [kx,if_neg hx]
     ·rfl
    ·intro m z hz iI
     exfalso
     apply iI
     rw [mQ (by omega),Bool.or_false]
  ·rw [mQ he,Bool.or_false]
   refine Gr r (i+1) _ (by omega) ?_ (fun m z hz fY hL=>hd (m+1) z (by simpa using hz) (by omega) (by grind))
   grind
theorem IH:∀ (cb:List Rec) (i:Nat) (tm:List (Nat×AV)) (L:Nat→Bool),(∀ m,m < cb.length→L (i+m)=true)→Dw L cb i tm=AF cb tm
 | [],_,_,_,_=>rfl
 | x :: r,i,tm,L,h=>by
  simp only [Dw,AF]
  have:=h 0 (by simp)
  rw [Nat.add_zero] at this
  rw [this,IH r (i+1) _ L (fun m hm=>by rw [show i+1+m=i+(m+1) by omega];simp_all)]
theorem Gs:∀ (cb:List Rec) (i:Nat) (σ:cz) (L:Nat→Bool),(∀ m,m < cb.length→L (i+m)=true)→sj L cb i σ=vg cb σ
 | [],_,_,_,_=>rfl
 | x :: r,i,σ,L,h=>by
  simp only [sj,vg]
  have:=h 0 (by simp)
  rw [Nat.add_zero] at this
  rw [this,Gs r (i+1) _ L (fun m hm=>by rw [show i+1+m=i+(m+1) by omega];simp_all)]
theorem Ci:∀ (cb:List Rec) (i:Nat) (tm:List (Nat×AV)) (L:Nat→Bool),(∀ m,m < cb.length→L (i+m)=false)→Dw L cb i tm=tm
 | [],_,_,_,_=>rfl
 | x :: r,i,tm,L,h=>by
  simp only [Dw]
  have:=h 0 (by simp)
  rw [Nat.add_zero] at this
  rw [this,Ci r (i+1) _ L (fun m hm=>by rw [show i+1+m=i+(m+1) by omega];simp_all)]
theorem zB:∀ (cb:List Rec) (i:Nat) (σ:cz) (L:Nat→Bool),(∀ m,m < cb.length→L (i+m)=false)→sj L cb i σ=σ
 | [],_,_,_,_=>rfl
 | x :: r,i,σ,L,h=>by
  simp only [sj]
  have:=h 0 (by simp)
  rw [Nat.add_zero] at this
  rw [this,zB r (i+1) _ L (fun m hm=>by rw [show i+1+m=i+(m+1) by omega];simp_all)]
section
variable {P:Program}
theorem Ep {nt nk:Nat} {ops:List Oper} {orcs:List (Nat×l8)}:∀ (l:List Oper) (i:Nat) (tm:List (Nat×AV)) (σ:cz) (cb:List Rec),po P nt ops nk orcs l i tm σ=some cb →
  cb.length=l.length∧∀ (m:Nat) (x:Rec),cb[m]?=some x→∃ o,l[m]?=some o ∧
   w6 P nt ops (nk+16 * (i+m)) (Dw (fun q=>Nat.blt q (i+m)) cb i tm) (sj (fun q=>Nat.blt q (i+m)) cb i σ) o (nX orcs (i+m))=some x
 | [],i,tm,σ,cb,h=>by
  simp only [po,aA] at h
  simp_all
 | o :: r,i,tm,σ,cb,h=>by
  simp only [po] at h
  split at h
  ·cases h
  ·rename_i x0 Ok
   simp only [aE] at h
   obtain ⟨l',h2,rfl⟩:=h
   obtain ⟨h3,h4⟩:=Ep r (i+1) _ _ l' h2
   refine ⟨by simp [h3],?_⟩
   intro m x hx
   cases m with
   | zero =>
    simp at hx;subst hx
    refine ⟨o,by simp,?_⟩
    simp only [Nat.add_zero,Dw,sj]
    have SS:Nat.blt i i=false:=AH (by omega)
    rw [SS]
    rw [Ci,zB]
    ·exact Ok
    ·intro m _;exact AH (by omega)
    ·intro m _;exact AH (by omega)
   | succ m =>
    obtain ⟨o',tc,he⟩:=h4 m x (by simpa using hx)
    refine ⟨o',by simpa using tc,?_⟩
    have SS:Nat.blt i (i+(m+1))=true:=K3 (by omega)
    simp only [Dw,sj]
    rw [SS]
    rw [show i+(m+1)=i+1+m by omega]
    exact he
theorem E3 {nk:Nat} {op:Op} {e e':Operand→AV} {aY:Option l8} {σ:cz} (he:∀ x∈op.operands.toList,e' x=e x):vf P nk σ op e' aY=vf P nk σ op e aY:=by
 unfold vf
 split
 ·unfold yk
  split
  ·rename_i f args Eb
   have mem:∀ x,x∈f :: args.toList→e' x=e x:=by
    intro x hx
    refine he x ?_
    simp only [Op.operands,Call.operands] at *
    simpa using hx
   rw [mem f (by simp),gV mem,List.map_congr_left (fun x hx=>by rw [mem x (List.mem_cons_of_mem _ hx)]:∀ x∈args.toList,(e' x).strip.1=(e x).strip.1)]
  ·rfl
 ·exact MY he
theorem zC {nk:Nat} {op:Op} {e:Operand→AV} {aY:Option l8} {σ dm:cz} {r:R} (h:vf P nk σ op e aY=some r) (hs:∀ k∈r.Hd,ar dm k=ar σ k):vf P nk dm op e aY=some r:=by
 unfold vf at h ⊢
 split at h
 ·unfold yk at h ⊢
  grind
 ·exact JF h hs
theorem JG {nt nk:Nat} {ops:List Oper} {tm HD:List (Nat×AV)} {σ dm:cz} {o:Oper} {aY:Option l8} {x:Rec} (h:w6 P nt ops nk tm σ o aY=some x)
  (ht:∀ t∈Ce ops o,cW HD t=cW tm t) (hs:∀ k∈x.Hd,ar dm k=ar σ k):w6 P nt ops nk HD dm o aY=some x:=by
 have he:∀ y∈o.op.operands.toList,vd HD y=vd tm y:=by
  intro y hy
  cases y with
  | tmp t=>exact ht t (by simp only [Ce,List.mem_append];exact .inl (Cf hy))
  | _=>rfl
 unfold w6 at h ⊢
 split at h
 ·cases h
 ·split at h
  ·simp only [aE] at h ⊢
   obtain ⟨r,h1,rfl⟩:=h
   exact ⟨r,by rw [E3 he];exact zC h1 hs,rfl⟩
  ·rename_i j want RS
   split at h
   ·cases h
   ·rename_i d hd
    have VZ:cW HD d=cW tm d:=ht d (by simp [Ce,RS,hd])
    rw [VZ]
    split at h
    ·split at h
     ·rename_i g r hg h1
      split at h
      ·rename_i hu
       cases h
       rw [E3 he,zC h1 hs,hg]
       simp [hu]
      ·cases h
     ·cases h
    ·split at h
     ·rename_i g r hg h1
      cases h
      rw [E3 he,zC h1 hs,hg]
     ·cases h
    ·split at h
     ·rename_i g hg
      exact h
     ·cases h
theorem xp {ops:List Oper} {L:Nat→Bool} (hd:∀ j,L j=true→∀ o,ops[j]?=some o→∀ e∈n9 o,L e=true):∀ (n i j:Nat),Eo ops n i j=true →
  (∀ o,ops[j]?=some o→∀ e∈n9 o,L e=true)→L i=true
 | 0,i,j,h,_=>by simp [Eo] at h
 | n+1,i,j,h,hj=>by
  simp only [Eo] at h
  split at h
  ·cases h
  ·rename_i o ho
   simp only [List.any_eq_true,Bool.or_eq_true] at h
   obtain ⟨e,he,h | h⟩:=h
   ·simp_all
   ·exact xp hd n i e h fun o' tc e' V2=>hd e (hj o ho e he) o' tc e' V2
def JH (ops:List Oper) (o p:Oper) (x y:Rec):Prop :=
 (∃ d,x.dst=some d∧d∈Ce ops p)∨(∃ d,y.dst=some d∧d∈Ce ops o)∨(∃ k,k∈gJ x.ko∧(k∈y.Hd∨k∈gJ y.ko))∨∃ k,k∈x.Hd∧k∈gJ y.ko
theorem wi {l m:List Nat} {k:Nat} (h1:k∈l) (h2:k∈m):meets l m=true:=List.any_eq_true.2 ⟨k,h1,Cd.2 h2⟩
theorem JH.Cg {ops:List Oper} {o p:Oper} {x y:Rec} (h:JH ops o p x y):Cg ops o p x y=true:=by
 unfold Ab.Cg
 simp only [Bool.or_eq_true]
 rcases h with ⟨d,h1,h2⟩ | ⟨d,h1,h2⟩ | ⟨k,h1,h2⟩ | ⟨k,h1,h2⟩
 ·simp_all [wi]
 ·simp_all [wi]
 ·grind [wi]
 grind [wi]
theorem JH.symm {ops:List Oper} {o p:Oper} {x y:Rec} (h:JH ops o p x y):JH ops p o y x:=by
 rcases h with h | h | ⟨k,h1,h2 | h2⟩ | ⟨k,h1,h2⟩
 ·exact .inr (.inl h)
 ·exact .inl h
 ·exact .inr (.inr (.inr ⟨k,h2,h1⟩))
 ·exact .inr (.inr (.inl ⟨k,h2,.inr h1⟩))
 ·exact .inr (.inr (.inl ⟨k,h2,.inl h1⟩))
theorem count_set:∀ (l:List Bool) (i:Nat),l[i]?=some false→((l.set i true).filter (· == true)).length=(l.filter (· == true)).length+1
 | [],i,h=>by simp at h
 | b :: l,0,h=>by simp at h;subst h;simp
 | b :: l,i+1,h=>by
  have:=count_set l i (by simpa using h)
  cases b<;>simp_all
theorem HE {E:Env} {rd:Option Nat} {ds:List Deferred} {nt nk:Nat} {ops:Array Oper} {orcs:List (Nat×l8)} {Ol:List (Nat×AV)} {MZ:cz} {cb:List Rec} {Q:Exit→Act→World→Prop} (hz:∀ i,Gm P E (nX orcs i)) (hm:E.m0≤nk)
  (RT:po P nt ops.toList nk orcs ops.toList 0 Ol MZ=some cb) (hp:aV (B9 cb)) (FM:K5 ops.toList cb=true)
  (hQ:∀ a' w' S' cu,a'.tmps.size=nt→a'.defers=ds→Good E (vg cb MZ) S' cu w'→(∀ k,nk+16 * ops.size≤k→cu k=none)→(∀ t,an w' S' cu (a'.tmps.getD t undef) (cW (AF cb Ol) t))→Q .normal a' w') :
  ∀ (fuel:Nat) (bg:Array Bool) (a:Act) (w:World) (S:Nat→Prop) (μ:Mu),bg.size=ops.size→a.tmps.size=nt→a.defers=ds →
   (∀ j,bg.getD j false=true→∀ o,ops.toList[j]?=some o→∀ e∈n9 o,bg.getD e false=true)→ops.size≤fuel+(bg.toList.filter (· == true)).length →
   Good E (sj (fun j=>bg.getD j false) cb 0 MZ) S μ w→(∀ k,nk≤k→(∀ j,nk+16 * j≤k→k < nk+16 * j+16→bg.getD j false=false)→μ k=none) →
   (∀ t,an w S μ (a.tmps.getD t undef) (cW (Dw (fun j=>bg.getD j false) cb 0 Ol) t)) →
   wpAnyIn (FW rd) 0 P .any ops Q fuel bg a w:=by
 obtain ⟨hlen,nR⟩:=Ep ops.toList 0 Ol MZ cb RT
 simp only [Nat.zero_add] at nR
 have uC:∀ j,j < ops.size→E2 ops.toList j=true∧∀ i,i < j→HC ops.toList cb i j=true:=by
  intro j hj
  have:=List.all_eq_true.1 FM j (List.mem_range.2 (by simpa using hj))
  simp only [aR] at this
  exact ⟨this.1,fun i hi=>List.all_eq_true.1 this.2 i (List.mem_range.2 hi)⟩
 have Om:∀ j o,ops.toList[j]?=some o→∀ e∈n9 o,e < j:=by
  intro j o ho e he
  have hj:j < ops.size:=by simpa using (cJ.1 ho).1
  have h1:=(uC j hj).1
  unfold E2 at h1
  rw [ho] at h1
  exact K4 (List.all_eq_true.1 h1 e he)
 have K6:∀ i j o p x y,i < j→ops.toList[i]?=some o→ops.toList[j]?=some p→cb[i]?=some x→cb[j]?=some y →
   E1 x.dst y.dst=false∧(Cg ops.toList o p x y=true→Eo ops.toList ops.toList.length i j=true):=by
  intro i j o p x y O3 ho qL hx hy
  have hj:j < ops.size:=by simpa using (cJ.1 qL).1
  have h1:=(uC j hj).2 i O3
  unfold HC at h1
  rw [ho,qL,hx,hy] at h1
  simp only [aR,Bool.not_eq_true',Bool.or_eq_true] at h1
  refine ⟨h1.1,fun hc=>?_⟩
  rcases h1.2 with h2 | h2
  ·rw [hc] at h2;cases h2
  ·exact h2
 -- what is ready
 have HF:∀ (bg:Array Bool),bg.size=ops.size→∀ i,i∈Region.ready .any ops bg↔(i < ops.size∧bg.getD i false=false∧∀ o,ops.toList[i]?=some o→∀ e∈n9 o,bg.getD e false=true):=by
  intro bg K7 i
  unfold Region.ready
  simp only [List.mem_filter,List.mem_range,aR,Bool.not_eq_true']
  constructor
  ·rintro ⟨h1,h2,h3⟩
   have hl:i < bg.size:=by omega
   refine ⟨h1,?_,?_⟩
   ·simp only [rk,gG hl,Option.getD_some] at h2 ⊢;exact h2
   ·intro o ho e he
    have tc:ops[i]?=some o:=by simpa using ho
    simp only [tc,Option.map_some,Option.getD_some,Array.all_eq_true'] at h3
    simp only [n9,List.mem_map,List.mem_filter] at he
    obtain ⟨ed,⟨SU,OQ⟩,rfl⟩:=he
    have:=h3 ed (by simpa using SU)
    rw [OQ] at this
    simpa only [Bool.not_true,Bool.false_or] using this
  ·rintro ⟨h1,h2,h3⟩
   have hl:i < bg.size:=by omega
   refine ⟨h1,?_,?_⟩
   ·simp only [rk,gG hl,Option.getD_some] at h2 ⊢;exact h2
   ·have ho:ops[i]?=some ops[i]:=gG h1
    simp only [ho,Option.map_some,Option.getD_some,Array.all_eq_true']
    intro ed SU
    simp only [Bool.or_eq_true,Bool.not_eq_true']
    cases hb:Region.binds .any ed with
    | false=>exact .inl rfl
    | true =>
     right
     exact h3 ops[i] (by simp) ed.on (by simp only [n9,List.mem_map,List.mem_filter];exact ⟨ed,⟨by simpa using SU,hb⟩,rfl⟩)
 intro fuel
 -- the end
 have fin:∀ (bg:Array Bool) (a:Act) (w:World) (S:Nat→Prop) (μ:Mu),bg.size=ops.size→a.tmps.size=nt→a.defers=ds→(∀ j,j < ops.size→bg.getD j false=true) →
   Good E (sj (fun j=>bg.getD j false) cb 0 MZ) S μ w→(∀ k,nk≤k→(∀ j,nk+16 * j≤k→k < nk+16 * j+16→bg.getD j false=false)→μ k=none) →
   (∀ t,an w S μ (a.tmps.getD t undef) (cW (Dw (fun j=>bg.getD j false) cb 0 Ol) t))→Q .normal a w:=by
  intro bg a w S μ K7 hs Md QP g hk ht
  have hL:∀ m,m < cb.length→(fun j=>bg.getD j false) (0+m)=true:=fun m eM=>by
   rw [Nat.zero_add];exact QP m (by rw [hlen] at eM;simpa using eM)
  rw [Gs cb 0 MZ _ hL] at g
  refine hQ a w S μ hs Md g (fun k mE=>hk k (by omega) fun j hj Qa=>?_) (fun t=>by rw [← IH cb 0 Ol (fun j=>bg.getD j false) hL];exact ht t)
  have:bg.size≤j:=by omega
  simp [rk,Array.getElem?_eq_none this]
 have QQ:∀ (bg:Array Bool),bg.size=ops.size→(∀ j,bg.getD j false=true→∀ o,ops.toList[j]?=some o→∀ e∈n9 o,bg.getD e false=true)→Region.ready .any ops bg=[]→∀ j,j < ops.size→bg.getD j false=true:=by
  intro bg K7 Pd hr j
  induction j using Nat.strongRecOn with
  | _ j ih =>
   intro hj
   cases hb:bg.getD j false with
   | true=>rfl
   | false =>
    have:j∈Region.ready .any ops bg:=(HF bg K7 j).2 ⟨hj,hb,fun o ho e he=>ih e (Om j o ho e he) (by have:=Om j o ho e he;omega)⟩
    rw [hr] at this;simp at this
 induction fuel with
 | zero =>
  intro bg a w S μ K7 hs Md Pd On g hk ht
  simp only [wpAnyIn]
  have QP:∀ j,j < ops.size→bg.getD j false=true:=by
   have hle:(bg.toList.filter (· == true)).length=bg.toList.length:=by
    have h1:=List.length_filter_le (· == true) bg.toList
    simp at h1 On ⊢;omega
   have h2:=List.length_filter_eq_length_iff.1 hle
   intro j hj
   have hl:j < bg.size:=by omega
   have:=h2 bg[j] (by simp)
   simp only [rk,gG hl,Option.getD_some]
   simpa using this
  refine ⟨?_,fin bg a w S μ K7 hs Md QP g hk ht⟩
  cases hr:Region.ready .any ops bg with
  | nil=>rfl
  | cons i r =>
   have:=(HF bg K7 i).1 (by rw [hr];simp)
   rw [QP i this.1] at this
   simp at this
 | succ fuel ih =>
  intro bg a w S μ K7 hs Md Pd On g hk ht
  simp only [wpAnyIn]
  refine ⟨fun hr=>fin bg a w S μ K7 hs Md (QQ bg K7 Pd hr) g hk ht,?_⟩
  intro i hi
  obtain ⟨Im,He,Bz⟩:=(HF bg K7 i).1 hi
  have QR:i < cb.length:=by rw [hlen];simpa using Im
  have hx:cb[i]?=some cb[i]:=n7 QR
  obtain ⟨o,ho,UT⟩:=nR i _ hx
  generalize cb[i]=x at hx UT
  have V3:aV x.D2:=by
   have:∀ (l:List Rec) (i:Nat),aV (B9 l)→l[i]?=some x→aV x.D2:=by
    intro l
    induction l with
    | nil=>intro i _ h;simp at h
    | cons y l ih =>
     intro i h hi
     obtain ⟨h1,h2⟩:=aV.app h
     cases i with
     | zero=>simp at hi;exact hi ▸ h1
     | succ i=>exact ih i h2 (by simpa using hi)
   exact this cb i hp hx
  -- an operation that meets this one is carried out just if it stands before it
  have order:∀ (j:Nat) (p:Oper) (y:Rec),j≠i→ops.toList[j]?=some p→cb[j]?=some y→JH ops.toList o p x y→Nat.blt j i=bg.getD j false:=by
   intro j p y iI UU UW hc
   rcases Nat.lt_or_gt_of_ne iI with fY | OH
   ·rw [K3 fY]
    exact (xp (L:=fun j=>bg.getD j false) Pd _ j i ((K6 j i p o y x fY UU ho UW hx).2 hc.symm.Cg) (fun o' tc e he=>by rw [ho] at tc;cases tc;exact Bz o ho e he)).symm
   ·rw [AH (by omega)]
    cases hb:bg.getD j false with
    | false=>rfl
    | true =>
     have:=xp (L:=fun j=>bg.getD j false) Pd _ i j ((K6 i j o p x y OH ho UU hx UW).2 hc.Cg) (fun o' tc e he=>Pd j hb o' tc e he)
     have:bg.getD i false=true:=this
     rw [He] at this;cases this
  have II:∀ (m:Nat) (y:Rec),cb[m]?=some y→∃ p,ops.toList[m]?=some p:=fun m y hy=>let ⟨p,qL,_⟩:=nR m y hy;⟨p,qL⟩
  have QS:w6 P nt ops.toList (nk+16 * i) (Dw (fun j=>bg.getD j false) cb 0 Ol) (sj (fun j=>bg.getD j false) cb 0 MZ) o (nX orcs i)=some x:=by
   refine JG UT ?_ ?_
   ·intro t V4
    refine Ch cb 0 _ _ rfl ?_
    intro m y hy iI SV
    rw [Nat.zero_add] at iI
    obtain ⟨p,qL⟩:=II m y hy
    by_cases x9:m=i
    ·subst x9;exact iI (by rw [He,AH (by omega)])
    ·exact iI (order m p y x9 qL hy (.inr (.inl ⟨t,SV,V4⟩))).symm
   ·intro k V5
    refine zz cb 0 _ _ rfl ?_
    intro m y hy iI SW
    rw [Nat.zero_add] at iI
    obtain ⟨p,qL⟩:=II m y hy
    by_cases x9:m=i
    ·subst x9;exact iI (by rw [He,AH (by omega)])
    ·exact iI (order m p y x9 qL hy (.inr (.inr (.inr ⟨k,V5,SW⟩)))).symm
  have Pe:i < bg.size:=by omega
  have Jw:∀ j,(bg.setIfInBounds i true).getD j false=(bg.getD j false || Nat.beq j i):=by
   intro j
   by_cases Ma:j=i
   ·subst Ma
    rw [oV rfl,Bool.or_true]
    simp [rk,Pe]
   ·rw [mQ Ma,Bool.or_false]
    simp only [rk]
    rw [Array.getElem?_setIfInBounds_ne (fun h=>Ma h.symm)]
  have QT:(fun j=>(bg.setIfInBounds i true).getD j false)=fun q=>bg.getD q false || Nat.beq q i:=funext Jw
  have It:∀ q,q < 16→μ (nk+16 * i+q)=none:=fun q hq=>hk _ (by omega) fun j hj Qa=>by
   have Ma:j=i:=by omega
   rw [Ma];exact He
  refine Eh (by simpa using ho) ht g It (by omega) (hz i) QS V3 ?_
  intro v w' S' cu q1 q2 q3 q4
  obtain ⟨d1,d2⟩:=Ei QS
  refine ih _ _ w' S' cu (by simp [K7]) (by rw [Gk];exact hs) (by rw [AG];exact Md) ?_ ?_ ?_ ?_ ?_
  ·intro j hj o' tc e he
   rw [Jw] at hj ⊢
   rw [Bool.or_eq_true] at hj ⊢
   rcases hj with hj | hj
   ·exact .inl (Pd j hj o' tc e he)
   ·have:=bj hj
    subst this
    exact .inl (Bz o' tc e he)
  ·have hc:=count_set bg.toList i (by
    rw [Array.getElem?_toList,gG Pe]
    simp only [rk,gG Pe,Option.getD_some] at He
    rw [He])
   rw [Array.toList_setIfInBounds,hc]
   omega
  ·rw [QT]
   refine q2.congr ?_
   intro k
   rw [Gr cb 0 MZ (Nat.zero_le _) (by simpa using hx) ?_,kx x.ko (sj (fun j=>bg.getD j false) cb 0 MZ)]
   intro m y hy fY hL SW SX
   rw [Nat.zero_add] at fY hL
   obtain ⟨p,qL⟩:=II m y hy
   have:=order m p y (by omega) qL hy (.inr (.inr (.inl ⟨k,SW,.inr SX⟩)))
   rw [AH (by omega)] at this
   rw [← this] at hL;cases hL
  ·intro k mE Dq
   have V6:k < nk+16 * i∨nk+16 * i+16≤k:=by
    rcases Nat.lt_or_ge k (nk+16 * i) with h1 | h1
    ·exact .inl h1
    ·rcases Nat.lt_or_ge k (nk+16 * i+16) with h2 | h2
     ·have:=Dq i h1 h2
      rw [Jw,oV rfl,Bool.or_true] at this
      cases this
     ·exact .inr h2
   refine q3 k V6 (hk k mE fun j hj Qa=>?_)
   have:=Dq j hj Qa
   rw [Jw,Bool.or_eq_false_iff] at this
   exact this.1
  ·intro t
   rw [QT,IG cb 0 Ol (Nat.zero_le _) (by simpa using hx) ?_,IE a x.dst v t (fun n hn=>by rw [hs];exact d2 n (d1 ▸ hn))]
   ·split
    ·exact q4
    ·exact (ht t).ext q1
   ·intro m y hy fY V7 V8
    rw [Nat.zero_add] at fY
    obtain ⟨p,qL⟩:=II m y hy
    have:=(K6 i m o p x y fY ho qL hx hy).1
    rw [V7,V8] at this
    simp only [E1] at this
    rw [oV rfl] at this;cases this
end
end Go.Ab
namespace Go.Ab
inductive Wd where
 | af
 | sl (n:Nat) (g:Nat→List AV)
 | ja (n:Nat)
 | mU (k:Nat)
 | pt (b:Bool) (cs:List AV)
 | nq (st:Option Bool) (d:Wd)
 | UX (d:Wd)
 | agg (ds:List Wd)
 | tup (ds:List Wd)
def FN:List AV→List AV→Prop
 | [],[]=>True
 | a :: as,b :: bs=>(a=b∨(a=.nil∧∃ f,b=.sl 0 f))∧FN as bs
 | _,_=>False
theorem FN.len:∀ {as bs:List AV},FN as bs→bs.length=as.length
 | [],[],_=>rfl
 | _ :: _,_ :: _,h=>congrArg (·+1) (FN.len h.2)
theorem FN.get:∀ {as bs:List AV} {j:Nat} {x:AV},FN as bs→bs[j]?=some x→∃ a,as[j]?=some a∧(a=x∨(a=.nil∧∃ f,x=.sl 0 f))
 | [],[],_,_,_,hx=>by simp at hx
 | a :: _,b :: _,0,x,h,hx=>by
  have:b=x:=by simpa using hx
  subst this
  exact ⟨a,rfl,h.1⟩
 | _ :: as,_ :: bs,j+1,x,h,hx=>by
  have:=FN.get (as:=as) (bs:=bs) (j:=j) (x:=x) h.2 (by simpa using hx)
  simpa using this
theorem Pf {w:World} {S:Nat→Prop} {μ:Mu} {v:Value} {a x:AV} (h:a=x∨(a=.nil∧∃ f,x=.sl 0 f)) (hv:an w S μ v a):an w S μ v x:=by
 rcases h with rfl | ⟨rfl,f,rfl⟩
 ·exact hv
 ·cases hv
  exact .sl 0 0 0 (fun _ _=>undef) (fun h=>absurd h (by decide)) (fun i h=>absurd h (iw _)) (fun i j h=>absurd h (iw _)) (fun i j c h=>absurd h (iw _)) (a7 _)
inductive Od where
 | af (k:Nat)
 | arr (k:Nat) (n:Nat) (g:Nat→List AV)
 | K8 (k:Nat) (n:Nat) (g:Nat→List AV)
 | var (k:Nat) (ds:List Wd)
 | mp (k:Nat) (cs:List AV)
 | nL (k:Nat) (n:Nat) (l:List (Nat×Nat×Nat)) (b:Nat→List AV)
 | Oo (g:Nat→List AV)
 | nil (sz:Nat) (g:Nat→List AV)
def Od.uy:Od→Option Nat
 | .af k | .arr k _ _ | .K8 k _ _ | .var k _ | .mp k _ | .nL k _ _ _=>some k
 | .nil _ _ | .Oo _=>none
def aJ:List (Nat×Nat×Nat)→(Nat→List AV)→Nat→List AV
 | [],b,m=>b m
 | (i,k,n) :: r,b,m=>if m=i then [.os k 0 n] else aJ r b m
def K9 (f:Nat→Option Nat):List (Nat×Nat×Nat)→Option (List (Nat×Nat×Nat))
 | []=>some []
 | (i,k,n) :: r=>match f k,K9 f r with
  | some k',some l=>some ((i,k',n) :: l)
  | _,_=>none
theorem Cj {f:Nat→Option Nat} {b:Nat→List AV} {m:Nat} (hb:BW (b m)=true):∀ {l l':List (Nat×Nat×Nat)},K9 f l=some l'→AV.rr f (aJ l b m)=aJ l' b m
 | [],l',h=>by simp [K9] at h;subst h;exact D3 hb
 | (i,k,n) :: r,l',h=>by
  simp only [K9] at h
  split at h
  ·rename_i k' l2 hk hl
   cases h
   simp only [aJ]
   split
   ·simp [AV.rr,AV.iH,hk]
   ·exact Cj hb hl
  ·cases h
abbrev xq:=List (Nat×Od)
def qY (m0:Nat):xq→Nat→Option Nat
 | [],k=>match Nat.blt k m0 with
  | true=>some k
  | false=>none
 | (k',d) :: r,k=>match d.uy with
  | some q=>match Nat.beq q k with
   | true=>some k'
   | false=>qY m0 r k
  | none=>qY m0 r k
def qZ:xq→Nat→Option Od
 | [],_=>none
 | (k',d) :: r,k=>match Nat.beq k' k with
  | true=>some d
  | false=>qZ r k
mutual
def Ck (σ:cz) (F:List Nat) (f:Nat→Option Nat) (dR:xq):Wd→AV→Option (List Prop×AV)
 | .af,x=>some ([],x.iH f)
 | .sl n g,.sl n0 g0=>some ([n0=n,∀ i,i < n→g i=g0 i],.sl n g)
 | .sl n g,.os k off len=>match K2 F k,ar σ k with
  | true,some o=>match o.pr with
   | true=>some ([len=n,off+len≤o.len,∀ i,i < n→g i=o.get (a8 off i)],.sl n g)
   | false=>none
  | _,_=>none
 | .sl n g,.nil=>some ([n=0],.sl n g)
 | .ja n,.os k off len=>(f k).map fun k'=>([len=n],.os k' off n)
 | .mU k',.nil=>match qZ dR k' with
  | some (.nil _ _)=>some ([],.os k' 0 0)
  | some (.Oo _)=>some ([],.os k' 0 0)
  | _=>none
 | .pt b cs,.rp QU off=>match off with
  | 0=>some ([b=true,cs=QU],.pt b cs)
  | _+1=>none
 | .pt b cs,.atom v=>match v with
  | .pointer none=>some ([b=false],.pt b cs)
  | _=>none
 | .pt b cs,.pt b0 QU=>some ([b=b0,b0=true→cs=QU],.pt b cs)
 | .nq st d,.nq RU y=>match y with
  | .nq _ _=>none
  | y=>(Ck σ F f dR d y).map fun (p,z)=>((RU=st) :: p,.nq st z)
 | .nq st d,.nil=>(Ck σ F f dR d .nil).map fun (p,z)=>((st≠some false) :: p,.nq st z)
 | .nq st d,y=>(Ck σ F f dR d y).map fun (p,z)=>((st=none) :: p,.nq st z)
 | .UX d,.nq _ y=>Ck σ F f dR d y
 | .agg ds,.agg cs=>(M0 σ F f dR ds cs).map fun (p,c)=>(p,.agg c)
 | .tup ds,.tup cs=>(M0 σ F f dR ds cs).map fun (p,c)=>(p,.tup c)
 | _,_=>none
def M0 (σ:cz) (F:List Nat) (f:Nat→Option Nat) (dR:xq):List Wd→List AV→Option (List Prop×List AV)
 | [],[]=>some ([],[])
 | d :: ds,c :: cs=>match Ck σ F f dR d c,M0 σ F f dR ds cs with
  | some (p,x),some (q,xs)=>some (p ++ q,x :: xs)
  | _,_=>none
 | _,_=>none
end
def tu (σ:cz) (F:List Nat) (f:Nat→Option Nat) (dR:xq):Od→Option (List Prop×Ob)
 | .af k=>(ar σ k).map fun o=>([],o.iH f)
 | .arr k n g=>match ar σ k with
  | some o=>match o.pr && !o.var && Nat.ble 1 o.sz with
   | true=>some ([o.len=n,∀ i,i < n→g i=o.get i],⟨o.var,o.sz,n,true,g⟩)
   | false=>none
  | none=>none
 | .K8 k n g=>match ar σ k with
  | some o=>match o.pr && !o.var && Nat.ble 1 o.sz with
   | true=>some ([n≤o.len,∀ i,i < n→FN (o.get i) (g i)],⟨o.var,o.sz,n,true,g⟩)
   | false=>none
  | none=>none
 | .var k ds=>match ar σ k with
  | some o=>match o.var && Nat.beq o.len 1 && Nat.ble 1 o.sz,M0 σ F f dR ds (o.get 0) with
   | true,some (p,cs)=>some (p,⟨true,o.sz,1,AV.jQ cs,fun _=>cs⟩)
   | _,_=>none
  | none=>none
 | .mp k cs=>match ar σ k with
  | some o=>match Nat.beq o.sz 0 && o.pr && Nat.beq o.len 0 with
   | true=>some ([cs=o.get 0],⟨o.var,o.sz,o.len,true,fun _=>cs⟩)
   | false=>none
  | none=>none
 | .nL k n l b=>match ar σ k,K9 f l with
  | some o,some l'=>match !o.var && Nat.ble 1 o.sz with
   | true=>some ([o.len=n,∀ i,i < n→aJ l b i=o.get i,∀ i,i < n→BW (b i)=true],⟨false,o.sz,n,false,aJ l' b⟩)
   | false=>none
  | _,_=>none
 | .Oo g=>some ([],⟨false,1,0,false,g⟩)
 | .nil sz g=>match Nat.ble 1 sz with
  | true=>some ([],⟨false,sz,0,true,g⟩)
  | false=>none
def Gu (σ:cz) (F:List Nat) (f:Nat→Option Nat) (dR:xq) (tm:List (Nat×AV)):List (Nat×Wd)→Option (List Prop×List (Nat×AV))
 | []=>some ([],[])
 | (t,d) :: r=>match Ck σ F f dR d (cW tm t),Gu σ F f dR tm r with
  | some (p,x),some (q,l)=>some (p ++ q,(t,x) :: l)
  | _,_=>none
def Gw (σ:cz) (F:List Nat) (f:Nat→Option Nat) (dR:xq):xq→Option (List Prop×cz)
 | []=>some ([],[])
 | (k,d) :: r=>match tu σ F f dR d,Gw σ F f dR r with
  | some (p,o),some (q,l)=>some (p ++ q,(k,o) :: l)
  | _,_=>none
def E4 (m0 nk:Nat) (F:List Nat) (dR:xq):Bool :=
 kP (dR.map (·.1)) && kP (dR.filterMap (·.2.uy)) && (dR.all fun x=>Nat.blt x.1 nk && match x.2.uy with
  | some k=>!K2 F k && (match Nat.blt k m0 with
   | true=>Nat.beq x.1 k || Nat.ble m0 x.1
   | false=>Nat.ble m0 x.1)
  | none=>Nat.ble m0 x.1) && Nat.ble m0 nk
def Dx (m0:Nat) (st:St) (F:List Nat) (uQ:List (Nat×Wd)) (dR:xq) (nk:Nat):Option (List Prop×St) :=
 match E4 m0 nk F dR,Gu st.mc F (qY m0 dR) dR st.tm uQ,Gw st.mc F (qY m0 dR) dR dR with
 | true,some (p,tm),some (q,σ)=>some (p ++ q,⟨tm,σ,nk⟩)
 | _,_,_=>none
def Dy (m0:Nat) (μ:Mu) (dR:xq):Mu:=fun k =>
 if k < m0 then μ k else match qZ dR k with
  | some (.nil sz _)=>some ⟨0,0,sz⟩
  | some (.Oo _)=>some ⟨0,0,1⟩
  | some d=>d.uy.bind μ
  | none=>none
section
variable {P:Program} {E:Env} {σ:cz} {S:Nat→Prop} {μ:Mu} {w:World} {m0 nk:Nat} {F:List Nat} {dR:xq}
theorem wj:∀ {dR:xq} {k:Nat} {d:Od},qZ dR k=some d→(k,d)∈dR
 | [],k,d,h=>by simp [qZ] at h
 | (k',d') :: r,k,d,h=>by
  simp only [qZ] at h
  split at h
  ·simp_all
  ·exact List.mem_cons_of_mem _ (wj h)
theorem ow:∀ {dR:xq} {k:Nat} {d:Od},kP (dR.map (·.1))=true→(k,d)∈dR→qZ dR k=some d
 | [],k,d,_,h=>by simp at h
 | (k',d') :: r,k,d,hn,h=>by
  simp only [List.map_cons,kP,aR] at hn
  simp only [qZ]
  rcases jW.1 h with h | h
  ·cases h;rw [oV rfl]
  ·have iI:¬ k'=k:=by
    rintro rfl
    have Kx:idx (r.map (·.1)) k'=none:=by simpa using hn.1
    obtain ⟨i,hi⟩:=List.getElem?_of_mem (List.mem_map.2 ⟨_,h,rfl⟩:k'∈r.map (·.1))
    exact kr _ _ Kx i hi
   rw [mQ iI]
   exact ow hn.2 h
theorem Cl:∀ {dR:xq} {k k':Nat},qY m0 dR k=some k'→(∃ d,(k',d)∈dR∧d.uy=some k)∨(k < m0∧k'=k)
 | [],k,k',h=>by
  simp only [qY] at h
  split at h
  ·simp_all
  ·cases h
 | (q,d) :: r,k,k',h=>by
  simp only [qY] at h
  have step:qY m0 r k=some k'→(∃ d',(k',d')∈(q,d) :: r∧d'.uy=some k)∨(k < m0∧k'=k):=fun h'=>by
   rcases Cl h' with ⟨d',h1,h2⟩ | h1
   ·grind
   ·exact .inr h1
  split at h
  ·rename_i o ho
   split at h
   ·rename_i hb
    cases h
    exact .inl ⟨d,by simp,by rw [ho,bj hb]⟩
   ·exact step h
  ·exact step h
structure Names (m0 nk:Nat) (F:List Nat) (dR:xq):Prop where
 nd:kP (dR.map (·.1))=true
 od:kP (dR.filterMap (·.2.uy))=true
 lt:∀ k d,(k,d)∈dR→k < nk
 fr:∀ k d q,(k,d)∈dR→d.uy=some q→q ∉ F
 lo:∀ k d q,(k,d)∈dR→d.uy=some q→q < m0→k=q∨m0≤k
 hi:∀ k d q,(k,d)∈dR→d.uy=some q→m0≤q→m0≤k
 no:∀ k d,(k,d)∈dR→d.uy=none→m0≤k
 m0:m0≤nk
theorem La (h:E4 m0 nk F dR=true):Names m0 nk F dR:=by
 unfold E4 at h
 simp only [aR,Nat.ble_eq] at h
 obtain ⟨⟨⟨h1,h2⟩,h3⟩,h4⟩:=h
 have h3:=fun k d (hm:(k,d)∈dR)=>List.all_eq_true.1 h3 (k,d) hm
 simp only [aR] at h3
 refine ⟨h1,h2,fun k d hm=>K4 (h3 k d hm).1,?_,?_,?_,?_,h4⟩
 ·intro k d q hm hq hF
  have:=(h3 k d hm).2
  rw [hq] at this
  simp only [aR,Bool.not_eq_true'] at this
  grind [Cd]
 ·intro k d q hm hq fY
  have:=(h3 k d hm).2
  simp_all [aR,K3,Bool.or_eq_true_iff,bj,Nat.le_of_ble_eq_true]
 ·intro k d q hm hq SD
  have:=(h3 k d hm).2
  simp_all [aR,AH,Nat.ble_eq]
 ·intro k d hm hq
  have:=(h3 k d hm).2
  rw [hq] at this
  simpa only [Nat.ble_eq] using this
theorem BC (N:Names m0 nk F dR) {k k':Nat} {pl:Place} (h:qY m0 dR k=some k') (hm:μ k=some pl):Dy m0 μ dR k'=some pl:=by
 rcases Cl h with ⟨d,h1,h2⟩ | ⟨h1,rfl⟩
 ·unfold Dy
  by_cases fY:k < m0
  ·rcases N.lo k' d k h1 h2 fY with h | h
   ·simp_all
   ·rw [if_neg (by omega),ow N.nd h1]
    grind [Od.uy]
  ·have:=N.hi k' d k h1 h2 (by omega)
   rw [if_neg (by omega),ow N.nd h1]
   grind [Od.uy]
 simp_all [Dy,if_pos]
theorem xr (N:Names m0 nk F dR) {k k':Nat} {d:Od} (h:(k',d)∈dR) (ho:d.uy=some k):Dy m0 μ dR k'=μ k:=by
 unfold Dy
 by_cases fY:k < m0
 ·rcases N.lo k' d k h ho fY with h1 | h1
  ·simp_all
  ·rw [if_neg (by omega),ow N.nd h]
   grind [Od.uy]
 ·have:=N.hi k' d k h ho (by omega)
  rw [if_neg (by omega),ow N.nd h]
  grind [Od.uy]
theorem IJ (N:Names m0 nk F dR) {k':Nat} {g:Nat→List AV} (h:(k',Od.Oo g)∈dR):Dy m0 μ dR k'=some ⟨0,0,1⟩:=by
 have:=N.no k' _ h rfl
 unfold Dy
 rw [if_neg (by omega),ow N.nd h]
theorem IK (N:Names m0 nk F dR) {k' sz:Nat} {g:Nat→List AV} (h:(k',Od.nil sz g)∈dR):Dy m0 μ dR k'=some ⟨0,0,sz⟩:=by
 have:=N.no k' _ h rfl
 unfold Dy
 rw [if_neg (by omega),ow N.nd h]
theorem IL (g:Good E σ S μ w) (N:Names m0 nk F dR):∀ (d:Wd) (x:AV) (v:Value) (ps:List Prop) (y:AV),an w S μ v x→Ck σ F (qY m0 dR) dR d x=some (ps,y)→aV ps →
  an w (SF μ F σ S) (Dy m0 μ dR) v y:=by
 have mono:∀ {v:Value} {x:AV} {cu:Mu},an w S cu v x→an w (SF μ F σ S) cu v x:=fun h=>h.mono (fun _ h=>.inl h) (fun _ _=>rfl) (fun _ _ h=>h)
 intro d
 induction d using Wd.rec (motive_2:=fun ds=>∀ (cs:List AV) (ps:List Prop) (ys:List AV),M0 σ F (qY m0 dR) dR ds cs=some (ps,ys)→aV ps →
   cs.length=ys.length∧∀ (j:Nat) c y v,cs[j]?=some c→ys[j]?=some y→an w S μ v c→an w (SF μ F σ S) (Dy m0 μ dR) v y) with
 | af =>
  intro x v ps y h hw hp
  simp only [Ck,aA,ax] at hw
  obtain ⟨rfl,rfl⟩:=hw
  exact (mono h).iH fun k k' pl hk hm=>BC N hk hm
 | sl n gt =>
  intro x v ps y h hw hp
  cases x<;>simp only [Ck] at hw<;>try (cases hw;done)
  case sl n0 g0 =>
   simp only [aA,ax] at hw
   obtain ⟨rfl,rfl⟩:=hw
   obtain ⟨rfl,p2,_⟩:=hp
   cases h with
   | sl b off sz f h1 h2 h3 h4 h5 =>
    exact .sl b off sz f (fun hl=>⟨(h1 hl).1,.inl (h1 hl).2⟩) (fun i hi=>by simp_all) h3 (fun i j c hi hc=>mono (h4 i j c hi (by simp_all))) h5
  case os k off len =>
   split at hw
   ·rename_i o hF ho
    split at hw
    ·rename_i Hc
     simp only [aA,ax] at hw
     obtain ⟨rfl,rfl⟩:=hw
     obtain ⟨rfl,p2,p3,_⟩:=hp
     obtain ⟨pl,c,T,hm,b9⟩:=g.rep.ob k o ho
     cases h with
     | os hH eM h1 h2 h3 =>
      rename_i cap a
      rw [hm] at eM;cases eM
      refine .sl pl.bR (off * pl.sz) o.sz (fun i j=>(c[(off+i) * o.sz+j]?).getD undef) ?_ (fun i hi=>by rw [p3 i hi,cl];exact b9.qK _ (by omega)) ?_ ?_ h2
      ·intro hl
       exact ⟨h1 (by omega),.inr ⟨k,o,pl,Cd.1 hF,ho,hm,by omega,rfl⟩⟩
      ·intro i j hi hj
       obtain ⟨v,q1,q2⟩:=bW b9 (i:=off+i) (by omega) hj
       rw [q1,b9.sz,← bL,q2];rfl
      ·intro i j c' hi ml
       rw [p3 i hi,cl] at ml
       obtain ⟨v,q1,q2⟩:=bW b9 (i:=off+i) (by omega) (by have:=(cJ.1 ml).1;rwa [b9.qK _ (by omega)] at this)
       rw [q1]
       have:=b9.rep _ j c' v (by omega) ml q1
       simp_all
    ·cases hw
   ·cases hw
  case nil =>
   simp only [aA,ax] at hw
   obtain ⟨rfl,rfl⟩:=hw
   obtain ⟨rfl,_⟩:=hp
   cases h
   exact .sl 0 0 0 (fun _ _=>undef) (fun h=>absurd h (by omega)) (fun i h=>absurd h (by omega)) (fun i j h=>absurd h (by omega)) (fun i j c h=>absurd h (by omega)) (a7 _)
 | ja n =>
  intro x v ps y h hw hp
  cases x<;>simp only [Ck] at hw<;>try (cases hw;done)
  case os k off len =>
   simp only [aE,ax] at hw
   obtain ⟨k',mE,rfl,rfl⟩:=hw
   obtain ⟨rfl,_⟩:=hp
   cases h with
   | os pl hm h1 h2 h3=>exact .os pl (BC N mE hm) h1 h2 h3
 | mU k' =>
  intro x v ps y h hw hp
  cases x<;>simp only [Ck] at hw<;>try (cases hw;done)
  case nil =>
   split at hw
   ·rename_i sz gt M1
    simp only [aA,ax] at hw
    obtain ⟨rfl,rfl⟩:=hw
    cases h
    exact .os ⟨0,0,sz⟩ (IK N (wj M1)) (fun h=>absurd h (by omega)) (a7 _) (by simp)
   ·rename_i gt M1
    simp only [aA,ax] at hw
    obtain ⟨rfl,rfl⟩:=hw
    cases h
    exact .os ⟨0,0,1⟩ (IJ N (wj M1)) (fun h=>absurd h (by omega)) (a7 _) (by simp)
   ·cases hw
 | pt b cs =>
  intro x v ps y h hw hp
  have other:∀ {b:Bool} {cs:List AV} {v:Value},an w S μ v (.pt b cs)→an w (SF μ F σ S) (Dy m0 μ dR) v (.pt b cs):=fun h=>(mono h).pure rfl _
  cases x<;>simp only [Ck] at hw<;>try (cases hw;done)
  case rp QU off =>
   split at hw
   ·simp only [aA,ax] at hw
    obtain ⟨rfl,rfl⟩:=hw
    obtain ⟨rfl,rfl,_⟩:=hp
    exact other (.pt (fun _=>h) (fun h=>by cases h))
   ·cases hw
  case atom v0 =>
   split at hw
   ·simp only [aA,ax] at hw
    obtain ⟨rfl,rfl⟩:=hw
    obtain ⟨rfl,_⟩:=hp
    exact other (.pt (fun h=>by cases h) (fun _=>b8 h))
   ·cases hw
  case pt b0 QU =>
   simp only [aA,ax] at hw
   obtain ⟨rfl,rfl⟩:=hw
   obtain ⟨rfl,OK,_⟩:=hp
   cases h with
   | pt h1 h2=>exact other (.pt (fun hb=>by rw [OK hb];exact h1 hb) h2)
 | nq st d ih =>
  intro x v ps y h hw hp
  have fin:∀ {x0:AV} {p:List Prop} {z:AV},an w S μ v x0→Ck σ F (qY m0 dR) dR d x0=some (p,z)→aV p→(st=some true→v=.slice none 0 0)→(st=some false→J5 v=false)→an w (SF μ F σ S) (Dy m0 μ dR) v (.nq st z) :=
   fun h0 h1 h2 h3 h4=>.nq (ih _ _ _ _ h0 h1 h2) h3 h4
  cases x with
  | nq RU y0 =>
   have Ss:∃ p z,Ck σ F (qY m0 dR) dR d y0=some (p,z)∧ps=(RU=st) :: p∧y=.nq st z:=by
    cases y0<;>simp only [Ck,aE,ax] at hw<;>grind
   obtain ⟨p,z,e1,rfl,rfl⟩:=Ss
   obtain ⟨rfl,wE⟩:=hp
   cases h with
   | nq h0 h1 h2=>exact fin h0 e1 wE h1 h2
  | nil =>
   simp only [Ck,aE,ax] at hw
   obtain ⟨⟨p,z⟩,e1,rfl,rfl⟩:=hw
   obtain ⟨iI,wE⟩:=hp
   cases h
   exact fin .nil e1 wE (fun _=>rfl) (fun e=>absurd e iI)
  | _ =>
   simp only [Ck,aE,ax] at hw
   obtain ⟨⟨p,z⟩,e1,rfl,rfl⟩:=hw
   obtain ⟨rfl,wE⟩:=hp
   grind
 | UX d ih =>
  intro x v ps y h hw hp
  cases x with
  | nq RU y0 =>
   simp only [Ck] at hw
   cases h with
   | nq h0 _ _=>exact ih _ _ _ _ h0 hw hp
  | _=>grind [Ck]
 | agg ds ih =>
  intro x v ps y h hw hp
  cases x<;>simp only [Ck] at hw<;>try (cases hw;done)
  case agg cs =>
   simp only [aE,ax] at hw
   obtain ⟨⟨p,c⟩,h1,rfl,rfl⟩:=hw
   obtain ⟨q1,q2⟩:=ih cs p c h1 hp
   cases h with
   | agg h2 h3 =>
    refine .agg (h2.trans q1) fun j y v hy hv=>?_
    have fY:j < cs.length:=by rw [q1];exact (cJ.1 hy).1
    exact q2 j _ y v (n7 fY) hy (h3 j _ v (n7 fY) hv)
 | tup ds ih =>
  intro x v ps y h hw hp
  cases x<;>simp only [Ck] at hw<;>try (cases hw;done)
  case tup cs =>
   simp only [aE,ax] at hw
   obtain ⟨⟨p,c⟩,h1,rfl,rfl⟩:=hw
   obtain ⟨q1,q2⟩:=ih cs p c h1 hp
   cases h with
   | tup h2 h3 =>
    refine .tup (h2.trans q1) fun j y v hy hv=>?_
    have fY:j < cs.length:=by rw [q1];exact (cJ.1 hy).1
    exact q2 j _ y v (n7 fY) hy (h3 j _ v (n7 fY) hv)
 | nil =>
  rename_i cs ps ys h hp
  cases cs with
  | nil=>simp [M0] at h;obtain ⟨_,rfl⟩:=h;exact ⟨rfl,fun j c y v hc=>by simp at hc⟩
  | cons=>simp [M0] at h
 | cons d ds Jg Jh =>
  rename_i cs ps ys h hp
  cases cs with
  | nil=>simp [M0] at h
  | cons c cs =>
   simp only [M0] at h
   split at h
   ·rename_i p x q xs e1 e2
    simp only [aA,ax] at h
    obtain ⟨rfl,rfl⟩:=h
    obtain ⟨xk,wE⟩:=aV.app hp
    obtain ⟨r1,r2⟩:=Jh cs q xs e2 wE
    refine ⟨by simp [r1],?_⟩
    intro j c' y v hc hy hr
    cases j with
    | zero=>simp at hc hy;subst hc hy;exact Jg c v p x hr e1 xk
    | succ j=>exact r2 j c' y v (by simpa using hc) (by simpa using hy) hr
   ·cases h
end
end Go.Ab
