/- Abstract values over the heap of the machine, and functions read off its code (part 3). No conditions. -/
import Derived.Test.YtlgddcmiekcdiaaGreatCb
import Derived.OrdersIn
import Derived.RangeFuncSeq
set_option linter.unusedVariables false
set_option linter.unusedSimpArgs false
namespace Go.Ab
def dI:List (Nat×AV)→Nat→AV
 | [],_=>.mn
 | (k,x) :: r,n=>match Nat.beq k n with
  | true=>x
  | false=>dI r n
def wj (tm:List (Nat×AV)):Operand→AV
 | .tmp t=>dI tm t
 | .const v=>ofConst v
 | .global g=>.atom (.pointer (some ⟨g,0,none⟩))
 | .func f=>.fn (.func f) [] []
def conds (e:Operand→AV):List Operand→List Prop
 | []=>[]
 | x :: r=>(e x).strip.2 ++ conds e r
def OU (b:Bool):List Prop→List Prop
 | []=>[]
 | p :: ps=>[b=true→bg (p :: ps)]
def OV (mx:Bool) (x y:AV):Option AV :=
 match x,y with
 | .atom (.int k a),.atom (.int k' b)=>match decide (k=k') with
  | true=>some (.atom (.int k (match mx with
   | true=>if b > a then b else a
   | false=>if b < a then b else a)))
  | false=>none
 | _,_=>none
def BL (mx:Bool):AV→List AV→Option AV
 | a,[]=>some a
 | a,b :: r=>match OV mx a b with
  | some v=>BL mx v r
  | none=>none
def ru (ps:List Prop) (x:Option AV):Option R:=x.map fun v=>⟨ps,v,[],[]⟩
def T8 (l:List Nat) (k:Nat):Bool:=l.any fun x=>Nat.beq x k
def yp (P:Program) (nk:Nat) (σ:dn) (e:Operand→AV) (b:Builtin) (args:List Operand) (GY:List TypeId):Option R :=
 let s:=fun x=>(e x).strip.1
 let c:=fun xs=>conds e xs
 match b,args,GY with
 | .len,[x],[t]=>ru (c [x]) (Ow P t (s x))
 | .append,[x,y],[t,t']=>match Nat.beq t t' with
  | true=>(qx P nk σ t (s x) (s y)).map fun (ps,v,rd,u)=>⟨c [x,y] ++ ps,v,rd,u⟩
  | false=>none
 | .min,x :: r,_=>ru (c (x :: r)) (BL false (s x) (r.map s))
 | .max,x :: r,_=>ru (c (x :: r)) (BL true (s x) (r.map s))
 | _,_,_=>none
def dW (P:Program) (nk:Nat) (σ:dn) (op:Op) (e:Operand→AV) (bd:Option nG):Option R :=
 let s:=fun x=>(e x).strip.1
 let c:=fun xs=>conds e xs
 match op with
 | .move x | .assign x=>some ⟨[],e x,[],[]⟩
 | .pick q a b=>match s q,s a,s b with
  | .atom (.bool qb),.atom (.bool x),.atom (.bool y) =>
   some ⟨(e q).strip.2 ++ (OU qb (e a).strip.2 ++ OU (!qb) (e b).strip.2),.atom (.bool (cond qb x y)),[],[]⟩
  | _,_,_=>none
 | .alloc T=>(HA P nk T).map fun (v,u)=>⟨[],v,[],u⟩
 | .box _ x=>(Oj nk (s x)).map fun (v,u)=>⟨c [x],v,[],u⟩
 | .build t parts=>ru (c (parts.toList.map (·.2))) (HC P t (parts.toList.map fun (i,x)=>(i,s x)))
 | .buildSlice t len parts=>match Nat.beq len 0 && !parts.toList.isEmpty with
  | true=>none
  | false=>(vu P nk t len (parts.toList.map fun (i,x)=>(i,s x))).map fun (v,u)=>⟨c (parts.toList.map (·.2)),v,[],u⟩
 | .load T a=>(xh P σ T (s a)).map fun (ps,v,rd)=>⟨c [a] ++ ps,v,rd,[]⟩
 | .store T a x=>(yf P σ T (s a) (s x)).map fun (ps,u,rd)=>⟨c [a,x] ++ ps,.mn,rd,u⟩
 | .nilCheck x=>match s x with
  | .op k i j=>some ⟨c [x],.op k i j,[],[]⟩
  | .rp cs j=>some ⟨c [x],.rp cs j,[],[]⟩
  | .pt b cs=>some ⟨c [x] ++ [b=true],.rp cs 0,[],[]⟩
  | _=>none
 | .binOp o t x y _=>(Oh P o t (s x) (s y)).map fun (ps,v)=>⟨c [x,y] ++ ps,v,[],[]⟩
 | .unOp o _ x=>ru (c [x]) (TM o (s x))
 | .convert src dst x=>match Kt P src dst (s x) with
  | some v=>some ⟨c [x],v,[],[]⟩
  | none=>(yk P σ src dst (s x)).map fun (ps,v,rd)=>⟨c [x] ++ ps,v,rd,[]⟩
 | .makeMap _ none=>some ⟨[],.mp nk,[],[(nk,some ⟨false,0,0,true,fun _=>[]⟩)]⟩
 | .lookup t m x ok=>match bd with
  | some o=>(ux P σ t (s m) (s x) ok o).map fun (ps,v,rd)=>⟨c [m,x] ++ ps,v,rd,[]⟩
  | none=>none
 | .mapUpdate t m x y | .insert t m x y=>match bd with
  | some o=>(uy P σ t (s m) (s x) (s y) o).map fun (ps,u,rd)=>⟨c [m,x,y] ++ ps,.mn,rd,u⟩
  | none=>none
 | .makeFunc f first cap=>some ⟨c (first.toList ++ cap.toList),.fn f (first.toList.map s) (cap.toList.map s),[],[]⟩
 | .makeSlice t l m=>(Kv P nk t (s l) (s m)).map fun (ps,v,u)=>⟨c [l,m] ++ ps,v,[],u⟩
 | .slice t x lo hi none=>(yg P σ t (s x) (lo.map s) (hi.map s)).map fun (ps,v,rd)=>⟨c (x :: (lo.toList ++ hi.toList)) ++ ps,v,rd,[]⟩
 | .fieldAddr T x f=>ru (c [x]) (xj P T (s x) f)
 | .field T x f=>ru (c [x]) (HG P T (s x) f)
 | .indexAddr T x i=>(oI P σ T (s x) (s i)).map fun (ps,v,rd)=>⟨c [x,i] ++ ps,v,rd,[]⟩
 | .index T x i=>(HI P T (s x) (s i)).map fun (ps,v)=>⟨c [x,i] ++ ps,v,[],[]⟩
 | .extract x i=>match s x with
  | .tup cs=>ru (c [x]) cs[i]?
  | _=>none
 | .call ⟨.value f,args,_⟩=>match bd with
  | some o=>(Em P nk σ (s f) (args.toList.map s) o).map fun r=>{ r with GO:=r.GO ++ c (f :: args.toList) }
  | none=>none
 | .call ⟨.builtin b,args,GY⟩=>yp P nk σ e b args.toList GY.toList
 | _=>none
section
variable {P:Program} {E:Env} {nk:Nat} {σ:dn} {S:Nat→Prop} {μ:Mu} {w:World}
theorem yq {e:Operand→AV}:∀ {xs:List Operand},bg (conds e xs)→∀ x∈xs,bg (e x).strip.2
 | [],_,x,hx=>by simp at hx
 | y :: r,h,x,hx=>by
  obtain ⟨h1,h2⟩:=bg.app h
  rcases kz.1 hx with rfl | hx
  ·exact h1
  ·exact yq h2 x hx
theorem GZ {b:Bool} {ps:List Prop} (h:bg (OU b ps)) (hb:b=true):bg ps:=by
 cases ps with
 | nil=>trivial
 | cons p ps=>exact h.1 hb
theorem KE {mx:Bool} {ρ:Operand→Value} {e:Operand→AV}:∀ (l:List Operand) (va:Value) (a r:AV),ao w S μ va a→(∀ x∈l,ao w S μ (ρ x) ((e x).strip.1)) →
  BL mx a (l.map fun x=>(e x).strip.1)=some r→∃ z,((l.map ρ).foldlM (match mx with | true=>Builtin.max2 | false=>Builtin.min2) va:Sem Value).run P w=.ok z w∧ao w S μ z r
 | [],va,a,r,ha,_,h=>by
  simp only [List.map_nil,BL,aA] at h
  simp_all
 | x :: l,va,a,r,ha,hl,h=>by
  simp only [List.map_cons,BL] at h
  split at h
  ·rename_i v hv
   have hx:=hl x (by simp)
   obtain ⟨u,h1,h2⟩:∃ u,((match mx with | true=>Builtin.max2 | false=>Builtin.min2) va (ρ x):Sem Value).run P w=.ok u w∧ao w S μ u v:=by
    unfold OV at hv
    split at hv
    ·rename_i k p k' q hp hq
     rw [hq] at hx
     have e2:=cX hx
     have e1:=cX ha
     split at hv
     ·cases hv
      cases mx with
      | true=>exact ⟨_,by simp [e1,e2,Builtin.max2],.atom _⟩
      | false=>exact ⟨_,by simp [e1,e2,Builtin.min2],.atom _⟩
     ·cases hv
    ·cases hv
   obtain ⟨z,h3,h4⟩:=KE l u v r h2 (fun y hy=>hl y (by simp [hy])) h
   simp_all
  ·cases h
theorem Rs {v:Value} {b:Bool} {cs:List AV} (h:ao w S μ v (.pt b cs)) (hb:b=true):ao w S μ v (.rp cs 0):=by
 cases h with
 | pt h1 _=>exact h1 hb
def OW (E:Env) (nk:Nat) (σ:dn) (S:Nat→Prop) (μ:Mu) (w:World) (r:R) (K:Value→World→Prop):Prop :=
 ∀ v w' S' da,Ext w S μ w' S' da→Good E (eF σ r.ld) S' da w'→(∀ k,(k < nk∨nk+16≤k)→μ k=none→da k=none)→ao w' S' da v r.val→K v w'
theorem G0 {ρ:Operand→Value} {e:Operand→AV} {parts:Array (Nat×Operand)} (he:∀ x∈(parts.toList.map (·.2)),ao w S μ (ρ x) ((e x).strip.1)) :
  (parts.map fun (i,x)=>(i,ρ x)).toList.map (·.1)=(parts.toList.map fun (i,x)=>(i,(e x).strip.1)).map (·.1) ∧
  ∀ (j:Nat) x y,(parts.toList.map fun (i,x)=>(i,(e x).strip.1))[j]?=some x→(parts.map fun (i,x)=>(i,ρ x)).toList[j]?=some y→ao w S μ y.2 x.2:=by
 refine ⟨by simp,?_⟩
 grind
theorem Es {ρ:Operand→Value} {e:Operand→AV} {xs:Array Operand} (he:∀ x∈xs.toList,ao w S μ (ρ x) ((e x).strip.1)) :
  RL w S μ (xs.map ρ) (xs.toList.map fun x=>(e x).strip.1):=by
 refine ⟨by simp,?_⟩
 grind
theorem Jk {o:Oper} {a:Act} {e:Operand→AV} {bd:Option nG} {r:R} {next:Act→World→Prop} {Q:Exit→Act→World→Prop}
  (he:∀ x∈o.op.operands.toList,ao w S μ (a.eval x) (e x)) (g:Good E σ S μ w) (zH:∀ j,j < 16→μ (nk+j)=none) (hm:E.m0≤nk)
  (hz:∀ x,bd=some x→x.wg=true→∀ b,¬ E.fp b) (h:dW P nk σ o.op e bd=some r) (hp:bg r.GO) (hK:OW E nk σ S μ w r fun v w'=>next (a.put o.dst v) w'):o.wp P a w next Q:=by
 have hk:μ nk=none:=zH 0 (by omega)
 -- a value without a change
 have pv:∀ (s:Sem Value),execOp a.eval o=(do pure (.value (← s)):Sem Next)→r.ld=[]→(∃ v,s.run P w=.ok v w∧ao w S μ v r.val)→o.wp P a w next Q:=by
  rintro s hs hu ⟨v,h1,h2⟩
  unfold Oper.wp
  rw [hs]
  simp only [bD,h1,cV,Sem.run_pure]
  exact hK v w S μ (Ext.refl _ _ _) (by rw [hu];exact g) (fun _ _ h=>h) h2
 have Vm:∀ (v:Value),execOp a.eval o=pure (.value v)→r.ld=[]→ao w S μ v r.val→o.wp P a w next Q:=by
  intro v hs hu h2
  unfold Oper.wp
  rw [hs]
  exact hK v w S μ (Ext.refl _ _ _) (by rw [hu];exact g) (fun _ _ h=>h) h2
 have sv:∀ (s:Sem Value),execOp a.eval o=(do pure (.value (← s)):Sem Next)→Step P E nk σ S μ w s r.val r.ld→o.wp P a w next Q:=by
  rintro s hs ⟨v,w',S',da,h1,h2,h3,h4,h5⟩
  unfold Oper.wp
  rw [hs]
  simp only [bD,h1,cV,Sem.run_pure]
  exact hK v w' S' da h2 h3 (fun k nL=>h4 k (by omega)) h5
 have st:∀ (xs:List Operand),bg (conds e xs)→(∀ x∈xs,x∈o.op.operands.toList)→∀ x∈xs,ao w S μ (a.eval x) ((e x).strip.1) :=
  fun xs h1 h2 x hx=>(he x (h2 x hx)).strip (yq h1 x hx)
 obtain ⟨dst,op,ty,pos,after,guard⟩:=o
 simp only at he h hK pv Vm sv st ⊢
 cases op with
 | move x =>
  simp only [dW,aA] at h;subst h
  exact Vm (a.eval x) rfl rfl (he x (by simp [Op.operands]))
 | assign x =>
  simp only [dW,aA] at h;subst h
  exact Vm (a.eval x) rfl rfl (he x (by simp [Op.operands]))
 | pick q x y =>
  simp only [dW] at h
  split at h
  ·rename_i qb xb yb hq hx hy
   cases h
   obtain ⟨p1,p2⟩:=bg.app hp
   obtain ⟨p2,p3⟩:=bg.app p2
   have e1:=(he q (by simp [Op.operands])).strip p1
   rw [hq] at e1
   have e1:=cX e1
   refine pv (do pure (if ← asBool (a.eval q) then a.eval x else a.eval y)) (by simp [execOp]) rfl ?_
   cases qb with
   | true =>
    have e2:=(he x (by simp [Op.operands])).strip (GZ p2 rfl)
    simp_all [asBool]
   | false =>
    have e2:=(he y (by simp [Op.operands])).strip (GZ p3 rfl)
    simp_all [asBool]
  ·cases h
 | alloc T =>
  simp only [dW,aG] at h
  obtain ⟨⟨v,u⟩,h1,rfl⟩:=h
  exact sv _ rfl (Oi g hk hm h1)
 | box T x =>
  simp only [dW,aG] at h
  obtain ⟨⟨v,u⟩,h1,rfl⟩:=h
  exact sv _ rfl (TN g hk hm (st [x] hp (by simp [Op.operands]) x (by simp)) h1)
 | build t parts =>
  simp only [dW,ru,aG] at h
  obtain ⟨v,h1,rfl⟩:=h
  have Kn:=G0 (st _ hp (by simp [Op.operands]))
  exact pv _ rfl rfl (Ol Kn.1 Kn.2 h1)
 | buildSlice t len parts =>
  simp only [dW] at h
  split at h
  ·cases h
  ·rename_i I4
   simp only [aG] at h
   obtain ⟨⟨v,u⟩,h1,rfl⟩:=h
   have Kn:=G0 (st _ hp (by simp [Op.operands]))
   refine sv _ rfl (F4 g hk hm Kn.1 Kn.2 h1 ?_)
   intro hz
   subst hz
   simp only [Bool.and_eq_false_iff] at I4
   rcases I4 with h0 | h0
   ·simp at h0
   ·simp only [Bool.not_eq_false',List.isEmpty_iff] at h0
    simp [h0]
 | load T x =>
  simp only [dW,aG] at h
  obtain ⟨⟨ps,v,rd⟩,h1,rfl⟩:=h
  obtain ⟨p1,p2⟩:=bg.app hp
  exact pv _ rfl rfl (HD g (st [x] p1 (by simp [Op.operands]) x (by simp)) h1 p2)
 | store T x y =>
  simp only [dW,aG] at h
  obtain ⟨⟨ps,u,rd⟩,h1,rfl⟩:=h
  obtain ⟨p1,p2⟩:=bg.app hp
  have s:=st [x,y] p1 (by simp [Op.operands])
  obtain ⟨w',r1,r2,r3⟩:=Oq g (s x (by simp)) (s y (by simp)) h1 p2
  unfold Oper.wp
  have ex:execOp a.eval ⟨dst,.store T x y,ty,pos,after,guard⟩=(do Instr.storeAt T (a.eval x) (a.eval y);pure .skip:Sem Next):=rfl
  rw [ex]
  simp only [bD,r1,cV,Sem.run_pure]
  exact hK undef w' S μ r2 r3 (fun _ _ h=>h) .mn
 | nilCheck x =>
  simp only [dW] at h
  split at h
  ·rename_i k i j hx
   cases h
   have e1:=st [x] hp (by simp [Op.operands]) x (by simp)
   rw [hx] at e1
   cases hv:a.eval x with
   | pointer q =>
    rw [hv] at e1
    cases q with
    | none=>cases e1
    | some q=>exact Vm (.pointer (some q)) (by simp [execOp,hv]) rfl e1
   | _=>rw [hv] at e1;cases e1
  ·rename_i cs j hx
   cases h
   have e1:=st [x] hp (by simp [Op.operands]) x (by simp)
   rw [hx] at e1
   cases hv:a.eval x with
   | pointer q =>
    rw [hv] at e1
    cases q with
    | none=>cases e1
    | some q=>exact Vm (.pointer (some q)) (by simp [execOp,hv]) rfl e1
   | _=>rw [hv] at e1;cases e1
  ·rename_i b cs hx
   cases h
   obtain ⟨hp,hb,_⟩:=bg.app hp
   have e1:=st [x] hp (by simp [Op.operands]) x (by simp)
   rw [hx] at e1
   have e1:=Rs e1 hb
   cases hv:a.eval x with
   | pointer q =>
    rw [hv] at e1
    cases q with
    | none=>cases e1
    | some q=>exact Vm (.pointer (some q)) (by simp [execOp,hv]) rfl e1
   | _=>rw [hv] at e1;cases e1
  ·cases h
 | binOp o' t x y yt =>
  simp only [dW,aG] at h
  obtain ⟨⟨ps,v⟩,h1,rfl⟩:=h
  obtain ⟨p1,p2⟩:=bg.app hp
  have s:=st [x,y] p1 (by simp [Op.operands])
  exact pv (do eqGuard o' t x y (a.eval x) (a.eval y);binOp o' t (a.eval x) (a.eval y)) rfl rfl (TK (s x (by simp)) (s y (by simp)) h1 p2)
 | unOp o' t x =>
  simp only [dW,ru,aG] at h
  obtain ⟨v,h1,rfl⟩:=h
  exact pv _ rfl rfl (VE (st [x] hp (by simp [Op.operands]) x (by simp)) h1)
 | convert src dt x =>
  simp only [dW] at h
  split at h
  ·rename_i v h1
   cases h
   exact pv _ rfl rfl (Q7 (st [x] hp (by simp [Op.operands]) x (by simp)) h1)
  ·simp only [aG] at h
   obtain ⟨⟨ps,v,rd⟩,h1,rfl⟩:=h
   obtain ⟨p1,p2⟩:=bg.app hp
   exact sv _ rfl (ON g (st [x] p1 (by simp [Op.operands]) x (by simp)) h1 p2)
 | makeMap t hint =>
  cases hint with
  | some _=>simp [dW] at h
  | none =>
   simp only [dW,aA] at h;subst h
   have ga:=g.allocMap hk hm
   refine sv (Instr.makeMap t none) rfl ⟨_,_,_,_,Go.RowKit.run_makeMap t w,ga.1,ga.2,fun k nL hn=>by rw [mH _ nL];exact hn,?_⟩
   exact ao.mp (μ:=bT μ nk ⟨w.heap.size,1,0⟩) ⟨w.heap.size,1,0⟩ (by simp [bT])
 | lookup t m x ok =>
  simp only [dW] at h
  split at h
  ·simp only [aG] at h
   obtain ⟨⟨ps,v,rd⟩,h1,rfl⟩:=h
   obtain ⟨p1,p2⟩:=bg.app hp
   have s:=st [m,x] p1 (by simp [Op.operands])
   exact pv _ rfl rfl (Nd g (s m (by simp)) (s x (by simp)) h1 p2)
  ·cases h
 | mapUpdate t m x y =>
  simp only [dW] at h
  split at h
  ·simp only [aG] at h
   obtain ⟨⟨ps,u,rd⟩,h1,rfl⟩:=h
   obtain ⟨p1,p2⟩:=bg.app hp
   have s:=st [m,x,y] p1 (by simp [Op.operands])
   obtain ⟨w',r1,r2,r3⟩:=GX g (s m (by simp)) (s x (by simp)) (s y (by simp)) h1 p2
   unfold Oper.wp
   have ex:execOp a.eval ⟨dst,.mapUpdate t m x y,ty,pos,after,guard⟩=(do Instr.mapUpdate t (a.eval m) (a.eval x) (a.eval y);pure .skip:Sem Next):=rfl
   rw [ex]
   simp only [bD,r1,cV,Sem.run_pure]
   exact hK undef w' S μ r2 r3 (fun _ _ h=>h) .mn
  ·cases h
 | insert t m x y =>
  simp only [dW] at h
  split at h
  ·simp only [aG] at h
   obtain ⟨⟨ps,u,rd⟩,h1,rfl⟩:=h
   obtain ⟨p1,p2⟩:=bg.app hp
   have s:=st [m,x,y] p1 (by simp [Op.operands])
   obtain ⟨w',r1,r2,r3⟩:=GX g (s m (by simp)) (s x (by simp)) (s y (by simp)) h1 p2
   unfold Oper.wp
   have ex:execOp a.eval ⟨dst,.insert t m x y,ty,pos,after,guard⟩=(do Instr.mapUpdate t (a.eval m) (a.eval x) (a.eval y);pure .skip:Sem Next):=rfl
   rw [ex]
   simp only [bD,r1,cV,Sem.run_pure]
   exact hK undef w' S μ r2 r3 (fun _ _ h=>h) .mn
  ·cases h
 | makeFunc f first cap =>
  simp only [dW,aA] at h;subst h
  have s:=st (first.toList ++ cap.toList) hp (by simp [Op.operands])
  have l1:=Es (xs:=first) (fun x hx=>s x (by simp only [List.mem_append];exact .inl hx))
  have l2:=Es (xs:=cap) (fun x hx=>s x (by simp only [List.mem_append];exact .inr hx))
  exact pv _ rfl rfl ⟨_,by simp [Instr.makeFunc],.fn l1.1 l2.1 l1.2 l2.2⟩
 | makeSlice t x y =>
  simp only [dW,aG] at h
  obtain ⟨⟨ps,v,u⟩,h1,rfl⟩:=h
  obtain ⟨p1,p2⟩:=bg.app hp
  have s:=st [x,y] p1 (by simp [Op.operands])
  exact sv _ rfl (Q9 g hk hm (s x (by simp)) (s y (by simp)) h1 p2)
 | slice t x lo hi mx =>
  cases mx with
  | some _=>simp [dW] at h
  | none =>
   simp only [dW,aG] at h
   obtain ⟨⟨ps,v,rd⟩,h1,rfl⟩:=h
   obtain ⟨p1,p2⟩:=bg.app hp
   have s:=st (x :: (lo.toList ++ hi.toList)) p1 (by
    intro y hy
    simp only [kz,List.mem_append,Option.mem_toList] at hy
    simp only [Op.operands]
    rcases hy with rfl | hy | hy
    ·simp
    ·simp [hy]
    ·simp [hy])
   refine pv (Instr.sliceAt t (a.eval x) (lo.map a.eval) (hi.map a.eval) none) rfl rfl (Ov g (s x (by simp)) ?_ ?_ h1 p2)
   ·refine ⟨by simp,?_⟩
    intro p q rV hq
    simp only [aG] at rV hq
    obtain ⟨y,hy,rfl⟩:=rV
    obtain ⟨z,hz,rfl⟩:=hq
    rw [hy] at hz;cases hz
    exact s y (by simp [hy])
   ·refine ⟨by simp,?_⟩
    intro p q rV hq
    simp only [aG] at rV hq
    obtain ⟨y,hy,rfl⟩:=rV
    obtain ⟨z,hz,rfl⟩:=hq
    rw [hy] at hz;cases hz
    exact s y (by simp [hy])
 | fieldAddr T x f =>
  simp only [dW,ru,aG] at h
  obtain ⟨v,h1,rfl⟩:=h
  exact pv _ rfl rfl (HF (st [x] hp (by simp [Op.operands]) x (by simp)) h1)
 | field T x f =>
  simp only [dW,ru,aG] at h
  obtain ⟨v,h1,rfl⟩:=h
  exact pv _ rfl rfl (Ot (st [x] hp (by simp [Op.operands]) x (by simp)) h1)
 | indexAddr T x i =>
  simp only [dW,aG] at h
  obtain ⟨⟨ps,v,rd⟩,h1,rfl⟩:=h
  obtain ⟨p1,p2⟩:=bg.app hp
  have s:=st [x,i] p1 (by simp [Op.operands])
  exact pv _ rfl rfl (HH g (s x (by simp)) (s i (by simp)) h1 p2)
 | index T x i =>
  simp only [dW,aG] at h
  obtain ⟨⟨ps,v⟩,h1,rfl⟩:=h
  obtain ⟨p1,p2⟩:=bg.app hp
  have s:=st [x,i] p1 (by simp [Op.operands])
  exact pv _ rfl rfl (Ou (s x (by simp)) (s i (by simp)) h1 p2)
 | extract x i =>
  simp only [dW] at h
  split at h
  ·rename_i cs hx
   simp only [ru,aG] at h
   obtain ⟨v,h1,rfl⟩:=h
   have e1:=st [x] hp (by simp [Op.operands]) x (by simp)
   rw [hx] at e1
   refine pv _ rfl rfl ?_
   cases hv:a.eval x with
   | tuple vs =>
    rw [hv] at e1
    cases e1 with
    | tup q1 q2 =>
     have gk:i < vs.size:=by rw [q1];exact (dD.1 h1).1
     exact ⟨vs[i],by simp [Instr.extract,jd gk],q2 i v _ h1 (jd gk)⟩
   | _=>rw [hv] at e1;cases e1
  ·cases h
 | call c =>
  obtain ⟨callee,args,argTypes⟩:=c
  cases callee with
  | invoke=>simp [dW] at h
  | value f =>
   simp only [dW] at h
   split at h
   ·rename_i o'
    simp only [aG] at h
    obtain ⟨r',h1,rfl⟩:=h
    obtain ⟨p1,p2⟩:=bg.app hp
    have s:=st (f :: args.toList) p2 (by simp [Op.operands,Call.operands])
    have l1:=Es (xs:=args) (fun x hx=>s x (List.mem_cons_of_mem _ hx))
    obtain ⟨gid,vs,r1,r2⟩:=KD g zH hm (s f (by simp)) l1 (hz _ rfl) h1 p1
    unfold Oper.wp
    have ex:execOp a.eval ⟨dst,.call ⟨.value f,args,argTypes⟩,ty,pos,after,guard⟩=(do let d ← Deferred.ofValue (a.eval f) (args.map a.eval);invoke d.target d.args:Sem Next):=rfl
    rw [ex,r1]
    simp only [Oper.upon]
    refine r2.mono ?_
    rintro e' w' ⟨v,S',da,rfl,q1,q2,q3,q4⟩
    exact hK v w' S' da q1 q2 q3 q4
   ·cases h
  | builtin b =>
   simp only [dW] at h
   unfold yp at h
   split at h
   case h_1 x t ha ht =>
    obtain ⟨rfl⟩:args=#[x]:=Array.toList_inj.1 (by rw [ha])
    obtain ⟨rfl⟩:argTypes=#[t]:=Array.toList_inj.1 (by rw [ht])
    simp only [ru,aG] at h
    obtain ⟨v,h1,rfl⟩:=h
    have s:=st [x] hp (by simp [Op.operands,Call.operands])
    exact pv (Builtin.len_ #[t] ty #[a.eval x]) (by simp [execOp,resolve,invoke,builtin]) rfl (TV (s x (by simp)) h1 ty)
   case h_2 x y t t' ha ht =>
    obtain ⟨rfl⟩:args=#[x,y]:=Array.toList_inj.1 (by rw [ha])
    obtain ⟨rfl⟩:argTypes=#[t,t']:=Array.toList_inj.1 (by rw [ht])
    split at h
    ·rename_i hb
     have hb:=bK hb
     subst hb
     simp only [aG] at h
     obtain ⟨⟨ps,v,rd,u⟩,h1,rfl⟩:=h
     obtain ⟨p1,p2⟩:=bg.app hp
     have s:=st [x,y] p1 (by simp [Op.operands,Call.operands])
     exact sv (Builtin.append_ #[t,t] ty #[a.eval x,a.eval y]) (by simp [execOp,resolve,invoke,builtin]) (GN g hk hm (s x (by simp)) (s y (by simp)) h1 p2)
    ·cases h
   case h_3 x r ha =>
    simp only [ru,aG] at h
    obtain ⟨v,h1,rfl⟩:=h
    have s:=st (x :: r) hp (by intro y hy;simpa [Op.operands,Call.operands,ha] using hy)
    refine pv (Builtin.min_ argTypes ty (args.map a.eval)) (by simp [execOp,resolve,invoke,builtin]) rfl ?_
    obtain ⟨z,h3,h4⟩:=KE (P:=P) r (a.eval x) _ v (s x (by simp)) (fun y hy=>s y (by simp [hy])) h1
    refine ⟨z,?_,h4⟩
    unfold Builtin.min_
    rw [Array.toList_map,ha,List.map_cons]
    exact h3
   case h_4 x r ha =>
    simp only [ru,aG] at h
    obtain ⟨v,h1,rfl⟩:=h
    have s:=st (x :: r) hp (by intro y hy;simpa [Op.operands,Call.operands,ha] using hy)
    refine pv (Builtin.max_ argTypes ty (args.map a.eval)) (by simp [execOp,resolve,invoke,builtin]) rfl ?_
    obtain ⟨z,h3,h4⟩:=KE (P:=P) r (a.eval x) _ v (s x (by simp)) (fun y hy=>s y (by simp [hy])) h1
    refine ⟨z,?_,h4⟩
    unfold Builtin.max_
    rw [Array.toList_map,ha,List.map_cons]
    exact h3
   case h_5=>cases h
 | _=>simp [dW] at h
def Yo:Option nG→Option nG
 | some o=>match o.same with
  | false=>some o
  | true=>none
 | none=>none
def yr (P:Program) (σ:dn) (T:TypeId) (a x:AV):Option (List Prop×AV×List Nat) :=
 match a,P.underlying T,ta P T with
 | .op k i j,some d,some n=>match d.isRow,Nat.beq n 1,ar σ k with
  | false,true,some o=>some ([i < o.len,(o.get i)[j]?=some x],x,[k])
  | _,_,_=>none
 | _,_,_=>none
theorem OX (g:Good E σ S μ w) {T:TypeId} {a x:AV} {va:Value} (ha:ao w S μ va a) {ps:List Prop} {y:AV} {rd:List Nat} (h:yr P σ T a x=some (ps,y,rd)) (hp:bg ps) :
  ∃ v,(Instr.loadAt T va).run P w=.ok v w∧ao w S μ v y:=by
 unfold yr at h
 split at h
 case h_2=>cases h
 rename_i k i j d n hd hn
 split at h
 case h_2=>cases h
 rename_i o h1 h2 ho
 simp only [aA,az] at h
 obtain ⟨rfl,rfl,rfl⟩:=h
 obtain ⟨hi,hx,_⟩:=hp
 have Oo:=bK h2
 subst Oo
 refine HD (T:=T) g ha (ps:=[i < o.len]) (rd:=[k]) ?_ ⟨hi,trivial⟩
 unfold xh
 simp only [hd,hn,ho,h1]
 unfold Ra
 have:Nat.ble (j+1) (o.get i).length=true:=by rw [Nat.ble_eq];exact (dD.1 hx).1
 rw [this]
 simp [hx]
def HP (σ:dn) (k q i:Nat):Option (List Prop×qS) :=
 match ar σ k,ar σ q with
 | some o,some oq=>match !o.var && !oq.var && oq.pr && Nat.ble 1 oq.sz && !Nat.beq k q with
  | true=>some ([i < o.len,o.get i=[.os q 0 oq.len],∀ j,j < oq.len→nB (oq.get j)=true],[(q,none),(k,some ⟨false,o.sz,o.len,false,fun m=>if m=i then [.mr oq.sz oq.len oq.get] else o.get m⟩)])
  | false=>none
 | _,_=>none
theorem G1 {k q i:Nat} {ps:List Prop} {u:qS} (h:HP σ k q i=some (ps,u)) (hp:bg ps) (g:Good E σ S μ w):Good E (eF σ u) S μ w:=by
 unfold HP at h
 split at h
 case h_2=>cases h
 rename_i o oq ho TY
 split at h
 case h_2=>cases h
 rename_i hb
 simp only [aA,az] at h
 obtain ⟨rfl,rfl⟩:=h
 simp only [bc,Bool.not_eq_true',Nat.ble_eq] at hb
 obtain ⟨⟨⟨⟨h1,h2⟩,h3⟩,h4⟩,h5⟩:=hb
 obtain ⟨p1,p2,p3,_⟩:=hp
 refine g.cls ho TY (fun e=>?_) h1 h2 h3 h4 p1 p2 fun j=>?_
 ·simp_all
 ·cases hr:rowOf oq j with
  | none=>rfl
  | some x =>
   obtain ⟨_,r2,r3⟩:=db hr
   have:=p3 j r2
   rw [r3] at this;cases this
def VU:AV→Nat
 | .os _ _ len=>len
 | _=>0
def rZ (P:Program) (nk:Nat) (σ:dn) (t:TypeId) (s x:AV) (bd:nG):Option (List Prop×AV×List Nat×qS) :=
 match bd.ks,qx P nk σ t s x with
 | [q],some (ps,v,rd,u)=>match T8 (rd ++ u.map (·.1)) q,HP (eF σ u) nk q (VU s) with
  | false,some (Th,u2)=>some (ps ++ Th,v,q :: rd,u ++ u2)
  | _,_=>none
 | _,_=>none
theorem KF (g:Good E σ S μ w) (hk:μ nk=none) (hm:E.m0≤nk) {t ty:TypeId} {s x:AV} {bd:nG} {vs vx:Value} (hs:ao w S μ vs s) (hx:ao w S μ vx x) {ps:List Prop} {val:AV} {rd:List Nat} {ld:qS}
  (h:rZ P nk σ t s x bd=some (ps,val,rd,ld)) (hp:bg ps):Step P E nk σ S μ w (Builtin.append_ #[t,t] ty #[vs,vx]) val ld:=by
 unfold rZ at h
 split at h
 case h_2=>cases h
 rename_i q p1 v LJ u hq ha
 split at h
 case h_2=>cases h
 rename_i p2 u2 _ hc
 simp only [aA,az] at h
 obtain ⟨rfl,rfl,rfl,rfl⟩:=h
 obtain ⟨xa,wM⟩:=bg.app hp
 obtain ⟨v',w',S',da,h1,h2,h3,h4,h5⟩:=GN (ty:=ty) g hk hm hs hx ha xa
 exact ⟨v',w',S',da,h1,h2,by grind [gl,G1],h4,h5⟩
def Et (P:Program) (T:TypeId) (x lo hi mx:AV):Option (List Prop×AV×List Nat) :=
 match P.underlying T,x,lo,hi,mx with
 | some (.slice e),.os _ _ len,.atom (.int _ l),.atom (.int _ h),.atom (.int _ m)=>match ta P e with
  | some _=>some ([0≤l∧l≤h∧h≤m∧m≤len],.mn,[])
  | none=>none
 | _,_,_,_,_=>none
theorem Ng {T:TypeId} {x lo hi mx:AV} {v vl vh vm:Value} (hx:ao w S μ v x) (hl:ao w S μ vl lo) (hh:ao w S μ vh hi) (hm:ao w S μ vm mx) {ps:List Prop} {r:AV} {rd:List Nat}
  (h:Et P T x lo hi mx=some (ps,r,rd)) (hp:bg ps):∃ u,(Instr.sliceAt T v (some vl) (some vh) (some vm)).run P w=.ok u w∧ao w S μ u r:=by
 unfold Et at h
 split at h
 case h_2=>cases h
 rename_i e k off len kl l kh h' km m hu
 split at h
 case h_2=>cases h
 rename_i sz qR
 simp only [aA,az] at h
 obtain ⟨rfl,rfl,rfl⟩:=h
 obtain ⟨⟨p1,p2,p3,p4⟩,_⟩:=hp
 have e1:=cX hl
 have e2:=cX hh
 have e3:=cX hm
 subst e1 e2 e3
 cases hx with
 | os pl gF h1 h2 h3 =>
  rename_i cap a
  have q1:0≤m∧m≤(cap:Int):=by omega
  have q2:0≤h'∧h'≤(m.toNat:Int):=by omega
  have q3:0≤l∧l≤(h'.toNat:Int):=by omega
  have hb:(Instr.sliceBounds true len cap (some (.int kl l)) (some (.int kh h')) (some (.int km m))).run P w=.ok (l.toNat,h'.toNat,m.toNat) w:=by
   simp only [Instr.sliceBounds,Instr.sliceBound,asIntOf,bD,Sem.run_pure,cV,Sem.run_ite,if_pos q1,if_pos q2,if_pos q3]
  exact ⟨.slice (if m.toNat=l.toNat then a else a.map (·.add (l.toNat * sz))) (h'.toNat - l.toNat) (m.toNat - l.toNat),by simp [Instr.sliceAt,Instr.slice,run_underlying hu,hb,ey qR],.mn⟩
def uz (P:Program) (σ:dn) (T:TypeId) (x:AV) (lo hi:Option AV):Option (List Prop×AV×List Nat) :=
 match P.underlying T,x with
 | some (.slice e),.os k off len=>match ta P e,bound 0 lo,bound len hi,ar σ k with
  | some sz,some l,some h,some o=>match Nat.beq o.sz sz with
   | true=>some ((l≤h∧off+h≤o.len) :: (tK lo ++ tK hi),.os k (bu off l) (h - l),[k])
   | false=>none
  | _,_,_,_=>none
 | _,_=>none
theorem Nh (g:Good E σ S μ w) {T:TypeId} {x:AV} {v:Value} (hx:ao w S μ v x) {lo hi:Option AV} {vlo vhi:Option Value}
  (TS:(vlo=none↔lo=none)∧∀ a b,lo=some a→vlo=some b→ao w S μ b a)
  (M3:(vhi=none↔hi=none)∧∀ a b,hi=some a→vhi=some b→ao w S μ b a) {ps:List Prop} {r:AV} {rd:List Nat} (h:uz P σ T x lo hi=some (ps,r,rd)) (hp:bg ps) :
  ∃ u,(Instr.sliceAt T v vlo vhi none).run P w=.ok u w∧ao w S μ u r:=by
 unfold uz at h
 split at h
 case h_2=>cases h
 rename_i e k off len hu
 split at h
 case h_2=>cases h
 rename_i sz l hh o qR hl TT ho
 split at h
 case h_2=>cases h
 rename_i hb
 have hb:=bK hb
 simp only [aA,az] at h
 obtain ⟨rfl,rfl,rfl⟩:=h
 obtain ⟨⟨p1,p2⟩,p3⟩:=hp
 obtain ⟨pl,c,T',hm,cY⟩:=g.rep.ob k o ho
 cases hx with
 | os jQ gF h1 h2 h3 =>
  rename_i cap a
  rw [hm] at gF;cases gF
  have hc:hh≤cap:=by have:=cY.len;omega
  have TU:=vv (P:=P) (w:=w) true (cap:=cap) TS M3 hl TT p1 hc p3
  refine ⟨.slice (if cap=l then a else a.map (·.add (l * sz))) (hh - l) (cap - l),?_,?_⟩
  ·simp [Instr.sliceAt,Instr.slice,run_underlying hu,TU,ey qR]
  ·refine .os pl hm ?_ (by omega) (by rw [dg];omega)
   intro hc
   have:=h1 (by omega)
   subst this
   rw [if_neg (by omega)]
   simp only [Option.map_some,Addr.add_mid]
   rw [dg,cY.sz,hb,cr]
def BM (P:Program) (σ:dn) (t:TypeId) (s x:AV):Option (List Prop×AV×List Nat×qS) :=
 match ma P t with
 | some e=>match ta P e,vp P e,rr P e,s,x with
  | some sz,some _,some _,.os k 0 len,.os k' off n=>match Nat.beq k k',ar σ k with
   | true,some o=>match Nat.ble 1 sz && Nat.beq o.sz sz && !o.var with
    | true=>some ([0 < o.len∧len+n≤o.len,off+n≤o.len,∀ i,i < o.len→AV.iy (o.get i)=true],.os k 0 (len+n),[k],
      [(k,some ⟨false,sz,o.len,o.pr,fun m=>if m < len then o.get m else if m < len+n then o.get (bu off (m - len)) else o.get m⟩)])
    | false=>none
   | _,_=>none
  | _,_,_,_,_=>none
 | none=>none
theorem G2 {o:Ob} (h:∀ i,i < o.len→AV.iy (o.get i)=true) (i:Nat):rowOf o i=none:=by
 cases hr:rowOf o i with
 | none=>rfl
 | some x =>
  obtain ⟨_,r2,r3⟩:=db hr
  have:=h i r2
  rw [r3] at this;cases this
theorem Rt (g:Good E σ S μ w) {t ty:TypeId} {s x:AV} {vs vx:Value} (hs:ao w S μ vs s) (hx:ao w S μ vx x) {ps:List Prop} {val:AV} {rd:List Nat} {ld:qS}
  (h:BM P σ t s x=some (ps,val,rd,ld)) (hp:bg ps):Step P E nk σ S μ w (Builtin.append_ #[t,t] ty #[vs,vx]) val ld:=by
 unfold BM at h
 split at h
 case h_2=>cases h
 rename_i e he
 have he:=kC he
 split at h
 case h_2=>cases h
 rename_i sz b z k len k' off n qR hb hz
 obtain ⟨ie,DN,rfl,rfl,NT⟩:=vq qR hb hz
 split at h
 case h_2=>cases h
 rename_i o OG ho
 have OG:=bK OG
 subst OG
 split at h
 case h_2=>cases h
 rename_i BF
 simp only [bc,Nat.ble_eq,Bool.not_eq_true'] at BF
 obtain ⟨⟨b1,b2⟩,Az⟩:=BF
 have b2:=bK b2
 simp only [aA,az] at h
 obtain ⟨rfl,rfl,rfl,rfl⟩:=h
 obtain ⟨⟨p0,p1⟩,p2,p3,_⟩:=hp
 obtain ⟨news,sr⟩:=xk (P:=P) (sz:=ie.size) (n:=n) (gt:=fun i=>o.get (bu off i)) (pr:=o.pr) (ps:=[off+n≤o.len,∀ i,i < n→AV.iy (o.get (bu off i))=true]) (rd:=[k]) g hx
  (by unfold ur;simp only [ho,rm b2]) ⟨p2,fun i hi=>p3 _ (by rw [dg];omega),trivial⟩
 obtain ⟨pl,c,T',tL,cY⟩:=g.rep.ob k o ho
 cases hs with
 | os jQ gF h1 h2 h3 =>
  rename_i cap a
  rw [tL] at gF;cases gF
  have Vh:=cY.len
  have ha:=h1 (by omega)
  simp only [Nat.zero_mul] at ha
  subst ha
  have vg:0 < pl.cap:=by omega
  have I8:len+n≤cap:=by omega
  have wJ:len * ie.size+news.length≤c.size:=by
   have e1:(len+n) * ie.size≤pl.cap * ie.size:=dE _ (by omega)
   have e2:=cY.cap
   rw [b2] at e2
   rw [sr.size,← cr];omega
  have ll:=Ed (P:=P) (w:=w) (ty:=ty) he DN ((cY.cy vg).trans (by rw [fm (by omega)])) sr.len sr.cells sr.one I8 wJ
  generalize oe:(c.toList.take (len * ie.size) ++ news ++ c.toList.drop (len * ie.size+news.length)).toArray=c' at ll
  have xi:(c.toList.take (len * ie.size)).length=len * ie.size:=by simp;omega
  have HE:c'.size=c.size:=by
   rw [← oe]
   simp;omega
  have pZ:∀ m,c'[m]?=if m < len * ie.size then c[m]? else if m < len * ie.size+news.length then news[m - len * ie.size]? else c[m]?:=by
   intro m
   rw [← oe]
   simp only [List.getElem?_toArray]
   by_cases h1:m < len * ie.size
   ·rw [ia (by simp;omega),ia (by omega),o8,if_pos h1,if_pos h1]
    simp
   ·rw [if_neg h1]
    by_cases h2:m < len * ie.size+news.length
    ·rw [ia (by simp;omega),jt (by omega),xi,if_pos h2]
    ·rw [if_neg h2,jt (by simp;omega)]
     simp only [lD,xi,oa]
     rw [show len * ie.size+news.length+(m - (len * ie.size+news.length))=m by omega]
     simp
  have pe:∀ i,i < o.len→(if i < len then o.get i else if i < len+n then o.get (bu off (i - len)) else o.get i).length=ie.size:=by
   intro i hi
   split
   ·rw [cY.s8 i hi,b2]
   ·split
    ·rw [cY.s8 _ (by rw [dg];omega),b2]
    ·rw [cY.s8 i hi,b2]
  have C7:=G2 p3
  have gw:=g.write ho tL vg cY (by omega) ⟨false,ie.size,o.len,o.pr,fun m=>if m < len then o.get m else if m < len+n then o.get (bu off (m - len)) else o.get m⟩ c' b2.symm HE cY.len pe (by
   intro i j x v hi hx hv
   have hi:i < o.len:=hi
   have hx:(if i < len then o.get i else if i < len+n then o.get (bu off (i - len)) else o.get i)[j]?=some x:=hx
   have hj:j < ie.size:=by
    have e1:=(dD.1 hx).1
    have e2:=pe i hi
    omega
   have hv:c'[i * ie.size+j]?=some v:=hv
   rw [pZ] at hv
   by_cases F0:i < len
   ·have oc:(i+1) * ie.size≤len * ie.size:=dE _ F0
    rw [cr] at oc
    rw [if_pos (by omega)] at hv
    rw [if_pos F0] at hx
    exact cY.rep i j x v hi hx (by rw [b2];exact hv)
   ·have oc:len * ie.size≤i * ie.size:=dE _ (by omega)
    rw [if_neg (by omega),sr.size] at hv
    rw [if_neg F0] at hx
    by_cases pS:i < len+n
    ·have NU:(i+1) * ie.size≤(len+n) * ie.size:=dE _ pS
     rw [cr,cr] at NU
     rw [if_pos (by omega)] at hv
     rw [if_pos pS] at hx
     refine sr.rep (i - len) j x v (by omega) hx ?_
     rw [← hv,Nat.sub_mul];congr 1;omega
    ·have NU:(len+n) * ie.size≤i * ie.size:=dE _ (by omega)
     rw [cr] at NU
     rw [if_neg (by omega)] at hv
     rw [if_neg pS] at hx
     exact cY.rep i j x v hi hx (by rw [b2];exact hv))
   (fun i x hx=>absurd hx (by
    rw [G2 (o:=⟨false,ie.size,o.len,o.pr,fun m=>if m < len then o.get m else if m < len+n then o.get (bu off (m - len)) else o.get m⟩) (fun i hi=>by
     show AV.iy (if i < len then o.get i else if i < len+n then o.get (bu off (i - len)) else o.get i)=true
     have hi:i < o.len:=hi
     split
     ·exact p3 i hi
     ·split
      ·exact p3 _ (by rw [dg];omega)
      ·exact p3 i hi)]
    intro h;cases h))
  exact ⟨_,_,S,μ,ll,gw.1,gw.2,fun _ _ h=>h,ao.os pl tL (by simp) I8 h3⟩
theorem OY {o:Ob} (h:∀ i,i < o.len→nB (o.get i)=true) (i:Nat):rowOf o i=none:=by
 cases hr:rowOf o i with
 | none=>rfl
 | some x =>
  obtain ⟨_,r2,r3⟩:=db hr
  have:=h i r2
  rw [r3] at this;cases this
theorem Jl {l:List AV} (h:AV.iy l=true):nB l=true:=by
 induction l with
 | nil=>rfl
 | cons x l ih =>
  simp only [AV.iy,bc] at h
  simp only [nB,bc]
  refine ⟨?_,ih h.2⟩
  cases x<;>first | rfl | cases h.1
theorem Good.OZ (g:Good E σ S μ w) {k:Nat} {o:Ob} (ho:ar σ k=some o) {pl:Place} {c:Array Value} {T':TypeId} (tL:μ k=some pl) (cY:gD w S μ o pl c T') (vg:0 < pl.cap) {sz p n:Nat}
  {gt:Nat→List AV} {pr:Bool} {v:Value} {news:List Value} (sr:Src P w S μ sz v n gt pr news) (b2:o.sz=sz) (b1:1≤sz) (hle:p+n≤o.len) (C7:∀ i,i < o.len→nB (o.get i)=true) {c':Array Value}
  (oe:(c.toList.take (p * sz) ++ news ++ c.toList.drop (p * sz+news.length)).toArray=c'):p * sz+news.length≤c.size ∧
  Ext w S μ (w.setRow pl.cy c') S μ∧Good E (sset σ k ⟨false,sz,o.len,o.pr && pr,fun m=>if m < p then o.get m else if m < p+n then gt (m - p) else o.get m⟩) S μ (w.setRow pl.cy c'):=by
 have Vh:=cY.len
 have wJ:p * sz+news.length≤c.size:=by
  have e1:(p+n) * sz≤pl.cap * sz:=dE _ (by omega)
  have e2:=cY.cap
  rw [b2] at e2
  rw [sr.size,← cr];omega
 have xi:(c.toList.take (p * sz)).length=p * sz:=by simp;omega
 have HE:c'.size=c.size:=by
  rw [← oe]
  simp;omega
 have pZ:∀ m,c'[m]?=if m < p * sz then c[m]? else if m < p * sz+news.length then news[m - p * sz]? else c[m]?:=by
  intro m
  rw [← oe]
  simp only [List.getElem?_toArray]
  by_cases h1:m < p * sz
  ·rw [ia (by simp;omega),ia (by omega),o8,if_pos h1,if_pos h1]
   simp
  ·rw [if_neg h1]
   by_cases h2:m < p * sz+news.length
   ·rw [ia (by simp;omega),jt (by omega),xi,if_pos h2]
   ·rw [if_neg h2,jt (by simp;omega)]
    simp only [lD,xi,oa]
    rw [show p * sz+news.length+(m - (p * sz+news.length))=m by omega]
    simp
 have pe:∀ i,i < o.len→(if i < p then o.get i else if i < p+n then gt (i - p) else o.get i).length=sz:=by
  intro i hi
  split
  ·rw [cY.s8 i hi,b2]
  ·split
   ·exact sr.s8 _ (by omega)
   ·rw [cY.s8 i hi,b2]
 have VJ:∀ {u:Value} {x:AV},ao w S (if o.pr then iI else μ) u x→ao w S (if (o.pr && pr)=true then iI else μ) u x:=by
  intro u x hh
  cases hp:pr
  ·rw [Bool.and_false];exact iz hh
  ·rw [Bool.and_true];exact hh
 have Re:∀ {u:Value} {x:AV},ao w S (if pr then iI else μ) u x→ao w S (if (o.pr && pr)=true then iI else μ) u x:=by
  intro u x hh
  cases hp:o.pr
  ·rw [Bool.false_and];exact iz hh
  ·rw [Bool.true_and];exact hh
 refine ⟨wJ,g.write ho tL vg cY (by omega) ⟨false,sz,o.len,o.pr && pr,fun m=>if m < p then o.get m else if m < p+n then gt (m - p) else o.get m⟩ c' b2.symm HE cY.len pe (by
   intro i j x v hi hx hv
   have hi:i < o.len:=hi
   have hx:(if i < p then o.get i else if i < p+n then gt (i - p) else o.get i)[j]?=some x:=hx
   have hj:j < sz:=by
    have e1:=(dD.1 hx).1
    have e2:=pe i hi
    omega
   have hv:c'[i * sz+j]?=some v:=hv
   rw [pZ] at hv
   by_cases F0:i < p
   ·have oc:(i+1) * sz≤p * sz:=dE _ F0
    rw [cr] at oc
    rw [if_pos (by omega)] at hv
    rw [if_pos F0] at hx
    exact VJ (cY.rep i j x v hi hx (by rw [b2];exact hv))
   ·have oc:p * sz≤i * sz:=dE _ (by omega)
    rw [if_neg (by omega),sr.size] at hv
    rw [if_neg F0] at hx
    by_cases pS:i < p+n
    ·have NU:(i+1) * sz≤(p+n) * sz:=dE _ pS
     rw [cr,cr] at NU
     rw [if_pos (by omega)] at hv
     rw [if_pos pS] at hx
     refine Re (sr.rep (i - p) j x v (by omega) hx ?_)
     rw [← hv,Nat.sub_mul];congr 1;omega
    ·have NU:(p+n) * sz≤i * sz:=dE _ (by omega)
     rw [cr] at NU
     rw [if_neg (by omega)] at hv
     rw [if_neg pS] at hx
     exact VJ (cY.rep i j x v hi hx (by rw [b2];exact hv)))
   (fun i x hx=>absurd hx (by
    rw [OY (o:=⟨false,sz,o.len,o.pr && pr,fun m=>if m < p then o.get m else if m < p+n then gt (m - p) else o.get m⟩) (fun i hi=>by
     show nB (if i < p then o.get i else if i < p+n then gt (i - p) else o.get i)=true
     have hi:i < o.len:=hi
     split
     ·exact C7 i hi
     ·split
      ·exact Jl (sr.Rd _ (by omega))
      ·exact C7 i hi)]
    intro h;cases h))⟩
def BN (P:Program) (σ:dn) (t:TypeId) (s x:AV):Option (List Prop×AV×List Nat×qS) :=
 match ma P t with
 | some e=>match ta P e,s,x with
  | some sz,.os k zI nd,.os k' Eu ns=>match Nat.beq k k',ar σ k with
   | true,some o=>match Nat.ble 1 sz && Nat.beq o.sz sz && !o.var with
    | true=>some ([nd≤ns,zI+nd≤o.len,Eu+nd≤o.len,∀ i,i < o.len→AV.iy (o.get i)=true],.atom (.int .i64 nd),[k],
      [(k,some ⟨false,sz,o.len,o.pr,fun m=>if m < zI then o.get m else if m < zI+nd then o.get (bu Eu (m - zI)) else o.get m⟩)])
    | false=>none
   | _,_=>none
  | _,_,_=>none
 | none=>none
theorem Ru (g:Good E σ S μ w) {t t' ty:TypeId} {s x:AV} {vs vx:Value} (hs:ao w S μ vs s) (hx:ao w S μ vx x) {ps:List Prop} {val:AV} {rd:List Nat} {ld:qS}
  (h:BN P σ t s x=some (ps,val,rd,ld)) (hp:bg ps):Step P E nk σ S μ w (Builtin.copy_ #[t,t'] ty #[vs,vx]) val ld:=by
 unfold BN at h
 split at h
 case h_2=>cases h
 rename_i e he
 have he:=kC he
 split at h
 case h_2=>cases h
 rename_i sz k zI nd k' Eu ns qR
 obtain ⟨ie,DN,rfl⟩:∃ ie,P.info? e=some ie∧ie.size=sz:=by
  unfold ta at qR
  simp_all
 split at h
 case h_2=>cases h
 rename_i o OG ho
 have OG:=bK OG
 subst OG
 split at h
 case h_2=>cases h
 rename_i BF
 simp only [bc,Nat.ble_eq,Bool.not_eq_true'] at BF
 obtain ⟨⟨b1,b2⟩,Az⟩:=BF
 have b2:=bK b2
 simp only [aA,az] at h
 obtain ⟨rfl,rfl,rfl,rfl⟩:=h
 obtain ⟨p0,p1,p2,p3,_⟩:=hp
 obtain ⟨pl,c,T',tL,cY⟩:=g.rep.ob k o ho
 cases hs with
 | os jQ gF h1 h2 h3 =>
  rename_i cap a
  rw [tL] at gF;cases gF
  cases hx with
  | os rD CY g1 g2 g3 =>
   rename_i T9 a2
   rw [tL] at CY;cases CY
   rcases Nat.eq_zero_or_pos nd with h0 | h0
   ·subst h0
    have ll:(Builtin.copy_ #[t,t'] ty #[.slice a 0 cap,.slice a2 ns T9]).run P w=.ok (goInt 0) w:=by
     have e0:Nat.min ns 0=0:=by simp
     cases a<;>cases a2<;>simp [Builtin.copy_,run_underlying he,Builtin.lenOf,Builtin.firstCells,sizeOf,typeInfo,DN,storeCells,loadCells,loadCellsFrom]
    have eo:(⟨false,ie.size,o.len,o.pr,fun m=>if m < zI then o.get m else if m < zI+0 then o.get (bu Eu (m - zI)) else o.get m⟩:Ob)=o:=by
     have:(fun m=>if m < zI then o.get m else if m < zI+0 then o.get (bu Eu (m - zI)) else o.get m)=o.get:=by
      funext m
      split
      ·rfl
      ·split
       ·omega
       ·rfl
     rw [this,← b2,← Az]
    refine ⟨_,w,S,μ,ll,Ext.refl _ _ _,g.congr fun n=>?_,fun _ _ h=>h,.atom _⟩
    show ar (sset σ k _) n=_
    grind [aX]
   ·have ha:=h1 (by omega)
    have QU:=g1 (by omega)
    subst ha QU
    have vg:0 < pl.cap:=by have:=cY.len;omega
    obtain ⟨news,sr⟩:=xk (P:=P) (sz:=ie.size) (x:=.os k Eu nd) (v:=.slice (some ⟨pl.cy,Eu * pl.sz,none⟩) nd T9) (n:=nd) (gt:=fun i=>o.get (bu Eu i)) (pr:=o.pr) (ps:=[Eu+nd≤o.len,∀ i,i < nd→AV.iy (o.get (bu Eu i))=true]) (rd:=[k]) g
     (.os pl tL g1 (by omega) g3) (by grind [ur,rm]) ⟨p2,fun i hi=>p3 _ (by rw [dg];omega),trivial⟩
    obtain ⟨wJ,VK,TW⟩:=g.OZ ho tL cY vg sr b2 b1 p1 (fun i hi=>Jl (p3 i hi)) rfl
    have As:=run_storeCells_at P pl.cy (zI * ie.size) T' news 0 c w ((cY.cy vg).trans (by rw [fm (by omega)])) (by simpa using wJ) sr.one
    simp only [Nat.add_zero] at As
    have S7:=sr.cells w rfl
    simp only [Builtin.firstCells] at S7
    have tc:Nat.min ns nd=nd:=Nat.min_eq_right p0
    have ll:(Builtin.copy_ #[t,t'] ty #[.slice (some ⟨pl.cy,zI * pl.sz,none⟩) nd cap,.slice (some ⟨pl.cy,Eu * pl.sz,none⟩) ns T9]).run P w=.ok (goInt nd) (w.setRow pl.cy (c.toList.take (zI * ie.size) ++ news ++ c.toList.drop (zI * ie.size+news.length)).toArray):=by
     rw [cY.sz,b2] at S7 ⊢
     simp [Builtin.copy_,run_underlying he,Builtin.lenOf,Builtin.firstCells,sizeOf,typeInfo,DN,tc,S7,As]
    rw [Bool.and_self] at TW
    exact ⟨_,_,S,μ,ll,VK,TW,fun _ _ h=>h,.atom _⟩
def BO (P:Program) (σ:dn) (t:TypeId) (s x:AV):Option (List Prop×AV×List Nat×qS) :=
 match ma P t with
 | some e=>match ta P e,vp P e,rr P e,s with
  | some sz,some _,some _,.os k off m=>match ur σ sz x,ar σ k with
   | some (n,gt,pr,ps,rd),some o=>match Nat.ble 1 sz && Nat.beq o.sz sz && !o.var with
    | true=>some ((0 < n∧bu off m+n≤o.len) :: (∀ i,i < o.len→nB (o.get i)=true) :: ps,.os k off (m+n),k :: rd,
      [(k,some ⟨false,sz,o.len,o.pr && pr,fun j=>if j < bu off m then o.get j else if j < bu off m+n then gt (j - bu off m) else o.get j⟩)])
    | false=>none
   | _,_=>none
  | _,_,_,_=>none
 | none=>none
theorem Rv (g:Good E σ S μ w) {t ty:TypeId} {s x:AV} {vs vx:Value} (hs:ao w S μ vs s) (hx:ao w S μ vx x) {ps:List Prop} {val:AV} {rd:List Nat} {ld:qS}
  (h:BO P σ t s x=some (ps,val,rd,ld)) (hp:bg ps):Step P E nk σ S μ w (Builtin.append_ #[t,t] ty #[vs,vx]) val ld:=by
 unfold BO at h
 split at h
 case h_2=>cases h
 rename_i e he
 have he:=kC he
 split at h
 case h_2=>cases h
 rename_i sz b z k off m qR hb hz
 obtain ⟨ie,DN,rfl,rfl,NT⟩:=vq qR hb hz
 split at h
 case h_2=>cases h
 rename_i n gt pr Oy LJ o uu ho
 split at h
 case h_2=>cases h
 rename_i BF
 simp only [bc,Nat.ble_eq,Bool.not_eq_true'] at BF
 obtain ⟨⟨b1,b2⟩,Az⟩:=BF
 have b2:=bK b2
 simp only [aA,az] at h
 obtain ⟨rfl,rfl,rfl,rfl⟩:=h
 obtain ⟨⟨p0,p1⟩,p2,p3⟩:=hp
 obtain ⟨news,sr⟩:=xk (P:=P) g hx uu p3
 obtain ⟨pl,c,T',tL,cY⟩:=g.rep.ob k o ho
 cases hs with
 | os jQ gF h1 h2 h3 =>
  rename_i cap a
  rw [tL] at gF;cases gF
  have Vh:=cY.len
  have ez:bu off m=off+m:=dg _ _
  have VV:pl.sz=ie.size:=cY.sz.trans b2
  have ha:=h1 (by omega)
  rw [VV] at ha
  subst ha
  obtain ⟨wJ,VK,TW⟩:=g.OZ ho tL cY (by omega) sr b2 b1 p1 p2 rfl
  have ll:=Kx (P:=P) (w:=w) (ty:=ty) he DN ((cY.cy (by omega)).trans (by rw [fm (by omega)])) sr.len sr.cells sr.one (b:=off * ie.size) (sLen:=m) (sCap:=cap) (by omega) (by rw [← cr,← ez];exact wJ)
  rw [← cr,← ez] at ll
  exact ⟨_,_,S,μ,ll,VK,TW,fun _ _ h=>h,ao.os pl tL (fun _=>by rw [VV]) (by omega) h3⟩
def BP (P:Program) (nk:Nat) (σ:dn) (t:TypeId) (s x:AV):Option (List Prop×AV×List Nat×qS) :=
 match ma P t with
 | some e=>match ta P e,vp P e,rr P e,s with
  | some sz,some b,some z,.Bw k off m=>match ur σ sz x,ar σ k with
   | some (n,gt,pr,ps,rd),some o=>match Nat.ble 1 sz && Nat.ble 1 b && Nat.beq z.cells.size sz && Nat.beq o.sz sz && !o.var with
    | true=>some ((0 < n∧bu off m=o.len) :: ((m+n) * b≤140737488355328) :: (∀ i,i < o.len→AV.iy (o.get i)=true) :: ps,.os nk 0 (m+n),k :: rd,
      [(nk,some ⟨false,sz,m+n,o.pr && pr,fun j=>if j < m then o.get (bu off j) else gt (j - m)⟩)])
    | false=>none
   | _,_=>none
  | _,_,_,_=>none
 | none=>none
theorem Rx (g:Good E σ S μ w) (hk:μ nk=none) (hm:E.m0≤nk) {t ty:TypeId} {s x:AV} {vs vx:Value} (hs:ao w S μ vs s) (hx:ao w S μ vx x) {ps:List Prop} {val:AV} {rd:List Nat} {ld:qS}
  (h:BP P nk σ t s x=some (ps,val,rd,ld)) (hp:bg ps):Step P E nk σ S μ w (Builtin.append_ #[t,t] ty #[vs,vx]) val ld:=by
 unfold BP at h
 split at h
 case h_2=>cases h
 rename_i e he
 have he:=kC he
 split at h
 case h_2=>cases h
 rename_i sz b z k off m qR hb hz
 obtain ⟨ie,DN,rfl,rfl,NT⟩:=vq qR hb hz
 split at h
 case h_2=>cases h
 rename_i n gt pr Oy LJ o uu ho
 split at h
 case h_2=>cases h
 rename_i BF
 simp only [bc,Nat.ble_eq,Bool.not_eq_true'] at BF
 obtain ⟨⟨⟨⟨b1,bb⟩,b3⟩,b2⟩,Az⟩:=BF
 have b2:=bK b2
 have b3:=bK b3
 simp only [aA,az] at h
 obtain ⟨rfl,rfl,rfl,rfl⟩:=h
 obtain ⟨⟨p0,CY⟩,p1,p2,p3⟩:=hp
 rw [dg] at CY
 obtain ⟨news,sr⟩:=xk (P:=P) g hx uu p3
 obtain ⟨pl,c,T',tL,cY⟩:=g.rep.ob k o ho
 cases hs with
 | Bw jQ gF h1 h2 =>
  rename_i a
  rw [tL] at gF;cases gF
  obtain ⟨olds,so⟩:=xk (P:=P) (sz:=ie.size) (x:=.os k off m) (v:=.slice a m m) (n:=m) (gt:=fun i=>o.get (bu off i)) (pr:=o.pr) (ps:=[off+m≤o.len,∀ i,i < m→AV.iy (o.get (bu off i))=true]) (rd:=[k]) g
   (.os pl tL h1 (aF _) h2) (by grind [ur,rm]) ⟨by omega,fun i hi=>p2 _ (by rw [dg];omega),trivial⟩
  have ll:=vw (P:=P) (w:=w) (ty:=ty) he DN NT so.cells sr.len sr.cells (by omega) bb p1
  have wH:=Ee w (m+n) m e
  have pe:∀ i,i < m+n→((fun q=>if q < m then o.get (bu off q) else gt (q - m)) i).length=ie.size:=by
   intro i hi
   show (if i < m then o.get (bu off i) else gt (i - m)).length=_
   split
   ·rw [cY.s8 (bu off i) (by rw [dg];omega),b2]
   ·exact sr.s8 _ (by omega)
  have gg:=g.grow (e:=e) hk hm (sz:=ie.size) (n:=n) (len:=m) (cap:=grownCap w (m+n) m e) (olds:=olds) (news:=news)
   (rest:=Builtin.zeroCells z.cells (grownCap w (m+n) m e - (m+n))) (pr:=o.pr && pr) (get:=fun q=>if q < m then o.get (bu off q) else gt (q - m))
   so.size sr.size (by rw [size_zeroCells,b3]) wH pe (by
    intro i j x u hi hx hu
    have hx:(if i < m then o.get (bu off i) else gt (i - m))[j]?=some x:=hx
    have hj:j < ie.size:=by
     have e1:=(dD.1 hx).1
     have e2:(if i < m then o.get (bu off i) else gt (i - m)).length=ie.size:=pe i hi
     omega
    by_cases F0:i < m
    ·have oc:(i+1) * ie.size≤m * ie.size:=dE _ F0
     rw [cr] at oc
     rw [if_pos F0] at hx
     rw [ia (by rw [so.size];omega)] at hu
     have:=so.rep i j x u F0 hx hu
     cases hp:pr
     ·rw [Bool.and_false];exact iz this
     ·rw [Bool.and_true];exact this
    ·have oc:m * ie.size≤i * ie.size:=dE _ (by omega)
     rw [if_neg F0] at hx
     rw [jt (by rw [so.size];omega),so.size] at hu
     have:=sr.rep (i - m) j x u (by omega) hx (by rw [← hu,Nat.sub_mul];congr 1;omega)
     cases hp:o.pr
     ·rw [Bool.false_and];exact iz this
     ·rw [Bool.true_and];exact this) (by omega)
   (g.IZ hk _ _ (fun _=>aF _) (pf fun i hi=>by
    have hi:i < m+n:=hi
    show AV.iy (if i < m then o.get (bu off i) else gt (i - m))=true
    split
    ·exact p2 _ (by rw [dg];omega)
    ·exact sr.Rd _ (by omega)) (fun b h=>eB (w:=w.drew) h) (fun _ h=>h) (fun _ h=>.inl h))
  refine ⟨_,_,S,_,ll,gg.1,gg.2,fun k nL hn=>by rw [mH _ nL];exact hn,?_⟩
  exact ao.os ⟨w.heap.size,grownCap w (m+n) m e,ie.size⟩ (by simp [bT]) (by simp) wH (by simp)
def yu (P:Program) (σ:dn) (t:TypeId) (x:AV):Option (List Prop×AV×List Nat×qS) :=
 match ma P t with
 | some e=>match ta P e,vp P e,rr P e,x with
  | some sz,some _,some z,.os k off n=>match ar σ k with
   | some o=>match Nat.ble 1 sz && Nat.beq o.sz sz && !o.var && Nat.beq z.cells.size sz && z.cells.toList.all (·.oneCell') with
    | true=>some ([0 < n∧off+n≤o.len],.mn,[k],[(k,some ⟨false,sz,off,o.pr,o.get⟩)])
    | false=>none
   | none=>none
  | _,_,_,_=>none
 | none=>none
theorem O0 (g:Good E σ S μ w) {t ty:TypeId} {x:AV} {vx:Value} (hx:ao w S μ vx x) {ps:List Prop} {val:AV} {rd:List Nat} {ld:qS}
  (h:yu P σ t x=some (ps,val,rd,ld)) (hp:bg ps):Step P E nk σ S μ w (Builtin.clear_ #[t] ty #[vx]) val ld:=by
 unfold yu at h
 split at h
 case h_2=>cases h
 rename_i e he
 have he:=kC he
 split at h
 case h_2=>cases h
 rename_i sz b z k off n qR hb hz
 obtain ⟨ie,DN,rfl,rfl,NT⟩:=vq qR hb hz
 split at h
 case h_2=>cases h
 rename_i o ho
 split at h
 case h_2=>cases h
 rename_i BF
 simp only [bc,Nat.ble_eq,Bool.not_eq_true'] at BF
 obtain ⟨⟨⟨⟨b1,b2⟩,Az⟩,b3⟩,b4⟩:=BF
 have b2:=bK b2
 have b3:=bK b3
 simp only [aA,az] at h
 obtain ⟨rfl,rfl,rfl,rfl⟩:=h
 obtain ⟨⟨p0,p1⟩,_⟩:=hp
 obtain ⟨pl,c,T',tL,cY⟩:=g.rep.ob k o ho
 cases hx with
 | os jQ gF h1 h2 h3 =>
  rename_i cap a
  rw [tL] at gF;cases gF
  have Vh:=cY.len
  have ha:=h1 (by omega)
  subst ha
  have vg:0 < pl.cap:=by omega
  have hzl:(Builtin.zeroCells z.cells n).toList.length=n * ie.size:=by simp [Builtin.zeroCells,b3]
  have F5:∀ u∈(Builtin.zeroCells z.cells n).toList,u.oneCell'=true:=by
   intro u hu
   simp only [Builtin.zeroCells,Array.toList_map,List.mem_map] at hu
   obtain ⟨i,hi,rfl⟩:=hu
   have gk:i % z.cells.size < z.cells.size:=Nat.mod_lt _ (by omega)
   rw [getElem!_pos z.cells (i % z.cells.size) gk]
   rw [List.all_eq_true] at b4
   exact b4 _ (Array.mem_toList_iff.2 (Array.getElem_mem gk))
  have wJ:off * ie.size+(Builtin.zeroCells z.cells n).toList.length≤c.size:=by
   have e1:(off+n) * ie.size≤pl.cap * ie.size:=dE _ (by omega)
   have e2:=cY.cap
   rw [b2] at e2
   rw [hzl,← cr];omega
  have As:=run_storeCells_at P pl.cy (off * ie.size) T' (Builtin.zeroCells z.cells n).toList 0 c w ((cY.cy vg).trans (by rw [fm (by omega)])) (by simpa using wJ) F5
  simp only [Nat.add_zero] at As
  generalize oe:(c.toList.take (off * ie.size) ++ (Builtin.zeroCells z.cells n).toList ++ c.toList.drop (off * ie.size+(Builtin.zeroCells z.cells n).toList.length)).toArray=c' at As
  have ll:(Builtin.clear_ #[t] ty #[.slice (some ⟨pl.cy,off * pl.sz,none⟩) n cap]).run P w=.ok (.tuple #[]) (w.setRow pl.cy c'):=by
   rw [cY.sz,b2]
   obtain ⟨m,rfl⟩:∃ m,n=m+1:=⟨n - 1,by omega⟩
   simp [Builtin.clear_,run_underlying he,zeroValue,typeInfo,DN,NT,As]
  have xi:(c.toList.take (off * ie.size)).length=off * ie.size:=by simp;omega
  have HE:c'.size=c.size:=by
   rw [← oe]
   simp only [List.size_toArray,lD,xi,List.length_drop,Array.length_toList]
   rw [Array.length_toList] at wJ
   omega
  have pZ:∀ m,m < off * ie.size→c'[m]?=c[m]?:=by
   intro m h1
   rw [← oe]
   simp only [List.getElem?_toArray]
   rw [ia (by simp;omega),ia (by omega),o8,if_pos h1]
   simp
  have vo:∀ i x,rowOf ⟨false,ie.size,off,o.pr,o.get⟩ i=some x→rowOf o i=some x∧i < off:=fun i x hx=>by
   obtain ⟨_,q2,q3⟩:=db hx
   have q2:i < off:=q2
   exact ⟨kB Az (by omega) q3,q2⟩
  have O1:∀ i,i < off→∀ j,j < ie.size→i * ie.size+j < off * ie.size:=fun i hi j hj=>by
   have oc:(i+1) * ie.size≤off * ie.size:=dE _ hi
   rw [cr] at oc;omega
  have gw:=g.write ho tL vg cY (by omega) ⟨false,ie.size,off,o.pr,o.get⟩ c' b2.symm HE (show off≤pl.cap by omega) (fun i hi=>by
   have hi:i < off:=hi
   show (o.get i).length=ie.size
   rw [cY.s8 i (by omega),b2]) (by
   intro i j x v hi hx hv
   have hi:i < off:=hi
   have hx:(o.get i)[j]?=some x:=hx
   have hj:j < ie.size:=by
    have e1:=(dD.1 hx).1
    rw [cY.s8 i (by omega),b2] at e1;exact e1
   have hv:c'[i * ie.size+j]?=some v:=hv
   rw [pZ _ (O1 i hi j hj)] at hv
   exact cY.rep i j x v (by omega) hx (by rw [b2];exact hv)) (fun i x hx=>⟨(vo i x hx).1,by
    rw [b2];exact pZ _ (by have:=O1 i (vo i x hx).2 0 (by omega);omega)⟩)
  exact ⟨_,_,S,μ,ll,gw.1,gw.2,fun _ _ h=>h,.mn⟩
def xt (P:Program) (nk:Nat) (σ:dn) (op:Op) (e:Operand→AV) (bd:Option nG):Option R :=
 match Yo bd with
 | none=>dW P nk σ op e bd
 | some q=>match op with
  | .load T a=>(yr P σ T ((e a).strip.1) q.res).map fun (ps,v,rd)=>⟨conds e [a] ++ ps,v,rd,[]⟩
  | .call ⟨.builtin .append,args,GY⟩=>match args.toList,GY.toList with
   | [x,y],[t,t']=>match Nat.beq t t' with
    | true=>(match q.ks,q.res with
     | [],.mn=>BM P σ t ((e x).strip.1) ((e y).strip.1)
     | [],.nil=>BO P σ t ((e x).strip.1) ((e y).strip.1)
     | [],_=>BP P nk σ t ((e x).strip.1) ((e y).strip.1)
     | _,_=>rZ P nk σ t ((e x).strip.1) ((e y).strip.1) q).map fun (ps,v,rd,u)=>⟨conds e [x,y] ++ ps,v,rd,u⟩
    | false=>none
   | _,_=>none
  | .call ⟨.builtin .copy,args,GY⟩=>match args.toList,GY.toList with
   | [x,y],[t,_]=>(BN P σ t ((e x).strip.1) ((e y).strip.1)).map fun (ps,v,rd,u)=>⟨conds e [x,y] ++ ps,v,rd,u⟩
   | _,_=>none
  | .call ⟨.builtin .clear,args,GY⟩=>match args.toList,GY.toList with
   | [x],[t]=>(yu P σ t ((e x).strip.1)).map fun (ps,v,rd,u)=>⟨conds e [x] ++ ps,v,rd,u⟩
   | _,_=>none
  | .slice t x lo hi mx=>match mx with
   | none=>(uz P σ t ((e x).strip.1) (lo.map fun y=>(e y).strip.1) (hi.map fun y=>(e y).strip.1)).map fun (ps,v,rd)=>⟨conds e (x :: (lo.toList ++ hi.toList)) ++ ps,v,rd,[]⟩
   | some m=>match lo,hi with
    | some l,some h=>(Et P t ((e x).strip.1) ((e l).strip.1) ((e h).strip.1) ((e m).strip.1)).map fun (ps,v,rd)=>⟨conds e [x,l,h,m] ++ ps,v,rd,[]⟩
    | _,_=>none
  | op=>dW P nk σ op e bd
theorem G3 {o:Oper} {a:Act} {e:Operand→AV} {bd:Option nG} {r:R} {next:Act→World→Prop} {Q:Exit→Act→World→Prop}
  (he:∀ x∈o.op.operands.toList,ao w S μ (a.eval x) (e x)) (g:Good E σ S μ w) (zH:∀ j,j < 16→μ (nk+j)=none) (hm:E.m0≤nk)
  (hz:∀ x,bd=some x→x.wg=true→∀ b,¬ E.fp b) (h:xt P nk σ o.op e bd=some r) (hp:bg r.GO) (hK:OW E nk σ S μ w r fun v w'=>next (a.put o.dst v) w'):o.wp P a w next Q:=by
 unfold xt at h
 split at h
 ·exact Jk he g zH hm hz h hp hK
 ·have hk:μ nk=none:=zH 0 (by omega)
  have st:∀ (xs:List Operand),bg (conds e xs)→(∀ x∈xs,x∈o.op.operands.toList)→∀ x∈xs,ao w S μ (a.eval x) ((e x).strip.1) :=
   fun xs h1 h2 x hx=>(he x (h2 x hx)).strip (yq h1 x hx)
  obtain ⟨dst,op,ty,pos,after,guard⟩:=o
  simp only at he h hK st ⊢
  split at h
  ·rename_i T x
   simp only [aG] at h
   obtain ⟨⟨ps,v,rd⟩,h1,rfl⟩:=h
   obtain ⟨p1,p2⟩:=bg.app hp
   obtain ⟨u,r1,r2⟩:=OX g (st [x] p1 (by simp [Op.operands]) x (by simp)) h1 p2
   unfold Oper.wp
   have ex:execOp a.eval ⟨dst,.load T x,ty,pos,after,guard⟩=(do pure (.value (← Instr.loadAt T (a.eval x))):Sem Next):=rfl
   rw [ex]
   simp only [bD,r1,cV,Sem.run_pure]
   exact hK u w S μ (Ext.refl _ _ _) g (fun _ _ h=>h) r2
  ·rename_i args GY
   split at h
   case h_2=>cases h
   rename_i x y t t' ha ht
   split at h
   case h_2=>cases h
   rename_i hb
   have hb:=bK hb
   subst hb
   obtain ⟨rfl⟩:args=#[x,y]:=Array.toList_inj.1 (by rw [ha])
   obtain ⟨rfl⟩:GY=#[t,t]:=Array.toList_inj.1 (by rw [ht])
   simp only [aG] at h
   obtain ⟨⟨ps,v,rd,u⟩,h1,rfl⟩:=h
   obtain ⟨p1,p2⟩:=bg.app hp
   have s:=st [x,y] p1 (by simp [Op.operands,Call.operands])
   have As:Step P E nk σ S μ w (Builtin.append_ #[t,t] ty #[a.eval x,a.eval y]) v u:=by
    split at h1
    ·exact Rt (ty:=ty) g (s x (by simp)) (s y (by simp)) h1 p2
    ·exact Rv (ty:=ty) g (s x (by simp)) (s y (by simp)) h1 p2
    ·exact Rx (ty:=ty) g hk hm (s x (by simp)) (s y (by simp)) h1 p2
    ·exact KF (ty:=ty) g hk hm (s x (by simp)) (s y (by simp)) h1 p2
   obtain ⟨v',w',S',da,r1,r2,r3,r4,r5⟩:=As
   unfold Oper.wp
   have ex:execOp a.eval ⟨dst,.call ⟨.builtin .append,#[x,y],#[t,t]⟩,ty,pos,after,guard⟩=(do pure (.value (← Builtin.append_ #[t,t] ty #[a.eval x,a.eval y])):Sem Next):=by simp [execOp,resolve,invoke,builtin]
   rw [ex]
   simp only [bD,r1,cV,Sem.run_pure]
   exact hK v' w' S' da r2 r3 (fun k nL=>r4 k (by omega)) r5
  ·rename_i args GY
   split at h
   case h_2=>cases h
   rename_i x y t t' ha ht
   obtain ⟨rfl⟩:args=#[x,y]:=Array.toList_inj.1 (by rw [ha])
   obtain ⟨rfl⟩:GY=#[t,t']:=Array.toList_inj.1 (by rw [ht])
   simp only [aG] at h
   obtain ⟨⟨ps,v,rd,u⟩,h1,rfl⟩:=h
   obtain ⟨p1,p2⟩:=bg.app hp
   have s:=st [x,y] p1 (by simp [Op.operands,Call.operands])
   obtain ⟨v',w',S',da,r1,r2,r3,r4,r5⟩:=Ru (nk:=nk) (t':=t') (ty:=ty) g (s x (by simp)) (s y (by simp)) h1 p2
   unfold Oper.wp
   have ex:execOp a.eval ⟨dst,.call ⟨.builtin .copy,#[x,y],#[t,t']⟩,ty,pos,after,guard⟩=(do pure (.value (← Builtin.copy_ #[t,t'] ty #[a.eval x,a.eval y])):Sem Next):=by simp [execOp,resolve,invoke,builtin]
   rw [ex]
   simp only [bD,r1,cV,Sem.run_pure]
   exact hK v' w' S' da r2 r3 (fun k nL=>r4 k (by omega)) r5
  ·rename_i args GY
   split at h
   case h_2=>cases h
   rename_i x t ha ht
   obtain ⟨rfl⟩:args=#[x]:=Array.toList_inj.1 (by rw [ha])
   obtain ⟨rfl⟩:GY=#[t]:=Array.toList_inj.1 (by rw [ht])
   simp only [aG] at h
   obtain ⟨⟨ps,v,rd,u⟩,h1,rfl⟩:=h
   obtain ⟨p1,p2⟩:=bg.app hp
   have s:=st [x] p1 (by simp [Op.operands,Call.operands])
   obtain ⟨v',w',S',da,r1,r2,r3,r4,r5⟩:=O0 (nk:=nk) (ty:=ty) g (s x (by simp)) h1 p2
   unfold Oper.wp
   have ex:execOp a.eval ⟨dst,.call ⟨.builtin .clear,#[x],#[t]⟩,ty,pos,after,guard⟩=(do pure (.value (← Builtin.clear_ #[t] ty #[a.eval x])):Sem Next):=by simp [execOp,resolve,invoke,builtin]
   rw [ex]
   simp only [bD,r1,cV,Sem.run_pure]
   exact hK v' w' S' da r2 r3 (fun k nL=>r4 k (by omega)) r5
  ·rename_i t x lo hi mx
   have ex:∀ y,execOp a.eval ⟨dst,.slice t x lo hi y,ty,pos,after,guard⟩=(do pure (.value (← Instr.sliceAt t (a.eval x) (lo.map a.eval) (hi.map a.eval) (y.map a.eval))):Sem Next):=fun y=>rfl
   cases mx with
   | none =>
    simp only [aG] at h
    obtain ⟨⟨ps,v,rd⟩,h1,rfl⟩:=h
    obtain ⟨p1,p2⟩:=bg.app hp
    have s:=st (x :: (lo.toList ++ hi.toList)) p1 (by
     intro y hy
     simp only [kz,List.mem_append,Option.mem_toList] at hy
     simp only [Op.operands]
     rcases hy with rfl | hy | hy
     ·simp
     ·simp [hy]
     ·simp [hy])
    obtain ⟨u,r1,r2⟩:=Nh (P:=P) (vlo:=lo.map a.eval) (vhi:=hi.map a.eval) g (s x (by simp)) (by
     refine ⟨by simp,?_⟩
     intro p q rV hq
     simp only [aG] at rV hq
     obtain ⟨y,hy,rfl⟩:=rV
     obtain ⟨z,hz,rfl⟩:=hq
     rw [hy] at hz;cases hz
     exact s y (by simp [hy])) (by
     refine ⟨by simp,?_⟩
     intro p q rV hq
     simp only [aG] at rV hq
     obtain ⟨y,hy,rfl⟩:=rV
     obtain ⟨z,hz,rfl⟩:=hq
     rw [hy] at hz;cases hz
     exact s y (by simp [hy])) h1 p2
    unfold Oper.wp
    rw [ex none]
    simp only [Option.map_none,bD,r1,cV,Sem.run_pure]
    exact hK u w S μ (Ext.refl _ _ _) g (fun _ _ h=>h) r2
   | some m =>
    simp only at h
    split at h
    case h_2=>cases h
    rename_i l hh
    simp only [aG] at h
    obtain ⟨⟨ps,v,rd⟩,h1,rfl⟩:=h
    obtain ⟨p1,p2⟩:=bg.app hp
    have s:=st [x,l,hh,m] p1 (by simp [Op.operands])
    obtain ⟨u,r1,r2⟩:=Ng (P:=P) (s x (by simp)) (s l (by simp)) (s hh (by simp)) (s m (by simp)) h1 p2
    unfold Oper.wp
    rw [ex (some m)]
    simp only [Option.map_some,bD,r1,cV,Sem.run_pure]
    exact hK u w S μ (Ext.refl _ _ _) g (fun _ _ h=>h) r2
  ·exact Jk (o:=⟨dst,op,ty,pos,after,guard⟩) he g zH hm hz h hp hK
def SF (μ:Mu) (F:List Nat) (σ:dn) (S:Nat→Prop) (b:Nat):Prop:=S b∨∃ k o pl,k∈F∧ar σ k=some o∧μ k=some pl∧0 < pl.cap∧pl.cy=b
theorem Good.freeze (g:Good E σ S μ w) (F:List Nat) (hz:∀ b,¬ E.fp b):Good E (eF σ (uv true F)) (SF μ F σ S) μ w:=by
 have sg:∀ n o,ar (eF σ (uv true F)) n=some o→ar σ n=some o∧n ∉ F:=fun n o h=>by
  rw [lY] at h
  simp_all
 have e:Ext w S μ w (SF μ F σ S) μ:=⟨aF _,fun _ h=>.inl h,fun _ _=>rfl,fun _ _ h=>h⟩
 refine ⟨g.fr,fun b h=>.inl (g.S0 b h),?_,?_,⟨?_,?_⟩,?_,g.CC,?_⟩
 ·rintro b (h1 | ⟨k1,o1,Ar,Ry,wi,Kp,s9,rfl⟩)
  ·exact g.S1 b h1
  ·obtain ⟨jQ,c,T,gF,O2⟩:=g.rep.ob k1 o1 wi
   rw [Kp] at gF;cases gF
   exact gj (O2.cy s9)
 ·rintro b (h1 | ⟨k1,o1,Ar,Ry,wi,Kp,s9,rfl⟩)
  ·exact g.S2 b h1
  ·rcases g.own k1 o1 Ar wi Kp s9 with h2 | h2
   ·exact (hz _ h2).elim
   ·exact .inr h2
 ·intro k o Rz
  obtain ⟨h0,Yp⟩:=sg k o Rz
  obtain ⟨pl,c,T,tq,tP⟩:=g.rep.ob k o h0
  refine ⟨pl,c,T,tq,tP.ext e (fun _=>rfl) ?_⟩
  rintro hc (h1 | ⟨k1,o1,Ar,Ry,wi,Kp,s9,hb⟩)
  ·exact tP.out hc h1
  ·exact g.rep.ne k1 k o1 o Ar pl (fun h=>Yp (h ▸ Ry)) wi h0 Kp tq s9 hc hb
 ·intro k k' o o' pl jQ fP h1 h2 h3 h4 h5 h6
  exact g.rep.ne k k' o o' pl jQ fP (sg _ _ h1).1 (sg _ _ h2).1 h3 h4 h5 h6
 ·exact fun k o pl h1 h2 h3=>g.own k o pl (sg _ _ h1).1 h2 h3
 ·have VW:∀ k i x v,iJ w μ (eF σ (uv true F)) k i x v→iJ w μ σ k i x v:=fun k i x v ⟨o,pl,h1,h2,h3,h4⟩=>⟨o,pl,(sg _ _ h1).1,h2,h3,h4⟩
  refine g.mx.tr (fun k=>k) VW (fun _ _ _ _ _ _ _ _ _ _ h=>h) (fun _ h=>.inl h) (fun _ _=>rfl) (fun k i x v b _ h hb=>⟨rfl,?_,fun h=>h⟩) (fun k o pl h1 h2 h3=>.inl ⟨k,o,pl,(sg _ _ h1).1,h2,h3,rfl⟩)
  rintro (h1 | ⟨k1,o1,Ar,_,wi,Kp,s9,h1⟩)
  ·exact (g.mx.cy h hb).2.1 h1
  ·exact g.mx.obj _ _ _ _ _ h hb k1 o1 Ar wi Kp s9 h1
def QW (σ:dn):dn→Option (List Prop)
 | []=>some []
 | (k,o') :: r=>match ar σ k,QW σ r with
  | some o,some ps=>match o.pr with
   | true=>some ((o'.len≤o.len) :: (∀ i,i < o'.len→o'.get i=o.get i) :: ps)
   | false=>none
  | _,_=>none
mutual
def Ti (τ:dn):AV→AV
 | .os k off len=>match off,ar τ k with
  | 0,some o=>.sl o.len o.get
  | _,_=>.os k off len
 | .agg cs=>.agg (Ua τ cs)
 | x=>x
def Ua (τ:dn):List AV→List AV
 | []=>[]
 | c :: cs=>Ti τ c :: Ua τ cs
end
mutual
def Ub (τ:dn):AV→List Prop
 | .os k off len=>match off,ar τ k with
  | 0,some o=>[len=o.len]
  | _,_=>[]
 | .agg cs=>RA τ cs
 | _=>[]
def RA (τ:dn):List AV→List Prop
 | []=>[]
 | c :: cs=>Ub τ c ++ RA τ cs
end
def Vn (τ:dn) (e:Operand→AV):List Operand→List Prop
 | []=>[]
 | x :: r=>Ub τ (e x) ++ Vn τ e r
theorem LY:∀ {τ:dn} {ps:List Prop},QW σ τ=some ps→bg ps→∀ {k:Nat} {o':Ob},ar τ k=some o'→k∈τ.map (·.1)∧∃ o,ar σ k=some o∧o.pr=true∧o'.len≤o.len∧∀ i,i < o'.len→o'.get i=o.get i
 | [],ps,_,_,k,o',h=>by simp [ar] at h
 | (k0,o0) :: r,ps,h,hp,k,o',hk=>by
  simp only [QW] at h
  split at h
  ·rename_i o qs ho hr
   split at h
   ·rename_i Kn
    cases h
    obtain ⟨p1,p2,p3⟩:=hp
    simp only [ar] at hk
    split at hk
    ·simp_all
    ·obtain ⟨q1,q2⟩:=LY hr p3 hk
     simp_all
   ·cases h
  ·cases h
theorem j7 {da:Mu} {v:Value} {x:AV} {F:List Nat} (h:ao w S da v x):ao w (SF μ F σ S) da v x:=h.mono (fun _ h=>.inl h) (fun _ _=>rfl) (fun _ _ h=>h)
theorem VX (g:Good E σ S μ w) {τ:dn} {qs:List Prop} (hs:QW σ τ=some qs) (hq:bg qs) {k off len:Nat} {v:Value} (h:ao w S μ v (.os k off len)) (hp:bg (Ub τ (.os k off len))):ao w (SF μ (τ.map (·.1)) σ S) μ v (Ti τ (.os k off len)):=by
 simp only [Ti,Ub] at hp ⊢
 split at hp
 ·rename_i o' vj
  obtain ⟨rfl,_⟩:=hp
  obtain ⟨hF,o,ho,Kn,p2,p3⟩:=LY hs hq vj
  obtain ⟨pl,c,T,hm,cY⟩:=g.rep.ob k o ho
  cases h with
  | os jQ gF h1 h2 h3 =>
   rename_i cap a
   rw [hm] at gF;cases gF
   refine .sl pl.cy (0 * pl.sz) o.sz (fun i j=>(c[(0+i) * o.sz+j]?).getD undef) ?_ (fun i hi=>by rw [p3 i hi];exact cY.s8 _ (by omega)) ?_ ?_ h2
   ·intro hl
    exact ⟨h1 (by omega),.inr ⟨k,o,pl,hF,ho,hm,by omega,rfl⟩⟩
   ·intro i j hi hj
    obtain ⟨v,q1,q2⟩:=cM cY (i:=0+i) (by omega) hj
    simp_all
   ·intro i j c' hi oe
    rw [p3 i hi] at oe
    obtain ⟨v,q1,q2⟩:=cM cY (i:=0+i) (by omega) (by have:=(dD.1 oe).1;rw [cY.s8 _ (by omega)] at this;exact this)
    rw [q1]
    have:=cY.rep _ j c' v (by omega) (by simp_all) q1
    grind [j7]
 ·exact j7 h
mutual
theorem O3 (g:Good E σ S μ w) {τ:dn} {qs:List Prop} (hs:QW σ τ=some qs) (hq:bg qs):∀ (x:AV) (v:Value),ao w S μ v x→bg (Ub τ x)→ao w (SF μ (τ.map (·.1)) σ S) μ v (Ti τ x)
 | .os _ _ _,_,h,hp=>VX g hs hq h hp
 | .agg cs,v,h,hp=>by
  simp only [Ti,Ub] at hp ⊢
  obtain ⟨vs,rfl,h1,h2⟩:=nf h
  obtain ⟨q1,q2⟩:=LZ g hs hq cs hp
  refine .agg (h1.trans q1.symm) fun j c v hc hv=>?_
  grind
 | .nil,_,h,_=>j7 h
 | .atom _,_,h,_=>j7 h
 | .tup _,_,h,_=>j7 h
 | .sl _ _,_,h,_=>j7 h
 | .rp _ _,_,h,_=>j7 h
 | .op _ _ _,_,h,_=>j7 h
 | .fn _ _ _,_,h,_=>j7 h
 | .when _ _,_,h,_=>j7 h
 | .mp _,_,h,_=>j7 h
 | .bn _,_,h,_=>j7 h
 | .pt _ _,_,h,_=>j7 h
 | .ov _ _ _ _ _,_,h,_=>j7 h
 | .Bw _ _ _,_,h,_=>j7 h
 | .nq _ _,_,h,_=>j7 h
 | .mn,_,h,_=>j7 h
 | .mr _ _ _,_,h,_=>j7 h
theorem LZ (g:Good E σ S μ w) {τ:dn} {qs:List Prop} (hs:QW σ τ=some qs) (hq:bg qs):∀ (cs:List AV),bg (RA τ cs)→(Ua τ cs).length=cs.length ∧
  ∀ (j:Nat) c y v,cs[j]?=some c→(Ua τ cs)[j]?=some y→ao w S μ v c→ao w (SF μ (τ.map (·.1)) σ S) μ v y
 | [],_=>⟨rfl,fun j c y v hc=>by simp at hc⟩
 | c :: cs,hp=>by
  simp only [RA] at hp
  obtain ⟨p1,p2⟩:=bg.app hp
  obtain ⟨q1,q2⟩:=LZ g hs hq cs p2
  refine ⟨by simp [Ua,q1],fun j c' y v hc hy h=>?_⟩
  cases j with
  | zero =>
   simp only [Ua,List.getElem?_cons_zero,aA] at hc hy
   subst hc hy
   exact O3 g hs hq c v h p1
  | succ j =>
   simp only [Ua,DL] at hc hy
   exact q2 j c' y v hc hy h
end
def O4 (op:Op):Option nG→Option dn
 | none=>none
 | some q=>match q.wg,op with
  | true,.buildSlice _ _ _=>some q.mJ
  | true,.build _ _=>some q.mJ
  | true,.box _ _=>some q.mJ
  | true,.store _ _ _=>some q.mJ
  | _,_=>none
theorem KG {c:Call} (bd:Option nG):O4 (.defer c) bd=none:=by
 cases bd with
 | none=>rfl
 | some q=>grind [O4]
theorem O5 {op:Op} {bd:Option nG} {τ:dn} (h:O4 op bd=some τ):∃ x,bd=some x∧x.wg=true:=by
 unfold O4 at h
 grind
def zo (P:Program) (nk:Nat) (σ:dn) (op:Op) (e:Operand→AV) (bd:Option nG):Option R :=
 match O4 op bd with
 | none=>xt P nk σ op e bd
 | some τ=>match QW σ τ,xt P nk (eF σ (uv true (τ.map (·.1)))) op (fun x=>Ti τ (e x)) bd with
  | some ps,some r=>some ⟨ps ++ (Vn τ e op.operands.toList ++ r.GO),r.val,τ.map (·.1) ++ r.IL,uv true (τ.map (·.1)) ++ r.ld⟩
  | _,_=>none
theorem L0 {τ:dn} {e:Operand→AV}:∀ {xs:List Operand},bg (Vn τ e xs)→∀ x∈xs,bg (Ub τ (e x))
 | [],_,x,hx=>by simp at hx
 | y :: r,h,x,hx=>by
  obtain ⟨h1,h2⟩:=bg.app h
  rcases kz.1 hx with rfl | hx
  ·exact h1
  ·exact L0 h2 x hx
theorem Ni {o:Oper} {a:Act} {e:Operand→AV} {bd:Option nG} {r:R} {next:Act→World→Prop} {Q:Exit→Act→World→Prop}
  (he:∀ x∈o.op.operands.toList,ao w S μ (a.eval x) (e x)) (g:Good E σ S μ w) (zH:∀ j,j < 16→μ (nk+j)=none) (hm:E.m0≤nk)
  (hz:∀ x,bd=some x→x.wg=true→∀ b,¬ E.fp b) (h:zo P nk σ o.op e bd=some r) (hp:bg r.GO) (hK:OW E nk σ S μ w r fun v w'=>next (a.put o.dst v) w'):o.wp P a w next Q:=by
 unfold zo at h
 split at h
 ·grind [G3]
 ·rename_i τ hτ
  split at h
  ·rename_i ps r0 h1 h2
   cases h
   obtain ⟨p1,p23⟩:=bg.app hp
   obtain ⟨p2,p3⟩:=bg.app p23
   obtain ⟨q,Ew,ee⟩:=O5 hτ
   have g1:=g.freeze (τ.map (·.1)) (hz q Ew ee)
   have e1:Ext w S μ w (SF μ (τ.map (·.1)) σ S) μ:=⟨aF _,fun _ h=>.inl h,fun _ _=>rfl,fun _ _ h=>h⟩
   refine G3 (e:=fun x=>Ti τ (e x)) (fun x hx=>O3 g h1 p1 _ _ (he x hx) (L0 p2 x hx)) g1 zH hm hz h2 p3 ?_
   intro v w' S' da x1 x2 x3 x4
   exact hK v w' S' da (e1.trans x1) (by rw [gl];exact x2) x3 x4
  ·cases h
end
end Go.Ab
namespace Go.Ab
structure St where
 tm:List (Nat×AV)
 mJ:dn
 nk:Nat
def tQ:AV→Bool→Option Bool
 | .atom (.bool b),want=>some (match want with
  | true=>b
  | false=>!b)
 | .when g x,want=>(tQ x want).map fun b=>g && b
 | _,_=>none
structure Rec where
 GO:List Prop
 dst:Option Nat
 val:AV
 IL:List Nat
 ld:qS
def AI (σ:dn) (op:Op) (e:Operand→AV) (y:YC):Option R :=
 match op with
 | .call ⟨.value f,args,_⟩=>match (e f).strip.1,ar σ y.k with
  | .atom (.func (.yield l) vs ws),some o=>some ⟨(l=y.l∧vs=#[]∧ws=#[]∧args.toList.map (fun x=>(e x).strip.1)=y.as∧o=y.o) :: conds e (f :: args.toList),.atom (.bool true),[y.k],[(y.k,some y.o')]⟩
  | _,_=>none
 | _=>none
def xu (P:Program) (nk:Nat) (σ:dn) (op:Op) (e:Operand→AV) (bd:Option nG):Option R :=
 match Ya bd with
 | some y=>AI σ op e y
 | none=>zo P nk σ op e bd
def under (g:Bool):List Prop→List Prop
 | []=>[]
 | p :: ps=>[g=true→bg (p :: ps)]
def O6 (ops:List Oper) (j:Nat):Option Nat:=(ops[j]?).bind (·.dst)
def Tj (nt:Nat):Option Nat→Bool
 | none=>true
 | some d=>Nat.blt d nt
def zp (P:Program) (nt:Nat) (ops:List Oper) (nk:Nat) (tm:List (Nat×AV)) (σ:dn) (o:Oper) (bd:Option nG):Option Rec :=
 match Tj nt o.dst with
 | false=>none
 | true=>match o.guard with
  | none=>(xu P nk σ o.op (wj tm) bd).map fun r=>⟨r.GO,o.dst,r.val,r.IL,r.ld⟩
  | some (j,want)=>match O6 ops j with
   | none=>none
   | some d=>match Yb bd with
    | 0=>match tQ (dI tm d) want,xu P nk σ o.op (wj tm) bd with
     | some g,some r=>match r.ld with
      | []=>some ⟨under g r.GO,o.dst,.when g r.val,r.IL,[]⟩
      | _ :: _=>none
     | _,_=>none
    | 1=>match tQ (dI tm d) want,xu P nk σ o.op (wj tm) bd with
     | some g,some r=>some ⟨(g=true) :: r.GO,o.dst,r.val,r.IL,r.ld⟩
     | _,_=>none
    | _=>match tQ (dI tm d) want with
     | some g=>some ⟨[g=false],o.dst,.when g (Yc bd),[],[]⟩
     | none=>none
def CK (tm:List (Nat×AV)) (d:Option Nat) (x:AV):List (Nat×AV) :=
 match d with
 | none=>tm
 | some d=>(d,x) :: tm
def p9:List (Nat×nG)→Nat→Option nG
 | [],_=>none
 | (k,o) :: r,n=>match Nat.beq k n with
  | true=>some o
  | false=>p9 r n
def rF (P:Program) (nt:Nat) (ops:List Oper) (nk:Nat) (orcs:List (Nat×nG)):List Oper→Nat→List (Nat×AV)→dn→Option (List Rec)
 | [],_,_,_=>some []
 | o :: r,i,tm,σ=>match zp P nt ops (nk+16 * i) tm σ o (p9 orcs i) with
  | none=>none
  | some x=>(rF P nt ops nk orcs r (i+1) (CK tm x.dst x.val) (eF σ x.ld)).map fun l=>x :: l
def CL:List Rec→List (Nat×AV)→List (Nat×AV)
 | [],tm=>tm
 | x :: r,tm=>CL r (CK tm x.dst x.val)
def xw:List Rec→dn→dn
 | [],σ=>σ
 | x :: r,σ=>xw r (eF σ x.ld)
def Ex:List Rec→List Prop
 | []=>[]
 | x :: r=>x.GO ++ Ex r
def Nj (E:Env) (st:St) (tm:Array Value) (w:World):Prop :=
 ∃ S μ,Good E st.mJ S μ w∧(∀ k,st.nk≤k→μ k=none)∧E.m0≤st.nk∧∀ t,ao w S μ (tm.getD t undef) (dI st.tm t)
theorem oJ {tm:List (Nat×AV)} {d:Option Nat} {x:AV} (t:Nat):dI (CK tm d x) t=if d=some t then x else dI tm t:=by
 cases d with
 | none=>simp [CK]
 | some d =>
  simp only [CK,dI,aA]
  by_cases h:d=t
  ·rw [rm h,if_pos h]
  ·rw [oH h,if_neg h]
theorem L1 (a:Act) (d:Option Nat) (v:Value) (t:Nat) (h:∀ n,d=some n→n < a.tmps.size):(a.put d v).tmps.getD t undef=if d=some t then v else a.tmps.getD t undef:=by
 cases d with
 | none=>simp [Act.put]
 | some d =>
  simp only [Act.put,aA]
  have hd:=h d rfl
  by_cases ht:d=t
  ·simp_all
  simp_all
theorem Jm (a:Act) (d:Option Nat) (v:Value):(a.put d v).tmps.size=a.tmps.size:=by cases d<;>simp [Act.put]
theorem CM (a:Act) (d:Option Nat) (v:Value):(a.put d v).defers=a.defers:=by cases d<;>simp [Act.put]
theorem yw {w:World} {S:Nat→Prop} {μ:Mu} {a:Act} {tm:List (Nat×AV)} (h:∀ t,ao w S μ (a.tmps.getD t undef) (dI tm t)) (x:Operand):ao w S μ (a.eval x) (wj tm x):=by
 cases x with
 | tmp t=>exact h t
 | const v=>exact GG w S μ v
 | global g=>exact .atom _
 | func f=>exact .fn (by simp) (by simp) (fun j c v hc=>by simp at hc) (fun j c v hc=>by simp at hc)
def Ey:Value→Option Bool
 | .bool b=>some b
 | _=>none
theorem Jn {w:World} {S:Nat→Prop} {μ:Mu} {v:Value} {x:AV} (h:ao w S μ v x):∀ {want g:Bool},tQ x want=some g→(Ey v == some want)=g:=by
 induction h with
 | atom v =>
  intro want g hg
  cases v with
  | bool b =>
   simp only [tQ,aA] at hg
   subst hg
   cases b<;>cases want<;>rfl
  | _=>simp [tQ] at hg
 | @when μ b v x h1 hu ih =>
  intro want g hg
  simp only [tQ,aG] at hg
  obtain ⟨g',hg',rfl⟩:=hg
  cases b with
  | true=>simpa using ih rfl hg'
  | false =>
   rw [hu rfl]
   simp [undef,Ey]
 | _=>grind [tQ]
section
variable {P:Program} {E:Env} {σ:dn} {S:Nat→Prop} {μ:Mu} {w:World}
def FW (rd:Option Nat):Fence:={ Fence.wide with round:=rd }
theorem RC {rd:Option Nat} {o:Oper} {a:Act} {next:Act→World→Prop} {Q:Exit→Act→World→Prop} {r:Result Next} (h:o.upon P a next Q r):o.uponIn (FW rd) 0 P a next Q r:=by
 cases r with
 | ok x w' =>
  cases x with
  | value v=>exact h
  | skip=>exact h
  | defer d=>exact h
  | enter f args=>exact ⟨fun hh=>by simp [FW,Fence.wide] at hh,(callsIn_wide (n:=0)).2 h⟩
  | row row args=>exact ⟨fun hh=>by simp [FW,Fence.wide] at hh,fun c cs _=>let ⟨v,w',q1,q2⟩:=h c cs;⟨v,w',q1,stepsIn_wide.2 q2⟩⟩
  | _=>exact h.elim
 | halt x w' =>
  cases x with
  | panic v=>exact h
  | _=>exact h.elim
def Xo (P:Program) (E:Env) (y:YC):Prop:=∀ (w:World) (S:Nat→Prop) (μ:Mu) (σ:dn) (vs:Array Value),Good E σ S μ w→RL w S μ vs y.as→ar σ y.k=some y.o →
 YieldAt Fence.wide 0 P y.l vs w fun e w'=>e=.returned (.bool true)∧∃ S',Ext w S μ w' S' μ∧Good E (sset σ y.k y.o') S' μ w'
def Jo (P:Program) (E:Env) (bd:Option nG):Prop:=(∀ x,bd=some x→x.wg=true→∀ b,¬ E.fp b)∧∀ x y,bd=some x→x.y=some y→Xo P E y
theorem Jp {rd:Option Nat} {o:Oper} {a:Act} {e:Operand→AV} {y:YC} {r:R} {next:Act→World→Prop} {Q:Exit→Act→World→Prop}
  (he:∀ x∈o.op.operands.toList,ao w S μ (a.eval x) (e x)) (g:Good E σ S μ w) {nk:Nat} (hy:Xo P E y) (h:AI σ o.op e y=some r) (hp:bg r.GO)
  (hK:OW E nk σ S μ w r fun v w'=>next (a.put o.dst v) w'):o.wpIn (FW rd) 0 P a w next Q:=by
 obtain ⟨dst,op,ty,pos,after,guard⟩:=o
 unfold AI at h
 simp only at h he
 split at h
 case h_2=>cases h
 rename_i f args GY
 split at h
 case h_2=>cases h
 rename_i l vs ws o1 Yq wi
 simp only [aA] at h
 subst h
 obtain ⟨⟨rfl,rfl,rfl,has,rfl⟩,hc⟩:=hp
 have VY:=yq hc
 have mem:∀ x,x∈f :: args.toList→x∈(Op.call ⟨.value f,args,GY⟩).operands.toList:=by
  intro x hx
  simp only [Op.operands,Call.operands] at *
  simpa using hx
 have hs:∀ x,x∈f :: args.toList→ao w S μ (a.eval x) ((e x).strip.1):=fun x hx=>(he x (mem x hx)).strip (VY x hx)
 have hf:=hs f (by simp)
 rw [Yq] at hf
 have hf:=cX hf
 have Xl:RL w S μ (args.map a.eval) y.as:=by
  rw [← has]
  refine ⟨by simp,fun j c v hc hv=>?_⟩
  simp only [List.getElem?_map,aG,Array.getElem?_map] at hc hv
  obtain ⟨x,hx,rfl⟩:=hc
  obtain ⟨x',we,rfl⟩:=hv
  rw [← Array.getElem?_toList,hx] at we
  cases we
  exact hs x (List.mem_cons_of_mem _ (List.mem_of_getElem? hx))
 obtain ⟨fn,tmps,assign,body,ll,Uc⟩:=hy w S μ σ _ g Xl wi
 refine ⟨fun _ _=>trivial,?_⟩
 have ex:(Oper.semAt (FW rd).round a.eval ⟨dst,.call ⟨.value f,args,GY⟩,ty,pos,after,guard⟩).run P w=.ok (.round y.l fn tmps assign body) w:=by
  rw [Oper.semAt_eq _ _ _ (fun c=>by simp)]
  have:execOp a.eval ⟨dst,.call ⟨.value f,args,GY⟩,ty,pos,after,guard⟩=(do let d ← Deferred.ofValue (a.eval f) (args.map a.eval);invoke d.target d.args:Sem Next):=rfl
  rw [this,hf]
  simpa [Deferred.ofValue,invoke] using ll
 rw [ex]
 refine ⟨fun hh=>by simp [FW,Fence.wide] at hh,RoundIn.mono (F:=Fence.wide) Uc ?_⟩
 rintro e' w' ⟨rfl,S',hx,hg⟩
 exact hK _ w' S' μ hx (by simpa [eF] using hg) (fun _ _ h=>h) (.atom _)
theorem BQ {rd:Option Nat} {o:Oper} {a:Act} {e:Operand→AV} {bd:Option nG} {r:R} {nk:Nat} {next:Act→World→Prop} {Q:Exit→Act→World→Prop}
  (he:∀ x∈o.op.operands.toList,ao w S μ (a.eval x) (e x)) (g:Good E σ S μ w) (zH:∀ j,j < 16→μ (nk+j)=none) (hm:E.m0≤nk)
  (hz:Jo P E bd) (h:xu P nk σ o.op e bd=some r) (hp:bg r.GO) (hK:OW E nk σ S μ w r fun v w'=>next (a.put o.dst v) w'):o.wpIn (FW rd) 0 P a w next Q:=by
 unfold xu at h
 split at h
 ·rename_i y hy
  have:∃ x,bd=some x∧x.y=some y:=by
   cases bd with
   | none=>cases hy
   | some x=>exact ⟨x,rfl,hy⟩
  obtain ⟨x,h1,h2⟩:=this
  exact Jp (nk:=nk) he g (hz.2 x y h1 h2) h hp hK
 ·refine ⟨fun _ _=>trivial,?_⟩
  have hd:∀ c,o.op≠.defer c:=fun c hc=>by grind [zo,KG,xt,dW]
  rw [Oper.semAt_eq _ _ _ hd]
  exact RC (Ni he g zH hm hz.1 h hp hK)
theorem G4 {rd:Option Nat} {nt nk:Nat} {ops:Array Oper} {i:Nat} {o:Oper} {a:Act} {tm:List (Nat×AV)} {bd:Option nG} {x:Rec} {K:Act→World→Prop} {Q:Exit→Act→World→Prop}
  (hi:ops[i]?=some o) (ht:∀ t,ao w S μ (a.tmps.getD t undef) (dI tm t)) (g:Good E σ S μ w) (hk:∀ j,j < 16→μ (nk+j)=none) (hm:E.m0≤nk)
  (hz:Jo P E bd) (h:zp P nt ops.toList nk tm σ o bd=some x) (hp:bg x.GO)
  (hK:∀ v w' S' da,Ext w S μ w' S' da→Good E (eF σ x.ld) S' da w'→(∀ k,(k < nk∨nk+16≤k)→μ k=none→da k=none)→ao w' S' da v x.val→K (a.put x.dst v) w') :
  wpOpIn (FW rd) 0 P ops Q i K a w:=by
 unfold zp at h
 split at h
 ·cases h
 ·split at h
  ·rename_i Xp
   simp only [aG] at h
   obtain ⟨r,h1,rfl⟩:=h
   unfold wpOpIn
   rw [hi]
   simp only [Region.wanted,Xp,if_true]
   exact BQ (fun x _=>yw ht x) g hk hm hz h1 hp hK
  ·rename_i j want Xp
   split at h
   ·cases h
   ·rename_i d hd
    have Ud:∀ gb,tQ (dI tm d) want=some gb→Region.wanted o (yielded ops a.tmps)=gb:=fun gb hg=>by
     have hy:yielded ops a.tmps j=Ey (a.tmps.getD d undef):=by
      unfold yielded
      unfold O6 at hd
      have Vi:(ops[j]?).bind (·.dst)=some d:=by simpa using hd
      rw [Vi]
      simp only [cn,se]
      cases a.tmps[d]? with
      | none=>simp [undef,Ey]
      | some v=>cases v<;>simp [Ey]
     grind [Region.wanted,Jn]
    split at h
    rotate_left
    ·split at h
     ·rename_i gb r hg h1
      cases h
      unfold wpOpIn
      rw [hi]
      have hw:=Ud gb hg
      obtain ⟨Yr,xa⟩:=hp
      subst Yr
      simp only [hw,if_true]
      exact BQ (fun x _=>yw ht x) g hk hm hz h1 xa hK
     ·cases h
    ·split at h
     ·rename_i gb hg
      cases h
      unfold wpOpIn
      rw [hi]
      have hw:=Ud gb hg
      obtain ⟨Yr,-⟩:=hp
      subst Yr
      simp only [hw,Bool.false_eq_true,if_false]
      refine ⟨fun _ _=>trivial,?_⟩
      exact hK undef w S μ (Ext.refl _ _ _) g (fun _ _ h=>h) (.when (fun h=>by cases h) (fun _=>rfl))
     ·cases h
    split at h
    ·rename_i gb r hg h1
     split at h
     ·rename_i hu
      cases h
      unfold wpOpIn
      rw [hi]
      have hw:Region.wanted o (yielded ops a.tmps)=gb:=Ud gb hg
      simp only [hw]
      cases gb with
      | true =>
       simp only [if_true]
       have rV:bg r.GO:=by
        cases hr:r.GO with
        | nil=>trivial
        | cons p ps =>
         rw [hr] at hp
         exact hp.1 rfl
       refine BQ (fun x _=>yw ht x) g hk hm hz h1 rV ?_
       intro v w' S' da q1 q2 q3 q4
       rw [hu] at q2
       exact hK v w' S' da q1 q2 q3 (.when (fun _=>q4) (fun h=>by cases h))
      | false =>
       simp only [Bool.false_eq_true,if_false]
       refine ⟨fun _ _=>trivial,?_⟩
       exact hK undef w S μ (Ext.refl _ _ _) g (fun _ _ h=>h) (.when (fun h=>by cases h) (fun _=>rfl))
     ·cases h
    ·cases h
theorem G5 {nt nk:Nat} {ops:List Oper} {tm:List (Nat×AV)} {o:Oper} {bd:Option nG} {x:Rec} (h:zp P nt ops nk tm σ o bd=some x):x.dst=o.dst∧∀ n,o.dst=some n→n < nt:=by
 unfold zp at h
 split at h
 ·cases h
 ·rename_i hd
  have h2:∀ n,o.dst=some n→n < nt:=fun n hn=>by
   rw [hn] at hd;simp only [Tj,Nat.blt,Nat.ble_eq] at hd;exact hd
  split at h
  ·simp only [aG] at h
   grind
  grind
theorem G6 {rd:Option Nat} {ds:List Deferred} {nt nk:Nat} {ops:Array Oper} {orcs:List (Nat×nG)} (hz:∀ i,Jo P E (p9 orcs i)) (hm:E.m0≤nk) {Q:Exit→Act→World→Prop}:∀ (l:List Oper) (i:Nat) (a:Act) (w:World) (tm:List (Nat×AV)) (σ:dn) (S:Nat→Prop) (μ:Mu) (dc:List Rec),
  ops.toList.drop i=l→i+l.length=ops.size→a.tmps.size=nt→a.defers=ds→Good E σ S μ w→(∀ k,nk+16 * i≤k→μ k=none)→(∀ t,ao w S μ (a.tmps.getD t undef) (dI tm t)) →
  rF P nt ops.toList nk orcs l i tm σ=some dc→bg (Ex dc) →
  (∀ a' w' S' da,a'.tmps.size=nt→a'.defers=ds→Good E (xw dc σ) S' da w'→(∀ k,nk+16 * ops.size≤k→da k=none)→(∀ t,ao w' S' da (a'.tmps.getD t undef) (dI (CL dc tm) t))→Q .normal a' w') →
  wpOpsIn (FW rd) 0 P ops Q (List.range' i l.length) a w
 | [],i,a,w,tm,σ,S,μ,dc,hl,Ko,hs,QX,g,hk,ht,h,hp,hQ=>by
  simp only [rF,aA] at h
  subst h
  simp only [List.length_nil,List.range'_zero,wpOpsIn]
  refine hQ a w S μ hs QX g (fun k nL=>hk k (by simp at Ko;omega)) ht
 | o :: r,i,a,w,tm,σ,S,μ,dc,hl,Ko,hs,QX,g,hk,ht,h,hp,hQ=>by
  simp only [rF] at h
  split at h
  ·cases h
  ·rename_i x hx
   simp only [aG] at h
   obtain ⟨l',h2,rfl⟩:=h
   obtain ⟨p1,p2⟩:=bg.app hp
   have hi:ops[i]?=some o:=by
    have:(ops.toList.drop i)[0]?=some o:=by rw [hl];rfl
    rw [oa] at this
    simpa using this
   have hl2:ops.toList.drop (i+1)=r:=by
    rw [← List.tail_drop,hl];rfl
   obtain ⟨d1,d2⟩:=G5 hx
   simp only [ye,List.range'_succ]
   rw [wpOpsIn_cons]
   refine G4 hi ht g (fun j hj=>hk _ (by omega)) (by omega) (hz i) hx p1 ?_
   intro v w' S' da q1 q2 q3 q4
   refine G6 hz hm r (i+1) _ w' _ _ S' da l' hl2 (by simp at Ko;omega) (by rw [Jm];exact hs) (by rw [CM];exact QX) q2 (fun k nL=>q3 k (by omega) (hk k (by omega))) ?_ h2 p2 hQ
   intro t
   rw [L1 a x.dst v t (fun n hn=>by rw [hs];exact d2 n (d1 ▸ hn)),oJ]
   split
   ·exact q4
   ·exact (ht t).ext q1
end
end Go.Ab
namespace Go.Ab
def ju (u:qS):List Nat:=u.map (·.1)
section
variable {P:Program} {nk:Nat} {σ dX:dn}
theorem jC {e e':Operand→AV}:∀ {xs:List Operand},(∀ x∈xs,e' x=e x)→conds e' xs=conds e xs
 | [],_=>rfl
 | x :: r,h=>by simp only [conds];rw [h x (by simp),jC fun y hy=>h y (by simp [hy])]
theorem O7 {op:Op} {e e':Operand→AV} {bd:Option nG} (he:∀ x∈op.operands.toList,e' x=e x):dW P nk σ op e' bd=dW P nk σ op e bd:=by
 cases op with
 | move x=>grind [dW,Op.operands]
 | assign x=>grind [dW,Op.operands]
 | pick q a b=>grind [dW,Op.operands]
 | alloc T=>rfl
 | box T x=>grind [dW,conds,Op.operands]
 | build t parts =>
  simp only [dW]
  have h1:∀ x∈parts.toList.map (·.2),e' x=e x:=fun x hx=>he x (by grind [Op.operands])
  rw [jC h1]
  congr 2
  apply List.map_congr_left
  grind
 | buildSlice t len parts =>
  simp only [dW]
  have h1:∀ x∈parts.toList.map (·.2),e' x=e x:=fun x hx=>he x (by grind [Op.operands])
  rw [jC h1]
  have h2:(parts.toList.map fun p=>(p.1,(e' p.2).strip.1))=(parts.toList.map fun p=>(p.1,(e p.2).strip.1)):=by
   apply List.map_congr_left
   intro p hp
   grind
  rw [h2]
 | load T x=>grind [dW,conds,Op.operands]
 | store T x y=>grind [dW,conds,Op.operands]
 | nilCheck x=>grind [dW,conds,Op.operands]
 | binOp o t x y yt=>grind [dW,conds,Op.operands]
 | unOp o t x=>grind [dW,conds,Op.operands]
 | convert s d x=>grind [dW,conds,Op.operands]
 | makeMap t r=>cases r<;>simp [dW]
 | lookup t m x ok=>simp_all [dW,conds,Op.operands]
 | mapUpdate t m x y=>simp_all [dW,conds,Op.operands]
 | insert t m x y=>simp_all [dW,conds,Op.operands]
 | makeFunc f first cap =>
  simp only [dW]
  have h1:∀ x∈first.toList ++ cap.toList,e' x=e x:=fun x hx=>he x (by simpa [Op.operands] using hx)
  rw [jC h1]
  congr 3
  ·apply List.map_congr_left;intro x hx;rw [h1 x (by simp only [List.mem_append];exact .inl hx)]
  ·apply List.map_congr_left;intro x hx;rw [h1 x (by simp only [List.mem_append];exact .inr hx)]
 | makeSlice t x y=>grind [dW,conds,Op.operands]
 | slice t x lo hi mx =>
  cases mx with
  | some _=>simp [dW]
  | none =>
   simp only [dW]
   have h1:∀ y∈x :: (lo.toList ++ hi.toList),e' y=e y:=fun y hy=>he y (by
    simp only [kz,List.mem_append,Option.mem_toList] at hy
    simp only [Op.operands]
    simp_all)
   rw [jC h1,h1 x (by simp)]
   have h2:(lo.map fun x=>(e' x).strip.1)=lo.map fun x=>(e x).strip.1:=by
    cases lo with
    | none=>rfl
    | some y=>simp [h1 y (by simp)]
   have h3:(hi.map fun x=>(e' x).strip.1)=hi.map fun x=>(e x).strip.1:=by
    cases hi with
    | none=>rfl
    | some y=>simp [h1 y (by simp)]
   rw [h2,h3]
 | fieldAddr T x f=>grind [dW,conds,Op.operands]
 | field T x f=>grind [dW,conds,Op.operands]
 | indexAddr T x i=>grind [dW,conds,Op.operands]
 | index T x i=>grind [dW,conds,Op.operands]
 | extract x i=>grind [dW,conds,Op.operands]
 | call c =>
  obtain ⟨callee,args,argTypes⟩:=c
  cases callee with
  | invoke=>simp [dW]
  | value f =>
   simp only [dW]
   have h1:∀ x∈f :: args.toList,e' x=e x:=fun x hx=>he x (by simpa [Op.operands,Call.operands] using hx)
   rw [jC h1,h1 f (by simp)]
   have h2:(args.toList.map fun x=>(e' x).strip.1)=args.toList.map fun x=>(e x).strip.1:=by
    apply List.map_congr_left;intro x hx;rw [h1 x (by simp [hx])]
   rw [h2]
  | builtin b =>
   simp only [dW]
   have h1:∀ x∈args.toList,e' x=e x:=fun x hx=>he x (by grind [Op.operands,Call.operands])
   unfold yp
   split
   ·grind [conds]
   ·grind [conds]
   ·rename_i x r ha
    rw [ha] at h1
    dsimp only
    rw [jC h1,h1 x (by simp)]
    have h2:(r.map fun x=>(e' x).strip.1)=r.map fun x=>(e x).strip.1:=by
     apply List.map_congr_left;intro y hy;rw [h1 y (by simp [hy])]
    rw [h2]
   ·rename_i x r ha
    rw [ha] at h1
    dsimp only
    rw [jC h1,h1 x (by simp)]
    have h2:(r.map fun x=>(e' x).strip.1)=r.map fun x=>(e x).strip.1:=by
     apply List.map_congr_left;intro y hy;rw [h1 y (by simp [hy])]
    rw [h2]
   ·rfl
 | _=>simp [dW]
theorem O8 {T:TypeId} {a:AV} {ps:List Prop} {x:AV} {rd:List Nat} (h:xh P σ T a=some (ps,x,rd)) (hs:∀ k∈rd,ar dX k=ar σ k):xh P dX T a=some (ps,x,rd):=by
 unfold xh at h ⊢
 split at h
 ·split at h
  ·rename_i k i j
   split at h
   ·rename_i o ho
    simp only [aG,az] at h
    grind
   ·cases h
  ·exact h
  ·grind
  ·cases h
 ·cases h
theorem KH {T:TypeId} {a x:AV} {ps:List Prop} {u:qS} {rd:List Nat} (h:nO P σ T a x=some (ps,u,rd)) (hs:∀ k∈rd,ar dX k=ar σ k):nO P dX T a x=some (ps,u,rd):=by
 unfold nO at h ⊢
 grind
theorem Nk {T:TypeId} {a x:AV} {ps:List Prop} {u:qS} {rd:List Nat} (h:yf P σ T a x=some (ps,u,rd)) (hs:∀ k∈rd,ar dX k=ar σ k):yf P dX T a x=some (ps,u,rd):=by
 unfold yf at h ⊢
 split at h
 ·grind
 ·exact KH h hs
theorem F7 {T:TypeId} {x i:AV} {ps:List Prop} {v:AV} {rd:List Nat} (h:oI P σ T x i=some (ps,v,rd)) (hs:∀ k∈rd,ar dX k=ar σ k):oI P dX T x i=some (ps,v,rd):=by
 unfold oI at h ⊢
 split at h
 ·split at h
  ·grind
  ·cases h
 ·omega
 ·cases h
theorem Nl {T:TypeId} {x:AV} {lo hi:Option AV} {ps:List Prop} {v:AV} {rd:List Nat} (h:yg P σ T x lo hi=some (ps,v,rd)) (hs:∀ k∈rd,ar dX k=ar σ k):yg P dX T x lo hi=some (ps,v,rd):=by
 unfold yg at h ⊢
 split at h
 ·exact h
 ·split at h
  ·grind
  ·cases h
 ·cases h
theorem AJ {sz:Nat} {x:AV} {n:Nat} {g:Nat→List AV} {pr:Bool} {ps:List Prop} {rd:List Nat} (h:ur σ sz x=some (n,g,pr,ps,rd)) (hs:∀ k∈rd,ar dX k=ar σ k):ur dX sz x=some (n,g,pr,ps,rd):=by
 unfold ur at h ⊢
 grind
theorem Nm {src dst:TypeId} {x:AV} {ps:List Prop} {v:AV} {rd:List Nat} (h:yk P σ src dst x=some (ps,v,rd)) (hs:∀ k∈rd,ar dX k=ar σ k):yk P dX src dst x=some (ps,v,rd):=by
 unfold yk at h ⊢
 split at h
 ·exact h
 ·split at h
  ·rename_i n gt pr qs LJ he uu
   simp only [aA,az] at h
   obtain ⟨rfl,rfl,rfl⟩:=h
   rw [AJ uu hs,he]
  ·cases h
 ·cases h
theorem Ez {t:TypeId} {s x:AV} {ps:List Prop} {v:AV} {rd:List Nat} {u:qS} (h:qx P nk σ t s x=some (ps,v,rd,u)) (hs:∀ k∈rd,ar dX k=ar σ k):qx P nk dX t s x=some (ps,v,rd,u):=by
 unfold qx at h ⊢
 split at h
 ·split at h
  ·rename_i sz b z h1 h2 h3
   split at h
   ·rename_i n g pr Oy LJ hb uu
    split at h
    ·have QY:rd=LJ:=by simp only [aA,az] at h;exact h.2.2.1.symm
     rw [AJ uu (fun k hk=>hs k (QY ▸ hk))]
     simp only [hb]
     exact h
    ·rename_i k len
     split at h
     ·rename_i o ho
      split at h
      ·rename_i IK
       have QY:rd=k :: LJ:=by simp only [aA,az] at h;exact h.2.2.1.symm
       rw [AJ uu (fun k hk=>hs k (by rw [QY];simp [hk]))]
       simp only [hb,hs k (by simp [QY]),ho,IK]
       exact h
      ·cases h
     ·cases h
    ·cases h
   ·cases h
  ·cases h
 ·cases h
mutual
theorem O9 {ks:List Nat}:∀ (x y:AV) (bs:List Nat) (ps:List Prop),x.fX σ ks=some (y,bs,ps)→(∀ k∈bs,ar dX k=ar σ k)→x.fX dX ks=some (y,bs,ps)
 | .op k i j,y,bs,ps,h,_=>by simpa [AV.fX] using h
 | .mp k,y,bs,ps,h,_=>by simpa [AV.fX] using h
 | .ov _ _ _ _ _,y,bs,ps,h,_=>by simp [AV.fX] at h
 | .Bw _ _ _,y,bs,ps,h,_=>by simp [AV.fX] at h
 | .nq _ _,y,bs,ps,h,_=>by simp [AV.fX] at h
 | .bn _,y,bs,ps,h,_=>by simpa [AV.fX] using h
 | .pt _ _,y,bs,ps,h,_=>by simpa [AV.fX] using h
 | .os k off len,y,bs,ps,h,hs=>by
  simp only [AV.fX] at h ⊢
  split at h
  ·rename_i n hn;exact h
  ·rename_i hn
   split at h
   ·rename_i o ho
    split at h
    ·rename_i hp
     have hb:bs=[k]:=by simp only [aA,az] at h;exact h.2.1.symm
     simp only [hs k (by simp [hb]),ho,hp]
     exact h
    ·cases h
   ·cases h
 | .agg cs,y,bs,ps,h,hs=>by
  simp only [AV.fX,aG] at h ⊢
  obtain ⟨⟨a,b,c⟩,h,e⟩:=h
  simp only [az] at e
  obtain ⟨rfl,rfl,rfl⟩:=e
  exact ⟨(a,b,c),r7 cs a b c h hs,rfl⟩
 | .tup cs,y,bs,ps,h,hs=>by
  simp only [AV.fX,aG] at h ⊢
  obtain ⟨⟨a,b,c⟩,h,e⟩:=h
  simp only [az] at e
  obtain ⟨rfl,rfl,rfl⟩:=e
  exact ⟨(a,b,c),r7 cs a b c h hs,rfl⟩
 | .fn g x z,y,bs,ps,h,hs=>by
  simp only [AV.fX] at h ⊢
  split at h
  ·rename_i a b c a' b' c' e1 e2
   simp only [aA,az] at h
   obtain ⟨rfl,rfl,rfl⟩:=h
   rw [r7 x a b c e1 (fun k hk=>hs k (by simp [hk])),r7 z a' b' c' e2 (fun k hk=>hs k (by simp [hk]))]
  ·cases h
 | .when _ _,y,bs,ps,h,_=>by simp [AV.fX] at h
 | .mr _ _ _,y,bs,ps,h,_=>by simp [AV.fX] at h
 | .atom _,y,bs,ps,h,_=>by simpa [AV.fX] using h
 | .sl _ _,y,bs,ps,h,_=>by simpa [AV.fX] using h
 | .rp _ _,y,bs,ps,h,_=>by simpa [AV.fX] using h
 | .nil,y,bs,ps,h,_=>by simpa [AV.fX] using h
 | .mn,y,bs,ps,h,_=>by simpa [AV.fX] using h
theorem r7 {ks:List Nat}:∀ (xs ys:List AV) (bs:List Nat) (ps:List Prop),AV.pX σ ks xs=some (ys,bs,ps)→(∀ k∈bs,ar dX k=ar σ k)→AV.pX dX ks xs=some (ys,bs,ps)
 | [],ys,bs,ps,h,_=>by simpa [AV.pX] using h
 | c :: cs,ys,bs,ps,h,hs=>by
  simp only [AV.pX] at h ⊢
  split at h
  ·rename_i a b p a' b' p' e1 e2
   simp only [aA,az] at h
   obtain ⟨rfl,rfl,rfl⟩:=h
   rw [O9 c a b p e1 (fun k hk=>hs k (by simp [hk])),r7 cs a' b' p' e2 (fun k hk=>hs k (by simp [hk]))]
  ·cases h
end
theorem G7 {ks:List Nat}:∀ (l:List Nat) (i:Nat),(∀ k∈l,ar dX k=ar σ k)→canon dX ks i l=canon σ ks i l
 | [],i,_=>rfl
 | k :: r,i,h=>by simp only [canon];rw [h k (by simp),G7 r (i+1) fun k hk=>h k (by simp [hk])]
theorem zJ {ks:List Nat} {lone:Bool}:∀ (l:List Nat),(∀ k∈l,ar dX k=ar σ k)→xp dX ks lone l=xp σ ks lone l
 | [],_=>rfl
 | k :: r,h=>by simp only [xp];rw [h k (by simp),zJ r fun k hk=>h k (by simp [hk])]
theorem Pa {f:AV} {args:List AV} {bd:nG} {r:R} (h:Em P nk σ f args bd=some r) (hs:∀ k∈r.IL,ar dX k=ar σ k):Em P nk dX f args bd=some r:=by
 unfold Em AD at h ⊢
 split at h
 case h_2=>cases h
 rename_i gid first cap
 split at h
 case h_2=>cases h
 rename_i as bs ps qU h1 h2 h3
 split at h
 case h_2=>cases h
 rename_i h4
 have hr:r.IL=bd.ks ++ bs:=by
  split at h
  ·split at h
   ·split at h
    ·cases h;rfl
    ·cases h
   ·split at h
    ·cases h;rfl
    ·cases h
  ·split at h
   ·cases h;rfl
   ·cases h
 rw [hr] at hs
 simp only [h1,r7 _ _ _ _ h2 (fun k hk=>hs k (by simp [hk])),G7 bd.ks 0 (fun k hk=>hs k (by simp [hk])),zJ (ks:=bd.ks) (lone:=bs.isEmpty || bd.wg) bd.ks (fun k hk=>hs k (by simp [hk])),zJ (ks:=bd.ks) (lone:=true) bd.ks (fun k hk=>hs k (by simp [hk])),h3,h4]
 exact h
theorem KI {t:TypeId} {m x:AV} {ok:Bool} {bd:nG} {ps:List Prop} {v:AV} {rd:List Nat} (h:ux P σ t m x ok bd=some (ps,v,rd)) (hs:∀ k∈rd,ar dX k=ar σ k):ux P dX t m x ok bd=some (ps,v,rd):=by
 unfold ux at h ⊢
 grind
theorem EA {t:TypeId} {m x y:AV} {bd:nG} {ps:List Prop} {u:qS} {rd:List Nat} (h:uy P σ t m x y bd=some (ps,u,rd)) (hs:∀ k∈rd,ar dX k=ar σ k):uy P dX t m x y bd=some (ps,u,rd):=by
 unfold uy at h ⊢
 grind
theorem Jq {op:Op} {e:Operand→AV} {bd:Option nG} {r:R} (h:dW P nk σ op e bd=some r) (hs:∀ k∈r.IL,ar dX k=ar σ k):dW P nk dX op e bd=some r:=by
 cases op with
 | load T x =>
  simp only [dW,aG] at h ⊢
  obtain ⟨⟨ps,v,rd⟩,h1,rfl⟩:=h
  exact ⟨_,O8 h1 hs,rfl⟩
 | store T x y =>
  simp only [dW,aG] at h ⊢
  obtain ⟨⟨ps,v,rd⟩,h1,rfl⟩:=h
  exact ⟨_,Nk h1 hs,rfl⟩
 | indexAddr T x i =>
  simp only [dW,aG] at h ⊢
  obtain ⟨⟨ps,v,rd⟩,h1,rfl⟩:=h
  exact ⟨_,F7 h1 hs,rfl⟩
 | slice t x lo hi mx =>
  cases mx with
  | some _=>simp [dW] at h
  | none =>
   simp only [dW,aG] at h ⊢
   obtain ⟨⟨ps,v,rd⟩,h1,rfl⟩:=h
   exact ⟨_,Nl h1 hs,rfl⟩
 | convert src dst x =>
  simp only [dW] at h ⊢
  split at h
  ·omega
  ·rename_i h0
   simp only [aG] at h ⊢
   obtain ⟨⟨ps,v,rd⟩,h1,rfl⟩:=h
   exact ⟨_,Nm h1 hs,rfl⟩
 | makeMap t r=>cases r with
  | none=>exact h
  | some _=>simp [dW] at h
 | lookup t m x ok =>
  simp only [dW] at h ⊢
  split at h
  ·simp only [aG] at h ⊢
   obtain ⟨⟨ps,v,rd⟩,h1,rfl⟩:=h
   exact ⟨_,KI h1 hs,rfl⟩
  ·cases h
 | mapUpdate t m x y =>
  simp only [dW] at h ⊢
  split at h
  ·simp only [aG] at h ⊢
   obtain ⟨⟨ps,u,rd⟩,h1,rfl⟩:=h
   exact ⟨_,EA h1 hs,rfl⟩
  ·cases h
 | insert t m x y =>
  simp only [dW] at h ⊢
  split at h
  ·simp only [aG] at h ⊢
   obtain ⟨⟨ps,u,rd⟩,h1,rfl⟩:=h
   exact ⟨_,EA h1 hs,rfl⟩
  ·cases h
 | call c =>
  obtain ⟨callee,args,argTypes⟩:=c
  cases callee with
  | invoke=>simp [dW] at h
  | value f =>
   simp only [dW] at h ⊢
   split at h
   ·simp only [aG] at h ⊢
    obtain ⟨r',h1,rfl⟩:=h
    exact ⟨_,Pa h1 hs,rfl⟩
   ·cases h
  | builtin b =>
   simp only [dW] at h ⊢
   unfold yp at h ⊢
   split at h
   ·exact h
   ·split at h
    ·simp only [aG] at h ⊢
     obtain ⟨⟨ps,v,rd,u⟩,h1,rfl⟩:=h
     exact ⟨_,Ez h1 hs,rfl⟩
    ·cases h
   ·exact h
   ·exact h
   ·cases h
 | _=>exact h
theorem RE {op:Op} {e e':Operand→AV} {bd:Option nG} (he:∀ x∈op.operands.toList,e' x=e x):xt P nk σ op e' bd=xt P nk σ op e bd:=by
 unfold xt
 split
 ·exact O7 he
 ·split
  ·grind [conds,Op.operands]
  ·grind [Op.operands,Call.operands,conds]
  ·grind [Op.operands,Call.operands,conds]
  ·grind [Op.operands,Call.operands,conds]
  ·rename_i t x lo hi mx
   have h1:e' x=e x:=he x (by simp [Op.operands])
   have h2:∀ y∈lo,e' y=e y:=fun y hy=>he y (by cases hy;simp [Op.operands])
   have h3:∀ y∈hi,e' y=e y:=fun y hy=>he y (by cases hy;simp [Op.operands])
   have h4:∀ y∈mx,e' y=e y:=fun y hy=>he y (by cases hy;simp [Op.operands])
   split
   ·have e2:(lo.map fun y=>(e' y).strip.1)=lo.map fun y=>(e y).strip.1:=by
     cases lo with
     | none=>rfl
     | some y=>simp only [Option.map_some];rw [h2 y rfl]
    have e3:(hi.map fun y=>(e' y).strip.1)=hi.map fun y=>(e y).strip.1:=by
     cases hi with
     | none=>rfl
     | some y=>simp only [Option.map_some];rw [h3 y rfl]
    have e4:conds e' (x :: (lo.toList ++ hi.toList))=conds e (x :: (lo.toList ++ hi.toList)):=jC fun y hy=>by
     simp only [kz,List.mem_append,Option.mem_toList] at hy
     rcases hy with rfl | hy | hy
     ·exact h1
     ·exact h2 _ hy
     ·exact h3 _ hy
    rw [h1,e2,e3,e4]
   ·split
    ·rename_i l h
     simp only [conds];rw [h1,h2 l rfl,h3 h rfl,h4 _ rfl]
    ·rfl
  ·exact O7 he
theorem Nn {T:TypeId} {a x:AV} {ps:List Prop} {y:AV} {rd:List Nat} (h:yr P σ T a x=some (ps,y,rd)) (hs:∀ k∈rd,ar dX k=ar σ k):yr P dX T a x=some (ps,y,rd):=by
 unfold yr at h ⊢
 grind
theorem HQ:∀ (u:qS) (n:Nat),(∀ τ VZ:dn,ar (eF τ u) n=ar (eF VZ u) n)∨∀ τ:dn,ar (eF τ u) n=ar τ n
 | [],n=>.inr fun _=>rfl
 | (k,some o) :: u,n=>by
  simp only [eF]
  rcases HQ u n with h | h
  ·grind
  ·by_cases hk:k=n
   ·simp_all [aX,if_pos]
   simp_all [aX,if_neg]
 | (k,none) :: u,n=>by
  simp only [eF]
  rcases HQ u n with h | h
  ·grind
  ·by_cases hk:k=n
   ·simp_all [fz,if_pos]
   simp_all [fz,if_neg]
theorem RF {τ VZ:dn} {k q i:Nat} (h1:ar VZ k=ar τ k) (h2:ar VZ q=ar τ q):HP VZ k q i=HP τ k q i:=by
 unfold HP;rw [h1,h2]
theorem Jr {t:TypeId} {s x:AV} {bd:nG} {ps:List Prop} {v:AV} {rd:List Nat} {u:qS} (h:rZ P nk σ t s x bd=some (ps,v,rd,u)) (hs:∀ k∈rd,ar dX k=ar σ k):rZ P nk dX t s x bd=some (ps,v,rd,u):=by
 unfold rZ at h ⊢
 split at h
 case h_2=>cases h
 rename_i q p1 v' LJ u1 hq ha
 split at h
 case h_2=>cases h
 rename_i p2 u2 hb hc
 have QY:rd=q :: LJ:=by simp only [aA,az] at h;exact h.2.2.1.symm
 have G8:=Ez ha (fun k hk=>hs k (by rw [QY];simp [hk]))
 have VI:ar (eF dX u1) nk=ar (eF σ u1) nk:=by
  have hu:∃ o,u1=[(nk,some o)]∨∃ k,u1=[(k,none),(nk,some o)]:=by
   unfold qx at ha
   split at ha
   ·split at ha
    ·grind
    ·cases ha
   ·cases ha
  obtain ⟨o,rfl | ⟨k,rfl⟩⟩:=hu<;>simp only [eF]<;>rw [aX,aX,if_pos rfl,if_pos rfl]
 have hqq:ar (eF dX u1) q=ar (eF σ u1) q:=by
  rcases HQ u1 q with h1 | h1
  ·exact h1 _ _
  ·simp_all
 grind [RF]
theorem KJ {T:TypeId} {x:AV} {lo hi:Option AV} {ps:List Prop} {v:AV} {rd:List Nat} (h:uz P σ T x lo hi=some (ps,v,rd)) (hs:∀ k∈rd,ar dX k=ar σ k):uz P dX T x lo hi=some (ps,v,rd):=by
 unfold uz at h ⊢
 split at h
 case h_2=>cases h
 grind
theorem Pb {t:TypeId} {s x:AV} {ps:List Prop} {v:AV} {rd:List Nat} {u:qS} (h:BM P σ t s x=some (ps,v,rd,u)) (hs:∀ k∈rd,ar dX k=ar σ k):BM P dX t s x=some (ps,v,rd,u):=by
 unfold BM at h ⊢
 split at h
 case h_2=>cases h
 grind
theorem Pc {t:TypeId} {s x:AV} {ps:List Prop} {v:AV} {rd:List Nat} {u:qS} (h:BN P σ t s x=some (ps,v,rd,u)) (hs:∀ k∈rd,ar dX k=ar σ k):BN P dX t s x=some (ps,v,rd,u):=by
 unfold BN at h ⊢
 split at h
 case h_2=>cases h
 grind
theorem Pd {t:TypeId} {s x:AV} {ps:List Prop} {v:AV} {rd:List Nat} {u:qS} (h:BO P σ t s x=some (ps,v,rd,u)) (hs:∀ k∈rd,ar dX k=ar σ k):BO P dX t s x=some (ps,v,rd,u):=by
 unfold BO at h ⊢
 split at h
 case h_2=>cases h
 rename_i e he
 split at h
 case h_2=>cases h
 rename_i sz b z k off m qR hb hz
 split at h
 case h_2=>cases h
 rename_i n gt pr Oy LJ o uu ho
 split at h
 case h_2=>cases h
 rename_i BF
 have QY:rd=k :: LJ:=by simp only [aA,az] at h;exact h.2.2.1.symm
 rw [AJ uu (fun k hk=>hs k (by rw [QY];simp [hk]))]
 grind
theorem Pe {t:TypeId} {s x:AV} {ps:List Prop} {v:AV} {rd:List Nat} {u:qS} (h:BP P nk σ t s x=some (ps,v,rd,u)) (hs:∀ k∈rd,ar dX k=ar σ k):BP P nk dX t s x=some (ps,v,rd,u):=by
 unfold BP at h ⊢
 split at h
 case h_2=>cases h
 rename_i e he
 split at h
 case h_2=>cases h
 rename_i sz b z k off m qR hb hz
 split at h
 case h_2=>cases h
 rename_i n gt pr Oy LJ o uu ho
 split at h
 case h_2=>cases h
 rename_i BF
 have QY:rd=k :: LJ:=by simp only [aA,az] at h;exact h.2.2.1.symm
 rw [AJ uu (fun k hk=>hs k (by rw [QY];simp [hk]))]
 grind
theorem No {t:TypeId} {x:AV} {ps:List Prop} {v:AV} {rd:List Nat} {u:qS} (h:yu P σ t x=some (ps,v,rd,u)) (hs:∀ k∈rd,ar dX k=ar σ k):yu P dX t x=some (ps,v,rd,u):=by
 unfold yu at h ⊢
 split at h
 case h_2=>cases h
 grind
theorem G9 {op:Op} {e:Operand→AV} {bd:Option nG} {r:R} (h:xt P nk σ op e bd=some r) (hs:∀ k∈r.IL,ar dX k=ar σ k):xt P nk dX op e bd=some r:=by
 unfold xt at h ⊢
 split at h
 ·exact Jq h hs
 ·rename_i q h0
  split at h
  ·simp only [aG] at h ⊢
   obtain ⟨⟨ps,v,rd⟩,h1,rfl⟩:=h
   exact ⟨_,Nn h1 hs,rfl⟩
  ·split at h
   ·rename_i x y t t' ha ht
    split at h
    ·rename_i hb
     simp only [aG] at h
     obtain ⟨⟨ps,v,rd,u⟩,h1,rfl⟩:=h
     simp only [ha,ht,hb,aG]
     refine ⟨⟨ps,v,rd,u⟩,?_,rfl⟩
     split at h1
     ·exact Pb h1 hs
     ·exact Pd h1 hs
     ·exact Pe h1 hs
     ·exact Jr h1 hs
    ·cases h
   ·cases h
  ·split at h
   ·rename_i x y t t' ha ht
    simp only [aG] at h
    obtain ⟨⟨ps,v,rd,u⟩,h1,rfl⟩:=h
    simp only [ha,ht,aG]
    exact ⟨_,Pc h1 hs,rfl⟩
   ·cases h
  ·split at h
   ·rename_i x t ha ht
    simp only [aG] at h
    obtain ⟨⟨ps,v,rd,u⟩,h1,rfl⟩:=h
    simp only [ha,ht,aG]
    exact ⟨_,No h1 hs,rfl⟩
   ·cases h
  ·split at h
   ·simp only [aG] at h ⊢
    obtain ⟨⟨ps,v,rd⟩,h1,rfl⟩:=h
    exact ⟨_,KJ h1 hs,rfl⟩
   ·exact h
  ·exact Jq h hs
theorem Ha {τ:dn} {e e':Operand→AV}:∀ {xs:List Operand},(∀ x∈xs,e' x=e x)→Vn τ e' xs=Vn τ e xs
 | [],_=>rfl
 | x :: r,h=>by simp only [Vn];rw [h x (by simp),Ha fun y hy=>h y (by simp [hy])]
theorem Hb:∀ {τ:dn} {ps:List Prop},QW σ τ=some ps→(∀ k∈τ.map (·.1),ar dX k=ar σ k)→QW dX τ=some ps
 | [],ps,h,_=>h
 | (k,o') :: r,ps,h,hs=>by
  simp only [QW] at h ⊢
  split at h
  ·rename_i o qs ho hr
   rw [hs k (by simp),ho,Hb hr fun k hk=>hs k (by simp_all)]
   exact h
  ·cases h
theorem RG {op:Op} {e e':Operand→AV} {bd:Option nG} (he:∀ x∈op.operands.toList,e' x=e x):zo P nk σ op e' bd=zo P nk σ op e bd:=by
 simp_all [zo,RE,Ha,Ti]
theorem Np {op:Op} {e:Operand→AV} {bd:Option nG} {r:R} (h:zo P nk σ op e bd=some r) (hs:∀ k∈r.IL,ar dX k=ar σ k):zo P nk dX op e bd=some r:=by
 unfold zo at h ⊢
 split at h
 ·exact G9 h hs
 ·split at h
  ·rename_i ps r0 h1 h2
   cases h
   rw [Hb h1 fun k hk=>hs k (List.mem_append_left _ hk),G9 h2 fun k hk=>by rw [lY,lY,hs k (List.mem_append_right _ hk)]]
  ·cases h
end
end Go.Ab
namespace Go.Ab
def Pf (l:List Nat) (k:Nat):Bool:=l.any fun x=>Nat.beq x k
theorem EB {l:List Nat} {k:Nat}:Pf l k=true↔k∈l:=by
 simp only [Pf,List.any_eq_true]
 simp
theorem Pg {a b:Nat} (h:a < b):Nat.blt a b=true:=by
 simp_all
theorem CN {a b:Nat} (h:¬ a < b):Nat.blt a b=false:=by
 cases hb:Nat.blt a b with
 | false=>rfl
 | true=>simp only [Nat.blt,Nat.ble_eq] at hb;exact (h hb).elim
theorem Ph {a b:Nat} (h:Nat.blt a b=true):a < b:=by
 simp_all
def tmpsOf:List Operand→List Nat
 | []=>[]
 | .tmp t :: r=>t :: tmpsOf r
 | _ :: r=>tmpsOf r
def EC (ops:List Oper) (o:Oper):List Nat :=
 tmpsOf o.op.operands.toList ++ (match o.guard with
  | some (j,_)=>(O6 ops j).toList
  | none=>[])
theorem ED:∀ {l:List Operand} {t:Nat},Operand.tmp t∈l→t∈tmpsOf l
 | [],_,h=>by simp at h
 | x :: r,t,h=>by
  rcases kz.1 h with rfl | h'
  ·simp [tmpsOf]
  ·have:=ED h'
   cases x<;>simp [tmpsOf,this]
def qh (o:Oper):List Nat:=(o.after.toList.filter (Region.binds .any ·)).map (·.on)
def Hc (ops:List Oper):Nat→Nat→Nat→Bool
 | 0,_,_=>false
 | n+1,i,j=>match ops[j]? with
  | none=>false
  | some o=>(qh o).any fun e=>Nat.beq e i || Hc ops n i e
def HR:Option Nat→Option Nat→Bool
 | some a,some b=>Nat.beq a b
 | _,_=>false
def meets (l m:List Nat):Bool:=l.any fun k=>Pf m k
def EE (ops:List Oper) (o p:Oper) (x y:Rec):Bool :=
 meets x.dst.toList (EC ops p) || meets y.dst.toList (EC ops o) || meets (ju x.ld) (y.IL ++ ju y.ld) || meets x.IL (ju y.ld)
def KK (ops:List Oper) (dc:List Rec) (i j:Nat):Bool :=
 match ops[i]?,ops[j]?,dc[i]?,dc[j]? with
 | some o,some p,some x,some y=>!HR x.dst y.dst && (!EE ops o p x y || Hc ops ops.length i j)
 | _,_,_,_=>false
def HS (ops:List Oper) (j:Nat):Bool :=
 match ops[j]? with
 | some o=>(qh o).all fun e=>Nat.blt e j
 | none=>false
def Pj (ops:List Oper) (dc:List Rec):Bool :=
 (List.range ops.length).all fun j=>HS ops j && (List.range j).all fun i=>KK ops dc i j
def F8 (L:Nat→Bool):List Rec→Nat→List (Nat×AV)→List (Nat×AV)
 | [],_,tm=>tm
 | x :: r,i,tm=>F8 L r (i+1) (match L i with
  | true=>CK tm x.dst x.val
  | false=>tm)
def uA (L:Nat→Bool):List Rec→Nat→dn→dn
 | [],_,σ=>σ
 | x :: r,i,σ=>uA L r (i+1) (match L i with
  | true=>eF σ x.ld
  | false=>σ)
theorem lZ:∀ (u:qS) (σ:dn) (k:Nat),ar (eF σ u) k=if k∈ju u then ar (eF [] u) k else ar σ k
 | [],σ,k=>by simp [ju,eF]
 | (n,some o) :: r,σ,k=>by
  simp only [eF]
  rw [lZ r (sset σ n o) k,lZ r (sset [] n o) k,aX,aX]
  by_cases h1:k∈ju r
  ·simp [ju] at h1 ⊢;simp [h1]
  ·by_cases h2:n=k
   ·subst h2;simp [ju]
   ·have:¬ k∈ju ((n,some o) :: r):=by simp [ju] at h1 ⊢;exact ⟨fun h=>h2 h.symm,h1⟩
    rw [if_neg h1,if_neg h2,if_neg this]
 | (n,none) :: r,σ,k=>by
  simp only [eF]
  rw [lZ r (uq σ n) k,lZ r (uq [] n) k,fz,fz]
  by_cases h1:k∈ju r
  ·simp [ju] at h1 ⊢;simp [h1]
  ·by_cases h2:n=k
   ·subst h2;simp [ju]
   ·have:¬ k∈ju ((n,none) :: r):=by simp [ju] at h1 ⊢;exact ⟨fun h=>h2 h.symm,h1⟩
    rw [if_neg h1,if_neg h2,if_neg this]
theorem EF {L L':Nat→Bool} {t:Nat}:∀ (dc:List Rec) (i:Nat) (tm KL:List (Nat×AV)),dI tm t=dI KL t →
  (∀ (m:Nat) (x:Rec),dc[m]?=some x→L (i+m)≠L' (i+m)→x.dst≠some t)→dI (F8 L dc i tm) t=dI (F8 L' dc i KL) t
 | [],_,_,_,h,_=>h
 | x :: r,i,tm,KL,h,hd=>by
  simp only [F8]
  refine EF r (i+1) _ _ ?_ (fun m y hy fP=>hd (m+1) y (by simpa using hy) (by grind))
  by_cases he:L i=L' i
  ·grind [oJ]
  ·have:=hd 0 x (by simp) (by simpa using he)
   have e1:dI (CK tm x.dst x.val) t=dI tm t:=by rw [oJ,if_neg this]
   have e2:dI (CK KL x.dst x.val) t=dI KL t:=by rw [oJ,if_neg this]
   grind
theorem BR {L L':Nat→Bool} {k:Nat}:∀ (dc:List Rec) (i:Nat) (σ dX:dn),ar σ k=ar dX k →
  (∀ (m:Nat) (x:Rec),dc[m]?=some x→L (i+m)≠L' (i+m)→k ∉ ju x.ld)→ar (uA L dc i σ) k=ar (uA L' dc i dX) k
 | [],_,_,_,h,_=>h
 | x :: r,i,σ,dX,h,hd=>by
  simp only [uA]
  refine BR r (i+1) _ _ ?_ (fun m y hy fP=>hd (m+1) y (by simpa using hy) (by grind))
  by_cases he:L i=L' i
  ·grind [lZ]
  ·have:=hd 0 x (by simp) (by simpa using he)
   have e1:ar (eF σ x.ld) k=ar σ k:=by rw [lZ,if_neg this]
   have e2:ar (eF dX x.ld) k=ar dX k:=by rw [lZ,if_neg this]
   grind
theorem L3 {L:Nat→Bool} {i0:Nat} {x:Rec} {t:Nat}:∀ (dc:List Rec) (i:Nat) (tm:List (Nat×AV)),i≤i0→dc[i0 - i]?=some x →
  (∀ (m:Nat) (y:Rec),dc[m]?=some y→i0 < i+m→x.dst=some t→y.dst≠some t) →
  dI (F8 (fun q=>L q || Nat.beq q i0) dc i tm) t=if x.dst=some t then x.val else dI (F8 L dc i tm) t
 | [],i,tm,_,h,_=>by simp at h
 | y :: r,i,tm,hi,h,hd=>by
  simp only [F8]
  by_cases he:i=i0
  ·subst he
   simp at h;subst h
   rw [rm rfl,Bool.or_true]
   have Ue:∀ Ys Yt:List (Nat×AV),dI Ys t=dI Yt t→dI (F8 (fun q=>L q || Nat.beq q i) r (i+1) Ys) t=dI (F8 L r (i+1) Yt) t:=by
    intro Ys Yt h12
    refine EF r (i+1) _ _ h12 ?_
    intro m z hz fP
    exfalso
    apply fP
    rw [oH (by omega),Bool.or_false]
   by_cases hx:y.dst=some t
   ·rw [if_pos hx]
    have C7:∀ (l:List Rec) (n:Nat) (tm:List (Nat×AV)) (M:Nat→Bool),(∀ (m:Nat) (z:Rec),l[m]?=some z→z.dst≠some t)→dI (F8 M l n tm) t=dI tm t:=by
     intro l
     induction l with
     | nil=>intro n tm M _;rfl
     | cons z l ih =>
      intro n tm M hz
      simp only [F8]
      rw [ih _ _ _ (fun m u hu=>hz (m+1) u (by simpa using hu))]
      split
      ·rw [oJ,if_neg (hz 0 z (by simp))]
      ·rfl
    rw [C7 r _ _ _ (fun m z hz=>hd (m+1) z (by simpa using hz) (by omega) hx),oJ,if_pos hx]
   ·rw [if_neg hx]
    refine Ue _ _ ?_
    rw [oJ,if_neg hx]
    split
    ·rw [oJ,if_neg hx]
    ·rfl
  ·rw [oH he,Bool.or_false]
   refine L3 r (i+1) _ (by omega) ?_ (fun m z hz gk=>hd (m+1) z (by simpa using hz) (by omega))
   rw [show i0 - i=(i0 - (i+1))+1 by omega] at h
   simpa using h
theorem Js {L:Nat→Bool} {i0:Nat} {x:Rec} {k:Nat}:∀ (dc:List Rec) (i:Nat) (σ:dn),i≤i0→dc[i0 - i]?=some x →
  (∀ (m:Nat) (y:Rec),dc[m]?=some y→i0 < i+m→L (i+m)=true→k∈ju x.ld→k ∉ ju y.ld) →
  ar (uA (fun q=>L q || Nat.beq q i0) dc i σ) k=if k∈ju x.ld then ar (eF [] x.ld) k else ar (uA L dc i σ) k
 | [],i,σ,_,h,_=>by simp at h
 | y :: r,i,σ,hi,h,hd=>by
  simp only [uA]
  by_cases he:i=i0
  ·subst he
   simp at h;subst h
   rw [rm rfl,Bool.or_true]
   by_cases hx:k∈ju y.ld
   ·rw [if_pos hx]
    have C7:∀ (l:List Rec) (n:Nat) (σ:dn) (M:Nat→Bool),(∀ (m:Nat) (z:Rec),l[m]?=some z→M (n+m)=true→k ∉ ju z.ld)→ar (uA M l n σ) k=ar σ k:=by
     intro l
     induction l with
     | nil=>intro n tm M _;rfl
     | cons z l ih =>
      intro n σ M hz
      simp only [uA]
      rw [ih _ _ _ (fun m u hu hM=>hz (m+1) u (by simpa using hu) (by grind))]
      split
      ·rename_i hM
       rw [lZ,if_neg (hz 0 z (by simp) (by simpa using hM))]
      ·rfl
    rw [C7 r _ _ _ ?_,lZ,if_pos hx]
    intro m z hz hM
    rw [oH (by omega),Bool.or_false] at hM
    exact hd (m+1) z (by simpa using hz) (by omega) (by grind) hx
   ·rw [if_neg hx]
    refine BR r (i+1) _ _ ?_ ?_
    ·rw [lZ,if_neg hx]
     split
     ·rw [lZ,if_neg hx]
     ·rfl
    ·intro m z hz fP
     exfalso
     apply fP
     rw [oH (by omega),Bool.or_false]
  ·rw [oH he,Bool.or_false]
   refine Js r (i+1) _ (by omega) ?_ (fun m z hz gk hL=>hd (m+1) z (by simpa using hz) (by omega) (by grind))
   grind
theorem L4:∀ (dc:List Rec) (i:Nat) (tm:List (Nat×AV)) (L:Nat→Bool),(∀ m,m < dc.length→L (i+m)=true)→F8 L dc i tm=CL dc tm
 | [],_,_,_,_=>rfl
 | x :: r,i,tm,L,h=>by
  simp only [F8,CL]
  have:=h 0 (by simp)
  rw [Nat.add_zero] at this
  rw [this,L4 r (i+1) _ L (fun m hm=>by rw [show i+1+m=i+(m+1) by omega];simp_all)]
theorem Jt:∀ (dc:List Rec) (i:Nat) (σ:dn) (L:Nat→Bool),(∀ m,m < dc.length→L (i+m)=true)→uA L dc i σ=xw dc σ
 | [],_,_,_,_=>rfl
 | x :: r,i,σ,L,h=>by
  simp only [uA,xw]
  have:=h 0 (by simp)
  rw [Nat.add_zero] at this
  rw [this,Jt r (i+1) _ L (fun m hm=>by rw [show i+1+m=i+(m+1) by omega];simp_all)]
theorem EG:∀ (dc:List Rec) (i:Nat) (tm:List (Nat×AV)) (L:Nat→Bool),(∀ m,m < dc.length→L (i+m)=false)→F8 L dc i tm=tm
 | [],_,_,_,_=>rfl
 | x :: r,i,tm,L,h=>by
  simp only [F8]
  have:=h 0 (by simp)
  rw [Nat.add_zero] at this
  rw [this,EG r (i+1) _ L (fun m hm=>by rw [show i+1+m=i+(m+1) by omega];simp_all)]
theorem BS:∀ (dc:List Rec) (i:Nat) (σ:dn) (L:Nat→Bool),(∀ m,m < dc.length→L (i+m)=false)→uA L dc i σ=σ
 | [],_,_,_,_=>rfl
 | x :: r,i,σ,L,h=>by
  simp only [uA]
  have:=h 0 (by simp)
  rw [Nat.add_zero] at this
  rw [this,BS r (i+1) _ L (fun m hm=>by rw [show i+1+m=i+(m+1) by omega];simp_all)]
section
variable {P:Program}
theorem Hd {nt nk:Nat} {ops:List Oper} {orcs:List (Nat×nG)}:∀ (l:List Oper) (i:Nat) (tm:List (Nat×AV)) (σ:dn) (dc:List Rec),rF P nt ops nk orcs l i tm σ=some dc →
  dc.length=l.length∧∀ (m:Nat) (x:Rec),dc[m]?=some x→∃ o,l[m]?=some o ∧
   zp P nt ops (nk+16 * (i+m)) (F8 (fun q=>Nat.blt q (i+m)) dc i tm) (uA (fun q=>Nat.blt q (i+m)) dc i σ) o (p9 orcs (i+m))=some x
 | [],i,tm,σ,dc,h=>by
  simp only [rF,aA] at h
  simp_all
 | o :: r,i,tm,σ,dc,h=>by
  simp only [rF] at h
  split at h
  ·cases h
  ·rename_i x0 Pk
   simp only [aG] at h
   obtain ⟨l',h2,rfl⟩:=h
   obtain ⟨h3,h4⟩:=Hd r (i+1) _ _ l' h2
   refine ⟨by simp [h3],?_⟩
   intro m x hx
   cases m with
   | zero =>
    simp at hx;subst hx
    refine ⟨o,by simp,?_⟩
    simp only [Nat.add_zero,F8,uA]
    have Yu:Nat.blt i i=false:=CN (by omega)
    rw [Yu]
    rw [EG,BS]
    ·exact Pk
    ·intro m _;exact CN (by omega)
    ·intro m _;exact CN (by omega)
   | succ m =>
    obtain ⟨o',vj,he⟩:=h4 m x (by simpa using hx)
    refine ⟨o',by simpa using vj,?_⟩
    have Yu:Nat.blt i (i+(m+1))=true:=Pg (by omega)
    simp only [F8,uA]
    rw [Yu]
    rw [show i+(m+1)=i+1+m by omega]
    exact he
theorem HT {nk:Nat} {op:Op} {e e':Operand→AV} {bd:Option nG} {σ:dn} (he:∀ x∈op.operands.toList,e' x=e x):xu P nk σ op e' bd=xu P nk σ op e bd:=by
 unfold xu
 split
 ·unfold AI
  split
  ·rename_i f args GY
   have mem:∀ x,x∈f :: args.toList→e' x=e x:=by
    intro x hx
    refine he x ?_
    simp only [Op.operands,Call.operands] at *
    simpa using hx
   rw [mem f (by simp),jC mem,List.map_congr_left (fun x hx=>by rw [mem x (List.mem_cons_of_mem _ hx)]:∀ x∈args.toList,(e' x).strip.1=(e x).strip.1)]
  ·rfl
 ·exact RG he
theorem BT {nk:Nat} {op:Op} {e:Operand→AV} {bd:Option nG} {σ dX:dn} {r:R} (h:xu P nk σ op e bd=some r) (hs:∀ k∈r.IL,ar dX k=ar σ k):xu P nk dX op e bd=some r:=by
 unfold xu at h ⊢
 split at h
 ·unfold AI at h ⊢
  grind
 ·exact Np h hs
theorem Nq {nt nk:Nat} {ops:List Oper} {tm KL:List (Nat×AV)} {σ dX:dn} {o:Oper} {bd:Option nG} {x:Rec} (h:zp P nt ops nk tm σ o bd=some x)
  (ht:∀ t∈EC ops o,dI KL t=dI tm t) (hs:∀ k∈x.IL,ar dX k=ar σ k):zp P nt ops nk KL dX o bd=some x:=by
 have he:∀ y∈o.op.operands.toList,wj KL y=wj tm y:=by
  intro y hy
  cases y with
  | tmp t=>exact ht t (by simp only [EC,List.mem_append];exact .inl (ED hy))
  | _=>rfl
 unfold zp at h ⊢
 split at h
 ·cases h
 ·split at h
  ·simp only [aG] at h ⊢
   obtain ⟨r,h1,rfl⟩:=h
   exact ⟨r,by rw [HT he];exact BT h1 hs,rfl⟩
  ·rename_i j want Xp
   split at h
   ·cases h
   ·rename_i d hd
    have htd:dI KL d=dI tm d:=ht d (by simp [EC,Xp,hd])
    rw [htd]
    split at h
    ·split at h
     ·rename_i g r hg h1
      split at h
      ·rename_i hu
       cases h
       rw [HT he,BT h1 hs,hg]
       simp [hu]
      ·cases h
     ·cases h
    ·split at h
     ·rename_i g r hg h1
      cases h
      rw [HT he,BT h1 hs,hg]
     ·cases h
    ·split at h
     ·rename_i g hg
      exact h
     ·cases h
theorem zK {ops:List Oper} {L:Nat→Bool} (hd:∀ j,L j=true→∀ o,ops[j]?=some o→∀ e∈qh o,L e=true):∀ (n i j:Nat),Hc ops n i j=true →
  (∀ o,ops[j]?=some o→∀ e∈qh o,L e=true)→L i=true
 | 0,i,j,h,_=>by simp [Hc] at h
 | n+1,i,j,h,hj=>by
  simp only [Hc] at h
  split at h
  ·cases h
  ·rename_i o ho
   simp only [List.any_eq_true,Bool.or_eq_true] at h
   obtain ⟨e,he,h | h⟩:=h
   ·simp_all
   ·exact zK hd n i e h fun o' vj e' he'=>hd e (hj o ho e he) o' vj e' he'
def Nr (ops:List Oper) (o p:Oper) (x y:Rec):Prop :=
 (∃ d,x.dst=some d∧d∈EC ops p)∨(∃ d,y.dst=some d∧d∈EC ops o)∨(∃ k,k∈ju x.ld∧(k∈y.IL∨k∈ju y.ld))∨∃ k,k∈x.IL∧k∈ju y.ld
theorem yx {l m:List Nat} {k:Nat} (h1:k∈l) (h2:k∈m):meets l m=true:=List.any_eq_true.2 ⟨k,h1,EB.2 h2⟩
theorem Nr.EE {ops:List Oper} {o p:Oper} {x y:Rec} (h:Nr ops o p x y):EE ops o p x y=true:=by
 unfold Ab.EE
 simp only [Bool.or_eq_true]
 rcases h with ⟨d,h1,h2⟩ | ⟨d,h1,h2⟩ | ⟨k,h1,h2⟩ | ⟨k,h1,h2⟩
 ·simp_all [yx]
 ·simp_all [yx]
 ·grind [yx]
 grind [yx]
theorem Nr.symm {ops:List Oper} {o p:Oper} {x y:Rec} (h:Nr ops o p x y):Nr ops p o y x:=by
 rcases h with h | h | ⟨k,h1,h2 | h2⟩ | ⟨k,h1,h2⟩
 ·exact .inr (.inl h)
 ·exact .inl h
 ·exact .inr (.inr (.inr ⟨k,h2,h1⟩))
 ·exact .inr (.inr (.inl ⟨k,h2,.inr h1⟩))
 ·exact .inr (.inr (.inl ⟨k,h2,.inl h1⟩))
theorem count_set:∀ (l:List Bool) (i:Nat),l[i]?=some false→((l.set i true).filter (· == true)).length=(l.filter (· == true)).length+1
 | [],i,h=>by simp at h
 | b :: l,0,h=>by simp at h;subst h;simp
 | b :: l,i+1,h=>by
  have:=count_set l i (by simpa using h)
  cases b<;>simp_all
theorem KM {E:Env} {rd:Option Nat} {ds:List Deferred} {nt nk:Nat} {ops:Array Oper} {orcs:List (Nat×nG)} {Tk:List (Nat×AV)} {RH:dn} {dc:List Rec} {Q:Exit→Act→World→Prop} (hz:∀ i,Jo P E (p9 orcs i)) (hm:E.m0≤nk)
  (Xq:rF P nt ops.toList nk orcs ops.toList 0 Tk RH=some dc) (hp:bg (Ex dc)) (IP:Pj ops.toList dc=true)
  (hQ:∀ a' w' S' da,a'.tmps.size=nt→a'.defers=ds→Good E (xw dc RH) S' da w'→(∀ k,nk+16 * ops.size≤k→da k=none)→(∀ t,ao w' S' da (a'.tmps.getD t undef) (dI (CL dc Tk) t))→Q .normal a' w') :
  ∀ (fuel:Nat) (bH:Array Bool) (a:Act) (w:World) (S:Nat→Prop) (μ:Mu),bH.size=ops.size→a.tmps.size=nt→a.defers=ds →
   (∀ j,bH.getD j false=true→∀ o,ops.toList[j]?=some o→∀ e∈qh o,bH.getD e false=true)→ops.size≤fuel+(bH.toList.filter (· == true)).length →
   Good E (uA (fun j=>bH.getD j false) dc 0 RH) S μ w→(∀ k,nk≤k→(∀ j,nk+16 * j≤k→k < nk+16 * j+16→bH.getD j false=false)→μ k=none) →
   (∀ t,ao w S μ (a.tmps.getD t undef) (dI (F8 (fun j=>bH.getD j false) dc 0 Tk) t)) →
   wpAnyIn (FW rd) 0 P .any ops Q fuel bH a w:=by
 obtain ⟨hlen,pZ⟩:=Hd ops.toList 0 Tk RH dc Xq
 simp only [Nat.zero_add] at pZ
 have mK:∀ j,j < ops.size→HS ops.toList j=true∧∀ i,i < j→KK ops.toList dc i j=true:=by
  intro j hj
  have:=List.all_eq_true.1 IP j (vn.2 (by simpa using hj))
  simp only [bc] at this
  exact ⟨this.1,fun i hi=>List.all_eq_true.1 this.2 i (vn.2 hi)⟩
 have Tl:∀ j o,ops.toList[j]?=some o→∀ e∈qh o,e < j:=by
  intro j o ho e he
  have hj:j < ops.size:=by simpa using (dD.1 ho).1
  have h1:=(mK j hj).1
  unfold HS at h1
  rw [ho] at h1
  exact Ph (List.all_eq_true.1 h1 e he)
 have Pm:∀ i j o p x y,i < j→ops.toList[i]?=some o→ops.toList[j]?=some p→dc[i]?=some x→dc[j]?=some y →
   HR x.dst y.dst=false∧(EE ops.toList o p x y=true→Hc ops.toList ops.toList.length i j=true):=by
  intro i j o p x y T7 ho rV hx hy
  have hj:j < ops.size:=by simpa using (dD.1 rV).1
  have h1:=(mK j hj).2 i T7
  unfold KK at h1
  rw [ho,rV,hx,hy] at h1
  simp only [bc,Bool.not_eq_true',Bool.or_eq_true] at h1
  refine ⟨h1.1,fun hc=>?_⟩
  rcases h1.2 with h2 | h2
  ·rw [hc] at h2;cases h2
  ·exact h2
 -- what is ready
 have KN:∀ (bH:Array Bool),bH.size=ops.size→∀ i,i∈Region.ready .any ops bH↔(i < ops.size∧bH.getD i false=false∧∀ o,ops.toList[i]?=some o→∀ e∈qh o,bH.getD e false=true):=by
  intro bH Pn i
  unfold Region.ready
  simp only [List.mem_filter,vn,bc,Bool.not_eq_true']
  constructor
  ·rintro ⟨h1,h2,h3⟩
   have hl:i < bH.size:=by omega
   refine ⟨h1,?_,?_⟩
   ·simp only [se,jd hl,Option.getD_some] at h2 ⊢;exact h2
   ·intro o ho e he
    have vj:ops[i]?=some o:=by simpa using ho
    simp only [vj,Option.map_some,Option.getD_some,Array.all_eq_true'] at h3
    simp only [qh,List.mem_map,List.mem_filter] at he
    obtain ⟨ed,⟨Yv,TU⟩,rfl⟩:=he
    have:=h3 ed (by simpa using Yv)
    rw [TU] at this
    simpa only [Bool.not_true,Bool.false_or] using this
  ·rintro ⟨h1,h2,h3⟩
   have hl:i < bH.size:=by omega
   refine ⟨h1,?_,?_⟩
   ·simp only [se,jd hl,Option.getD_some] at h2 ⊢;exact h2
   ·have ho:ops[i]?=some ops[i]:=jd h1
    simp only [ho,Option.map_some,Option.getD_some,Array.all_eq_true']
    intro ed Yv
    simp only [Bool.or_eq_true,Bool.not_eq_true']
    cases hb:Region.binds .any ed with
    | false=>exact .inl rfl
    | true =>
     right
     exact h3 ops[i] (by simp) ed.on (by simp only [qh,List.mem_map,List.mem_filter];exact ⟨ed,⟨by simpa using Yv,hb⟩,rfl⟩)
 intro fuel
 -- the end
 have fin:∀ (bH:Array Bool) (a:Act) (w:World) (S:Nat→Prop) (μ:Mu),bH.size=ops.size→a.tmps.size=nt→a.defers=ds→(∀ j,j < ops.size→bH.getD j false=true) →
   Good E (uA (fun j=>bH.getD j false) dc 0 RH) S μ w→(∀ k,nk≤k→(∀ j,nk+16 * j≤k→k < nk+16 * j+16→bH.getD j false=false)→μ k=none) →
   (∀ t,ao w S μ (a.tmps.getD t undef) (dI (F8 (fun j=>bH.getD j false) dc 0 Tk) t))→Q .normal a w:=by
  intro bH a w S μ Pn hs QX V2 g hk ht
  have hL:∀ m,m < dc.length→(fun j=>bH.getD j false) (0+m)=true:=fun m gF=>by
   rw [Nat.zero_add];exact V2 m (by rw [hlen] at gF;simpa using gF)
  rw [Jt dc 0 RH _ hL] at g
  refine hQ a w S μ hs QX g (fun k nL=>hk k (by omega) fun j hj Tm=>?_) (fun t=>by rw [← L4 dc 0 Tk (fun j=>bH.getD j false) hL];exact ht t)
  have:bH.size≤j:=by omega
  simp [se,Array.getElem?_eq_none this]
 have V3:∀ (bH:Array Bool),bH.size=ops.size→(∀ j,bH.getD j false=true→∀ o,ops.toList[j]?=some o→∀ e∈qh o,bH.getD e false=true)→Region.ready .any ops bH=[]→∀ j,j < ops.size→bH.getD j false=true:=by
  intro bH Pn Uf hr j
  induction j using Nat.strongRecOn with
  | _ j ih =>
   intro hj
   cases hb:bH.getD j false with
   | true=>rfl
   | false =>
    have:j∈Region.ready .any ops bH:=(KN bH Pn j).2 ⟨hj,hb,fun o ho e he=>ih e (Tl j o ho e he) (by have:=Tl j o ho e he;omega)⟩
    rw [hr] at this;simp at this
 induction fuel with
 | zero =>
  intro bH a w S μ Pn hs QX Uf Tn g hk ht
  simp only [wpAnyIn]
  have V2:∀ j,j < ops.size→bH.getD j false=true:=by
   have hle:(bH.toList.filter (· == true)).length=bH.toList.length:=by
    have h1:=List.length_filter_le (· == true) bH.toList
    simp at h1 Tn ⊢;omega
   have h2:=List.length_filter_eq_length_iff.1 hle
   intro j hj
   have hl:j < bH.size:=by omega
   have:=h2 bH[j] (by simp)
   simp only [se,jd hl,Option.getD_some]
   simpa using this
  refine ⟨?_,fin bH a w S μ Pn hs QX V2 g hk ht⟩
  cases hr:Region.ready .any ops bH with
  | nil=>rfl
  | cons i r =>
   have:=(KN bH Pn i).1 (by rw [hr];simp)
   rw [V2 i this.1] at this
   simp at this
 | succ fuel ih =>
  intro bH a w S μ Pn hs QX Uf Tn g hk ht
  simp only [wpAnyIn]
  refine ⟨fun hr=>fin bH a w S μ Pn hs QX (V3 bH Pn Uf hr) g hk ht,?_⟩
  intro i hi
  obtain ⟨pS,Ko,DN⟩:=(KN bH Pn i).1 hi
  have V4:i < dc.length:=by rw [hlen];simpa using pS
  have hx:dc[i]?=some dc[i]:=o6 V4
  obtain ⟨o,ho,Xr⟩:=pZ i _ hx
  generalize dc[i]=x at hx Xr
  have hpx:bg x.GO:=by
   have:∀ (l:List Rec) (i:Nat),bg (Ex l)→l[i]?=some x→bg x.GO:=by
    intro l
    induction l with
    | nil=>intro i _ h;simp at h
    | cons y l ih =>
     intro i h hi
     obtain ⟨h1,h2⟩:=bg.app h
     cases i with
     | zero=>simp at hi;exact hi ▸ h1
     | succ i=>exact ih i h2 (by simpa using hi)
   exact this dc i hp hx
  -- an operation that meets this one is carried out just if it stands before it
  have order:∀ (j:Nat) (p:Oper) (y:Rec),j≠i→ops.toList[j]?=some p→dc[j]?=some y→Nr ops.toList o p x y→Nat.blt j i=bH.getD j false:=by
   intro j p y fP hpj hyj hc
   rcases Nat.lt_or_gt_of_ne fP with gk | TL
   ·rw [Pg gk]
    exact (zK (L:=fun j=>bH.getD j false) Uf _ j i ((Pm j i p o y x gk hpj ho hyj hx).2 hc.symm.EE) (fun o' vj e he=>by rw [ho] at vj;cases vj;exact DN o ho e he)).symm
   ·rw [CN (by omega)]
    cases hb:bH.getD j false with
    | false=>rfl
    | true =>
     have:=zK (L:=fun j=>bH.getD j false) Uf _ i j ((Pm i j o p x y TL ho hpj hx hyj).2 hc.EE) (fun o' vj e he=>Uf j hb o' vj e he)
     have:bH.getD i false=true:=this
     rw [Ko] at this;cases this
  have L5:∀ (m:Nat) (y:Rec),dc[m]?=some y→∃ p,ops.toList[m]?=some p:=fun m y hy=>let ⟨p,rV,_⟩:=pZ m y hy;⟨p,rV⟩
  have V5:zp P nt ops.toList (nk+16 * i) (F8 (fun j=>bH.getD j false) dc 0 Tk) (uA (fun j=>bH.getD j false) dc 0 RH) o (p9 orcs i)=some x:=by
   refine Nq Xr ?_ ?_
   ·intro t htl
    refine EF dc 0 _ _ rfl ?_
    intro m y hy fP Yw
    rw [Nat.zero_add] at fP
    obtain ⟨p,rV⟩:=L5 m y hy
    by_cases Ay:m=i
    ·subst Ay;exact fP (by rw [Ko,CN (by omega)])
    ·exact fP (order m p y Ay rV hy (.inr (.inl ⟨t,Yw,htl⟩))).symm
   ·intro k hkr
    refine BR dc 0 _ _ rfl ?_
    intro m y hy fP Yx
    rw [Nat.zero_add] at fP
    obtain ⟨p,rV⟩:=L5 m y hy
    by_cases Ay:m=i
    ·subst Ay;exact fP (by rw [Ko,CN (by omega)])
    ·exact fP (order m p y Ay rV hy (.inr (.inr (.inr ⟨k,hkr,Yx⟩)))).symm
  have Ug:i < bH.size:=by omega
  have Nf:∀ j,(bH.setIfInBounds i true).getD j false=(bH.getD j false || Nat.beq j i):=by
   intro j
   by_cases NX:j=i
   ·subst NX
    rw [rm rfl,Bool.or_true]
    simp [se,Ug]
   ·rw [oH NX,Bool.or_false]
    simp only [se]
    rw [Array.getElem?_setIfInBounds_ne (fun h=>NX h.symm)]
  have V6:(fun j=>(bH.setIfInBounds i true).getD j false)=fun q=>bH.getD q false || Nat.beq q i:=funext Nf
  have LR:∀ q,q < 16→μ (nk+16 * i+q)=none:=fun q hq=>hk _ (by omega) fun j hj Tm=>by
   have NX:j=i:=by omega
   rw [NX];exact Ko
  refine G4 (by simpa using ho) ht g LR (by omega) (hz i) V5 hpx ?_
  intro v w' S' da q1 q2 q3 q4
  obtain ⟨d1,d2⟩:=G5 V5
  refine ih _ _ w' S' da (by simp [Pn]) (by rw [Jm];exact hs) (by rw [CM];exact QX) ?_ ?_ ?_ ?_ ?_
  ·intro j hj o' vj e he
   rw [Nf] at hj ⊢
   rw [Bool.or_eq_true] at hj ⊢
   rcases hj with hj | hj
   ·exact .inl (Uf j hj o' vj e he)
   ·have:=bK hj
    subst this
    exact .inl (DN o' vj e he)
  ·have hc:=count_set bH.toList i (by
    rw [Array.getElem?_toList,jd Ug]
    simp only [se,jd Ug,Option.getD_some] at Ko
    rw [Ko])
   rw [Array.toList_setIfInBounds,hc]
   omega
  ·rw [V6]
   refine q2.congr ?_
   intro k
   rw [Js dc 0 RH (Nat.zero_le _) (by simpa using hx) ?_,lZ x.ld (uA (fun j=>bH.getD j false) dc 0 RH)]
   intro m y hy gk hL Yx Yy
   rw [Nat.zero_add] at gk hL
   obtain ⟨p,rV⟩:=L5 m y hy
   have:=order m p y (by omega) rV hy (.inr (.inr (.inl ⟨k,Yx,.inr Yy⟩)))
   rw [CN (by omega)] at this
   rw [← this] at hL;cases hL
  ·intro k nL C7
   have hki:k < nk+16 * i∨nk+16 * i+16≤k:=by
    rcases Nat.lt_or_ge k (nk+16 * i) with h1 | h1
    ·exact .inl h1
    ·rcases Nat.lt_or_ge k (nk+16 * i+16) with h2 | h2
     ·have:=C7 i h1 h2
      rw [Nf,rm rfl,Bool.or_true] at this
      cases this
     ·exact .inr h2
   refine q3 k hki (hk k nL fun j hj Tm=>?_)
   have:=C7 j hj Tm
   rw [Nf,Bool.or_eq_false_iff] at this
   exact this.1
  ·intro t
   rw [V6,L3 dc 0 Tk (Nat.zero_le _) (by simpa using hx) ?_,L1 a x.dst v t (fun n hn=>by rw [hs];exact d2 n (d1 ▸ hn))]
   ·split
    ·exact q4
    ·exact (ht t).ext q1
   ·intro m y hy gk hxd hyd
    rw [Nat.zero_add] at gk
    obtain ⟨p,rV⟩:=L5 m y hy
    have:=(Pm i m o p x y gk ho rV hx hy).1
    rw [hxd,hyd] at this
    simp only [HR] at this
    rw [rm rfl] at this;cases this
end
end Go.Ab
namespace Go.Ab
inductive Wd where
 | ah
 | sl (n:Nat) (g:Nat→List AV)
 | kD (n:Nat)
 | oK (k:Nat)
 | pt (b:Bool) (cs:List AV)
 | nq (st:Option Bool) (d:Wd)
 | unq (d:Wd)
 | agg (ds:List Wd)
 | tup (ds:List Wd)
def IQ:List AV→List AV→Prop
 | [],[]=>True
 | a :: as,b :: bs=>(a=b∨(a=.nil∧∃ f,b=.sl 0 f))∧IQ as bs
 | _,_=>False
theorem IQ.len:∀ {as bs:List AV},IQ as bs→bs.length=as.length
 | [],[],_=>rfl
 | _ :: _,_ :: _,h=>congrArg (·+1) (IQ.len h.2)
theorem IQ.get:∀ {as bs:List AV} {j:Nat} {x:AV},IQ as bs→bs[j]?=some x→∃ a,as[j]?=some a∧(a=x∨(a=.nil∧∃ f,x=.sl 0 f))
 | [],[],_,_,_,hx=>by simp at hx
 | a :: _,b :: _,0,x,h,hx=>by
  have:b=x:=by simpa using hx
  subst this
  exact ⟨a,rfl,h.1⟩
 | _ :: as,_ :: bs,j+1,x,h,hx=>by
  have:=IQ.get (as:=as) (bs:=bs) (j:=j) (x:=x) h.2 (by simpa using hx)
  simpa using this
theorem Uh {w:World} {S:Nat→Prop} {μ:Mu} {v:Value} {a x:AV} (h:a=x∨(a=.nil∧∃ f,x=.sl 0 f)) (hv:ao w S μ v a):ao w S μ v x:=by
 rcases h with rfl | ⟨rfl,f,rfl⟩
 ·exact hv
 ·cases hv
  exact .sl 0 0 0 (fun _ _=>undef) (fun h=>absurd h (by decide)) (fun i h=>absurd h (cW _)) (fun i j h=>absurd h (cW _)) (fun i j c h=>absurd h (cW _)) (aF _)
inductive Od where
 | ah (k:Nat)
 | arr (k:Nat) (n:Nat) (g:Nat→List AV)
 | Po (k:Nat) (n:Nat) (g:Nat→List AV)
 | var (k:Nat) (ds:List Wd)
 | mp (k:Nat) (cs:List AV)
 | pT (k:Nat) (n:Nat) (l:List (Nat×Nat×Nat)) (b:Nat→List AV)
 | To (g:Nat→List AV)
 | nil (sz:Nat) (g:Nat→List AV)
def Od.wG:Od→Option Nat
 | .ah k | .arr k _ _ | .Po k _ _ | .var k _ | .mp k _ | .pT k _ _ _=>some k
 | .nil _ _ | .To _=>none
def aQ:List (Nat×Nat×Nat)→(Nat→List AV)→Nat→List AV
 | [],b,m=>b m
 | (i,k,n) :: r,b,m=>if m=i then [.os k 0 n] else aQ r b m
def Pp (f:Nat→Option Nat):List (Nat×Nat×Nat)→Option (List (Nat×Nat×Nat))
 | []=>some []
 | (i,k,n) :: r=>match f k,Pp f r with
  | some k',some l=>some ((i,k',n) :: l)
  | _,_=>none
theorem EH {f:Nat→Option Nat} {b:Nat→List AV} {m:Nat} (hb:Ei (b m)=true):∀ {l l':List (Nat×Nat×Nat)},Pp f l=some l'→AV.tM f (aQ l b m)=aQ l' b m
 | [],l',h=>by simp [Pp] at h;subst h;exact GP hb
 | (i,k,n) :: r,l',h=>by
  simp only [Pp] at h
  split at h
  ·rename_i k' l2 hk hl
   cases h
   simp only [aQ]
   split
   ·simp [AV.tM,AV.jV,hk]
   ·exact EH hb hl
  ·cases h
abbrev zL:=List (Nat×Od)
def tv (m0:Nat):zL→Nat→Option Nat
 | [],k=>match Nat.blt k m0 with
  | true=>some k
  | false=>none
 | (k',d) :: r,k=>match d.wG with
  | some q=>match Nat.beq q k with
   | true=>some k'
   | false=>tv m0 r k
  | none=>tv m0 r k
def tw:zL→Nat→Option Od
 | [],_=>none
 | (k',d) :: r,k=>match Nat.beq k' k with
  | true=>some d
  | false=>tw r k
mutual
def EI (σ:dn) (F:List Nat) (f:Nat→Option Nat) (fj:zL):Wd→AV→Option (List Prop×AV)
 | .ah,x=>some ([],x.jV f)
 | .sl n g,.sl n0 g0=>some ([n0=n,∀ i,i < n→g i=g0 i],.sl n g)
 | .sl n g,.os k off len=>match Pf F k,ar σ k with
  | true,some o=>match o.pr with
   | true=>some ([len=n,off+len≤o.len,∀ i,i < n→g i=o.get (bu off i)],.sl n g)
   | false=>none
  | _,_=>none
 | .sl n g,.nil=>some ([n=0],.sl n g)
 | .kD n,.os k off len=>(f k).map fun k'=>([len=n],.os k' off n)
 | .oK k',.nil=>match tw fj k' with
  | some (.nil _ _)=>some ([],.os k' 0 0)
  | some (.To _)=>some ([],.os k' 0 0)
  | _=>none
 | .pt b cs,.rp V7 off=>match off with
  | 0=>some ([b=true,cs=V7],.pt b cs)
  | _+1=>none
 | .pt b cs,.atom v=>match v with
  | .pointer none=>some ([b=false],.pt b cs)
  | _=>none
 | .pt b cs,.pt b0 V7=>some ([b=b0,b0=true→cs=V7],.pt b cs)
 | .nq st d,.nq Xs y=>match y with
  | .nq _ _=>none
  | y=>(EI σ F f fj d y).map fun (p,z)=>((Xs=st) :: p,.nq st z)
 | .nq st d,.nil=>(EI σ F f fj d .nil).map fun (p,z)=>((st≠some false) :: p,.nq st z)
 | .nq st d,y=>(EI σ F f fj d y).map fun (p,z)=>((st=none) :: p,.nq st z)
 | .unq d,.nq _ y=>EI σ F f fj d y
 | .agg ds,.agg cs=>(RI σ F f fj ds cs).map fun (p,c)=>(p,.agg c)
 | .tup ds,.tup cs=>(RI σ F f fj ds cs).map fun (p,c)=>(p,.tup c)
 | _,_=>none
def RI (σ:dn) (F:List Nat) (f:Nat→Option Nat) (fj:zL):List Wd→List AV→Option (List Prop×List AV)
 | [],[]=>some ([],[])
 | d :: ds,c :: cs=>match EI σ F f fj d c,RI σ F f fj ds cs with
  | some (p,x),some (q,xs)=>some (p ++ q,x :: xs)
  | _,_=>none
 | _,_=>none
end
def vD (σ:dn) (F:List Nat) (f:Nat→Option Nat) (fj:zL):Od→Option (List Prop×Ob)
 | .ah k=>(ar σ k).map fun o=>([],o.jV f)
 | .arr k n g=>match ar σ k with
  | some o=>match o.pr && !o.var && Nat.ble 1 o.sz with
   | true=>some ([o.len=n,∀ i,i < n→g i=o.get i],⟨o.var,o.sz,n,true,g⟩)
   | false=>none
  | none=>none
 | .Po k n g=>match ar σ k with
  | some o=>match o.pr && !o.var && Nat.ble 1 o.sz with
   | true=>some ([n≤o.len,∀ i,i < n→IQ (o.get i) (g i)],⟨o.var,o.sz,n,true,g⟩)
   | false=>none
  | none=>none
 | .var k ds=>match ar σ k with
  | some o=>match o.var && Nat.beq o.len 1 && Nat.ble 1 o.sz,RI σ F f fj ds (o.get 0) with
   | true,some (p,cs)=>some (p,⟨true,o.sz,1,AV.lz cs,fun _=>cs⟩)
   | _,_=>none
  | none=>none
 | .mp k cs=>match ar σ k with
  | some o=>match Nat.beq o.sz 0 && o.pr && Nat.beq o.len 0 with
   | true=>some ([cs=o.get 0],⟨o.var,o.sz,o.len,true,fun _=>cs⟩)
   | false=>none
  | none=>none
 | .pT k n l b=>match ar σ k,Pp f l with
  | some o,some l'=>match !o.var && Nat.ble 1 o.sz with
   | true=>some ([o.len=n,∀ i,i < n→aQ l b i=o.get i,∀ i,i < n→Ei (b i)=true],⟨false,o.sz,n,false,aQ l' b⟩)
   | false=>none
  | _,_=>none
 | .To g=>some ([],⟨false,1,0,false,g⟩)
 | .nil sz g=>match Nat.ble 1 sz with
  | true=>some ([],⟨false,sz,0,true,g⟩)
  | false=>none
def Ju (σ:dn) (F:List Nat) (f:Nat→Option Nat) (fj:zL) (tm:List (Nat×AV)):List (Nat×Wd)→Option (List Prop×List (Nat×AV))
 | []=>some ([],[])
 | (t,d) :: r=>match EI σ F f fj d (dI tm t),Ju σ F f fj tm r with
  | some (p,x),some (q,l)=>some (p ++ q,(t,x) :: l)
  | _,_=>none
def Jv (σ:dn) (F:List Nat) (f:Nat→Option Nat) (fj:zL):zL→Option (List Prop×dn)
 | []=>some ([],[])
 | (k,d) :: r=>match vD σ F f fj d,Jv σ F f fj r with
  | some (p,o),some (q,l)=>some (p ++ q,(k,o) :: l)
  | _,_=>none
def HU (m0 nk:Nat) (F:List Nat) (fj:zL):Bool :=
 mg (fj.map (·.1)) && mg (fj.filterMap (·.2.wG)) && (fj.all fun x=>Nat.blt x.1 nk && match x.2.wG with
  | some k=>!Pf F k && (match Nat.blt k m0 with
   | true=>Nat.beq x.1 k || Nat.ble m0 x.1
   | false=>Nat.ble m0 x.1)
  | none=>Nat.ble m0 x.1) && Nat.ble m0 nk
def F9 (m0:Nat) (st:St) (F:List Nat) (xc:List (Nat×Wd)) (fj:zL) (nk:Nat):Option (List Prop×St) :=
 match HU m0 nk F fj,Ju st.mJ F (tv m0 fj) fj st.tm xc,Jv st.mJ F (tv m0 fj) fj fj with
 | true,some (p,tm),some (q,σ)=>some (p ++ q,⟨tm,σ,nk⟩)
 | _,_,_=>none
def Ga (m0:Nat) (μ:Mu) (fj:zL):Mu:=fun k =>
 if k < m0 then μ k else match tw fj k with
  | some (.nil sz _)=>some ⟨0,0,sz⟩
  | some (.To _)=>some ⟨0,0,1⟩
  | some d=>d.wG.bind μ
  | none=>none
section
variable {P:Program} {E:Env} {σ:dn} {S:Nat→Prop} {μ:Mu} {w:World} {m0 nk:Nat} {F:List Nat} {fj:zL}
theorem yy:∀ {fj:zL} {k:Nat} {d:Od},tw fj k=some d→(k,d)∈fj
 | [],k,d,h=>by simp [tw] at h
 | (k',d') :: r,k,d,h=>by
  simp only [tw] at h
  split at h
  ·simp_all
  ·exact List.mem_cons_of_mem _ (yy h)
theorem qz:∀ {fj:zL} {k:Nat} {d:Od},mg (fj.map (·.1))=true→(k,d)∈fj→tw fj k=some d
 | [],k,d,_,h=>by simp at h
 | (k',d') :: r,k,d,hn,h=>by
  simp only [List.map_cons,mg,bc] at hn
  simp only [tw]
  rcases kz.1 h with h | h
  ·cases h;rw [rm rfl]
  ·have fP:¬ k'=k:=by
    rintro rfl
    have OH:idx (r.map (·.1)) k'=none:=by simpa using hn.1
    obtain ⟨i,hi⟩:=List.getElem?_of_mem (List.mem_map.2 ⟨_,h,rfl⟩:k'∈r.map (·.1))
    exact lX _ _ OH i hi
   rw [oH fP]
   exact qz hn.2 h
theorem EJ:∀ {fj:zL} {k k':Nat},tv m0 fj k=some k'→(∃ d,(k',d)∈fj∧d.wG=some k)∨(k < m0∧k'=k)
 | [],k,k',h=>by
  simp only [tv] at h
  split at h
  ·simp_all
  ·cases h
 | (q,d) :: r,k,k',h=>by
  simp only [tv] at h
  have step:tv m0 r k=some k'→(∃ d',(k',d')∈(q,d) :: r∧d'.wG=some k)∨(k < m0∧k'=k):=fun h'=>by
   rcases EJ h' with ⟨d',h1,h2⟩ | h1
   ·grind
   ·exact .inr h1
  split at h
  ·rename_i o ho
   split at h
   ·rename_i hb
    cases h
    exact .inl ⟨d,by simp,by rw [ho,bK hb]⟩
   ·exact step h
  ·exact step h
structure Names (m0 nk:Nat) (F:List Nat) (fj:zL):Prop where
 nd:mg (fj.map (·.1))=true
 od:mg (fj.filterMap (·.2.wG))=true
 lt:∀ k d,(k,d)∈fj→k < nk
 fr:∀ k d q,(k,d)∈fj→d.wG=some q→q ∉ F
 lo:∀ k d q,(k,d)∈fj→d.wG=some q→q < m0→k=q∨m0≤k
 hi:∀ k d q,(k,d)∈fj→d.wG=some q→m0≤q→m0≤k
 no:∀ k d,(k,d)∈fj→d.wG=none→m0≤k
 m0:m0≤nk
theorem Pq (h:HU m0 nk F fj=true):Names m0 nk F fj:=by
 unfold HU at h
 simp only [bc,Nat.ble_eq] at h
 obtain ⟨⟨⟨h1,h2⟩,h3⟩,h4⟩:=h
 have h3:=fun k d (hm:(k,d)∈fj)=>List.all_eq_true.1 h3 (k,d) hm
 simp only [bc] at h3
 refine ⟨h1,h2,fun k d hm=>Ph (h3 k d hm).1,?_,?_,?_,?_,h4⟩
 ·intro k d q hm hq hF
  have:=(h3 k d hm).2
  rw [hq] at this
  simp only [bc,Bool.not_eq_true'] at this
  grind [EB]
 ·intro k d q hm hq gk
  have:=(h3 k d hm).2
  simp_all [bc,Pg,Bool.or_eq_true_iff,bK,Nat.le_of_ble_eq_true]
 ·intro k d q hm hq Yh
  have:=(h3 k d hm).2
  simp_all [bc,CN,Nat.ble_eq]
 ·intro k d hm hq
  have:=(h3 k d hm).2
  rw [hq] at this
  simpa only [Nat.ble_eq] using this
theorem DQ (N:Names m0 nk F fj) {k k':Nat} {pl:Place} (h:tv m0 fj k=some k') (hm:μ k=some pl):Ga m0 μ fj k'=some pl:=by
 rcases EJ h with ⟨d,h1,h2⟩ | ⟨h1,rfl⟩
 ·unfold Ga
  by_cases gk:k < m0
  ·rcases N.lo k' d k h1 h2 gk with h | h
   ·simp_all
   ·rw [if_neg (by omega),qz N.nd h1]
    grind [Od.wG]
  ·have:=N.hi k' d k h1 h2 (by omega)
   rw [if_neg (by omega),qz N.nd h1]
   grind [Od.wG]
 simp_all [Ga,if_pos]
theorem zM (N:Names m0 nk F fj) {k k':Nat} {d:Od} (h:(k',d)∈fj) (ho:d.wG=some k):Ga m0 μ fj k'=μ k:=by
 unfold Ga
 by_cases gk:k < m0
 ·rcases N.lo k' d k h ho gk with h1 | h1
  ·simp_all
  ·rw [if_neg (by omega),qz N.nd h]
   grind [Od.wG]
 ·have:=N.hi k' d k h ho (by omega)
  rw [if_neg (by omega),qz N.nd h]
  grind [Od.wG]
theorem L6 (N:Names m0 nk F fj) {k':Nat} {g:Nat→List AV} (h:(k',Od.To g)∈fj):Ga m0 μ fj k'=some ⟨0,0,1⟩:=by
 have:=N.no k' _ h rfl
 unfold Ga
 rw [if_neg (by omega),qz N.nd h]
theorem L7 (N:Names m0 nk F fj) {k' sz:Nat} {g:Nat→List AV} (h:(k',Od.nil sz g)∈fj):Ga m0 μ fj k'=some ⟨0,0,sz⟩:=by
 have:=N.no k' _ h rfl
 unfold Ga
 rw [if_neg (by omega),qz N.nd h]
theorem L8 (g:Good E σ S μ w) (N:Names m0 nk F fj):∀ (d:Wd) (x:AV) (v:Value) (ps:List Prop) (y:AV),ao w S μ v x→EI σ F (tv m0 fj) fj d x=some (ps,y)→bg ps →
  ao w (SF μ F σ S) (Ga m0 μ fj) v y:=by
 have mono:∀ {v:Value} {x:AV} {da:Mu},ao w S da v x→ao w (SF μ F σ S) da v x:=fun h=>h.mono (fun _ h=>.inl h) (fun _ _=>rfl) (fun _ _ h=>h)
 intro d
 induction d using Wd.rec (motive_2:=fun ds=>∀ (cs:List AV) (ps:List Prop) (ys:List AV),RI σ F (tv m0 fj) fj ds cs=some (ps,ys)→bg ps →
   cs.length=ys.length∧∀ (j:Nat) c y v,cs[j]?=some c→ys[j]?=some y→ao w S μ v c→ao w (SF μ F σ S) (Ga m0 μ fj) v y) with
 | ah =>
  intro x v ps y h hw hp
  simp only [EI,aA,az] at hw
  obtain ⟨rfl,rfl⟩:=hw
  exact (mono h).jV fun k k' pl hk hm=>DQ N hk hm
 | sl n gt =>
  intro x v ps y h hw hp
  cases x<;>simp only [EI] at hw<;>try (cases hw;done)
  case sl n0 g0 =>
   simp only [aA,az] at hw
   obtain ⟨rfl,rfl⟩:=hw
   obtain ⟨rfl,p2,_⟩:=hp
   cases h with
   | sl b off sz f h1 h2 h3 h4 h5 =>
    exact .sl b off sz f (fun hl=>⟨(h1 hl).1,.inl (h1 hl).2⟩) (fun i hi=>by simp_all) h3 (fun i j c hi hc=>mono (h4 i j c hi (by simp_all))) h5
  case os k off len =>
   split at hw
   ·rename_i o hF ho
    split at hw
    ·rename_i Kn
     simp only [aA,az] at hw
     obtain ⟨rfl,rfl⟩:=hw
     obtain ⟨rfl,p2,p3,_⟩:=hp
     obtain ⟨pl,c,T,hm,cY⟩:=g.rep.ob k o ho
     cases h with
     | os jQ gF h1 h2 h3 =>
      rename_i cap a
      rw [hm] at gF;cases gF
      refine .sl pl.cy (off * pl.sz) o.sz (fun i j=>(c[(off+i) * o.sz+j]?).getD undef) ?_ (fun i hi=>by rw [p3 i hi,dg];exact cY.s8 _ (by omega)) ?_ ?_ h2
      ·intro hl
       exact ⟨h1 (by omega),.inr ⟨k,o,pl,EB.1 hF,ho,hm,by omega,rfl⟩⟩
      ·intro i j hi hj
       obtain ⟨v,q1,q2⟩:=cM cY (i:=off+i) (by omega) hj
       rw [q1,cY.sz,← cr,q2];rfl
      ·intro i j c' hi oe
       rw [p3 i hi,dg] at oe
       obtain ⟨v,q1,q2⟩:=cM cY (i:=off+i) (by omega) (by have:=(dD.1 oe).1;rwa [cY.s8 _ (by omega)] at this)
       rw [q1]
       have:=cY.rep _ j c' v (by omega) oe q1
       simp_all
    ·cases hw
   ·cases hw
  case nil =>
   simp only [aA,az] at hw
   obtain ⟨rfl,rfl⟩:=hw
   obtain ⟨rfl,_⟩:=hp
   cases h
   exact .sl 0 0 0 (fun _ _=>undef) (fun h=>absurd h (by omega)) (fun i h=>absurd h (by omega)) (fun i j h=>absurd h (by omega)) (fun i j c h=>absurd h (by omega)) (aF _)
 | kD n =>
  intro x v ps y h hw hp
  cases x<;>simp only [EI] at hw<;>try (cases hw;done)
  case os k off len =>
   simp only [aG,az] at hw
   obtain ⟨k',nL,rfl,rfl⟩:=hw
   obtain ⟨rfl,_⟩:=hp
   cases h with
   | os pl hm h1 h2 h3=>exact .os pl (DQ N nL hm) h1 h2 h3
 | oK k' =>
  intro x v ps y h hw hp
  cases x<;>simp only [EI] at hw<;>try (cases hw;done)
  case nil =>
   split at hw
   ·rename_i sz gt RJ
    simp only [aA,az] at hw
    obtain ⟨rfl,rfl⟩:=hw
    cases h
    exact .os ⟨0,0,sz⟩ (L7 N (yy RJ)) (fun h=>absurd h (by omega)) (aF _) (by simp)
   ·rename_i gt RJ
    simp only [aA,az] at hw
    obtain ⟨rfl,rfl⟩:=hw
    cases h
    exact .os ⟨0,0,1⟩ (L6 N (yy RJ)) (fun h=>absurd h (by omega)) (aF _) (by simp)
   ·cases hw
 | pt b cs =>
  intro x v ps y h hw hp
  have other:∀ {b:Bool} {cs:List AV} {v:Value},ao w S μ v (.pt b cs)→ao w (SF μ F σ S) (Ga m0 μ fj) v (.pt b cs):=fun h=>(mono h).pure rfl _
  cases x<;>simp only [EI] at hw<;>try (cases hw;done)
  case rp V7 off =>
   split at hw
   ·simp only [aA,az] at hw
    obtain ⟨rfl,rfl⟩:=hw
    obtain ⟨rfl,rfl,_⟩:=hp
    exact other (.pt (fun _=>h) (fun h=>by cases h))
   ·cases hw
  case atom v0 =>
   split at hw
   ·simp only [aA,az] at hw
    obtain ⟨rfl,rfl⟩:=hw
    obtain ⟨rfl,_⟩:=hp
    exact other (.pt (fun h=>by cases h) (fun _=>cX h))
   ·cases hw
  case pt b0 V7 =>
   simp only [aA,az] at hw
   obtain ⟨rfl,rfl⟩:=hw
   obtain ⟨rfl,TO,_⟩:=hp
   cases h with
   | pt h1 h2=>exact other (.pt (fun hb=>by rw [TO hb];exact h1 hb) h2)
 | nq st d ih =>
  intro x v ps y h hw hp
  have fin:∀ {x0:AV} {p:List Prop} {z:AV},ao w S μ v x0→EI σ F (tv m0 fj) fj d x0=some (p,z)→bg p→(st=some true→v=.slice none 0 0)→(st=some false→Oa v=false)→ao w (SF μ F σ S) (Ga m0 μ fj) v (.nq st z) :=
   fun h0 h1 h2 h3 h4=>.nq (ih _ _ _ _ h0 h1 h2) h3 h4
  cases x with
  | nq Xs y0 =>
   have X7:∃ p z,EI σ F (tv m0 fj) fj d y0=some (p,z)∧ps=(Xs=st) :: p∧y=.nq st z:=by
    cases y0<;>simp only [EI,aG,az] at hw<;>grind
   obtain ⟨p,z,e1,rfl,rfl⟩:=X7
   obtain ⟨rfl,wM⟩:=hp
   cases h with
   | nq h0 h1 h2=>exact fin h0 e1 wM h1 h2
  | nil =>
   simp only [EI,aG,az] at hw
   obtain ⟨⟨p,z⟩,e1,rfl,rfl⟩:=hw
   obtain ⟨fP,wM⟩:=hp
   cases h
   exact fin .nil e1 wM (fun _=>rfl) (fun e=>absurd e fP)
  | _ =>
   simp only [EI,aG,az] at hw
   obtain ⟨⟨p,z⟩,e1,rfl,rfl⟩:=hw
   obtain ⟨rfl,wM⟩:=hp
   grind
 | unq d ih =>
  intro x v ps y h hw hp
  cases x with
  | nq Xs y0 =>
   simp only [EI] at hw
   cases h with
   | nq h0 _ _=>exact ih _ _ _ _ h0 hw hp
  | _=>grind [EI]
 | agg ds ih =>
  intro x v ps y h hw hp
  cases x<;>simp only [EI] at hw<;>try (cases hw;done)
  case agg cs =>
   simp only [aG,az] at hw
   obtain ⟨⟨p,c⟩,h1,rfl,rfl⟩:=hw
   obtain ⟨q1,q2⟩:=ih cs p c h1 hp
   cases h with
   | agg h2 h3 =>
    refine .agg (h2.trans q1) fun j y v hy hv=>?_
    have gk:j < cs.length:=by rw [q1];exact (dD.1 hy).1
    exact q2 j _ y v (o6 gk) hy (h3 j _ v (o6 gk) hv)
 | tup ds ih =>
  intro x v ps y h hw hp
  cases x<;>simp only [EI] at hw<;>try (cases hw;done)
  case tup cs =>
   simp only [aG,az] at hw
   obtain ⟨⟨p,c⟩,h1,rfl,rfl⟩:=hw
   obtain ⟨q1,q2⟩:=ih cs p c h1 hp
   cases h with
   | tup h2 h3 =>
    refine .tup (h2.trans q1) fun j y v hy hv=>?_
    have gk:j < cs.length:=by rw [q1];exact (dD.1 hy).1
    exact q2 j _ y v (o6 gk) hy (h3 j _ v (o6 gk) hv)
 | nil =>
  rename_i cs ps ys h hp
  cases cs with
  | nil=>simp [RI] at h;obtain ⟨_,rfl⟩:=h;exact ⟨rfl,fun j c y v hc=>by simp at hc⟩
  | cons=>simp [RI] at h
 | cons d ds MQ MR =>
  rename_i cs ps ys h hp
  cases cs with
  | nil=>simp [RI] at h
  | cons c cs =>
   simp only [RI] at h
   split at h
   ·rename_i p x q xs e1 e2
    simp only [aA,az] at h
    obtain ⟨rfl,rfl⟩:=h
    obtain ⟨xa,wM⟩:=bg.app hp
    obtain ⟨r1,r2⟩:=MR cs q xs e2 wM
    refine ⟨by simp [r1],?_⟩
    intro j c' y v hc hy hr
    cases j with
    | zero=>simp at hc hy;subst hc hy;exact MQ c v p x hr e1 xa
    | succ j=>exact r2 j c' y v (by simpa using hc) (by simpa using hy) hr
   ·cases h
end
end Go.Ab
