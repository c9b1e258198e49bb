/- Abstract values over the heap of the machine, and functions read off its code (part 3). No conditions. -/
import Derived.Test.YtdigjibahkjfdaaGreatCb
import Derived.OrdersIn
import Derived.RangeFuncSeq
set_option linter.unusedVariables false
set_option linter.unusedSimpArgs false
namespace Go.Ab
def cJ:List (Nat×AV)→Nat→AV
 | [],_=>.mV
 | (k,x) :: r,n=>match Nat.beq k n with
  | true=>x
  | false=>cJ r n
def xH (tm:List (Nat×AV)):Operand→AV
 | .tmp t=>cJ tm t
 | .const v=>ofConst v
 | .global g=>.atom (.pointer (some ⟨g,0,none⟩))
 | .func f=>.fn (.func f) [] []
def conds (e:Operand→AV):List Operand→List Prop
 | []=>[]
 | x :: r=>(e x).strip.2 ++ conds e r
def Rd (b:Bool):List Prop→List Prop
 | []=>[]
 | p :: ps=>[b=true→aW (p :: ps)]
def Re (mx:Bool) (x y:AV):Option AV :=
 match x,y with
 | .atom (.int k a),.atom (.int k' b)=>match decide (k=k') with
  | true=>some (.atom (.int k (match mx with
   | true=>if b > a then b else a
   | false=>if b < a then b else a)))
  | false=>none
 | _,_=>none
def CT (mx:Bool):AV→List AV→Option AV
 | a,[]=>some a
 | a,b :: r=>match Re mx a b with
  | some v=>CT mx v r
  | none=>none
def sK (ps:List Prop) (x:Option AV):Option R:=x.map fun v=>⟨ps,v,[],[]⟩
def Xp (l:List Nat) (k:Nat):Bool:=l.any fun x=>Nat.beq x k
def zC (P:Program) (nk:Nat) (σ:du) (e:Operand→AV) (b:Builtin) (args:List Operand) (FH:List TypeId):Option R :=
 let s:=fun x=>(e x).strip.1
 let c:=fun xs=>conds e xs
 match b,args,FH with
 | .len,[x],[t]=>sK (c [x]) (QT P t (s x))
 | .append,[x,y],[t,t']=>match Nat.beq t t' with
  | true=>(q9 P nk σ t (s x) (s y)).map fun (ps,v,rd,u)=>⟨c [x,y] ++ ps,v,rd,u⟩
  | false=>none
 | .min,x :: r,_=>sK (c (x :: r)) (CT false (s x) (r.map s))
 | .max,x :: r,_=>sK (c (x :: r)) (CT true (s x) (r.map s))
 | _,_,_=>none
def dX (P:Program) (nk:Nat) (σ:du) (op:Op) (e:Operand→AV) (orc:Option lZ):Option R :=
 let s:=fun x=>(e x).strip.1
 let c:=fun xs=>conds e xs
 match op with
 | .move x | .assign x=>some ⟨[],e x,[],[]⟩
 | .pick q a b=>match s q,s a,s b with
  | .atom (.bool qb),.atom (.bool x),.atom (.bool y) =>
   some ⟨(e q).strip.2 ++ (Rd qb (e a).strip.2 ++ Rd (!qb) (e b).strip.2),.atom (.bool (cond qb x y)),[],[]⟩
  | _,_,_=>none
 | .alloc T=>(Jf P nk T).map fun (v,u)=>⟨[],v,[],u⟩
 | .box _ x=>(QL nk (s x)).map fun (v,u)=>⟨c [x],v,[],u⟩
 | .build t parts=>sK (c (parts.toList.map (·.2))) (Jg P t (parts.toList.map fun (i,x)=>(i,s x)))
 | .buildSlice t len parts=>match Nat.beq len 0 && !parts.toList.isEmpty with
  | true=>none
  | false=>(wU P nk t len (parts.toList.map fun (i,x)=>(i,s x))).map fun (v,u)=>⟨c (parts.toList.map (·.2)),v,[],u⟩
 | .load T a=>(ym P σ T (s a)).map fun (ps,v,rd)=>⟨c [a] ++ ps,v,rd,[]⟩
 | .store T a x=>(zt P σ T (s a) (s x)).map fun (ps,u,rd)=>⟨c [a,x] ++ ps,.mV,rd,u⟩
 | .nilCheck x=>match s x with
  | .op k i j=>some ⟨c [x],.op k i j,[],[]⟩
  | .rp cs j=>some ⟨c [x],.rp cs j,[],[]⟩
  | .pt b cs=>some ⟨c [x] ++ [b=true],.rp cs 0,[],[]⟩
  | _=>none
 | .binOp o t x y _=>(QJ P o t (s x) (s y)).map fun (ps,v)=>⟨c [x,y] ++ ps,v,[],[]⟩
 | .unOp o _ x=>sK (c [x]) (Xa o (s x))
 | .convert src dst x=>match Mo P src dst (s x) with
  | some v=>some ⟨c [x],v,[],[]⟩
  | none=>(zx P σ src dst (s x)).map fun (ps,v,rd)=>⟨c [x] ++ ps,v,rd,[]⟩
 | .makeMap _ none=>some ⟨[],.mp nk,[],[(nk,some ⟨false,0,0,true,fun _=>[]⟩)]⟩
 | .lookup t m x ok=>match orc with
  | some o=>(vI P σ t (s m) (s x) ok o).map fun (ps,v,rd)=>⟨c [m,x] ++ ps,v,rd,[]⟩
  | none=>none
 | .mapUpdate t m x y | .insert t m x y=>match orc with
  | some o=>(vJ P σ t (s m) (s x) (s y) o).map fun (ps,u,rd)=>⟨c [m,x,y] ++ ps,.mV,rd,u⟩
  | none=>none
 | .makeFunc f first cap=>some ⟨c (first.toList ++ cap.toList),.fn f (first.toList.map s) (cap.toList.map s),[],[]⟩
 | .makeSlice t l m=>(Mt P nk t (s l) (s m)).map fun (ps,v,u)=>⟨c [l,m] ++ ps,v,[],u⟩
 | .slice t x lo hi none=>(zu P σ t (s x) (lo.map s) (hi.map s)).map fun (ps,v,rd)=>⟨c (x :: (lo.toList ++ hi.toList)) ++ ps,v,rd,[]⟩
 | .fieldAddr T x f=>sK (c [x]) (yp P T (s x) f)
 | .field T x f=>sK (c [x]) (Jj P T (s x) f)
 | .indexAddr T x i=>(pj P σ T (s x) (s i)).map fun (ps,v,rd)=>⟨c [x,i] ++ ps,v,rd,[]⟩
 | .index T x i=>(Jl P T (s x) (s i)).map fun (ps,v)=>⟨c [x,i] ++ ps,v,[],[]⟩
 | .extract x i=>match s x with
  | .tup cs=>sK (c [x]) cs[i]?
  | _=>none
 | .call ⟨.value f,args,_⟩=>match orc with
  | some o=>(FB P nk σ (s f) (args.toList.map s) o).map fun r=>{ r with HA:=r.HA ++ c (f :: args.toList) }
  | none=>none
 | .call ⟨.builtin b,args,FH⟩=>zC P nk σ e b args.toList FH.toList
 | _=>none
section
variable {P:Program} {E:Env} {nk:Nat} {σ:du} {S:Nat→Prop} {μ:Mu} {w:World}
theorem zD {e:Operand→AV}:∀ {xs:List Operand},aW (conds e xs)→∀ x∈xs,aW (e x).strip.2
 | [],_,x,hx=>by simp at hx
 | y :: r,h,x,hx=>by
  obtain ⟨h1,h2⟩:=aW.app h
  rcases jw.1 hx with rfl | hx
  ·exact h1
  ·exact zD h2 x hx
theorem Ix {b:Bool} {ps:List Prop} (h:aW (Rd b ps)) (hb:b=true):aW ps:=by
 cases ps with
 | nil=>trivial
 | cons p ps=>exact h.1 hb
theorem MG {mx:Bool} {ρ:Operand→Value} {e:Operand→AV}:∀ (l:List Operand) (va:Value) (a r:AV),aq w S μ va a→(∀ x∈l,aq w S μ (ρ x) ((e x).strip.1)) →
  CT mx a (l.map fun x=>(e x).strip.1)=some r→∃ z,((l.map ρ).foldlM (match mx with | true=>Builtin.max2 | false=>Builtin.min2) va:Sem Value).run P w=.ok z w∧aq w S μ z r
 | [],va,a,r,ha,_,h=>by
  simp only [List.map_nil,CT,az] at h
  subst h
  exact ⟨va,rfl,ha⟩
 | x :: l,va,a,r,ha,hl,h=>by
  simp only [List.map_cons,CT] at h
  split at h
  ·rename_i v hv
   have hx:=hl x (by simp)
   obtain ⟨u,h1,h2⟩:∃ u,((match mx with | true=>Builtin.max2 | false=>Builtin.min2) va (ρ x):Sem Value).run P w=.ok u w∧aq w S μ u v:=by
    unfold Re at hv
    split at hv
    ·rename_i k p k' q hp hq
     rw [hq] at hx
     have e2:=db hx
     have e1:=db ha
     split at hv
     ·cases hv
      cases mx with
      | true=>exact ⟨_,by simp [e1,e2,Builtin.max2],.atom _⟩
      | false=>exact ⟨_,by simp [e1,e2,Builtin.min2],.atom _⟩
     ·cases hv
    ·cases hv
   obtain ⟨z,h3,h4⟩:=MG l u v r h2 (fun y hy=>hl y (by simp [hy])) h
   refine ⟨z,?_,h4⟩
   rw [List.map_cons,List.foldlM_cons]
   simp only [bH,h1,cN]
   exact h3
  ·cases h
theorem UE {v:Value} {b:Bool} {cs:List AV} (h:aq w S μ v (.pt b cs)) (hb:b=true):aq w S μ v (.rp cs 0):=by
 cases h with
 | pt h1 _=>exact h1 hb
def Rf (E:Env) (nk:Nat) (σ:du) (S:Nat→Prop) (μ:Mu) (w:World) (r:R) (K:Value→World→Prop):Prop :=
 ∀ v w' S' cD,Ext w S μ w' S' cD→Good E (eX σ r.upd) S' cD w'→(∀ k,(k < nk∨nk+16≤k)→μ k=none→cD k=none)→aq w' S' cD v r.val→K v w'
theorem Iy {ρ:Operand→Value} {e:Operand→AV} {parts:Array (Nat×Operand)} (he:∀ x∈(parts.toList.map (·.2)),aq w S μ (ρ x) ((e x).strip.1)) :
  (parts.map fun (i,x)=>(i,ρ x)).toList.map (·.1)=(parts.toList.map fun (i,x)=>(i,(e x).strip.1)).map (·.1) ∧
  ∀ (j:Nat) x y,(parts.toList.map fun (i,x)=>(i,(e x).strip.1))[j]?=some x→(parts.map fun (i,x)=>(i,ρ x)).toList[j]?=some y→aq w S μ y.2 x.2:=by
 refine ⟨by simp [List.map_map,Function.comp_def],?_⟩
 intro j x y hx hy
 simp only [Array.toList_map,List.getElem?_map,aJ] at hx hy
 obtain ⟨p,hp,rfl⟩:=hx
 obtain ⟨q,hq,rfl⟩:=hy
 rw [hp] at hq;cases hq
 exact he _ (List.mem_map.2 ⟨p,List.mem_of_getElem? hp,rfl⟩)
theorem FI {ρ:Operand→Value} {e:Operand→AV} {xs:Array Operand} (he:∀ x∈xs.toList,aq w S μ (ρ x) ((e x).strip.1)) :
  RL w S μ (xs.map ρ) (xs.toList.map fun x=>(e x).strip.1):=by
 refine ⟨by simp,?_⟩
 intro j c v hc hv
 simp only [List.getElem?_map,Array.getElem?_map,aJ] at hc hv
 obtain ⟨p,hp,rfl⟩:=hc
 obtain ⟨q,hq,rfl⟩:=hv
 have:xs.toList[j]?=some q:=by simpa using hq
 rw [hp] at this;cases this
 exact he p (List.mem_of_getElem? hp)
theorem KX {o:Oper} {a:Act} {e:Operand→AV} {orc:Option lZ} {r:R} {next:Act→World→Prop} {Q:Exit→Act→World→Prop}
  (he:∀ x∈o.op.operands.toList,aq w S μ (a.eval x) (e x)) (g:Good E σ S μ w) (Ad:∀ j,j < 16→μ (nk+j)=none) (hm:E.m0≤nk)
  (hz:∀ x,orc=some x→x.wY=true→∀ b,¬ E.fp b) (h:dX P nk σ o.op e orc=some r) (hp:aW r.HA) (hK:Rf E nk σ S μ w r fun v w'=>next (a.put o.dst v) w'):o.wp P a w next Q:=by
 have hk:μ nk=none:=Ad 0 (by omega)
 -- a value without a change
 have pv:∀ (s:Sem Value),execOp a.eval o=(do pure (.value (← s)):Sem Next)→r.upd=[]→(∃ v,s.run P w=.ok v w∧aq w S μ v r.val)→o.wp P a w next Q:=by
  rintro s hs hu ⟨v,h1,h2⟩
  unfold Oper.wp
  rw [hs]
  simp only [bH,h1,cN,Sem.run_pure]
  exact hK v w S μ (Ext.refl _ _ _) (by rw [hu];exact g) (fun _ _ h=>h) h2
 have YP:∀ (v:Value),execOp a.eval o=pure (.value v)→r.upd=[]→aq w S μ v r.val→o.wp P a w next Q:=by
  intro v hs hu h2
  unfold Oper.wp
  rw [hs]
  exact hK v w S μ (Ext.refl _ _ _) (by rw [hu];exact g) (fun _ _ h=>h) h2
 have sv:∀ (s:Sem Value),execOp a.eval o=(do pure (.value (← s)):Sem Next)→Step P E nk σ S μ w s r.val r.upd→o.wp P a w next Q:=by
  rintro s hs ⟨v,w',S',cD,h1,h2,h3,h4,h5⟩
  unfold Oper.wp
  rw [hs]
  simp only [bH,h1,cN,Sem.run_pure]
  exact hK v w' S' cD h2 h3 (fun k lj=>h4 k (by omega)) h5
 have st:∀ (xs:List Operand),aW (conds e xs)→(∀ x∈xs,x∈o.op.operands.toList)→∀ x∈xs,aq w S μ (a.eval x) ((e x).strip.1) :=
  fun xs h1 h2 x hx=>(he x (h2 x hx)).strip (zD h1 x hx)
 obtain ⟨dst,op,ty,pos,after,guard⟩:=o
 simp only at he h hK pv YP sv st ⊢
 cases op with
 | move x =>
  simp only [dX,az] at h;subst h
  exact YP (a.eval x) rfl rfl (he x (by simp [Op.operands]))
 | assign x =>
  simp only [dX,az] at h;subst h
  exact YP (a.eval x) rfl rfl (he x (by simp [Op.operands]))
 | pick q x y =>
  simp only [dX] at h
  split at h
  ·rename_i qb xb yb hq hx hy
   cases h
   obtain ⟨p1,p2⟩:=aW.app hp
   obtain ⟨p2,p3⟩:=aW.app p2
   have e1:=(he q (by simp [Op.operands])).strip p1
   rw [hq] at e1
   have e1:=db e1
   refine pv (do pure (if ← asBool (a.eval q) then a.eval x else a.eval y)) (by simp [execOp]) rfl ?_
   cases qb with
   | true =>
    have e2:=(he x (by simp [Op.operands])).strip (Ix p2 rfl)
    rw [hx] at e2
    exact ⟨a.eval x,by simp [e1,asBool],e2⟩
   | false =>
    have e2:=(he y (by simp [Op.operands])).strip (Ix p3 rfl)
    rw [hy] at e2
    exact ⟨a.eval y,by simp [e1,asBool],e2⟩
  ·cases h
 | alloc T =>
  simp only [dX,aJ] at h
  obtain ⟨⟨v,u⟩,h1,rfl⟩:=h
  exact sv _ rfl (QK g hk hm h1)
 | box T x =>
  simp only [dX,aJ] at h
  obtain ⟨⟨v,u⟩,h1,rfl⟩:=h
  exact sv _ rfl (Xb g hk hm (st [x] hp (by simp [Op.operands]) x (by simp)) h1)
 | build t parts =>
  simp only [dX,sK,aJ] at h
  obtain ⟨v,h1,rfl⟩:=h
  have DV:=Iy (st _ hp (by simp [Op.operands]))
  exact pv _ rfl rfl (QM DV.1 DV.2 h1)
 | buildSlice t len parts =>
  simp only [dX] at h
  split at h
  ·cases h
  ·rename_i KG
   simp only [aJ] at h
   obtain ⟨⟨v,u⟩,h1,rfl⟩:=h
   have DV:=Iy (st _ hp (by simp [Op.operands]))
   refine sv _ rfl (HE g hk hm DV.1 DV.2 h1 ?_)
   intro hz
   subst hz
   simp only [Bool.and_eq_false_iff] at KG
   rcases KG with h0 | h0
   ·simp at h0
   ·simp only [Bool.not_eq_false',List.isEmpty_iff] at h0
    simp [h0]
 | load T x =>
  simp only [dX,aJ] at h
  obtain ⟨⟨ps,v,rd⟩,h1,rfl⟩:=h
  obtain ⟨p1,p2⟩:=aW.app hp
  exact pv _ rfl rfl (Jh g (st [x] p1 (by simp [Op.operands]) x (by simp)) h1 p2)
 | store T x y =>
  simp only [dX,aJ] at h
  obtain ⟨⟨ps,u,rd⟩,h1,rfl⟩:=h
  obtain ⟨p1,p2⟩:=aW.app hp
  have s:=st [x,y] p1 (by simp [Op.operands])
  obtain ⟨w',r1,r2,r3⟩:=QP g (s x (by simp)) (s y (by simp)) h1 p2
  unfold Oper.wp
  have ex:execOp a.eval ⟨dst,.store T x y,ty,pos,after,guard⟩=(do Instr.storeAt T (a.eval x) (a.eval y);pure .skip:Sem Next):=rfl
  rw [ex]
  simp only [bH,r1,cN,Sem.run_pure]
  exact hK undef w' S μ r2 r3 (fun _ _ h=>h) .mV
 | nilCheck x =>
  simp only [dX] at h
  split at h
  ·rename_i k i j hx
   cases h
   have e1:=st [x] hp (by simp [Op.operands]) x (by simp)
   rw [hx] at e1
   cases hv:a.eval x with
   | pointer q =>
    rw [hv] at e1
    cases q with
    | none=>cases e1
    | some q=>exact YP (.pointer (some q)) (by simp [execOp,hv]) rfl e1
   | _=>rw [hv] at e1;cases e1
  ·rename_i cs j hx
   cases h
   have e1:=st [x] hp (by simp [Op.operands]) x (by simp)
   rw [hx] at e1
   cases hv:a.eval x with
   | pointer q =>
    rw [hv] at e1
    cases q with
    | none=>cases e1
    | some q=>exact YP (.pointer (some q)) (by simp [execOp,hv]) rfl e1
   | _=>rw [hv] at e1;cases e1
  ·rename_i b cs hx
   cases h
   obtain ⟨hp,hb,_⟩:=aW.app hp
   have e1:=st [x] hp (by simp [Op.operands]) x (by simp)
   rw [hx] at e1
   have e1:=UE e1 hb
   cases hv:a.eval x with
   | pointer q =>
    rw [hv] at e1
    cases q with
    | none=>cases e1
    | some q=>exact YP (.pointer (some q)) (by simp [execOp,hv]) rfl e1
   | _=>rw [hv] at e1;cases e1
  ·cases h
 | binOp o' t x y yt =>
  simp only [dX,aJ] at h
  obtain ⟨⟨ps,v⟩,h1,rfl⟩:=h
  obtain ⟨p1,p2⟩:=aW.app hp
  have s:=st [x,y] p1 (by simp [Op.operands])
  exact pv (do eqGuard o' t x y (a.eval x) (a.eval y);binOp o' t (a.eval x) (a.eval y)) rfl rfl (W9 (s x (by simp)) (s y (by simp)) h1 p2)
 | unOp o' t x =>
  simp only [dX,sK,aJ] at h
  obtain ⟨v,h1,rfl⟩:=h
  exact pv _ rfl rfl (Zg (st [x] hp (by simp [Op.operands]) x (by simp)) h1)
 | convert src dt x =>
  simp only [dX] at h
  split at h
  ·rename_i v h1
   cases h
   exact pv _ rfl rfl (Ue (st [x] hp (by simp [Op.operands]) x (by simp)) h1)
  ·simp only [aJ] at h
   obtain ⟨⟨ps,v,rd⟩,h1,rfl⟩:=h
   obtain ⟨p1,p2⟩:=aW.app hp
   exact sv _ rfl (Q7 g (st [x] p1 (by simp [Op.operands]) x (by simp)) h1 p2)
 | makeMap t hint =>
  cases hint with
  | some _=>simp [dX] at h
  | none =>
   simp only [dX,az] at h;subst h
   have ga:=g.allocMap hk hm
   refine sv (Instr.makeMap t none) rfl ⟨_,_,_,_,Go.RowKit.run_makeMap t w,ga.1,ga.2,fun k lj hn=>by rw [mZ _ lj];exact hn,?_⟩
   exact aq.mp (μ:=cm μ nk ⟨w.heap.size,1,0⟩) ⟨w.heap.size,1,0⟩ (by simp [cm])
 | lookup t m x ok =>
  simp only [dX] at h
  split at h
  ·simp only [aJ] at h
   obtain ⟨⟨ps,v,rd⟩,h1,rfl⟩:=h
   obtain ⟨p1,p2⟩:=aW.app hp
   have s:=st [m,x] p1 (by simp [Op.operands])
   exact pv _ rfl rfl (Pz g (s m (by simp)) (s x (by simp)) h1 p2)
  ·cases h
 | mapUpdate t m x y =>
  simp only [dX] at h
  split at h
  ·simp only [aJ] at h
   obtain ⟨⟨ps,u,rd⟩,h1,rfl⟩:=h
   obtain ⟨p1,p2⟩:=aW.app hp
   have s:=st [m,x,y] p1 (by simp [Op.operands])
   obtain ⟨w',r1,r2,r3⟩:=Iw g (s m (by simp)) (s x (by simp)) (s y (by simp)) h1 p2
   unfold Oper.wp
   have ex:execOp a.eval ⟨dst,.mapUpdate t m x y,ty,pos,after,guard⟩=(do Instr.mapUpdate t (a.eval m) (a.eval x) (a.eval y);pure .skip:Sem Next):=rfl
   rw [ex]
   simp only [bH,r1,cN,Sem.run_pure]
   exact hK undef w' S μ r2 r3 (fun _ _ h=>h) .mV
  ·cases h
 | insert t m x y =>
  simp only [dX] at h
  split at h
  ·simp only [aJ] at h
   obtain ⟨⟨ps,u,rd⟩,h1,rfl⟩:=h
   obtain ⟨p1,p2⟩:=aW.app hp
   have s:=st [m,x,y] p1 (by simp [Op.operands])
   obtain ⟨w',r1,r2,r3⟩:=Iw g (s m (by simp)) (s x (by simp)) (s y (by simp)) h1 p2
   unfold Oper.wp
   have ex:execOp a.eval ⟨dst,.insert t m x y,ty,pos,after,guard⟩=(do Instr.mapUpdate t (a.eval m) (a.eval x) (a.eval y);pure .skip:Sem Next):=rfl
   rw [ex]
   simp only [bH,r1,cN,Sem.run_pure]
   exact hK undef w' S μ r2 r3 (fun _ _ h=>h) .mV
  ·cases h
 | makeFunc f first cap =>
  simp only [dX,az] at h;subst h
  have s:=st (first.toList ++ cap.toList) hp (by simp [Op.operands])
  have l1:=FI (xs:=first) (fun x hx=>s x (by simp only [List.mem_append];exact .inl hx))
  have l2:=FI (xs:=cap) (fun x hx=>s x (by simp only [List.mem_append];exact .inr hx))
  exact pv _ rfl rfl ⟨_,by simp [Instr.makeFunc],.fn l1.1 l2.1 l1.2 l2.2⟩
 | makeSlice t x y =>
  simp only [dX,aJ] at h
  obtain ⟨⟨ps,v,u⟩,h1,rfl⟩:=h
  obtain ⟨p1,p2⟩:=aW.app hp
  have s:=st [x,y] p1 (by simp [Op.operands])
  exact sv _ rfl (Ug g hk hm (s x (by simp)) (s y (by simp)) h1 p2)
 | slice t x lo hi mx =>
  cases mx with
  | some _=>simp [dX] at h
  | none =>
   simp only [dX,aJ] at h
   obtain ⟨⟨ps,v,rd⟩,h1,rfl⟩:=h
   obtain ⟨p1,p2⟩:=aW.app hp
   have s:=st (x :: (lo.toList ++ hi.toList)) p1 (by
    intro y hy
    simp only [jw,List.mem_append,Option.mem_toList] at hy
    simp only [Op.operands]
    rcases hy with rfl | hy | hy
    ·simp
    ·simp [hy]
    ·simp [hy])
   refine pv (Instr.sliceAt t (a.eval x) (lo.map a.eval) (hi.map a.eval) none) rfl rfl (QS g (s x (by simp)) ?_ ?_ h1 p2)
   ·refine ⟨by simp,?_⟩
    intro p q n6 hq
    simp only [aJ] at n6 hq
    obtain ⟨y,hy,rfl⟩:=n6
    obtain ⟨z,hz,rfl⟩:=hq
    rw [hy] at hz;cases hz
    exact s y (by simp [hy])
   ·refine ⟨by simp,?_⟩
    intro p q n6 hq
    simp only [aJ] at n6 hq
    obtain ⟨y,hy,rfl⟩:=n6
    obtain ⟨z,hz,rfl⟩:=hq
    rw [hy] at hz;cases hz
    exact s y (by simp [hy])
 | fieldAddr T x f =>
  simp only [dX,sK,aJ] at h
  obtain ⟨v,h1,rfl⟩:=h
  exact pv _ rfl rfl (Ji (st [x] hp (by simp [Op.operands]) x (by simp)) h1)
 | field T x f =>
  simp only [dX,sK,aJ] at h
  obtain ⟨v,h1,rfl⟩:=h
  exact pv _ rfl rfl (QQ (st [x] hp (by simp [Op.operands]) x (by simp)) h1)
 | indexAddr T x i =>
  simp only [dX,aJ] at h
  obtain ⟨⟨ps,v,rd⟩,h1,rfl⟩:=h
  obtain ⟨p1,p2⟩:=aW.app hp
  have s:=st [x,i] p1 (by simp [Op.operands])
  exact pv _ rfl rfl (Jk g (s x (by simp)) (s i (by simp)) h1 p2)
 | index T x i =>
  simp only [dX,aJ] at h
  obtain ⟨⟨ps,v⟩,h1,rfl⟩:=h
  obtain ⟨p1,p2⟩:=aW.app hp
  have s:=st [x,i] p1 (by simp [Op.operands])
  exact pv _ rfl rfl (QR (s x (by simp)) (s i (by simp)) h1 p2)
 | extract x i =>
  simp only [dX] at h
  split at h
  ·rename_i cs hx
   simp only [sK,aJ] at h
   obtain ⟨v,h1,rfl⟩:=h
   have e1:=st [x] hp (by simp [Op.operands]) x (by simp)
   rw [hx] at e1
   refine pv _ rfl rfl ?_
   cases hv:a.eval x with
   | tuple vs =>
    rw [hv] at e1
    cases e1 with
    | tup q1 q2 =>
     have ft:i < vs.size:=by rw [q1];exact (dd.1 h1).1
     exact ⟨vs[i],by simp [Instr.extract,dN ft],q2 i v _ h1 (dN ft)⟩
   | _=>rw [hv] at e1;cases e1
  ·cases h
 | call c =>
  obtain ⟨callee,args,argTypes⟩:=c
  cases callee with
  | invoke=>simp [dX] at h
  | value f =>
   simp only [dX] at h
   split at h
   ·rename_i o'
    simp only [aJ] at h
    obtain ⟨r',h1,rfl⟩:=h
    obtain ⟨p1,p2⟩:=aW.app hp
    have s:=st (f :: args.toList) p2 (by simp [Op.operands,Call.operands])
    have l1:=FI (xs:=args) (fun x hx=>s x (List.mem_cons_of_mem _ hx))
    obtain ⟨gid,vs,r1,r2⟩:=MF g Ad hm (s f (by simp)) l1 (hz _ rfl) h1 p1
    unfold Oper.wp
    have ex:execOp a.eval ⟨dst,.call ⟨.value f,args,argTypes⟩,ty,pos,after,guard⟩=(do let d ← Deferred.ofValue (a.eval f) (args.map a.eval);invoke d.target d.args:Sem Next):=rfl
    rw [ex,r1]
    simp only [Oper.upon]
    refine r2.mono ?_
    rintro e' w' ⟨v,S',cD,rfl,q1,q2,q3,q4⟩
    exact hK v w' S' cD q1 q2 q3 q4
   ·cases h
  | builtin b =>
   simp only [dX] at h
   unfold zC at h
   split at h
   case h_1 x t ha ht =>
    obtain ⟨rfl⟩:args=#[x]:=Array.toList_inj.1 (by rw [ha])
    obtain ⟨rfl⟩:argTypes=#[t]:=Array.toList_inj.1 (by rw [ht])
    simp only [sK,aJ] at h
    obtain ⟨v,h1,rfl⟩:=h
    have s:=st [x] hp (by simp [Op.operands,Call.operands])
    exact pv (Builtin.len_ #[t] ty #[a.eval x]) (by simp [execOp,resolve,invoke,builtin]) rfl (Xg (s x (by simp)) h1 ty)
   case h_2 x y t t' ha ht =>
    obtain ⟨rfl⟩:args=#[x,y]:=Array.toList_inj.1 (by rw [ha])
    obtain ⟨rfl⟩:argTypes=#[t,t']:=Array.toList_inj.1 (by rw [ht])
    split at h
    ·rename_i hb
     have hb:=bm hb
     subst hb
     simp only [aJ] at h
     obtain ⟨⟨ps,v,rd,u⟩,h1,rfl⟩:=h
     obtain ⟨p1,p2⟩:=aW.app hp
     have s:=st [x,y] p1 (by simp [Op.operands,Call.operands])
     exact sv (Builtin.append_ #[t,t] ty #[a.eval x,a.eval y]) (by simp [execOp,resolve,invoke,builtin]) (Il g hk hm (s x (by simp)) (s y (by simp)) h1 p2)
    ·cases h
   case h_3 x r ha =>
    simp only [sK,aJ] at h
    obtain ⟨v,h1,rfl⟩:=h
    have s:=st (x :: r) hp (by intro y hy;simpa [Op.operands,Call.operands,ha] using hy)
    refine pv (Builtin.min_ argTypes ty (args.map a.eval)) (by simp [execOp,resolve,invoke,builtin]) rfl ?_
    obtain ⟨z,h3,h4⟩:=MG (P:=P) r (a.eval x) _ v (s x (by simp)) (fun y hy=>s y (by simp [hy])) h1
    refine ⟨z,?_,h4⟩
    unfold Builtin.min_
    rw [Array.toList_map,ha,List.map_cons]
    exact h3
   case h_4 x r ha =>
    simp only [sK,aJ] at h
    obtain ⟨v,h1,rfl⟩:=h
    have s:=st (x :: r) hp (by intro y hy;simpa [Op.operands,Call.operands,ha] using hy)
    refine pv (Builtin.max_ argTypes ty (args.map a.eval)) (by simp [execOp,resolve,invoke,builtin]) rfl ?_
    obtain ⟨z,h3,h4⟩:=MG (P:=P) r (a.eval x) _ v (s x (by simp)) (fun y hy=>s y (by simp [hy])) h1
    refine ⟨z,?_,h4⟩
    unfold Builtin.max_
    rw [Array.toList_map,ha,List.map_cons]
    exact h3
   case h_5=>cases h
 | _=>simp [dX] at h
def ab8:Option lZ→Option lZ
 | some o=>match o.same with
  | false=>some o
  | true=>none
 | none=>none
def zE (P:Program) (σ:du) (T:TypeId) (a x:AV):Option (List Prop×AV×List Nat) :=
 match a,P.underlying T,uj P T with
 | .op k i j,some d,some n=>match d.isRow,Nat.beq n 1,au σ k with
  | false,true,some o=>some ([i < o.len,(o.get i)[j]?=some x],x,[k])
  | _,_,_=>none
 | _,_,_=>none
theorem Rg (g:Good E σ S μ w) {T:TypeId} {a x:AV} {va:Value} (ha:aq w S μ va a) {ps:List Prop} {y:AV} {rd:List Nat} (h:zE P σ T a x=some (ps,y,rd)) (hp:aW ps) :
  ∃ v,(Instr.loadAt T va).run P w=.ok v w∧aq w S μ v y:=by
 unfold zE at h
 split at h
 case h_2=>cases h
 rename_i k i j d n hd hn
 split at h
 case h_2=>cases h
 rename_i o h1 h2 ho
 simp only [az,ay] at h
 obtain ⟨rfl,rfl,rfl⟩:=h
 obtain ⟨hi,hx,_⟩:=hp
 have Hv:=bm h2
 subst Hv
 refine Jh (T:=T) g ha (ps:=[i < o.len]) (rd:=[k]) ?_ ⟨hi,trivial⟩
 unfold ym
 simp only [hd,hn,ho,h1]
 unfold Uh
 have:Nat.ble (j+1) (o.get i).length=true:=by rw [Nat.ble_eq];exact (dd.1 hx).1
 rw [this]
 simp [hx]
def Jq (σ:du) (k q i:Nat):Option (List Prop×r7) :=
 match au σ k,au σ q with
 | some o,some oq=>match !o.var && !oq.var && oq.pr && Nat.ble 1 oq.sz && !Nat.beq k q with
  | true=>some ([i < o.len,o.get i=[.os q 0 oq.len],∀ j,j < oq.len→mP (oq.get j)=true],[(q,none),(k,some ⟨false,o.sz,o.len,false,fun m=>if m=i then [.mr oq.sz oq.len oq.get] else o.get m⟩)])
  | false=>none
 | _,_=>none
theorem Iz {k q i:Nat} {ps:List Prop} {u:r7} (h:Jq σ k q i=some (ps,u)) (hp:aW ps) (g:Good E σ S μ w):Good E (eX σ u) S μ w:=by
 unfold Jq at h
 split at h
 case h_2=>cases h
 rename_i o oq ho Xj
 split at h
 case h_2=>cases h
 rename_i hb
 simp only [az,ay] at h
 obtain ⟨rfl,rfl⟩:=h
 simp only [aV,Bool.not_eq_true',Nat.ble_eq] at hb
 obtain ⟨⟨⟨⟨h1,h2⟩,h3⟩,h4⟩,h5⟩:=hb
 obtain ⟨p1,p2,p3,_⟩:=hp
 refine g.cls ho Xj (fun e=>?_) h1 h2 h3 h4 p1 p2 fun j=>?_
 ·rw [e,ko rfl] at h5;cases h5
 ·cases hr:rowOf oq j with
  | none=>rfl
  | some x =>
   obtain ⟨_,r2,r3⟩:=dk hr
   have:=p3 j r2
   rw [r3] at this;cases this
def Zy:AV→Nat
 | .os _ _ len=>len
 | _=>0
def th (P:Program) (nk:Nat) (σ:du) (t:TypeId) (s x:AV) (orc:lZ):Option (List Prop×AV×List Nat×r7) :=
 match orc.ks,q9 P nk σ t s x with
 | [q],some (ps,v,rd,u)=>match Xp (rd ++ u.map (·.1)) q,Jq (eX σ u) nk q (Zy s) with
  | false,some (UF,u2)=>some (ps ++ UF,v,q :: rd,u ++ u2)
  | _,_=>none
 | _,_=>none
theorem MH (g:Good E σ S μ w) (hk:μ nk=none) (hm:E.m0≤nk) {t ty:TypeId} {s x:AV} {orc:lZ} {vs vx:Value} (hs:aq w S μ vs s) (hx:aq w S μ vx x) {ps:List Prop} {val:AV} {rd:List Nat} {upd:r7}
  (h:th P nk σ t s x orc=some (ps,val,rd,upd)) (hp:aW ps):Step P E nk σ S μ w (Builtin.append_ #[t,t] ty #[vs,vx]) val upd:=by
 unfold th at h
 split at h
 case h_2=>cases h
 rename_i q p1 v NU u hq ha
 split at h
 case h_2=>cases h
 rename_i p2 u2 _ hc
 simp only [az,ay] at h
 obtain ⟨rfl,rfl,rfl,rfl⟩:=h
 obtain ⟨ug,vE⟩:=aW.app hp
 obtain ⟨v',w',S',cD,h1,h2,h3,h4,h5⟩:=Il (ty:=ty) g hk hm hs hx ha ug
 exact ⟨v',w',S',cD,h1,h2,by rw [gf];exact Iz hc vE h3,h4,h5⟩
def FJ (P:Program) (T:TypeId) (x lo hi mx:AV):Option (List Prop×AV×List Nat) :=
 match P.underlying T,x,lo,hi,mx with
 | some (.slice e),.os _ _ len,.atom (.int _ l),.atom (.int _ h),.atom (.int _ m)=>match uj P e with
  | some _=>some ([0≤l∧l≤h∧h≤m∧m≤len],.mV,[])
  | none=>none
 | _,_,_,_,_=>none
theorem PA {T:TypeId} {x lo hi mx:AV} {v vl vh vm:Value} (hx:aq w S μ v x) (hl:aq w S μ vl lo) (hh:aq w S μ vh hi) (hm:aq w S μ vm mx) {ps:List Prop} {r:AV} {rd:List Nat}
  (h:FJ P T x lo hi mx=some (ps,r,rd)) (hp:aW ps):∃ u,(Instr.sliceAt T v (some vl) (some vh) (some vm)).run P w=.ok u w∧aq w S μ u r:=by
 unfold FJ at h
 split at h
 case h_2=>cases h
 rename_i e k off len kl l kh h' km m hu
 split at h
 case h_2=>cases h
 rename_i sz kr
 simp only [az,ay] at h
 obtain ⟨rfl,rfl,rfl⟩:=h
 obtain ⟨⟨p1,p2,p3,p4⟩,_⟩:=hp
 have e1:=db hl
 have e2:=db hh
 have e3:=db hm
 subst e1 e2 e3
 cases hx with
 | os pl fy h1 h2 h3 =>
  rename_i cap a
  have q1:0≤m∧m≤(cap:Int):=by omega
  have q2:0≤h'∧h'≤(m.toNat:Int):=by omega
  have q3:0≤l∧l≤(h'.toNat:Int):=by omega
  have hb:(Instr.sliceBounds true len cap (some (.int kl l)) (some (.int kh h')) (some (.int km m))).run P w=.ok (l.toNat,h'.toNat,m.toNat) w:=by
   simp only [Instr.sliceBounds,Instr.sliceBound,asIntOf,bH,Sem.run_pure,cN,Sem.run_ite,if_pos q1,if_pos q2,if_pos q3]
  exact ⟨.slice (if m.toNat=l.toNat then a else a.map (·.add (l.toNat * sz))) (h'.toNat - l.toNat) (m.toNat - l.toNat),by simp [Instr.sliceAt,Instr.slice,run_underlying hu,hb,eM kr],.mV⟩
def vK (P:Program) (σ:du) (T:TypeId) (x:AV) (lo hi:Option AV):Option (List Prop×AV×List Nat) :=
 match P.underlying T,x with
 | some (.slice e),.os k off len=>match uj P e,bound 0 lo,bound len hi,au σ k with
  | some sz,some l,some h,some o=>match Nat.beq o.sz sz with
   | true=>some ((l≤h∧off+h≤o.len) :: (uW lo ++ uW hi),.os k (bQ off l) (h - l),[k])
   | false=>none
  | _,_,_,_=>none
 | _,_=>none
theorem PB (g:Good E σ S μ w) {T:TypeId} {x:AV} {v:Value} (hx:aq w S μ v x) {lo hi:Option AV} {vlo vhi:Option Value}
  (Wm:(vlo=none↔lo=none)∧∀ a b,lo=some a→vlo=some b→aq w S μ b a)
  (NT:(vhi=none↔hi=none)∧∀ a b,hi=some a→vhi=some b→aq w S μ b a) {ps:List Prop} {r:AV} {rd:List Nat} (h:vK P σ T x lo hi=some (ps,r,rd)) (hp:aW ps) :
  ∃ u,(Instr.sliceAt T v vlo vhi none).run P w=.ok u w∧aq w S μ u r:=by
 unfold vK at h
 split at h
 case h_2=>cases h
 rename_i e k off len hu
 split at h
 case h_2=>cases h
 rename_i sz l hh o kr hl Uk ho
 split at h
 case h_2=>cases h
 rename_i hb
 have hb:=bm hb
 simp only [az,ay] at h
 obtain ⟨rfl,rfl,rfl⟩:=h
 obtain ⟨⟨p1,p2⟩,p3⟩:=hp
 obtain ⟨pl,c,T',hm,cE⟩:=g.rep.ob k o ho
 cases hx with
 | os iJ fy h1 h2 h3 =>
  rename_i cap a
  rw [hm] at fy;cases fy
  have hc:hh≤cap:=by have:=cE.len;omega
  have Pq:=wV (P:=P) (w:=w) true (cap:=cap) Wm NT hl Uk p1 hc p3
  refine ⟨.slice (if cap=l then a else a.map (·.add (l * sz))) (hh - l) (cap - l),?_,?_⟩
  ·simp [Instr.sliceAt,Instr.slice,run_underlying hu,Pq,eM kr]
  ·refine .os pl hm ?_ (by omega) (by rw [dq];omega)
   intro hc
   have:=h1 (by omega)
   subst this
   rw [if_neg (by omega)]
   simp only [Option.map_some,Addr.add_mid]
   rw [dq,cE.sz,hb,ca]
def CU (P:Program) (σ:du) (t:TypeId) (s x:AV):Option (List Prop×AV×List Nat×r7) :=
 match mm P t with
 | some e=>match uj P e,wR P e,sH P e,s,x with
  | some sz,some _,some _,.os k 0 len,.os k' off n=>match Nat.beq k k',au σ k with
   | true,some o=>match Nat.ble 1 sz && Nat.beq o.sz sz && !o.var with
    | true=>some ([0 < o.len∧len+n≤o.len,off+n≤o.len,∀ i,i < o.len→AV.kN (o.get i)=true],.os k 0 (len+n),[k],
      [(k,some ⟨false,sz,o.len,o.pr,fun m=>if m < len then o.get m else if m < len+n then o.get (bQ off (m - len)) else o.get m⟩)])
    | false=>none
   | _,_=>none
  | _,_,_,_,_=>none
 | none=>none
theorem IA {o:Ob} (h:∀ i,i < o.len→AV.kN (o.get i)=true) (i:Nat):rowOf o i=none:=by
 cases hr:rowOf o i with
 | none=>rfl
 | some x =>
  obtain ⟨_,r2,r3⟩:=dk hr
  have:=h i r2
  rw [r3] at this;cases this
theorem UG (g:Good E σ S μ w) {t ty:TypeId} {s x:AV} {vs vx:Value} (hs:aq w S μ vs s) (hx:aq w S μ vx x) {ps:List Prop} {val:AV} {rd:List Nat} {upd:r7}
  (h:CU P σ t s x=some (ps,val,rd,upd)) (hp:aW ps):Step P E nk σ S μ w (Builtin.append_ #[t,t] ty #[vs,vx]) val upd:=by
 unfold CU at h
 split at h
 case h_2=>cases h
 rename_i e he
 have he:=kO he
 split at h
 case h_2=>cases h
 rename_i sz b z k len k' off n kr hb hz
 obtain ⟨ie,CJ,rfl,rfl,Qn⟩:=wS kr hb hz
 split at h
 case h_2=>cases h
 rename_i o Mz ho
 have Mz:=bm Mz
 subst Mz
 split at h
 case h_2=>cases h
 rename_i yl
 simp only [aV,Nat.ble_eq,Bool.not_eq_true'] at yl
 obtain ⟨⟨b1,b2⟩,Bv⟩:=yl
 have b2:=bm b2
 simp only [az,ay] at h
 obtain ⟨rfl,rfl,rfl,rfl⟩:=h
 obtain ⟨⟨p0,p1⟩,p2,p3,_⟩:=hp
 obtain ⟨news,sr⟩:=yq (P:=P) (sz:=ie.size) (n:=n) (gt:=fun i=>o.get (bQ off i)) (pr:=o.pr) (ps:=[off+n≤o.len,∀ i,i < n→AV.kN (o.get (bQ off i))=true]) (rd:=[k]) g hx
  (by unfold vC;simp only [ho,ko b2]) ⟨p2,fun i hi=>p3 _ (by rw [dq];omega),trivial⟩
 obtain ⟨pl,c,T',qP,cE⟩:=g.rep.ob k o ho
 cases hs with
 | os iJ fy h1 h2 h3 =>
  rename_i cap a
  rw [qP] at fy;cases fy
  have YL:=cE.len
  have ha:=h1 (by omega)
  simp only [Nat.zero_mul] at ha
  subst ha
  have wN:0 < pl.cap:=by omega
  have KK:len+n≤cap:=by omega
  have xY:len * ie.size+news.length≤c.size:=by
   have e1:(len+n) * ie.size≤pl.cap * ie.size:=dC _ (by omega)
   have e2:=cE.cap
   rw [b2] at e2
   rw [sr.size,← ca];omega
  have jc:=Ft (P:=P) (w:=w) (ty:=ty) he CJ ((cE.b6 wN).trans (by rw [fx (by omega)])) sr.len sr.cells sr.one KK xY
  generalize jr:(c.toList.take (len * ie.size) ++ news ++ c.toList.drop (len * ie.size+news.length)).toArray=c' at jc
  have yn:(c.toList.take (len * ie.size)).length=len * ie.size:=by simp;omega
  have Fs:c'.size=c.size:=by
   rw [← jr]
   simp;omega
  have oa:∀ m,c'[m]?=if m < len * ie.size then c[m]? else if m < len * ie.size+news.length then news[m - len * ie.size]? else c[m]?:=by
   intro m
   rw [← jr]
   simp only [List.getElem?_toArray]
   by_cases h1:m < len * ie.size
   ·rw [eE (by simp;omega),eE (by omega),kg,if_pos h1,if_pos h1]
    simp
   ·rw [if_neg h1]
    by_cases h2:m < len * ie.size+news.length
    ·rw [eE (by simp;omega),gF (by omega),yn,if_pos h2]
    ·rw [if_neg h2,gF (by simp;omega)]
     simp only [mN,yn,kf]
     rw [show len * ie.size+news.length+(m - (len * ie.size+news.length))=m by omega]
     simp
  have pS:∀ i,i < o.len→(if i < len then o.get i else if i < len+n then o.get (bQ off (i - len)) else o.get i).length=ie.size:=by
   intro i hi
   split
   ·rw [cE.tz i hi,b2]
   ·split
    ·rw [cE.tz _ (by rw [dq];omega),b2]
    ·rw [cE.tz i hi,b2]
  have DX:=IA p3
  have gw:=g.write ho qP wN cE (by omega) ⟨false,ie.size,o.len,o.pr,fun m=>if m < len then o.get m else if m < len+n then o.get (bQ off (m - len)) else o.get m⟩ c' b2.symm Fs cE.len pS (by
   intro i j x v hi hx hv
   have hi:i < o.len:=hi
   have hx:(if i < len then o.get i else if i < len+n then o.get (bQ off (i - len)) else o.get i)[j]?=some x:=hx
   have hj:j < ie.size:=by
    have e1:=(dd.1 hx).1
    have e2:=pS i hi
    omega
   have hv:c'[i * ie.size+j]?=some v:=hv
   rw [oa] at hv
   by_cases Hx:i < len
   ·have lP:(i+1) * ie.size≤len * ie.size:=dC _ Hx
    rw [ca] at lP
    rw [if_pos (by omega)] at hv
    rw [if_pos Hx] at hx
    exact cE.rep i j x v hi hx (by rw [b2];exact hv)
   ·have lP:len * ie.size≤i * ie.size:=dC _ (by omega)
    rw [if_neg (by omega),sr.size] at hv
    rw [if_neg Hx] at hx
    by_cases mn:i < len+n
    ·have Qp:(i+1) * ie.size≤(len+n) * ie.size:=dC _ mn
     rw [ca,ca] at Qp
     rw [if_pos (by omega)] at hv
     rw [if_pos mn] at hx
     refine sr.rep (i - len) j x v (by omega) hx ?_
     rw [← hv,Nat.sub_mul];congr 1;omega
    ·have Qp:(len+n) * ie.size≤i * ie.size:=dC _ (by omega)
     rw [ca] at Qp
     rw [if_neg (by omega)] at hv
     rw [if_neg mn] at hx
     exact cE.rep i j x v hi hx (by rw [b2];exact hv))
   (fun i x hx=>absurd hx (by
    rw [IA (o:=⟨false,ie.size,o.len,o.pr,fun m=>if m < len then o.get m else if m < len+n then o.get (bQ off (m - len)) else o.get m⟩) (fun i hi=>by
     show AV.kN (if i < len then o.get i else if i < len+n then o.get (bQ off (i - len)) else o.get i)=true
     have hi:i < o.len:=hi
     split
     ·exact p3 i hi
     ·split
      ·exact p3 _ (by rw [dq];omega)
      ·exact p3 i hi)]
    intro h;cases h))
  exact ⟨_,_,S,μ,jc,gw.1,gw.2,fun _ _ h=>h,aq.os pl qP (by simp) KK h3⟩
theorem Rh {o:Ob} (h:∀ i,i < o.len→mP (o.get i)=true) (i:Nat):rowOf o i=none:=by
 cases hr:rowOf o i with
 | none=>rfl
 | some x =>
  obtain ⟨_,r2,r3⟩:=dk hr
  have:=h i r2
  rw [r3] at this;cases this
theorem KY {l:List AV} (h:AV.kN l=true):mP l=true:=by
 induction l with
 | nil=>rfl
 | cons x l ih =>
  simp only [AV.kN,aV] at h
  simp only [mP,aV]
  refine ⟨?_,ih h.2⟩
  cases x<;>first | rfl | cases h.1
theorem Good.Ri (g:Good E σ S μ w) {k:Nat} {o:Ob} (ho:au σ k=some o) {pl:Place} {c:Array Value} {T':TypeId} (qP:μ k=some pl) (cE:gy w S μ o pl c T') (wN:0 < pl.cap) {sz p n:Nat}
  {gt:Nat→List AV} {pr:Bool} {v:Value} {news:List Value} (sr:Src P w S μ sz v n gt pr news) (b2:o.sz=sz) (b1:1≤sz) (hle:p+n≤o.len) (DX:∀ i,i < o.len→mP (o.get i)=true) {c':Array Value}
  (jr:(c.toList.take (p * sz) ++ news ++ c.toList.drop (p * sz+news.length)).toArray=c'):p * sz+news.length≤c.size ∧
  Ext w S μ (w.setRow pl.b6 c') S μ∧Good E (sset σ k ⟨false,sz,o.len,o.pr && pr,fun m=>if m < p then o.get m else if m < p+n then gt (m - p) else o.get m⟩) S μ (w.setRow pl.b6 c'):=by
 have YL:=cE.len
 have xY:p * sz+news.length≤c.size:=by
  have e1:(p+n) * sz≤pl.cap * sz:=dC _ (by omega)
  have e2:=cE.cap
  rw [b2] at e2
  rw [sr.size,← ca];omega
 have yn:(c.toList.take (p * sz)).length=p * sz:=by simp;omega
 have Fs:c'.size=c.size:=by
  rw [← jr]
  simp;omega
 have oa:∀ m,c'[m]?=if m < p * sz then c[m]? else if m < p * sz+news.length then news[m - p * sz]? else c[m]?:=by
  intro m
  rw [← jr]
  simp only [List.getElem?_toArray]
  by_cases h1:m < p * sz
  ·rw [eE (by simp;omega),eE (by omega),kg,if_pos h1,if_pos h1]
   simp
  ·rw [if_neg h1]
   by_cases h2:m < p * sz+news.length
   ·rw [eE (by simp;omega),gF (by omega),yn,if_pos h2]
   ·rw [if_neg h2,gF (by simp;omega)]
    simp only [mN,yn,kf]
    rw [show p * sz+news.length+(m - (p * sz+news.length))=m by omega]
    simp
 have pS:∀ i,i < o.len→(if i < p then o.get i else if i < p+n then gt (i - p) else o.get i).length=sz:=by
  intro i hi
  split
  ·rw [cE.tz i hi,b2]
  ·split
   ·exact sr.tz _ (by omega)
   ·rw [cE.tz i hi,b2]
 have Zl:∀ {u:Value} {x:AV},aq w S (if o.pr then fV else μ) u x→aq w S (if (o.pr && pr)=true then fV else μ) u x:=by
  intro u x hh
  cases hp:pr
  ·rw [Bool.and_false];exact ig hh
  ·rw [Bool.and_true];exact hh
 have Um:∀ {u:Value} {x:AV},aq w S (if pr then fV else μ) u x→aq w S (if (o.pr && pr)=true then fV else μ) u x:=by
  intro u x hh
  cases hp:o.pr
  ·rw [Bool.false_and];exact ig hh
  ·rw [Bool.true_and];exact hh
 refine ⟨xY,g.write ho qP wN cE (by omega) ⟨false,sz,o.len,o.pr && pr,fun m=>if m < p then o.get m else if m < p+n then gt (m - p) else o.get m⟩ c' b2.symm Fs cE.len pS (by
   intro i j x v hi hx hv
   have hi:i < o.len:=hi
   have hx:(if i < p then o.get i else if i < p+n then gt (i - p) else o.get i)[j]?=some x:=hx
   have hj:j < sz:=by
    have e1:=(dd.1 hx).1
    have e2:=pS i hi
    omega
   have hv:c'[i * sz+j]?=some v:=hv
   rw [oa] at hv
   by_cases Hx:i < p
   ·have lP:(i+1) * sz≤p * sz:=dC _ Hx
    rw [ca] at lP
    rw [if_pos (by omega)] at hv
    rw [if_pos Hx] at hx
    exact Zl (cE.rep i j x v hi hx (by rw [b2];exact hv))
   ·have lP:p * sz≤i * sz:=dC _ (by omega)
    rw [if_neg (by omega),sr.size] at hv
    rw [if_neg Hx] at hx
    by_cases mn:i < p+n
    ·have Qp:(i+1) * sz≤(p+n) * sz:=dC _ mn
     rw [ca,ca] at Qp
     rw [if_pos (by omega)] at hv
     rw [if_pos mn] at hx
     refine Um (sr.rep (i - p) j x v (by omega) hx ?_)
     rw [← hv,Nat.sub_mul];congr 1;omega
    ·have Qp:(p+n) * sz≤i * sz:=dC _ (by omega)
     rw [ca] at Qp
     rw [if_neg (by omega)] at hv
     rw [if_neg mn] at hx
     exact Zl (cE.rep i j x v hi hx (by rw [b2];exact hv)))
   (fun i x hx=>absurd hx (by
    rw [Rh (o:=⟨false,sz,o.len,o.pr && pr,fun m=>if m < p then o.get m else if m < p+n then gt (m - p) else o.get m⟩) (fun i hi=>by
     show mP (if i < p then o.get i else if i < p+n then gt (i - p) else o.get i)=true
     have hi:i < o.len:=hi
     split
     ·exact DX i hi
     ·split
      ·exact KY (sr.Ul _ (by omega))
      ·exact DX i hi)]
    intro h;cases h))⟩
def CV (P:Program) (σ:du) (t:TypeId) (s x:AV):Option (List Prop×AV×List Nat×r7) :=
 match mm P t with
 | some e=>match uj P e,s,x with
  | some sz,.os k Ae nd,.os k' El ns=>match Nat.beq k k',au σ k with
   | true,some o=>match Nat.ble 1 sz && Nat.beq o.sz sz && !o.var with
    | true=>some ([nd≤ns,Ae+nd≤o.len,El+nd≤o.len,∀ i,i < o.len→AV.kN (o.get i)=true],.atom (.int .i64 nd),[k],
      [(k,some ⟨false,sz,o.len,o.pr,fun m=>if m < Ae then o.get m else if m < Ae+nd then o.get (bQ El (m - Ae)) else o.get m⟩)])
    | false=>none
   | _,_=>none
  | _,_,_=>none
 | none=>none
theorem UH (g:Good E σ S μ w) {t t' ty:TypeId} {s x:AV} {vs vx:Value} (hs:aq w S μ vs s) (hx:aq w S μ vx x) {ps:List Prop} {val:AV} {rd:List Nat} {upd:r7}
  (h:CV P σ t s x=some (ps,val,rd,upd)) (hp:aW ps):Step P E nk σ S μ w (Builtin.copy_ #[t,t'] ty #[vs,vx]) val upd:=by
 unfold CV at h
 split at h
 case h_2=>cases h
 rename_i e he
 have he:=kO he
 split at h
 case h_2=>cases h
 rename_i sz k Ae nd k' El ns kr
 obtain ⟨ie,CJ,rfl⟩:∃ ie,P.info? e=some ie∧ie.size=sz:=by
  unfold uj at kr
  cases hq:P.info? e with
  | none=>rw [hq] at kr;cases kr
  | some i=>rw [hq] at kr;exact ⟨i,rfl,by simpa using kr⟩
 split at h
 case h_2=>cases h
 rename_i o Mz ho
 have Mz:=bm Mz
 subst Mz
 split at h
 case h_2=>cases h
 rename_i yl
 simp only [aV,Nat.ble_eq,Bool.not_eq_true'] at yl
 obtain ⟨⟨b1,b2⟩,Bv⟩:=yl
 have b2:=bm b2
 simp only [az,ay] at h
 obtain ⟨rfl,rfl,rfl,rfl⟩:=h
 obtain ⟨p0,p1,p2,p3,_⟩:=hp
 obtain ⟨pl,c,T',qP,cE⟩:=g.rep.ob k o ho
 cases hs with
 | os iJ fy h1 h2 h3 =>
  rename_i cap a
  rw [qP] at fy;cases fy
  cases hx with
  | os qA AF g1 g2 g3 =>
   rename_i KZ a2
   rw [qP] at AF;cases AF
   rcases Nat.eq_zero_or_pos nd with h0 | h0
   ·subst h0
    have jc:(Builtin.copy_ #[t,t'] ty #[.slice a 0 cap,.slice a2 ns KZ]).run P w=.ok (goInt 0) w:=by
     have e0:Nat.min ns 0=0:=by simp
     cases a<;>cases a2<;>simp [Builtin.copy_,run_underlying he,Builtin.lenOf,Builtin.firstCells,sizeOf,typeInfo,CJ,storeCells,loadCells,loadCellsFrom]
    have eo:(⟨false,ie.size,o.len,o.pr,fun m=>if m < Ae then o.get m else if m < Ae+0 then o.get (bQ El (m - Ae)) else o.get m⟩:Ob)=o:=by
     have:(fun m=>if m < Ae then o.get m else if m < Ae+0 then o.get (bQ El (m - Ae)) else o.get m)=o.get:=by
      funext m
      split
      ·rfl
      ·split
       ·omega
       ·rfl
     rw [this,← b2,← Bv]
    refine ⟨_,w,S,μ,jc,Ext.refl _ _ _,g.congr fun n=>?_,fun _ _ h=>h,.atom _⟩
    show au (sset σ k _) n=_
    rw [eo,bg]
    split
    ·rename_i e;rw [← e,ho]
    ·rfl
   ·have ha:=h1 (by omega)
    have TU:=g1 (by omega)
    subst ha TU
    have wN:0 < pl.cap:=by have:=cE.len;omega
    obtain ⟨news,sr⟩:=yq (P:=P) (sz:=ie.size) (x:=.os k El nd) (v:=.slice (some ⟨pl.b6,El * pl.sz,none⟩) nd KZ) (n:=nd) (gt:=fun i=>o.get (bQ El i)) (pr:=o.pr) (ps:=[El+nd≤o.len,∀ i,i < nd→AV.kN (o.get (bQ El i))=true]) (rd:=[k]) g
     (.os pl qP g1 (by omega) g3) (by unfold vC;simp only [ho,ko b2]) ⟨p2,fun i hi=>p3 _ (by rw [dq];omega),trivial⟩
    obtain ⟨xY,Zm,Xh⟩:=g.Ri ho qP cE wN sr b2 b1 p1 (fun i hi=>KY (p3 i hi)) rfl
    have zs:=run_storeCells_at P pl.b6 (Ae * ie.size) T' news 0 c w ((cE.b6 wN).trans (by rw [fx (by omega)])) (by simpa using xY) sr.one
    simp only [Nat.add_zero] at zs
    have TN:=sr.cells w rfl
    simp only [Builtin.firstCells] at TN
    have uk:Nat.min ns nd=nd:=Nat.min_eq_right p0
    have jc:(Builtin.copy_ #[t,t'] ty #[.slice (some ⟨pl.b6,Ae * pl.sz,none⟩) nd cap,.slice (some ⟨pl.b6,El * pl.sz,none⟩) ns KZ]).run P w=.ok (goInt nd) (w.setRow pl.b6 (c.toList.take (Ae * ie.size) ++ news ++ c.toList.drop (Ae * ie.size+news.length)).toArray):=by
     rw [cE.sz,b2] at TN ⊢
     simp [Builtin.copy_,run_underlying he,Builtin.lenOf,Builtin.firstCells,sizeOf,typeInfo,CJ,uk,TN,zs]
    rw [Bool.and_self] at Xh
    exact ⟨_,_,S,μ,jc,Zm,Xh,fun _ _ h=>h,.atom _⟩
def CW (P:Program) (σ:du) (t:TypeId) (s x:AV):Option (List Prop×AV×List Nat×r7) :=
 match mm P t with
 | some e=>match uj P e,wR P e,sH P e,s with
  | some sz,some _,some _,.os k off m=>match vC σ sz x,au σ k with
   | some (n,gt,pr,ps,rd),some o=>match Nat.ble 1 sz && Nat.beq o.sz sz && !o.var with
    | true=>some ((0 < n∧bQ off m+n≤o.len) :: (∀ i,i < o.len→mP (o.get i)=true) :: ps,.os k off (m+n),k :: rd,
      [(k,some ⟨false,sz,o.len,o.pr && pr,fun j=>if j < bQ off m then o.get j else if j < bQ off m+n then gt (j - bQ off m) else o.get j⟩)])
    | false=>none
   | _,_=>none
  | _,_,_,_=>none
 | none=>none
theorem UI (g:Good E σ S μ w) {t ty:TypeId} {s x:AV} {vs vx:Value} (hs:aq w S μ vs s) (hx:aq w S μ vx x) {ps:List Prop} {val:AV} {rd:List Nat} {upd:r7}
  (h:CW P σ t s x=some (ps,val,rd,upd)) (hp:aW ps):Step P E nk σ S μ w (Builtin.append_ #[t,t] ty #[vs,vx]) val upd:=by
 unfold CW at h
 split at h
 case h_2=>cases h
 rename_i e he
 have he:=kO he
 split at h
 case h_2=>cases h
 rename_i sz b z k off m kr hb hz
 obtain ⟨ie,CJ,rfl,rfl,Qn⟩:=wS kr hb hz
 split at h
 case h_2=>cases h
 rename_i n gt pr QU NU o vD ho
 split at h
 case h_2=>cases h
 rename_i yl
 simp only [aV,Nat.ble_eq,Bool.not_eq_true'] at yl
 obtain ⟨⟨b1,b2⟩,Bv⟩:=yl
 have b2:=bm b2
 simp only [az,ay] at h
 obtain ⟨rfl,rfl,rfl,rfl⟩:=h
 obtain ⟨⟨p0,p1⟩,p2,p3⟩:=hp
 obtain ⟨news,sr⟩:=yq (P:=P) g hx vD p3
 obtain ⟨pl,c,T',qP,cE⟩:=g.rep.ob k o ho
 cases hs with
 | os iJ fy h1 h2 h3 =>
  rename_i cap a
  rw [qP] at fy;cases fy
  have YL:=cE.len
  have ez:bQ off m=off+m:=dq _ _
  have Zz:pl.sz=ie.size:=cE.sz.trans b2
  have ha:=h1 (by omega)
  rw [Zz] at ha
  subst ha
  obtain ⟨xY,Zm,Xh⟩:=g.Ri ho qP cE (by omega) sr b2 b1 p1 p2 rfl
  have jc:=Mw (P:=P) (w:=w) (ty:=ty) he CJ ((cE.b6 (by omega)).trans (by rw [fx (by omega)])) sr.len sr.cells sr.one (b:=off * ie.size) (sLen:=m) (sCap:=cap) (by omega) (by rw [← ca,← ez];exact xY)
  rw [← ca,← ez] at jc
  exact ⟨_,_,S,μ,jc,Zm,Xh,fun _ _ h=>h,aq.os pl qP (fun _=>by rw [Zz]) (by omega) h3⟩
def CX (P:Program) (nk:Nat) (σ:du) (t:TypeId) (s x:AV):Option (List Prop×AV×List Nat×r7) :=
 match mm P t with
 | some e=>match uj P e,wR P e,sH P e,s with
  | some sz,some b,some z,.Cy k off m=>match vC σ sz x,au σ k with
   | some (n,gt,pr,ps,rd),some o=>match Nat.ble 1 sz && Nat.ble 1 b && Nat.beq z.cells.size sz && Nat.beq o.sz sz && !o.var with
    | true=>some ((0 < n∧bQ off m=o.len) :: ((m+n) * b≤140737488355328) :: (∀ i,i < o.len→AV.kN (o.get i)=true) :: ps,.os nk 0 (m+n),k :: rd,
      [(nk,some ⟨false,sz,m+n,o.pr && pr,fun j=>if j < m then o.get (bQ off j) else gt (j - m)⟩)])
    | false=>none
   | _,_=>none
  | _,_,_,_=>none
 | none=>none
theorem UJ (g:Good E σ S μ w) (hk:μ nk=none) (hm:E.m0≤nk) {t ty:TypeId} {s x:AV} {vs vx:Value} (hs:aq w S μ vs s) (hx:aq w S μ vx x) {ps:List Prop} {val:AV} {rd:List Nat} {upd:r7}
  (h:CX P nk σ t s x=some (ps,val,rd,upd)) (hp:aW ps):Step P E nk σ S μ w (Builtin.append_ #[t,t] ty #[vs,vx]) val upd:=by
 unfold CX at h
 split at h
 case h_2=>cases h
 rename_i e he
 have he:=kO he
 split at h
 case h_2=>cases h
 rename_i sz b z k off m kr hb hz
 obtain ⟨ie,CJ,rfl,rfl,Qn⟩:=wS kr hb hz
 split at h
 case h_2=>cases h
 rename_i n gt pr QU NU o vD ho
 split at h
 case h_2=>cases h
 rename_i yl
 simp only [aV,Nat.ble_eq,Bool.not_eq_true'] at yl
 obtain ⟨⟨⟨⟨b1,bb⟩,b3⟩,b2⟩,Bv⟩:=yl
 have b2:=bm b2
 have b3:=bm b3
 simp only [az,ay] at h
 obtain ⟨rfl,rfl,rfl,rfl⟩:=h
 obtain ⟨⟨p0,AF⟩,p1,p2,p3⟩:=hp
 rw [dq] at AF
 obtain ⟨news,sr⟩:=yq (P:=P) g hx vD p3
 obtain ⟨pl,c,T',qP,cE⟩:=g.rep.ob k o ho
 cases hs with
 | Cy iJ fy h1 h2 =>
  rename_i a
  rw [qP] at fy;cases fy
  obtain ⟨olds,so⟩:=yq (P:=P) (sz:=ie.size) (x:=.os k off m) (v:=.slice a m m) (n:=m) (gt:=fun i=>o.get (bQ off i)) (pr:=o.pr) (ps:=[off+m≤o.len,∀ i,i < m→AV.kN (o.get (bQ off i))=true]) (rd:=[k]) g
   (.os pl qP h1 (aP _) h2) (by unfold vC;simp only [ho,ko b2]) ⟨by omega,fun i hi=>p2 _ (by rw [dq];omega),trivial⟩
  have jc:=wW (P:=P) (w:=w) (ty:=ty) he CJ Qn so.cells sr.len sr.cells (by omega) bb p1
  have rY:=Fu w (m+n) m e
  have pS:∀ i,i < m+n→((fun q=>if q < m then o.get (bQ off q) else gt (q - m)) i).length=ie.size:=by
   intro i hi
   show (if i < m then o.get (bQ off i) else gt (i - m)).length=_
   split
   ·rw [cE.tz (bQ off i) (by rw [dq];omega),b2]
   ·exact sr.tz _ (by omega)
  have gg:=g.grow (e:=e) hk hm (sz:=ie.size) (n:=n) (len:=m) (cap:=grownCap w (m+n) m e) (olds:=olds) (news:=news)
   (rest:=Builtin.zeroCells z.cells (grownCap w (m+n) m e - (m+n))) (pr:=o.pr && pr) (get:=fun q=>if q < m then o.get (bQ off q) else gt (q - m))
   so.size sr.size (by rw [size_zeroCells,b3]) rY pS (by
    intro i j x u hi hx hu
    have hx:(if i < m then o.get (bQ off i) else gt (i - m))[j]?=some x:=hx
    have hj:j < ie.size:=by
     have e1:=(dd.1 hx).1
     have e2:(if i < m then o.get (bQ off i) else gt (i - m)).length=ie.size:=pS i hi
     omega
    by_cases Hx:i < m
    ·have lP:(i+1) * ie.size≤m * ie.size:=dC _ Hx
     rw [ca] at lP
     rw [if_pos Hx] at hx
     rw [eE (by rw [so.size];omega)] at hu
     have:=so.rep i j x u Hx hx hu
     cases hp:pr
     ·rw [Bool.and_false];exact ig this
     ·rw [Bool.and_true];exact this
    ·have lP:m * ie.size≤i * ie.size:=dC _ (by omega)
     rw [if_neg Hx] at hx
     rw [gF (by rw [so.size];omega),so.size] at hu
     have:=sr.rep (i - m) j x u (by omega) hx (by rw [← hu,Nat.sub_mul];congr 1;omega)
     cases hp:o.pr
     ·rw [Bool.false_and];exact ig this
     ·rw [Bool.true_and];exact this) (by omega)
   (g.KC hk _ _ (fun _=>aP _) (pT fun i hi=>by
    have hi:i < m+n:=hi
    show AV.kN (if i < m then o.get (bQ off i) else gt (i - m))=true
    split
    ·exact p2 _ (by rw [dq];omega)
    ·exact sr.Ul _ (by omega)) (fun b h=>eh (w:=w.drew) h) (fun _ h=>h) (fun _ h=>.inl h))
  refine ⟨_,_,S,_,jc,gg.1,gg.2,fun k lj hn=>by rw [mZ _ lj];exact hn,?_⟩
  exact aq.os ⟨w.heap.size,grownCap w (m+n) m e,ie.size⟩ (by simp [cm]) (by simp) rY (by simp)
def zF (P:Program) (σ:du) (t:TypeId) (x:AV):Option (List Prop×AV×List Nat×r7) :=
 match mm P t with
 | some e=>match uj P e,wR P e,sH P e,x with
  | some sz,some _,some z,.os k off n=>match au σ k with
   | some o=>match Nat.ble 1 sz && Nat.beq o.sz sz && !o.var && Nat.beq z.cells.size sz && z.cells.toList.all (·.oneCell') with
    | true=>some ([0 < n∧off+n≤o.len],.mV,[k],[(k,some ⟨false,sz,off,o.pr,o.get⟩)])
    | false=>none
   | none=>none
  | _,_,_,_=>none
 | none=>none
theorem Rj (g:Good E σ S μ w) {t ty:TypeId} {x:AV} {vx:Value} (hx:aq w S μ vx x) {ps:List Prop} {val:AV} {rd:List Nat} {upd:r7}
  (h:zF P σ t x=some (ps,val,rd,upd)) (hp:aW ps):Step P E nk σ S μ w (Builtin.clear_ #[t] ty #[vx]) val upd:=by
 unfold zF at h
 split at h
 case h_2=>cases h
 rename_i e he
 have he:=kO he
 split at h
 case h_2=>cases h
 rename_i sz b z k off n kr hb hz
 obtain ⟨ie,CJ,rfl,rfl,Qn⟩:=wS kr hb hz
 split at h
 case h_2=>cases h
 rename_i o ho
 split at h
 case h_2=>cases h
 rename_i yl
 simp only [aV,Nat.ble_eq,Bool.not_eq_true'] at yl
 obtain ⟨⟨⟨⟨b1,b2⟩,Bv⟩,b3⟩,b4⟩:=yl
 have b2:=bm b2
 have b3:=bm b3
 simp only [az,ay] at h
 obtain ⟨rfl,rfl,rfl,rfl⟩:=h
 obtain ⟨⟨p0,p1⟩,_⟩:=hp
 obtain ⟨pl,c,T',qP,cE⟩:=g.rep.ob k o ho
 cases hx with
 | os iJ fy h1 h2 h3 =>
  rename_i cap a
  rw [qP] at fy;cases fy
  have YL:=cE.len
  have ha:=h1 (by omega)
  subst ha
  have wN:0 < pl.cap:=by omega
  have hzl:(Builtin.zeroCells z.cells n).toList.length=n * ie.size:=by simp [Builtin.zeroCells,b3]
  have HF:∀ u∈(Builtin.zeroCells z.cells n).toList,u.oneCell'=true:=by
   intro u hu
   simp only [Builtin.zeroCells,Array.toList_map,List.mem_map] at hu
   obtain ⟨i,hi,rfl⟩:=hu
   have ft:i % z.cells.size < z.cells.size:=Nat.mod_lt _ (by omega)
   rw [getElem!_pos z.cells (i % z.cells.size) ft]
   rw [List.all_eq_true] at b4
   exact b4 _ (Array.mem_toList_iff.2 (Array.getElem_mem ft))
  have xY:off * ie.size+(Builtin.zeroCells z.cells n).toList.length≤c.size:=by
   have e1:(off+n) * ie.size≤pl.cap * ie.size:=dC _ (by omega)
   have e2:=cE.cap
   rw [b2] at e2
   rw [hzl,← ca];omega
  have zs:=run_storeCells_at P pl.b6 (off * ie.size) T' (Builtin.zeroCells z.cells n).toList 0 c w ((cE.b6 wN).trans (by rw [fx (by omega)])) (by simpa using xY) HF
  simp only [Nat.add_zero] at zs
  generalize jr:(c.toList.take (off * ie.size) ++ (Builtin.zeroCells z.cells n).toList ++ c.toList.drop (off * ie.size+(Builtin.zeroCells z.cells n).toList.length)).toArray=c' at zs
  have jc:(Builtin.clear_ #[t] ty #[.slice (some ⟨pl.b6,off * pl.sz,none⟩) n cap]).run P w=.ok (.tuple #[]) (w.setRow pl.b6 c'):=by
   rw [cE.sz,b2]
   obtain ⟨m,rfl⟩:∃ m,n=m+1:=⟨n - 1,by omega⟩
   simp [Builtin.clear_,run_underlying he,zeroValue,typeInfo,CJ,Qn,zs]
  have yn:(c.toList.take (off * ie.size)).length=off * ie.size:=by simp;omega
  have Fs:c'.size=c.size:=by
   rw [← jr]
   simp only [List.size_toArray,mN,yn,List.length_drop,Array.length_toList]
   rw [Array.length_toList] at xY
   omega
  have oa:∀ m,m < off * ie.size→c'[m]?=c[m]?:=by
   intro m h1
   rw [← jr]
   simp only [List.getElem?_toArray]
   rw [eE (by simp;omega),eE (by omega),kg,if_pos h1]
   simp
  have ui:∀ i x,rowOf ⟨false,ie.size,off,o.pr,o.get⟩ i=some x→rowOf o i=some x∧i < off:=fun i x hx=>by
   obtain ⟨_,q2,q3⟩:=dk hx
   have q2:i < off:=q2
   exact ⟨kM Bv (by omega) q3,q2⟩
  have Rk:∀ i,i < off→∀ j,j < ie.size→i * ie.size+j < off * ie.size:=fun i hi j hj=>by
   have lP:(i+1) * ie.size≤off * ie.size:=dC _ hi
   rw [ca] at lP;omega
  have gw:=g.write ho qP wN cE (by omega) ⟨false,ie.size,off,o.pr,o.get⟩ c' b2.symm Fs (show off≤pl.cap by omega) (fun i hi=>by
   have hi:i < off:=hi
   show (o.get i).length=ie.size
   rw [cE.tz i (by omega),b2]) (by
   intro i j x v hi hx hv
   have hi:i < off:=hi
   have hx:(o.get i)[j]?=some x:=hx
   have hj:j < ie.size:=by
    have e1:=(dd.1 hx).1
    rw [cE.tz i (by omega),b2] at e1;exact e1
   have hv:c'[i * ie.size+j]?=some v:=hv
   rw [oa _ (Rk i hi j hj)] at hv
   exact cE.rep i j x v (by omega) hx (by rw [b2];exact hv)) (fun i x hx=>⟨(ui i x hx).1,by
    rw [b2];exact oa _ (by have:=Rk i (ui i x hx).2 0 (by omega);omega)⟩)
  exact ⟨_,_,S,μ,jc,gw.1,gw.2,fun _ _ h=>h,.mV⟩
def yC (P:Program) (nk:Nat) (σ:du) (op:Op) (e:Operand→AV) (orc:Option lZ):Option R :=
 match ab8 orc with
 | none=>dX P nk σ op e orc
 | some q=>match op with
  | .load T a=>(zE P σ T ((e a).strip.1) q.res).map fun (ps,v,rd)=>⟨conds e [a] ++ ps,v,rd,[]⟩
  | .call ⟨.builtin .append,args,FH⟩=>match args.toList,FH.toList with
   | [x,y],[t,t']=>match Nat.beq t t' with
    | true=>(match q.ks,q.res with
     | [],.mV=>CU P σ t ((e x).strip.1) ((e y).strip.1)
     | [],.nil=>CW P σ t ((e x).strip.1) ((e y).strip.1)
     | [],_=>CX P nk σ t ((e x).strip.1) ((e y).strip.1)
     | _,_=>th P nk σ t ((e x).strip.1) ((e y).strip.1) q).map fun (ps,v,rd,u)=>⟨conds e [x,y] ++ ps,v,rd,u⟩
    | false=>none
   | _,_=>none
  | .call ⟨.builtin .copy,args,FH⟩=>match args.toList,FH.toList with
   | [x,y],[t,_]=>(CV P σ t ((e x).strip.1) ((e y).strip.1)).map fun (ps,v,rd,u)=>⟨conds e [x,y] ++ ps,v,rd,u⟩
   | _,_=>none
  | .call ⟨.builtin .clear,args,FH⟩=>match args.toList,FH.toList with
   | [x],[t]=>(zF P σ t ((e x).strip.1)).map fun (ps,v,rd,u)=>⟨conds e [x] ++ ps,v,rd,u⟩
   | _,_=>none
  | .slice t x lo hi mx=>match mx with
   | none=>(vK P σ t ((e x).strip.1) (lo.map fun y=>(e y).strip.1) (hi.map fun y=>(e y).strip.1)).map fun (ps,v,rd)=>⟨conds e (x :: (lo.toList ++ hi.toList)) ++ ps,v,rd,[]⟩
   | some m=>match lo,hi with
    | some l,some h=>(FJ P t ((e x).strip.1) ((e l).strip.1) ((e h).strip.1) ((e m).strip.1)).map fun (ps,v,rd)=>⟨conds e [x,l,h,m] ++ ps,v,rd,[]⟩
    | _,_=>none
  | op=>dX P nk σ op e orc
theorem IC {o:Oper} {a:Act} {e:Operand→AV} {orc:Option lZ} {r:R} {next:Act→World→Prop} {Q:Exit→Act→World→Prop}
  (he:∀ x∈o.op.operands.toList,aq w S μ (a.eval x) (e x)) (g:Good E σ S μ w) (Ad:∀ j,j < 16→μ (nk+j)=none) (hm:E.m0≤nk)
  (hz:∀ x,orc=some x→x.wY=true→∀ b,¬ E.fp b) (h:yC P nk σ o.op e orc=some r) (hp:aW r.HA) (hK:Rf E nk σ S μ w r fun v w'=>next (a.put o.dst v) w'):o.wp P a w next Q:=by
 unfold yC at h
 split at h
 ·exact KX he g Ad hm hz h hp hK
 ·have hk:μ nk=none:=Ad 0 (by omega)
  have st:∀ (xs:List Operand),aW (conds e xs)→(∀ x∈xs,x∈o.op.operands.toList)→∀ x∈xs,aq w S μ (a.eval x) ((e x).strip.1) :=
   fun xs h1 h2 x hx=>(he x (h2 x hx)).strip (zD h1 x hx)
  obtain ⟨dst,op,ty,pos,after,guard⟩:=o
  simp only at he h hK st ⊢
  split at h
  ·rename_i T x
   simp only [aJ] at h
   obtain ⟨⟨ps,v,rd⟩,h1,rfl⟩:=h
   obtain ⟨p1,p2⟩:=aW.app hp
   obtain ⟨u,r1,r2⟩:=Rg g (st [x] p1 (by simp [Op.operands]) x (by simp)) h1 p2
   unfold Oper.wp
   have ex:execOp a.eval ⟨dst,.load T x,ty,pos,after,guard⟩=(do pure (.value (← Instr.loadAt T (a.eval x))):Sem Next):=rfl
   rw [ex]
   simp only [bH,r1,cN,Sem.run_pure]
   exact hK u w S μ (Ext.refl _ _ _) g (fun _ _ h=>h) r2
  ·rename_i args FH
   split at h
   case h_2=>cases h
   rename_i x y t t' ha ht
   split at h
   case h_2=>cases h
   rename_i hb
   have hb:=bm hb
   subst hb
   obtain ⟨rfl⟩:args=#[x,y]:=Array.toList_inj.1 (by rw [ha])
   obtain ⟨rfl⟩:FH=#[t,t]:=Array.toList_inj.1 (by rw [ht])
   simp only [aJ] at h
   obtain ⟨⟨ps,v,rd,u⟩,h1,rfl⟩:=h
   obtain ⟨p1,p2⟩:=aW.app hp
   have s:=st [x,y] p1 (by simp [Op.operands,Call.operands])
   have zs:Step P E nk σ S μ w (Builtin.append_ #[t,t] ty #[a.eval x,a.eval y]) v u:=by
    split at h1
    ·exact UG (ty:=ty) g (s x (by simp)) (s y (by simp)) h1 p2
    ·exact UI (ty:=ty) g (s x (by simp)) (s y (by simp)) h1 p2
    ·exact UJ (ty:=ty) g hk hm (s x (by simp)) (s y (by simp)) h1 p2
    ·exact MH (ty:=ty) g hk hm (s x (by simp)) (s y (by simp)) h1 p2
   obtain ⟨v',w',S',cD,r1,r2,r3,r4,r5⟩:=zs
   unfold Oper.wp
   have ex:execOp a.eval ⟨dst,.call ⟨.builtin .append,#[x,y],#[t,t]⟩,ty,pos,after,guard⟩=(do pure (.value (← Builtin.append_ #[t,t] ty #[a.eval x,a.eval y])):Sem Next):=by simp [execOp,resolve,invoke,builtin]
   rw [ex]
   simp only [bH,r1,cN,Sem.run_pure]
   exact hK v' w' S' cD r2 r3 (fun k lj=>r4 k (by omega)) r5
  ·rename_i args FH
   split at h
   case h_2=>cases h
   rename_i x y t t' ha ht
   obtain ⟨rfl⟩:args=#[x,y]:=Array.toList_inj.1 (by rw [ha])
   obtain ⟨rfl⟩:FH=#[t,t']:=Array.toList_inj.1 (by rw [ht])
   simp only [aJ] at h
   obtain ⟨⟨ps,v,rd,u⟩,h1,rfl⟩:=h
   obtain ⟨p1,p2⟩:=aW.app hp
   have s:=st [x,y] p1 (by simp [Op.operands,Call.operands])
   obtain ⟨v',w',S',cD,r1,r2,r3,r4,r5⟩:=UH (nk:=nk) (t':=t') (ty:=ty) g (s x (by simp)) (s y (by simp)) h1 p2
   unfold Oper.wp
   have ex:execOp a.eval ⟨dst,.call ⟨.builtin .copy,#[x,y],#[t,t']⟩,ty,pos,after,guard⟩=(do pure (.value (← Builtin.copy_ #[t,t'] ty #[a.eval x,a.eval y])):Sem Next):=by simp [execOp,resolve,invoke,builtin]
   rw [ex]
   simp only [bH,r1,cN,Sem.run_pure]
   exact hK v' w' S' cD r2 r3 (fun k lj=>r4 k (by omega)) r5
  ·rename_i args FH
   split at h
   case h_2=>cases h
   rename_i x t ha ht
   obtain ⟨rfl⟩:args=#[x]:=Array.toList_inj.1 (by rw [ha])
   obtain ⟨rfl⟩:FH=#[t]:=Array.toList_inj.1 (by rw [ht])
   simp only [aJ] at h
   obtain ⟨⟨ps,v,rd,u⟩,h1,rfl⟩:=h
   obtain ⟨p1,p2⟩:=aW.app hp
   have s:=st [x] p1 (by simp [Op.operands,Call.operands])
   obtain ⟨v',w',S',cD,r1,r2,r3,r4,r5⟩:=Rj (nk:=nk) (ty:=ty) g (s x (by simp)) h1 p2
   unfold Oper.wp
   have ex:execOp a.eval ⟨dst,.call ⟨.builtin .clear,#[x],#[t]⟩,ty,pos,after,guard⟩=(do pure (.value (← Builtin.clear_ #[t] ty #[a.eval x])):Sem Next):=by simp [execOp,resolve,invoke,builtin]
   rw [ex]
   simp only [bH,r1,cN,Sem.run_pure]
   exact hK v' w' S' cD r2 r3 (fun k lj=>r4 k (by omega)) r5
  ·rename_i t x lo hi mx
   have ex:∀ y,execOp a.eval ⟨dst,.slice t x lo hi y,ty,pos,after,guard⟩=(do pure (.value (← Instr.sliceAt t (a.eval x) (lo.map a.eval) (hi.map a.eval) (y.map a.eval))):Sem Next):=fun y=>rfl
   cases mx with
   | none =>
    simp only [aJ] at h
    obtain ⟨⟨ps,v,rd⟩,h1,rfl⟩:=h
    obtain ⟨p1,p2⟩:=aW.app hp
    have s:=st (x :: (lo.toList ++ hi.toList)) p1 (by
     intro y hy
     simp only [jw,List.mem_append,Option.mem_toList] at hy
     simp only [Op.operands]
     rcases hy with rfl | hy | hy
     ·simp
     ·simp [hy]
     ·simp [hy])
    obtain ⟨u,r1,r2⟩:=PB (P:=P) (vlo:=lo.map a.eval) (vhi:=hi.map a.eval) g (s x (by simp)) (by
     refine ⟨by simp,?_⟩
     intro p q n6 hq
     simp only [aJ] at n6 hq
     obtain ⟨y,hy,rfl⟩:=n6
     obtain ⟨z,hz,rfl⟩:=hq
     rw [hy] at hz;cases hz
     exact s y (by simp [hy])) (by
     refine ⟨by simp,?_⟩
     intro p q n6 hq
     simp only [aJ] at n6 hq
     obtain ⟨y,hy,rfl⟩:=n6
     obtain ⟨z,hz,rfl⟩:=hq
     rw [hy] at hz;cases hz
     exact s y (by simp [hy])) h1 p2
    unfold Oper.wp
    rw [ex none]
    simp only [Option.map_none,bH,r1,cN,Sem.run_pure]
    exact hK u w S μ (Ext.refl _ _ _) g (fun _ _ h=>h) r2
   | some m =>
    simp only at h
    split at h
    case h_2=>cases h
    rename_i l hh
    simp only [aJ] at h
    obtain ⟨⟨ps,v,rd⟩,h1,rfl⟩:=h
    obtain ⟨p1,p2⟩:=aW.app hp
    have s:=st [x,l,hh,m] p1 (by simp [Op.operands])
    obtain ⟨u,r1,r2⟩:=PA (P:=P) (s x (by simp)) (s l (by simp)) (s hh (by simp)) (s m (by simp)) h1 p2
    unfold Oper.wp
    rw [ex (some m)]
    simp only [Option.map_some,bH,r1,cN,Sem.run_pure]
    exact hK u w S μ (Ext.refl _ _ _) g (fun _ _ h=>h) r2
  ·exact KX (o:=⟨dst,op,ty,pos,after,guard⟩) he g Ad hm hz h hp hK
def SF (μ:Mu) (F:List Nat) (σ:du) (S:Nat→Prop) (b:Nat):Prop:=S b∨∃ k o pl,k∈F∧au σ k=some o∧μ k=some pl∧0 < pl.cap∧pl.b6=b
theorem Good.freeze (g:Good E σ S μ w) (F:List Nat) (hz:∀ b,¬ E.fp b):Good E (eX σ (vF true F)) (SF μ F σ S) μ w:=by
 have sg:∀ n o,au (eX σ (vF true F)) n=some o→au σ n=some o∧n ∉ F:=fun n o h=>by
  rw [me] at h
  by_cases hn:n∈F
  ·rw [if_pos ⟨rfl,hn⟩] at h;cases h
  ·rw [if_neg (fun e=>hn e.2)] at h;exact ⟨h,hn⟩
 have e:Ext w S μ w (SF μ F σ S) μ:=⟨aP _,fun _ h=>.inl h,fun _ _=>rfl,fun _ _ h=>h⟩
 refine ⟨g.fr,fun b h=>.inl (g.S0 b h),?_,?_,⟨?_,?_⟩,?_,g.Bo,?_⟩
 ·rintro b (h1 | ⟨k1,o1,Bn,UK,w6,Kq,td,rfl⟩)
  ·exact g.S1 b h1
  ·obtain ⟨iJ,c,T,fy,Rl⟩:=g.rep.ob k1 o1 w6
   rw [Kq] at fy;cases fy
   exact cr (Rl.b6 td)
 ·rintro b (h1 | ⟨k1,o1,Bn,UK,w6,Kq,td,rfl⟩)
  ·exact g.S2 b h1
  ·rcases g.own k1 o1 Bn w6 Kq td with h2 | h2
   ·exact (hz _ h2).elim
   ·exact .inr h2
 ·intro k o UL
  obtain ⟨h0,hnF⟩:=sg k o UL
  obtain ⟨pl,c,T,oc,u6⟩:=g.rep.ob k o h0
  refine ⟨pl,c,T,oc,u6.ext e (fun _=>rfl) ?_⟩
  rintro hc (h1 | ⟨k1,o1,Bn,UK,w6,Kq,td,hb⟩)
  ·exact u6.out hc h1
  ·exact g.rep.ne k1 k o1 o Bn pl (fun h=>hnF (h ▸ UK)) w6 h0 Kq oc td hc hb
 ·intro k k' o o' pl iJ ec h1 h2 h3 h4 h5 h6
  exact g.rep.ne k k' o o' pl iJ ec (sg _ _ h1).1 (sg _ _ h2).1 h3 h4 h5 h6
 ·exact fun k o pl h1 h2 h3=>g.own k o pl (sg _ _ h1).1 h2 h3
 ·have ZA:∀ k i x v,gR w μ (eX σ (vF true F)) k i x v→gR w μ σ k i x v:=fun k i x v ⟨o,pl,h1,h2,h3,h4⟩=>⟨o,pl,(sg _ _ h1).1,h2,h3,h4⟩
  refine g.mx.tr (fun k=>k) ZA (fun _ _ _ _ _ _ _ _ _ _ h=>h) (fun _ h=>.inl h) (fun _ _=>rfl) (fun k i x v b _ h hb=>⟨rfl,?_,fun h=>h⟩) (fun k o pl h1 h2 h3=>.inl ⟨k,o,pl,(sg _ _ h1).1,h2,h3,rfl⟩)
  rintro (h1 | ⟨k1,o1,Bn,_,w6,Kq,td,h1⟩)
  ·exact (g.mx.b6 h hb).2.1 h1
  ·exact g.mx.obj _ _ _ _ _ h hb k1 o1 Bn w6 Kq td h1
def TW (σ:du):du→Option (List Prop)
 | []=>some []
 | (k,o') :: r=>match au σ k,TW σ r with
  | some o,some ps=>match o.pr with
   | true=>some ((o'.len≤o.len) :: (∀ i,i < o'.len→o'.get i=o.get i) :: ps)
   | false=>none
  | _,_=>none
mutual
def UM (τ:du):AV→AV
 | .os k off len=>match off,au τ k with
  | 0,some o=>.sl o.len o.get
  | _,_=>.os k off len
 | .agg cs=>.agg (Xq τ cs)
 | x=>x
def Xq (τ:du):List AV→List AV
 | []=>[]
 | c :: cs=>UM τ c :: Xq τ cs
end
mutual
def Xr (τ:du):AV→List Prop
 | .os k off len=>match off,au τ k with
  | 0,some o=>[len=o.len]
  | _,_=>[]
 | .agg cs=>UN τ cs
 | _=>[]
def UN (τ:du):List AV→List Prop
 | []=>[]
 | c :: cs=>Xr τ c ++ UN τ cs
end
def YQ (τ:du) (e:Operand→AV):List Operand→List Prop
 | []=>[]
 | x :: r=>Xr τ (e x) ++ YQ τ e r
theorem Of:∀ {τ:du} {ps:List Prop},TW σ τ=some ps→aW ps→∀ {k:Nat} {o':Ob},au τ k=some o'→k∈τ.map (·.1)∧∃ o,au σ k=some o∧o.pr=true∧o'.len≤o.len∧∀ i,i < o'.len→o'.get i=o.get i
 | [],ps,_,_,k,o',h=>by simp [au] at h
 | (k0,o0) :: r,ps,h,hp,k,o',hk=>by
  simp only [TW] at h
  split at h
  ·rename_i o qs ho hr
   split at h
   ·rename_i DV
    cases h
    obtain ⟨p1,p2,p3⟩:=hp
    simp only [au] at hk
    split at hk
    ·rename_i hb
     cases hk
     rw [← bm hb]
     exact ⟨by simp,o,ho,DV,p1,p2⟩
    ·obtain ⟨q1,q2⟩:=Of hr p3 hk
     exact ⟨List.mem_cons_of_mem _ q1,q2⟩
   ·cases h
  ·cases h
theorem ki {cD:Mu} {v:Value} {x:AV} {F:List Nat} (h:aq w S cD v x):aq w (SF μ F σ S) cD v x:=h.mono (fun _ h=>.inl h) (fun _ _=>rfl) (fun _ _ h=>h)
theorem ZC (g:Good E σ S μ w) {τ:du} {qs:List Prop} (hs:TW σ τ=some qs) (hq:aW qs) {k off len:Nat} {v:Value} (h:aq w S μ v (.os k off len)) (hp:aW (Xr τ (.os k off len))):aq w (SF μ (τ.map (·.1)) σ S) μ v (UM τ (.os k off len)):=by
 simp only [UM,Xr] at hp ⊢
 split at hp
 ·rename_i o' m5
  obtain ⟨rfl,_⟩:=hp
  obtain ⟨hF,o,ho,DV,p2,p3⟩:=Of hs hq m5
  obtain ⟨pl,c,T,hm,cE⟩:=g.rep.ob k o ho
  cases h with
  | os iJ fy h1 h2 h3 =>
   rename_i cap a
   rw [hm] at fy;cases fy
   refine .sl pl.b6 (0 * pl.sz) o.sz (fun i j=>(c[(0+i) * o.sz+j]?).getD undef) ?_ (fun i hi=>by rw [p3 i hi];exact cE.tz _ (by omega)) ?_ ?_ h2
   ·intro hl
    exact ⟨h1 (by omega),.inr ⟨k,o,pl,hF,ho,hm,by omega,rfl⟩⟩
   ·intro i j hi hj
    obtain ⟨v,q1,q2⟩:=di cE (i:=0+i) (by omega) hj
    rw [q1,cE.sz,← ca,q2];rfl
   ·intro i j c' hi jr
    rw [p3 i hi] at jr
    obtain ⟨v,q1,q2⟩:=di cE (i:=0+i) (by omega) (by have:=(dd.1 jr).1;rw [cE.tz _ (by omega)] at this;exact this)
    rw [q1]
    have:=cE.rep _ j c' v (by omega) (by rw [Nat.zero_add];exact jr) q1
    rw [DV] at this
    exact ki this
 ·exact ki h
mutual
theorem Rm (g:Good E σ S μ w) {τ:du} {qs:List Prop} (hs:TW σ τ=some qs) (hq:aW qs):∀ (x:AV) (v:Value),aq w S μ v x→aW (Xr τ x)→aq w (SF μ (τ.map (·.1)) σ S) μ v (UM τ x)
 | .os _ _ _,_,h,hp=>ZC g hs hq h hp
 | .agg cs,v,h,hp=>by
  simp only [UM,Xr] at hp ⊢
  obtain ⟨vs,rfl,h1,h2⟩:=nO h
  obtain ⟨q1,q2⟩:=Og g hs hq cs hp
  refine .agg (h1.trans q1.symm) fun j c v hc hv=>?_
  have hj:j < cs.length:=by rw [← q1];exact (dd.1 hc).1
  exact q2 j (cs[j]) c v (ke hj) hc (h2 j _ v (ke hj) hv)
 | .nil,_,h,_=>ki h
 | .atom _,_,h,_=>ki h
 | .tup _,_,h,_=>ki h
 | .sl _ _,_,h,_=>ki h
 | .rp _ _,_,h,_=>ki h
 | .op _ _ _,_,h,_=>ki h
 | .fn _ _ _,_,h,_=>ki h
 | .when _ _,_,h,_=>ki h
 | .mp _,_,h,_=>ki h
 | .bn _,_,h,_=>ki h
 | .pt _ _,_,h,_=>ki h
 | .ov _ _ _ _ _,_,h,_=>ki h
 | .Cy _ _ _,_,h,_=>ki h
 | .nq _ _,_,h,_=>ki h
 | .mV,_,h,_=>ki h
 | .mr _ _ _,_,h,_=>ki h
theorem Og (g:Good E σ S μ w) {τ:du} {qs:List Prop} (hs:TW σ τ=some qs) (hq:aW qs):∀ (cs:List AV),aW (UN τ cs)→(Xq τ cs).length=cs.length ∧
  ∀ (j:Nat) c y v,cs[j]?=some c→(Xq τ cs)[j]?=some y→aq w S μ v c→aq w (SF μ (τ.map (·.1)) σ S) μ v y
 | [],_=>⟨rfl,fun j c y v hc=>by simp at hc⟩
 | c :: cs,hp=>by
  simp only [UN] at hp
  obtain ⟨p1,p2⟩:=aW.app hp
  obtain ⟨q1,q2⟩:=Og g hs hq cs p2
  refine ⟨by simp [Xq,q1],fun j c' y v hc hy h=>?_⟩
  cases j with
  | zero =>
   simp only [Xq,List.getElem?_cons_zero,az] at hc hy
   subst hc hy
   exact Rm g hs hq c v h p1
  | succ j =>
   simp only [Xq,Br] at hc hy
   exact q2 j c' y v hc hy h
end
def Rn (op:Op):Option lZ→Option du
 | none=>none
 | some q=>match q.wY,op with
  | true,.buildSlice _ _ _=>some q.jk
  | true,.build _ _=>some q.jk
  | true,.box _ _=>some q.jk
  | true,.store _ _ _=>some q.jk
  | _,_=>none
theorem MI {c:Call} (orc:Option lZ):Rn (.defer c) orc=none:=by
 cases orc with
 | none=>rfl
 | some q=>cases h:q.wY<;>simp [Rn,h]
theorem Ro {op:Op} {orc:Option lZ} {τ:du} (h:Rn op orc=some τ):∃ x,orc=some x∧x.wY=true:=by
 unfold Rn at h
 split at h
 ·cases h
 ·rename_i q
  refine ⟨q,rfl,?_⟩
  split at h<;>first | assumption | cases h
def As (P:Program) (nk:Nat) (σ:du) (op:Op) (e:Operand→AV) (orc:Option lZ):Option R :=
 match Rn op orc with
 | none=>yC P nk σ op e orc
 | some τ=>match TW σ τ,yC P nk (eX σ (vF true (τ.map (·.1)))) op (fun x=>UM τ (e x)) orc with
  | some ps,some r=>some ⟨ps ++ (YQ τ e op.operands.toList ++ r.HA),r.val,τ.map (·.1) ++ r.rds,vF true (τ.map (·.1)) ++ r.upd⟩
  | _,_=>none
theorem Oh {τ:du} {e:Operand→AV}:∀ {xs:List Operand},aW (YQ τ e xs)→∀ x∈xs,aW (Xr τ (e x))
 | [],_,x,hx=>by simp at hx
 | y :: r,h,x,hx=>by
  obtain ⟨h1,h2⟩:=aW.app h
  rcases jw.1 hx with rfl | hx
  ·exact h1
  ·exact Oh h2 x hx
theorem PC {o:Oper} {a:Act} {e:Operand→AV} {orc:Option lZ} {r:R} {next:Act→World→Prop} {Q:Exit→Act→World→Prop}
  (he:∀ x∈o.op.operands.toList,aq w S μ (a.eval x) (e x)) (g:Good E σ S μ w) (Ad:∀ j,j < 16→μ (nk+j)=none) (hm:E.m0≤nk)
  (hz:∀ x,orc=some x→x.wY=true→∀ b,¬ E.fp b) (h:As P nk σ o.op e orc=some r) (hp:aW r.HA) (hK:Rf E nk σ S μ w r fun v w'=>next (a.put o.dst v) w'):o.wp P a w next Q:=by
 unfold As at h
 split at h
 ·exact IC he g Ad hm hz h hp hK
 ·rename_i τ hτ
  split at h
  ·rename_i ps r0 h1 h2
   cases h
   obtain ⟨p1,p23⟩:=aW.app hp
   obtain ⟨p2,p3⟩:=aW.app p23
   obtain ⟨q,FK,dQ⟩:=Ro hτ
   have g1:=g.freeze (τ.map (·.1)) (hz q FK dQ)
   have e1:Ext w S μ w (SF μ (τ.map (·.1)) σ S) μ:=⟨aP _,fun _ h=>.inl h,fun _ _=>rfl,fun _ _ h=>h⟩
   refine IC (e:=fun x=>UM τ (e x)) (fun x hx=>Rm g h1 p1 _ _ (he x hx) (Oh p2 x hx)) g1 Ad hm hz h2 p3 ?_
   intro v w' S' cD x1 x2 x3 x4
   exact hK v w' S' cD (e1.trans x1) (by rw [gf];exact x2) x3 x4
  ·cases h
end
end Go.Ab
namespace Go.Ab
structure St where
 tm:List (Nat×AV)
 jk:du
 nk:Nat
def u7:AV→Bool→Option Bool
 | .atom (.bool b),want=>some (match want with
  | true=>b
  | false=>!b)
 | .when g x,want=>(u7 x want).map fun b=>g && b
 | _,_=>none
structure Rec where
 HA:List Prop
 dst:Option Nat
 val:AV
 rds:List Nat
 upd:r7
def BE (σ:du) (op:Op) (e:Operand→AV) (y:YC):Option R :=
 match op with
 | .call ⟨.value f,args,_⟩=>match (e f).strip.1,au σ y.k with
  | .atom (.func (.yield l) vs ws),some o=>some ⟨(l=y.l∧vs=#[]∧ws=#[]∧args.toList.map (fun x=>(e x).strip.1)=y.as∧o=y.o) :: conds e (f :: args.toList),.atom (.bool true),[y.k],[(y.k,some y.o')]⟩
  | _,_=>none
 | _=>none
def yD (P:Program) (nk:Nat) (σ:du) (op:Op) (e:Operand→AV) (orc:Option lZ):Option R :=
 match abV orc with
 | some y=>BE σ op e y
 | none=>As P nk σ op e orc
def under (g:Bool):List Prop→List Prop
 | []=>[]
 | p :: ps=>[g=true→aW (p :: ps)]
def Rp (ops:List Oper) (j:Nat):Option Nat:=(ops[j]?).bind (·.dst)
def Wt (nt:Nat):Option Nat→Bool
 | none=>true
 | some d=>Nat.blt d nt
def xI (P:Program) (nt:Nat) (ops:List Oper) (nk:Nat) (tm:List (Nat×AV)) (σ:du) (o:Oper) (orc:Option lZ):Option Rec :=
 match Wt nt o.dst with
 | false=>none
 | true=>match o.guard with
  | none=>(yD P nk σ o.op (xH tm) orc).map fun r=>⟨r.HA,o.dst,r.val,r.rds,r.upd⟩
  | some (j,want)=>match Rp ops j with
   | none=>none
   | some d=>match abW orc with
    | 0=>match u7 (cJ tm d) want,yD P nk σ o.op (xH tm) orc with
     | some g,some r=>match r.upd with
      | []=>some ⟨under g r.HA,o.dst,.when g r.val,r.rds,[]⟩
      | _ :: _=>none
     | _,_=>none
    | 1=>match u7 (cJ tm d) want,yD P nk σ o.op (xH tm) orc with
     | some g,some r=>some ⟨(g=true) :: r.HA,o.dst,r.val,r.rds,r.upd⟩
     | _,_=>none
    | _=>match u7 (cJ tm d) want with
     | some g=>some ⟨[g=false],o.dst,.when g (abX orc),[],[]⟩
     | none=>none
def xJ (tm:List (Nat×AV)) (d:Option Nat) (x:AV):List (Nat×AV) :=
 match d with
 | none=>tm
 | some d=>(d,x) :: tm
def l3:List (Nat×lZ)→Nat→Option lZ
 | [],_=>none
 | (k,o) :: r,n=>match Nat.beq k n with
  | true=>some o
  | false=>l3 r n
def oK (P:Program) (nt:Nat) (ops:List Oper) (nk:Nat) (orcs:List (Nat×lZ)):List Oper→Nat→List (Nat×AV)→du→Option (List Rec)
 | [],_,_,_=>some []
 | o :: r,i,tm,σ=>match xI P nt ops (nk+16 * i) tm σ o (l3 orcs i) with
  | none=>none
  | some x=>(oK P nt ops nk orcs r (i+1) (xJ tm x.dst x.val) (eX σ x.upd)).map fun l=>x :: l
def vL:List Rec→List (Nat×AV)→List (Nat×AV)
 | [],tm=>tm
 | x :: r,tm=>vL r (xJ tm x.dst x.val)
def qF:List Rec→du→du
 | [],σ=>σ
 | x :: r,σ=>qF r (eX σ x.upd)
def w8:List Rec→List Prop
 | []=>[]
 | x :: r=>x.HA ++ w8 r
def HC (E:Env) (st:St) (tm:Array Value) (w:World):Prop :=
 ∃ S μ,Good E st.jk S μ w∧(∀ k,st.nk≤k→μ k=none)∧E.m0≤st.nk∧∀ t,aq w S μ (tm.getD t undef) (cJ st.tm t)
theorem mo {tm:List (Nat×AV)} {d:Option Nat} {x:AV} (t:Nat):cJ (xJ tm d x) t=if d=some t then x else cJ tm t:=by
 cases d with
 | none=>simp [xJ]
 | some d =>
  simp only [xJ,cJ,az]
  by_cases h:d=t
  ·rw [ko h,if_pos h]
  ·rw [lR h,if_neg h]
theorem BF (a:Act) (d:Option Nat) (v:Value) (t:Nat) (h:∀ n,d=some n→n < a.tmps.size):(a.put d v).tmps.getD t undef=if d=some t then v else a.tmps.getD t undef:=by
 cases d with
 | none=>simp [Act.put]
 | some d =>
  simp only [Act.put,az]
  have hd:=h d rfl
  by_cases ht:d=t
  ·subst ht;simp [fm,hd]
  ·simp [fm,ht]
theorem yE (a:Act) (d:Option Nat) (v:Value):(a.put d v).tmps.size=a.tmps.size:=by cases d<;>simp [Act.put]
theorem re (a:Act) (d:Option Nat) (v:Value):(a.put d v).defers=a.defers:=by cases d<;>simp [Act.put]
theorem zG {w:World} {S:Nat→Prop} {μ:Mu} {a:Act} {tm:List (Nat×AV)} (h:∀ t,aq w S μ (a.tmps.getD t undef) (cJ tm t)) (x:Operand):aq w S μ (a.eval x) (xH tm x):=by
 cases x with
 | tmp t=>exact h t
 | const v=>exact Ic w S μ v
 | global g=>exact .atom _
 | func f=>exact .fn (by simp) (by simp) (fun j c v hc=>by simp at hc) (fun j c v hc=>by simp at hc)
def FL:Value→Option Bool
 | .bool b=>some b
 | _=>none
theorem K0 {w:World} {S:Nat→Prop} {μ:Mu} {v:Value} {x:AV} (h:aq w S μ v x):∀ {want g:Bool},u7 x want=some g→(FL v == some want)=g:=by
 induction h with
 | atom v =>
  intro want g hg
  cases v with
  | bool b =>
   simp only [u7,az] at hg
   subst hg
   cases b<;>cases want<;>rfl
  | _=>simp [u7] at hg
 | @when μ b v x h1 hu ih =>
  intro want g hg
  simp only [u7,aJ] at hg
  obtain ⟨g',hg',rfl⟩:=hg
  cases b with
  | true=>simpa using ih rfl hg'
  | false =>
   rw [hu rfl]
   simp [undef,FL]
 | _=>intro want g hg;simp [u7] at hg
section
variable {P:Program} {E:Env} {σ:du} {S:Nat→Prop} {μ:Mu} {w:World}
def FW (rd:Option Nat):Fence:={ Fence.wide with round:=rd }
theorem UO {rd:Option Nat} {o:Oper} {a:Act} {next:Act→World→Prop} {Q:Exit→Act→World→Prop} {r:Result Next} (h:o.upon P a next Q r):o.uponIn (FW rd) 0 P a next Q r:=by
 cases r with
 | ok x w' =>
  cases x with
  | value v=>exact h
  | skip=>exact h
  | defer d=>exact h
  | enter f args=>exact ⟨fun hh=>by simp [FW,Fence.wide] at hh,(callsIn_wide (n:=0)).2 h⟩
  | row row args=>exact ⟨fun hh=>by simp [FW,Fence.wide] at hh,fun c cs _=>let ⟨v,w',q1,q2⟩:=h c cs;⟨v,w',q1,stepsIn_wide.2 q2⟩⟩
  | _=>exact h.elim
 | halt x w' =>
  cases x with
  | panic v=>exact h
  | _=>exact h.elim
def Xs (P:Program) (E:Env) (y:YC):Prop:=∀ (w:World) (S:Nat→Prop) (μ:Mu) (σ:du) (vs:Array Value),Good E σ S μ w→RL w S μ vs y.as→au σ y.k=some y.o →
 YieldAt Fence.wide 0 P y.l vs w fun e w'=>e=.returned (.bool true)∧∃ S',Ext w S μ w' S' μ∧Good E (sset σ y.k y.o') S' μ w'
def FM (P:Program) (E:Env) (orc:Option lZ):Prop:=(∀ x,orc=some x→x.wY=true→∀ b,¬ E.fp b)∧∀ x y,orc=some x→x.y=some y→Xs P E y
theorem K3 {rd:Option Nat} {o:Oper} {a:Act} {e:Operand→AV} {y:YC} {r:R} {next:Act→World→Prop} {Q:Exit→Act→World→Prop}
  (he:∀ x∈o.op.operands.toList,aq w S μ (a.eval x) (e x)) (g:Good E σ S μ w) {nk:Nat} (hy:Xs P E y) (h:BE σ o.op e y=some r) (hp:aW r.HA)
  (hK:Rf E nk σ S μ w r fun v w'=>next (a.put o.dst v) w'):o.wpIn (FW rd) 0 P a w next Q:=by
 obtain ⟨dst,op,ty,pos,after,guard⟩:=o
 unfold BE at h
 simp only at h he
 split at h
 case h_2=>cases h
 rename_i f args FH
 split at h
 case h_2=>cases h
 rename_i l vs ws o1 hfe w6
 simp only [az] at h
 subst h
 obtain ⟨⟨rfl,rfl,rfl,has,rfl⟩,hc⟩:=hp
 have ZD:=zD hc
 have mem:∀ x,x∈f :: args.toList→x∈(Op.call ⟨.value f,args,FH⟩).operands.toList:=by
  intro x hx
  simp only [Op.operands,Call.operands] at *
  simpa using hx
 have hs:∀ x,x∈f :: args.toList→aq w S μ (a.eval x) ((e x).strip.1):=fun x hx=>(he x (mem x hx)).strip (ZD x hx)
 have hf:=hs f (by simp)
 rw [hfe] at hf
 have hf:=db hf
 have Px:RL w S μ (args.map a.eval) y.as:=by
  rw [← has]
  refine ⟨by simp,fun j c v hc hv=>?_⟩
  simp only [List.getElem?_map,aJ,Array.getElem?_map] at hc hv
  obtain ⟨x,hx,rfl⟩:=hc
  obtain ⟨x',sG,rfl⟩:=hv
  rw [← Array.getElem?_toList,hx] at sG
  cases sG
  exact hs x (List.mem_cons_of_mem _ (List.mem_of_getElem? hx))
 obtain ⟨fn,tmps,assign,body,jc,Xt⟩:=hy w S μ σ _ g Px w6
 refine ⟨fun _ _=>trivial,?_⟩
 have ex:(Oper.semAt (FW rd).round a.eval ⟨dst,.call ⟨.value f,args,FH⟩,ty,pos,after,guard⟩).run P w=.ok (.round y.l fn tmps assign body) w:=by
  rw [Oper.semAt_eq _ _ _ (fun c=>by simp)]
  have:execOp a.eval ⟨dst,.call ⟨.value f,args,FH⟩,ty,pos,after,guard⟩=(do let d ← Deferred.ofValue (a.eval f) (args.map a.eval);invoke d.target d.args:Sem Next):=rfl
  rw [this,hf]
  simpa [Deferred.ofValue,invoke] using jc
 rw [ex]
 refine ⟨fun hh=>by simp [FW,Fence.wide] at hh,RoundIn.mono (F:=Fence.wide) Xt ?_⟩
 rintro e' w' ⟨rfl,S',hx,hg⟩
 exact hK _ w' S' μ hx (by simpa [eX] using hg) (fun _ _ h=>h) (.atom _)
theorem CY {rd:Option Nat} {o:Oper} {a:Act} {e:Operand→AV} {orc:Option lZ} {r:R} {nk:Nat} {next:Act→World→Prop} {Q:Exit→Act→World→Prop}
  (he:∀ x∈o.op.operands.toList,aq w S μ (a.eval x) (e x)) (g:Good E σ S μ w) (Ad:∀ j,j < 16→μ (nk+j)=none) (hm:E.m0≤nk)
  (hz:FM P E orc) (h:yD P nk σ o.op e orc=some r) (hp:aW r.HA) (hK:Rf E nk σ S μ w r fun v w'=>next (a.put o.dst v) w'):o.wpIn (FW rd) 0 P a w next Q:=by
 unfold yD at h
 split at h
 ·rename_i y hy
  have:∃ x,orc=some x∧x.y=some y:=by
   cases orc with
   | none=>cases hy
   | some x=>exact ⟨x,rfl,hy⟩
  obtain ⟨x,h1,h2⟩:=this
  exact K3 (nk:=nk) he g (hz.2 x y h1 h2) h hp hK
 ·refine ⟨fun _ _=>trivial,?_⟩
  have hd:∀ c,o.op≠.defer c:=fun c hc=>by rw [hc] at h;unfold As at h;simp only [MI] at h;unfold yC at h;split at h<;>simp [dX] at h
  rw [Oper.semAt_eq _ _ _ hd]
  exact UO (PC he g Ad hm hz.1 h hp hK)
theorem CZ {rd:Option Nat} {nt nk:Nat} {ops:Array Oper} {i:Nat} {o:Oper} {a:Act} {tm:List (Nat×AV)} {orc:Option lZ} {x:Rec} {K:Act→World→Prop} {Q:Exit→Act→World→Prop}
  (hi:ops[i]?=some o) (ht:∀ t,aq w S μ (a.tmps.getD t undef) (cJ tm t)) (g:Good E σ S μ w) (hk:∀ j,j < 16→μ (nk+j)=none) (hm:E.m0≤nk)
  (hz:FM P E orc) (h:xI P nt ops.toList nk tm σ o orc=some x) (hp:aW x.HA)
  (hK:∀ v w' S' cD,Ext w S μ w' S' cD→Good E (eX σ x.upd) S' cD w'→(∀ k,(k < nk∨nk+16≤k)→μ k=none→cD k=none)→aq w' S' cD v x.val→K (a.put x.dst v) w') :
  wpOpIn (FW rd) 0 P ops Q i K a w:=by
 unfold xI at h
 split at h
 ·cases h
 ·split at h
  ·rename_i ZE
   simp only [aJ] at h
   obtain ⟨r,h1,rfl⟩:=h
   unfold wpOpIn
   rw [hi]
   simp only [Region.wanted,ZE,if_true]
   exact CY (fun x _=>zG ht x) g hk hm hz h1 hp hK
  ·rename_i j want ZE
   split at h
   ·cases h
   ·rename_i d hd
    have Xu:∀ gb,u7 (cJ tm d) want=some gb→Region.wanted o (yielded ops a.tmps)=gb:=fun gb hg=>by
     have hy:yielded ops a.tmps j=FL (a.tmps.getD d undef):=by
      unfold yielded
      unfold Rp at hd
      have Wn:(ops[j]?).bind (·.dst)=some d:=by simpa using hd
      rw [Wn]
      simp only [bO,fm]
      cases a.tmps[d]? with
      | none=>simp [undef,FL]
      | some v=>cases v<;>simp [FL]
     simp only [Region.wanted,ZE]
     rw [hy]
     exact K0 (ht d) hg
    split at h
    rotate_left
    ·split at h
     ·rename_i gb r hg h1
      cases h
      unfold wpOpIn
      rw [hi]
      have hw:=Xu gb hg
      obtain ⟨hg1,ug⟩:=hp
      subst hg1
      simp only [hw,if_true]
      exact CY (fun x _=>zG ht x) g hk hm hz h1 ug hK
     ·cases h
    ·split at h
     ·rename_i gb hg
      cases h
      unfold wpOpIn
      rw [hi]
      have hw:=Xu gb hg
      obtain ⟨hg1,-⟩:=hp
      subst hg1
      simp only [hw,Bool.false_eq_true,if_false]
      refine ⟨fun _ _=>trivial,?_⟩
      exact hK undef w S μ (Ext.refl _ _ _) g (fun _ _ h=>h) (.when (fun h=>by cases h) (fun _=>rfl))
     ·cases h
    split at h
    ·rename_i gb r hg h1
     split at h
     ·rename_i hu
      cases h
      unfold wpOpIn
      rw [hi]
      have hw:Region.wanted o (yielded ops a.tmps)=gb:=Xu gb hg
      simp only [hw]
      cases gb with
      | true =>
       simp only [if_true]
       have n6:aW r.HA:=by
        cases hr:r.HA with
        | nil=>trivial
        | cons p ps =>
         rw [hr] at hp
         exact hp.1 rfl
       refine CY (fun x _=>zG ht x) g hk hm hz h1 n6 ?_
       intro v w' S' cD q1 q2 q3 q4
       rw [hu] at q2
       exact hK v w' S' cD q1 q2 q3 (.when (fun _=>q4) (fun h=>by cases h))
      | false =>
       simp only [Bool.false_eq_true,if_false]
       refine ⟨fun _ _=>trivial,?_⟩
       exact hK undef w S μ (Ext.refl _ _ _) g (fun _ _ h=>h) (.when (fun h=>by cases h) (fun _=>rfl))
     ·cases h
    ·cases h
theorem C8 {nt nk:Nat} {ops:List Oper} {tm:List (Nat×AV)} {o:Oper} {orc:Option lZ} {x:Rec} (h:xI P nt ops nk tm σ o orc=some x):x.dst=o.dst∧∀ n,o.dst=some n→n < nt:=by
 unfold xI at h
 split at h
 ·cases h
 ·rename_i hd
  have h2:∀ n,o.dst=some n→n < nt:=fun n hn=>by
   rw [hn] at hd;simp only [Wt,Nat.blt,Nat.ble_eq] at hd;exact hd
  split at h
  ·simp only [aJ] at h
   obtain ⟨r,_,rfl⟩:=h
   exact ⟨rfl,h2⟩
  ·split at h
   ·cases h
   ·split at h
    ·split at h
     ·split at h
      ·cases h;exact ⟨rfl,h2⟩
      ·cases h
     ·cases h
    ·split at h
     ·cases h;exact ⟨rfl,h2⟩
     ·cases h
    ·split at h
     ·cases h;exact ⟨rfl,h2⟩
     ·cases h
theorem C9 {rd:Option Nat} {ds:List Deferred} {nt nk:Nat} {ops:Array Oper} {orcs:List (Nat×lZ)} (hz:∀ i,FM P E (l3 orcs i)) (hm:E.m0≤nk) {Q:Exit→Act→World→Prop}:∀ (l:List Oper) (i:Nat) (a:Act) (w:World) (tm:List (Nat×AV)) (σ:du) (S:Nat→Prop) (μ:Mu) (bG:List Rec),
  ops.toList.drop i=l→i+l.length=ops.size→a.tmps.size=nt→a.defers=ds→Good E σ S μ w→(∀ k,nk+16 * i≤k→μ k=none)→(∀ t,aq w S μ (a.tmps.getD t undef) (cJ tm t)) →
  oK P nt ops.toList nk orcs l i tm σ=some bG→aW (w8 bG) →
  (∀ a' w' S' cD,a'.tmps.size=nt→a'.defers=ds→Good E (qF bG σ) S' cD w'→(∀ k,nk+16 * ops.size≤k→cD k=none)→(∀ t,aq w' S' cD (a'.tmps.getD t undef) (cJ (vL bG tm) t))→Q .normal a' w') →
  wpOpsIn (FW rd) 0 P ops Q (List.range' i l.length) a w
 | [],i,a,w,tm,σ,S,μ,bG,hl,yh,hs,Mf,g,hk,ht,h,hp,hQ=>by
  simp only [oK,az] at h
  subst h
  simp only [List.length_nil,List.range'_zero,wpOpsIn]
  refine hQ a w S μ hs Mf g (fun k lj=>hk k (by simp at yh;omega)) ht
 | o :: r,i,a,w,tm,σ,S,μ,bG,hl,yh,hs,Mf,g,hk,ht,h,hp,hQ=>by
  simp only [oK] at h
  split at h
  ·cases h
  ·rename_i x hx
   simp only [aJ] at h
   obtain ⟨l',h2,rfl⟩:=h
   obtain ⟨p1,p2⟩:=aW.app hp
   have hi:ops[i]?=some o:=by
    have:(ops.toList.drop i)[0]?=some o:=by rw [hl];rfl
    rw [kf] at this
    simpa using this
   have ZF:ops.toList.drop (i+1)=r:=by
    rw [← List.tail_drop,hl];rfl
   obtain ⟨d1,d2⟩:=C8 hx
   simp only [qO,List.range'_succ]
   rw [wpOpsIn_cons]
   refine CZ hi ht g (fun j hj=>hk _ (by omega)) (by omega) (hz i) hx p1 ?_
   intro v w' S' cD q1 q2 q3 q4
   refine C9 hz hm r (i+1) _ w' _ _ S' cD l' ZF (by simp at yh;omega) (by rw [yE];exact hs) (by rw [re];exact Mf) q2 (fun k lj=>q3 k (by omega) (hk k (by omega))) ?_ h2 p2 hQ
   intro t
   rw [BF a x.dst v t (fun n hn=>by rw [hs];exact d2 n (d1 ▸ hn)),mo]
   split
   ·exact q4
   ·exact (ht t).ext q1
end
end Go.Ab
namespace Go.Ab
def jy (u:r7):List Nat:=u.map (·.1)
section
variable {P:Program} {nk:Nat} {σ dx:du}
theorem jI {e e':Operand→AV}:∀ {xs:List Operand},(∀ x∈xs,e' x=e x)→conds e' xs=conds e xs
 | [],_=>rfl
 | x :: r,h=>by simp only [conds];rw [h x (by simp),jI fun y hy=>h y (by simp [hy])]
theorem Rq {op:Op} {e e':Operand→AV} {orc:Option lZ} (he:∀ x∈op.operands.toList,e' x=e x):dX P nk σ op e' orc=dX P nk σ op e orc:=by
 cases op with
 | move x=>simp only [dX];rw [he x (by simp [Op.operands])]
 | assign x=>simp only [dX];rw [he x (by simp [Op.operands])]
 | pick q a b=>simp only [dX];rw [he q (by simp [Op.operands]),he a (by simp [Op.operands]),he b (by simp [Op.operands])]
 | alloc T=>rfl
 | box T x=>simp only [dX,conds];rw [he x (by simp [Op.operands])]
 | build t parts =>
  simp only [dX]
  have h1:∀ x∈parts.toList.map (·.2),e' x=e x:=fun x hx=>he x (by simpa [Op.operands] using hx)
  rw [jI h1]
  congr 2
  apply List.map_congr_left
  intro p hp
  rw [h1 p.2 (List.mem_map.2 ⟨p,hp,rfl⟩)]
 | buildSlice t len parts =>
  simp only [dX]
  have h1:∀ x∈parts.toList.map (·.2),e' x=e x:=fun x hx=>he x (by simpa [Op.operands] using hx)
  rw [jI h1]
  have h2:(parts.toList.map fun p=>(p.1,(e' p.2).strip.1))=(parts.toList.map fun p=>(p.1,(e p.2).strip.1)):=by
   apply List.map_congr_left
   intro p hp
   rw [h1 p.2 (List.mem_map.2 ⟨p,hp,rfl⟩)]
  rw [h2]
 | load T x=>simp only [dX,conds];rw [he x (by simp [Op.operands])]
 | store T x y=>simp only [dX,conds];rw [he x (by simp [Op.operands]),he y (by simp [Op.operands])]
 | nilCheck x=>simp only [dX,conds];rw [he x (by simp [Op.operands])]
 | binOp o t x y yt=>simp only [dX,conds];rw [he x (by simp [Op.operands]),he y (by simp [Op.operands])]
 | unOp o t x=>simp only [dX,conds];rw [he x (by simp [Op.operands])]
 | convert s d x=>simp only [dX,conds];rw [he x (by simp [Op.operands])]
 | makeMap t r=>cases r<;>simp [dX]
 | lookup t m x ok=>simp only [dX,conds];rw [he m (by simp [Op.operands]),he x (by simp [Op.operands])]
 | mapUpdate t m x y=>simp only [dX,conds];rw [he m (by simp [Op.operands]),he x (by simp [Op.operands]),he y (by simp [Op.operands])]
 | insert t m x y=>simp only [dX,conds];rw [he m (by simp [Op.operands]),he x (by simp [Op.operands]),he y (by simp [Op.operands])]
 | makeFunc f first cap =>
  simp only [dX]
  have h1:∀ x∈first.toList ++ cap.toList,e' x=e x:=fun x hx=>he x (by simpa [Op.operands] using hx)
  rw [jI h1]
  congr 3
  ·apply List.map_congr_left;intro x hx;rw [h1 x (by simp only [List.mem_append];exact .inl hx)]
  ·apply List.map_congr_left;intro x hx;rw [h1 x (by simp only [List.mem_append];exact .inr hx)]
 | makeSlice t x y=>simp only [dX,conds];rw [he x (by simp [Op.operands]),he y (by simp [Op.operands])]
 | slice t x lo hi mx =>
  cases mx with
  | some _=>simp [dX]
  | none =>
   simp only [dX]
   have h1:∀ y∈x :: (lo.toList ++ hi.toList),e' y=e y:=fun y hy=>he y (by
    simp only [jw,List.mem_append,Option.mem_toList] at hy
    simp only [Op.operands]
    rcases hy with rfl | hy | hy
    ·simp
    ·simp [hy]
    ·simp [hy])
   rw [jI h1,h1 x (by simp)]
   have h2:(lo.map fun x=>(e' x).strip.1)=lo.map fun x=>(e x).strip.1:=by
    cases lo with
    | none=>rfl
    | some y=>simp [h1 y (by simp)]
   have h3:(hi.map fun x=>(e' x).strip.1)=hi.map fun x=>(e x).strip.1:=by
    cases hi with
    | none=>rfl
    | some y=>simp [h1 y (by simp)]
   rw [h2,h3]
 | fieldAddr T x f=>simp only [dX,conds];rw [he x (by simp [Op.operands])]
 | field T x f=>simp only [dX,conds];rw [he x (by simp [Op.operands])]
 | indexAddr T x i=>simp only [dX,conds];rw [he x (by simp [Op.operands]),he i (by simp [Op.operands])]
 | index T x i=>simp only [dX,conds];rw [he x (by simp [Op.operands]),he i (by simp [Op.operands])]
 | extract x i=>simp only [dX,conds];rw [he x (by simp [Op.operands])]
 | call c =>
  obtain ⟨callee,args,argTypes⟩:=c
  cases callee with
  | invoke=>simp [dX]
  | value f =>
   simp only [dX]
   have h1:∀ x∈f :: args.toList,e' x=e x:=fun x hx=>he x (by simpa [Op.operands,Call.operands] using hx)
   rw [jI h1,h1 f (by simp)]
   have h2:(args.toList.map fun x=>(e' x).strip.1)=args.toList.map fun x=>(e x).strip.1:=by
    apply List.map_congr_left;intro x hx;rw [h1 x (by simp [hx])]
   rw [h2]
  | builtin b =>
   simp only [dX]
   have h1:∀ x∈args.toList,e' x=e x:=fun x hx=>he x (by simpa [Op.operands,Call.operands] using hx)
   unfold zC
   split
   ·rename_i x t ha ht
    rw [ha] at h1
    simp only [conds];rw [h1 x (by simp)]
   ·rename_i x y t t' ha ht
    rw [ha] at h1
    simp only [conds];rw [h1 x (by simp),h1 y (by simp)]
   ·rename_i x r ha
    rw [ha] at h1
    dsimp only
    rw [jI h1,h1 x (by simp)]
    have h2:(r.map fun x=>(e' x).strip.1)=r.map fun x=>(e x).strip.1:=by
     apply List.map_congr_left;intro y hy;rw [h1 y (by simp [hy])]
    rw [h2]
   ·rename_i x r ha
    rw [ha] at h1
    dsimp only
    rw [jI h1,h1 x (by simp)]
    have h2:(r.map fun x=>(e' x).strip.1)=r.map fun x=>(e x).strip.1:=by
     apply List.map_congr_left;intro y hy;rw [h1 y (by simp [hy])]
    rw [h2]
   ·rfl
 | _=>simp [dX]
theorem Rr {T:TypeId} {a:AV} {ps:List Prop} {x:AV} {rd:List Nat} (h:ym P σ T a=some (ps,x,rd)) (hs:∀ k∈rd,au dx k=au σ k):ym P dx T a=some (ps,x,rd):=by
 unfold ym at h ⊢
 split at h
 ·split at h
  ·rename_i k i j
   split at h
   ·rename_i o ho
    simp only [aJ,ay] at h
    obtain ⟨y,hy,rfl,rfl,rfl⟩:=h
    simp [hs k (by simp),ho,hy]
   ·cases h
  ·exact h
  ·rename_i k i j m q
   have h':=h
   split at h
   ·rename_i o kd ho
    split at h
    ·split at h
     ·rename_i YR
      simp only [az,ay] at h
      simp only [hs k (by rw [← h.2.2];simp)]
      simp only [YR] at h'
      exact h'
     ·cases h
    ·cases h
   ·rename_i o ho
    split at h
    ·split at h
     ·rename_i YR
      simp only [az,ay] at h
      simp only [hs k (by rw [← h.2.2];simp)]
      simp only [YR] at h'
      exact h'
     ·cases h
    ·cases h
   ·cases h
  ·cases h
 ·cases h
theorem MJ {T:TypeId} {a x:AV} {ps:List Prop} {u:r7} {rd:List Nat} (h:oj P σ T a x=some (ps,u,rd)) (hs:∀ k∈rd,au dx k=au σ k):oj P dx T a x=some (ps,u,rd):=by
 unfold oj at h ⊢
 split at h
 ·rename_i k i j ns n h1 h2
  split at h
  ·rename_i o ho
   split at h
   ·rename_i hb
    have h':=h
    simp only [az,ay] at h
    obtain ⟨rfl,rfl,rfl⟩:=h
    simp only [hs k (by simp),ho,hb]
   ·cases h
  ·cases h
 ·cases h
theorem PD {T:TypeId} {a x:AV} {ps:List Prop} {u:r7} {rd:List Nat} (h:zt P σ T a x=some (ps,u,rd)) (hs:∀ k∈rd,au dx k=au σ k):zt P dx T a x=some (ps,u,rd):=by
 unfold zt at h ⊢
 split at h
 ·rename_i k i j m q
  have h':=h
  split at h
  ·split at h
   ·split at h
    ·simp only [az,ay] at h
     simp only [hs k (by rw [← h.2.2];simp)]
     exact h'
    ·cases h
   ·cases h
  ·split at h
   ·split at h
    ·simp only [az,ay] at h
     simp only [hs k (by rw [← h.2.2];simp)]
     exact h'
    ·cases h
   ·cases h
  ·cases h
 ·exact MJ h hs
theorem HJ {T:TypeId} {x i:AV} {ps:List Prop} {v:AV} {rd:List Nat} (h:pj P σ T x i=some (ps,v,rd)) (hs:∀ k∈rd,au dx k=au σ k):pj P dx T x i=some (ps,v,rd):=by
 unfold pj at h ⊢
 split at h
 ·split at h
  ·rename_i sz kr
   split at h
   ·rename_i k off len
    split at h
    ·rename_i o ho
     split at h
     ·rename_i hb
      simp only [az,ay] at h
      obtain ⟨rfl,rfl,rfl⟩:=h
      simp only [hs k (by simp),ho,hb]
     ·cases h
    ·cases h
   ·rename_i len get
    exact h
   ·cases h
  ·cases h
 ·split at h
  ·rename_i sz kr
   exact h
  ·cases h
 ·cases h
theorem PE {T:TypeId} {x:AV} {lo hi:Option AV} {ps:List Prop} {v:AV} {rd:List Nat} (h:zu P σ T x lo hi=some (ps,v,rd)) (hs:∀ k∈rd,au dx k=au σ k):zu P dx T x lo hi=some (ps,v,rd):=by
 unfold zu at h ⊢
 split at h
 ·exact h
 ·split at h
  ·rename_i sz kr
   split at h
   ·rename_i k off len
    split at h
    ·rename_i l hh o h1 h2 h3
     split at h
     ·rename_i hb
      simp only [az,ay] at h
      obtain ⟨rfl,rfl,rfl⟩:=h
      simp only [hs k (by simp),h1,h2,h3,hb]
     ·cases h
    ·cases h
   ·exact h
   ·cases h
  ·cases h
 ·cases h
theorem BG {sz:Nat} {x:AV} {n:Nat} {g:Nat→List AV} {pr:Bool} {ps:List Prop} {rd:List Nat} (h:vC σ sz x=some (n,g,pr,ps,rd)) (hs:∀ k∈rd,au dx k=au σ k):vC dx sz x=some (n,g,pr,ps,rd):=by
 unfold vC at h ⊢
 split at h
 ·exact h
 ·exact h
 ·rename_i k off n'
  split at h
  ·rename_i o ho
   split at h
   ·rename_i hb
    have Em:rd=[k]:=by simp only [az,ay] at h;exact h.2.2.2.2.symm
    simp only [hs k (by simp [Em]),ho,hb]
    exact h
   ·cases h
  ·cases h
 ·cases h
theorem PF {src dst:TypeId} {x:AV} {ps:List Prop} {v:AV} {rd:List Nat} (h:zx P σ src dst x=some (ps,v,rd)) (hs:∀ k∈rd,au dx k=au σ k):zx P dx src dst x=some (ps,v,rd):=by
 unfold zx at h ⊢
 split at h
 ·exact h
 ·split at h
  ·rename_i n gt pr qs NU he vD
   simp only [az,ay] at h
   obtain ⟨rfl,rfl,rfl⟩:=h
   rw [BG vD hs,he]
  ·cases h
 ·cases h
theorem FN {t:TypeId} {s x:AV} {ps:List Prop} {v:AV} {rd:List Nat} {u:r7} (h:q9 P nk σ t s x=some (ps,v,rd,u)) (hs:∀ k∈rd,au dx k=au σ k):q9 P nk dx t s x=some (ps,v,rd,u):=by
 unfold q9 at h ⊢
 split at h
 ·split at h
  ·rename_i sz b z h1 h2 h3
   split at h
   ·rename_i n g pr QU NU hb vD
    split at h
    ·have Em:rd=NU:=by simp only [az,ay] at h;exact h.2.2.1.symm
     rw [BG vD (fun k hk=>hs k (Em ▸ hk))]
     simp only [hb]
     exact h
    ·rename_i k len
     split at h
     ·rename_i o ho
      split at h
      ·rename_i Kn
       have Em:rd=k :: NU:=by simp only [az,ay] at h;exact h.2.2.1.symm
       rw [BG vD (fun k hk=>hs k (by rw [Em];simp [hk]))]
       simp only [hb,hs k (by simp [Em]),ho,Kn]
       exact h
      ·cases h
     ·cases h
    ·cases h
   ·cases h
  ·cases h
 ·cases h
mutual
theorem Rs {ks:List Nat}:∀ (x y:AV) (bs:List Nat) (ps:List Prop),x.fW σ ks=some (y,bs,ps)→(∀ k∈bs,au dx k=au σ k)→x.fW dx ks=some (y,bs,ps)
 | .op k i j,y,bs,ps,h,_=>by simpa [AV.fW] using h
 | .mp k,y,bs,ps,h,_=>by simpa [AV.fW] using h
 | .ov _ _ _ _ _,y,bs,ps,h,_=>by simp [AV.fW] at h
 | .Cy _ _ _,y,bs,ps,h,_=>by simp [AV.fW] at h
 | .nq _ _,y,bs,ps,h,_=>by simp [AV.fW] at h
 | .bn _,y,bs,ps,h,_=>by simpa [AV.fW] using h
 | .pt _ _,y,bs,ps,h,_=>by simpa [AV.fW] using h
 | .os k off len,y,bs,ps,h,hs=>by
  simp only [AV.fW] at h ⊢
  split at h
  ·rename_i n hn;exact h
  ·rename_i hn
   split at h
   ·rename_i o ho
    split at h
    ·rename_i hp
     have hb:bs=[k]:=by simp only [az,ay] at h;exact h.2.1.symm
     simp only [hs k (by simp [hb]),ho,hp]
     exact h
    ·cases h
   ·cases h
 | .agg cs,y,bs,ps,h,hs=>by
  simp only [AV.fW,aJ] at h ⊢
  obtain ⟨⟨a,b,c⟩,h,e⟩:=h
  simp only [ay] at e
  obtain ⟨rfl,rfl,rfl⟩:=e
  exact ⟨(a,b,c),tj cs a b c h hs,rfl⟩
 | .tup cs,y,bs,ps,h,hs=>by
  simp only [AV.fW,aJ] at h ⊢
  obtain ⟨⟨a,b,c⟩,h,e⟩:=h
  simp only [ay] at e
  obtain ⟨rfl,rfl,rfl⟩:=e
  exact ⟨(a,b,c),tj cs a b c h hs,rfl⟩
 | .fn g x z,y,bs,ps,h,hs=>by
  simp only [AV.fW] at h ⊢
  split at h
  ·rename_i a b c a' b' c' e1 e2
   simp only [az,ay] at h
   obtain ⟨rfl,rfl,rfl⟩:=h
   rw [tj x a b c e1 (fun k hk=>hs k (by simp [hk])),tj z a' b' c' e2 (fun k hk=>hs k (by simp [hk]))]
  ·cases h
 | .when _ _,y,bs,ps,h,_=>by simp [AV.fW] at h
 | .mr _ _ _,y,bs,ps,h,_=>by simp [AV.fW] at h
 | .atom _,y,bs,ps,h,_=>by simpa [AV.fW] using h
 | .sl _ _,y,bs,ps,h,_=>by simpa [AV.fW] using h
 | .rp _ _,y,bs,ps,h,_=>by simpa [AV.fW] using h
 | .nil,y,bs,ps,h,_=>by simpa [AV.fW] using h
 | .mV,y,bs,ps,h,_=>by simpa [AV.fW] using h
theorem tj {ks:List Nat}:∀ (xs ys:List AV) (bs:List Nat) (ps:List Prop),AV.qx σ ks xs=some (ys,bs,ps)→(∀ k∈bs,au dx k=au σ k)→AV.qx dx ks xs=some (ys,bs,ps)
 | [],ys,bs,ps,h,_=>by simpa [AV.qx] using h
 | c :: cs,ys,bs,ps,h,hs=>by
  simp only [AV.qx] at h ⊢
  split at h
  ·rename_i a b p a' b' p' e1 e2
   simp only [az,ay] at h
   obtain ⟨rfl,rfl,rfl⟩:=h
   rw [Rs c a b p e1 (fun k hk=>hs k (by simp [hk])),tj cs a' b' p' e2 (fun k hk=>hs k (by simp [hk]))]
  ·cases h
end
theorem IE {ks:List Nat}:∀ (l:List Nat) (i:Nat),(∀ k∈l,au dx k=au σ k)→canon dx ks i l=canon σ ks i l
 | [],i,_=>rfl
 | k :: r,i,h=>by simp only [canon];rw [h k (by simp),IE r (i+1) fun k hk=>h k (by simp [hk])]
theorem AN {ks:List Nat} {lone:Bool}:∀ (l:List Nat),(∀ k∈l,au dx k=au σ k)→yz dx ks lone l=yz σ ks lone l
 | [],_=>rfl
 | k :: r,h=>by simp only [yz];rw [h k (by simp),AN r fun k hk=>h k (by simp [hk])]
theorem Rt {f:AV} {args:List AV} {orc:lZ} {r:R} (h:FB P nk σ f args orc=some r) (hs:∀ k∈r.rds,au dx k=au σ k):FB P nk dx f args orc=some r:=by
 unfold FB Bz at h ⊢
 split at h
 case h_2=>cases h
 rename_i gid first cap
 split at h
 case h_2=>cases h
 rename_i as bs ps rU h1 h2 h3
 split at h
 case h_2=>cases h
 rename_i h4
 have hr:r.rds=orc.ks ++ bs:=by
  split at h
  ·split at h
   ·split at h
    ·cases h;rfl
    ·cases h
   ·split at h
    ·cases h;rfl
    ·cases h
  ·split at h
   ·cases h;rfl
   ·cases h
 rw [hr] at hs
 simp only [h1,tj _ _ _ _ h2 (fun k hk=>hs k (by simp [hk])),IE orc.ks 0 (fun k hk=>hs k (by simp [hk])),AN (ks:=orc.ks) (lone:=bs.isEmpty || orc.wY) orc.ks (fun k hk=>hs k (by simp [hk])),AN (ks:=orc.ks) (lone:=true) orc.ks (fun k hk=>hs k (by simp [hk])),h3,h4]
 exact h
theorem MK {t:TypeId} {m x:AV} {ok:Bool} {orc:lZ} {ps:List Prop} {v:AV} {rd:List Nat} (h:vI P σ t m x ok orc=some (ps,v,rd)) (hs:∀ k∈rd,au dx k=au σ k):vI P dx t m x ok orc=some (ps,v,rd):=by
 unfold vI at h ⊢
 split at h
 ·rename_i k kt et ht
  split at h
  ·rename_i d o z hd ho hz
   split at h
   ·rename_i hb
    have hk:au dx k=some o:=by
     rw [← ho]
     refine hs k ?_
     split at h
     ·simp only [az,ay] at h;obtain ⟨_,_,rfl⟩:=h;simp
     ·simp only [az,ay] at h;obtain ⟨_,_,rfl⟩:=h;simp
    simp only [ht,hd,hk,hz,hb]
    exact h
   ·cases h
  ·cases h
 ·cases h
theorem FO {t:TypeId} {m x y:AV} {orc:lZ} {ps:List Prop} {u:r7} {rd:List Nat} (h:vJ P σ t m x y orc=some (ps,u,rd)) (hs:∀ k∈rd,au dx k=au σ k):vJ P dx t m x y orc=some (ps,u,rd):=by
 unfold vJ at h ⊢
 split at h
 ·rename_i k kt et cs ht KP
  split at h
  ·rename_i d o hd ho
   split at h
   ·rename_i hb
    have hk:au dx k=some o:=by
     rw [← ho]
     refine hs k ?_
     simp only [az,ay] at h;obtain ⟨_,_,rfl⟩:=h;simp
    simp only [ht,KP,hd,hk,hb]
    exact h
   ·cases h
  ·cases h
 ·cases h
theorem K4 {op:Op} {e:Operand→AV} {orc:Option lZ} {r:R} (h:dX P nk σ op e orc=some r) (hs:∀ k∈r.rds,au dx k=au σ k):dX P nk dx op e orc=some r:=by
 cases op with
 | load T x =>
  simp only [dX,aJ] at h ⊢
  obtain ⟨⟨ps,v,rd⟩,h1,rfl⟩:=h
  exact ⟨_,Rr h1 hs,rfl⟩
 | store T x y =>
  simp only [dX,aJ] at h ⊢
  obtain ⟨⟨ps,v,rd⟩,h1,rfl⟩:=h
  exact ⟨_,PD h1 hs,rfl⟩
 | indexAddr T x i =>
  simp only [dX,aJ] at h ⊢
  obtain ⟨⟨ps,v,rd⟩,h1,rfl⟩:=h
  exact ⟨_,HJ h1 hs,rfl⟩
 | slice t x lo hi mx =>
  cases mx with
  | some _=>simp [dX] at h
  | none =>
   simp only [dX,aJ] at h ⊢
   obtain ⟨⟨ps,v,rd⟩,h1,rfl⟩:=h
   exact ⟨_,PE h1 hs,rfl⟩
 | convert src dst x =>
  simp only [dX] at h ⊢
  split at h
  ·rename_i v h1
   exact h
  ·rename_i h0
   simp only [aJ] at h ⊢
   obtain ⟨⟨ps,v,rd⟩,h1,rfl⟩:=h
   exact ⟨_,PF h1 hs,rfl⟩
 | makeMap t r=>cases r with
  | none=>exact h
  | some _=>simp [dX] at h
 | lookup t m x ok =>
  simp only [dX] at h ⊢
  split at h
  ·simp only [aJ] at h ⊢
   obtain ⟨⟨ps,v,rd⟩,h1,rfl⟩:=h
   exact ⟨_,MK h1 hs,rfl⟩
  ·cases h
 | mapUpdate t m x y =>
  simp only [dX] at h ⊢
  split at h
  ·simp only [aJ] at h ⊢
   obtain ⟨⟨ps,u,rd⟩,h1,rfl⟩:=h
   exact ⟨_,FO h1 hs,rfl⟩
  ·cases h
 | insert t m x y =>
  simp only [dX] at h ⊢
  split at h
  ·simp only [aJ] at h ⊢
   obtain ⟨⟨ps,u,rd⟩,h1,rfl⟩:=h
   exact ⟨_,FO h1 hs,rfl⟩
  ·cases h
 | call c =>
  obtain ⟨callee,args,argTypes⟩:=c
  cases callee with
  | invoke=>simp [dX] at h
  | value f =>
   simp only [dX] at h ⊢
   split at h
   ·simp only [aJ] at h ⊢
    obtain ⟨r',h1,rfl⟩:=h
    exact ⟨_,Rt h1 hs,rfl⟩
   ·cases h
  | builtin b =>
   simp only [dX] at h ⊢
   unfold zC at h ⊢
   split at h
   ·exact h
   ·split at h
    ·simp only [aJ] at h ⊢
     obtain ⟨⟨ps,v,rd,u⟩,h1,rfl⟩:=h
     exact ⟨_,FN h1 hs,rfl⟩
    ·cases h
   ·exact h
   ·exact h
   ·cases h
 | _=>exact h
theorem Oi {op:Op} {e e':Operand→AV} {orc:Option lZ} (he:∀ x∈op.operands.toList,e' x=e x):yC P nk σ op e' orc=yC P nk σ op e orc:=by
 unfold yC
 split
 ·exact Rq he
 ·split
  ·rename_i T x
   simp only [conds];rw [he x (by simp [Op.operands])]
  ·rename_i args FH
   have h1:∀ x∈args.toList,e' x=e x:=fun x hx=>he x (by simpa [Op.operands,Call.operands] using hx)
   split
   ·rename_i x y t t' ha ht
    rw [ha] at h1
    simp only [conds];rw [h1 x (by simp),h1 y (by simp)]
   ·rfl
  ·rename_i args FH
   have h1:∀ x∈args.toList,e' x=e x:=fun x hx=>he x (by simpa [Op.operands,Call.operands] using hx)
   split
   ·rename_i x y t t' ha ht
    rw [ha] at h1
    simp only [conds];rw [h1 x (by simp),h1 y (by simp)]
   ·rfl
  ·rename_i args FH
   have h1:∀ x∈args.toList,e' x=e x:=fun x hx=>he x (by simpa [Op.operands,Call.operands] using hx)
   split
   ·rename_i x t ha ht
    rw [ha] at h1
    simp only [conds];rw [h1 x (by simp)]
   ·rfl
  ·rename_i t x lo hi mx
   have h1:e' x=e x:=he x (by simp [Op.operands])
   have h2:∀ y∈lo,e' y=e y:=fun y hy=>he y (by cases hy;simp [Op.operands])
   have h3:∀ y∈hi,e' y=e y:=fun y hy=>he y (by cases hy;simp [Op.operands])
   have h4:∀ y∈mx,e' y=e y:=fun y hy=>he y (by cases hy;simp [Op.operands])
   split
   ·have e2:(lo.map fun y=>(e' y).strip.1)=lo.map fun y=>(e y).strip.1:=by
     cases lo with
     | none=>rfl
     | some y=>simp only [Option.map_some];rw [h2 y rfl]
    have e3:(hi.map fun y=>(e' y).strip.1)=hi.map fun y=>(e y).strip.1:=by
     cases hi with
     | none=>rfl
     | some y=>simp only [Option.map_some];rw [h3 y rfl]
    have e4:conds e' (x :: (lo.toList ++ hi.toList))=conds e (x :: (lo.toList ++ hi.toList)):=jI fun y hy=>by
     simp only [jw,List.mem_append,Option.mem_toList] at hy
     rcases hy with rfl | hy | hy
     ·exact h1
     ·exact h2 _ hy
     ·exact h3 _ hy
    rw [h1,e2,e3,e4]
   ·split
    ·rename_i l h
     simp only [conds];rw [h1,h2 l rfl,h3 h rfl,h4 _ rfl]
    ·rfl
  ·exact Rq he
theorem PG {T:TypeId} {a x:AV} {ps:List Prop} {y:AV} {rd:List Nat} (h:zE P σ T a x=some (ps,y,rd)) (hs:∀ k∈rd,au dx k=au σ k):zE P dx T a x=some (ps,y,rd):=by
 unfold zE at h ⊢
 split at h
 case h_2=>cases h
 rename_i k i j d n hd hn
 split at h
 case h_2=>cases h
 rename_i o h1 h2 ho
 have Em:rd=[k]:=by simp only [az,ay] at h;exact h.2.2.symm
 simp only [hd,hn,h1,h2,hs k (by simp [Em]),ho]
 exact h
theorem Jr:∀ (u:r7) (n:Nat),(∀ τ UP:du,au (eX τ u) n=au (eX UP u) n)∨∀ τ:du,au (eX τ u) n=au τ n
 | [],n=>.inr fun _=>rfl
 | (k,some o) :: u,n=>by
  simp only [eX]
  rcases Jr u n with h | h
  ·exact .inl fun τ UP=>h _ _
  ·by_cases hk:k=n
   ·exact .inl fun τ UP=>by rw [h,h,bg,bg,if_pos hk,if_pos hk]
   ·exact .inr fun τ=>by rw [h,bg,if_neg hk]
 | (k,none) :: u,n=>by
  simp only [eX]
  rcases Jr u n with h | h
  ·exact .inl fun τ UP=>h _ _
  ·by_cases hk:k=n
   ·exact .inl fun τ UP=>by rw [h,h,eH,eH,if_pos hk,if_pos hk]
   ·exact .inr fun τ=>by rw [h,eH,if_neg hk]
theorem UQ {τ UP:du} {k q i:Nat} (h1:au UP k=au τ k) (h2:au UP q=au τ q):Jq UP k q i=Jq τ k q i:=by
 unfold Jq;rw [h1,h2]
theorem K5 {t:TypeId} {s x:AV} {orc:lZ} {ps:List Prop} {v:AV} {rd:List Nat} {u:r7} (h:th P nk σ t s x orc=some (ps,v,rd,u)) (hs:∀ k∈rd,au dx k=au σ k):th P nk dx t s x orc=some (ps,v,rd,u):=by
 unfold th at h ⊢
 split at h
 case h_2=>cases h
 rename_i q p1 v' NU u1 hq ha
 split at h
 case h_2=>cases h
 rename_i p2 u2 hb hc
 have Em:rd=q :: NU:=by simp only [az,ay] at h;exact h.2.2.1.symm
 have D2:=FN ha (fun k hk=>hs k (by rw [Em];simp [hk]))
 have TP:au (eX dx u1) nk=au (eX σ u1) nk:=by
  have hu:∃ o,u1=[(nk,some o)]∨∃ k,u1=[(k,none),(nk,some o)]:=by
   unfold q9 at ha
   split at ha
   ·split at ha
    ·split at ha
     ·split at ha
      ·simp only [az,ay] at ha
       exact ⟨_,.inl ha.2.2.2.symm⟩
      ·split at ha
       ·split at ha
        ·simp only [az,ay] at ha
         exact ⟨_,.inr ⟨_,ha.2.2.2.symm⟩⟩
        ·cases ha
       ·cases ha
      ·cases ha
     ·cases ha
    ·cases ha
   ·cases ha
  obtain ⟨o,rfl | ⟨k,rfl⟩⟩:=hu<;>simp only [eX]<;>rw [bg,bg,if_pos rfl,if_pos rfl]
 have hqq:au (eX dx u1) q=au (eX σ u1) q:=by
  rcases Jr u1 q with h1 | h1
  ·exact h1 _ _
  ·rw [h1,h1];exact hs q (by simp [Em])
 simp only [hq,D2,hb,UQ TP hqq,hc]
 exact h
theorem ML {T:TypeId} {x:AV} {lo hi:Option AV} {ps:List Prop} {v:AV} {rd:List Nat} (h:vK P σ T x lo hi=some (ps,v,rd)) (hs:∀ k∈rd,au dx k=au σ k):vK P dx T x lo hi=some (ps,v,rd):=by
 unfold vK at h ⊢
 split at h
 case h_2=>cases h
 rename_i e k off len hu
 split at h
 case h_2=>cases h
 rename_i sz l hh o kr hl Uk ho
 split at h
 case h_2=>cases h
 rename_i hb
 have Em:rd=[k]:=by simp only [az,ay] at h;exact h.2.2.symm
 simp only [kr,hl,Uk,hs k (by simp [Em]),ho,hb]
 exact h
theorem Ru {t:TypeId} {s x:AV} {ps:List Prop} {v:AV} {rd:List Nat} {u:r7} (h:CU P σ t s x=some (ps,v,rd,u)) (hs:∀ k∈rd,au dx k=au σ k):CU P dx t s x=some (ps,v,rd,u):=by
 unfold CU at h ⊢
 split at h
 case h_2=>cases h
 rename_i e he
 split at h
 case h_2=>cases h
 rename_i sz b z k len k' off n kr hb hz
 split at h
 case h_2=>cases h
 rename_i o Mz ho
 split at h
 case h_2=>cases h
 rename_i yl
 have Em:rd=[k]:=by simp only [az,ay] at h;exact h.2.2.1.symm
 simp only [he,kr,hb,hz,Mz,hs k (by simp [Em]),ho,yl]
 exact h
theorem Rv {t:TypeId} {s x:AV} {ps:List Prop} {v:AV} {rd:List Nat} {u:r7} (h:CV P σ t s x=some (ps,v,rd,u)) (hs:∀ k∈rd,au dx k=au σ k):CV P dx t s x=some (ps,v,rd,u):=by
 unfold CV at h ⊢
 split at h
 case h_2=>cases h
 rename_i e he
 split at h
 case h_2=>cases h
 rename_i sz k Ae nd k' El ns kr
 split at h
 case h_2=>cases h
 rename_i o Mz ho
 split at h
 case h_2=>cases h
 rename_i yl
 have Em:rd=[k]:=by simp only [az,ay] at h;exact h.2.2.1.symm
 simp only [he,kr,Mz,hs k (by simp [Em]),ho,yl]
 exact h
theorem Rx {t:TypeId} {s x:AV} {ps:List Prop} {v:AV} {rd:List Nat} {u:r7} (h:CW P σ t s x=some (ps,v,rd,u)) (hs:∀ k∈rd,au dx k=au σ k):CW P dx t s x=some (ps,v,rd,u):=by
 unfold CW at h ⊢
 split at h
 case h_2=>cases h
 rename_i e he
 split at h
 case h_2=>cases h
 rename_i sz b z k off m kr hb hz
 split at h
 case h_2=>cases h
 rename_i n gt pr QU NU o vD ho
 split at h
 case h_2=>cases h
 rename_i yl
 have Em:rd=k :: NU:=by simp only [az,ay] at h;exact h.2.2.1.symm
 rw [BG vD (fun k hk=>hs k (by rw [Em];simp [hk]))]
 simp only [hs k (by simp [Em]),ho,yl]
 exact h
theorem Ry {t:TypeId} {s x:AV} {ps:List Prop} {v:AV} {rd:List Nat} {u:r7} (h:CX P nk σ t s x=some (ps,v,rd,u)) (hs:∀ k∈rd,au dx k=au σ k):CX P nk dx t s x=some (ps,v,rd,u):=by
 unfold CX at h ⊢
 split at h
 case h_2=>cases h
 rename_i e he
 split at h
 case h_2=>cases h
 rename_i sz b z k off m kr hb hz
 split at h
 case h_2=>cases h
 rename_i n gt pr QU NU o vD ho
 split at h
 case h_2=>cases h
 rename_i yl
 have Em:rd=k :: NU:=by simp only [az,ay] at h;exact h.2.2.1.symm
 rw [BG vD (fun k hk=>hs k (by rw [Em];simp [hk]))]
 simp only [hs k (by simp [Em]),ho,yl]
 exact h
theorem PH {t:TypeId} {x:AV} {ps:List Prop} {v:AV} {rd:List Nat} {u:r7} (h:zF P σ t x=some (ps,v,rd,u)) (hs:∀ k∈rd,au dx k=au σ k):zF P dx t x=some (ps,v,rd,u):=by
 unfold zF at h ⊢
 split at h
 case h_2=>cases h
 rename_i e he
 split at h
 case h_2=>cases h
 rename_i sz b z k off n kr hb hz
 split at h
 case h_2=>cases h
 rename_i o ho
 split at h
 case h_2=>cases h
 rename_i yl
 have Em:rd=[k]:=by simp only [az,ay] at h;exact h.2.2.1.symm
 simp only [he,kr,hb,hz,hs k (by simp [Em]),ho,yl]
 exact h
theorem IG {op:Op} {e:Operand→AV} {orc:Option lZ} {r:R} (h:yC P nk σ op e orc=some r) (hs:∀ k∈r.rds,au dx k=au σ k):yC P nk dx op e orc=some r:=by
 unfold yC at h ⊢
 split at h
 ·exact K4 h hs
 ·rename_i q h0
  split at h
  ·simp only [aJ] at h ⊢
   obtain ⟨⟨ps,v,rd⟩,h1,rfl⟩:=h
   exact ⟨_,PG h1 hs,rfl⟩
  ·split at h
   ·rename_i x y t t' ha ht
    split at h
    ·rename_i hb
     simp only [aJ] at h
     obtain ⟨⟨ps,v,rd,u⟩,h1,rfl⟩:=h
     simp only [ha,ht,hb,aJ]
     refine ⟨⟨ps,v,rd,u⟩,?_,rfl⟩
     split at h1
     ·exact Ru h1 hs
     ·exact Rx h1 hs
     ·exact Ry h1 hs
     ·exact K5 h1 hs
    ·cases h
   ·cases h
  ·split at h
   ·rename_i x y t t' ha ht
    simp only [aJ] at h
    obtain ⟨⟨ps,v,rd,u⟩,h1,rfl⟩:=h
    simp only [ha,ht,aJ]
    exact ⟨_,Rv h1 hs,rfl⟩
   ·cases h
  ·split at h
   ·rename_i x t ha ht
    simp only [aJ] at h
    obtain ⟨⟨ps,v,rd,u⟩,h1,rfl⟩:=h
    simp only [ha,ht,aJ]
    exact ⟨_,PH h1 hs,rfl⟩
   ·cases h
  ·split at h
   ·simp only [aJ] at h ⊢
    obtain ⟨⟨ps,v,rd⟩,h1,rfl⟩:=h
    exact ⟨_,ML h1 hs,rfl⟩
   ·exact h
  ·exact K4 h hs
theorem IH {τ:du} {e e':Operand→AV}:∀ {xs:List Operand},(∀ x∈xs,e' x=e x)→YQ τ e' xs=YQ τ e xs
 | [],_=>rfl
 | x :: r,h=>by simp only [YQ];rw [h x (by simp),IH fun y hy=>h y (by simp [hy])]
theorem II:∀ {τ:du} {ps:List Prop},TW σ τ=some ps→(∀ k∈τ.map (·.1),au dx k=au σ k)→TW dx τ=some ps
 | [],ps,h,_=>h
 | (k,o') :: r,ps,h,hs=>by
  simp only [TW] at h ⊢
  split at h
  ·rename_i o qs ho hr
   rw [hs k (by simp),ho,II hr fun k hk=>hs k (by simp at hk ⊢;exact .inr hk)]
   exact h
  ·cases h
theorem UR {op:Op} {e e':Operand→AV} {orc:Option lZ} (he:∀ x∈op.operands.toList,e' x=e x):As P nk σ op e' orc=As P nk σ op e orc:=by
 unfold As
 split
 ·exact Oi he
 ·rw [IH he,Oi (e:=fun x=>UM _ (e x)) (e':=fun x=>UM _ (e' x)) fun x hx=>by rw [he x hx]]
theorem PJ {op:Op} {e:Operand→AV} {orc:Option lZ} {r:R} (h:As P nk σ op e orc=some r) (hs:∀ k∈r.rds,au dx k=au σ k):As P nk dx op e orc=some r:=by
 unfold As at h ⊢
 split at h
 ·exact IG h hs
 ·split at h
  ·rename_i ps r0 h1 h2
   cases h
   rw [II h1 fun k hk=>hs k (List.mem_append_left _ hk),IG h2 fun k hk=>by rw [me,me,hs k (List.mem_append_right _ hk)]]
  ·cases h
end
end Go.Ab
namespace Go.Ab
def Rz (l:List Nat) (k:Nat):Bool:=l.any fun x=>Nat.beq x k
theorem FP {l:List Nat} {k:Nat}:Rz l k=true↔k∈l:=by
 simp only [Rz,List.any_eq_true]
 constructor
 ·rintro ⟨x,hx,hb⟩;exact bm hb ▸ hx
 ·intro h;exact ⟨k,h,ko rfl⟩
theorem Oj {a b:Nat} (h:a < b):Nat.blt a b=true:=by
 simp only [Nat.blt,Nat.ble_eq];exact h
theorem xK {a b:Nat} (h:¬ a < b):Nat.blt a b=false:=by
 cases hb:Nat.blt a b with
 | false=>rfl
 | true=>simp only [Nat.blt,Nat.ble_eq] at hb;exact (h hb).elim
theorem tE {a b:Nat} (h:Nat.blt a b=true):a < b:=by
 simp only [Nat.blt,Nat.ble_eq] at h;exact h
def tmpsOf:List Operand→List Nat
 | []=>[]
 | .tmp t :: r=>t :: tmpsOf r
 | _ :: r=>tmpsOf r
def FQ (ops:List Oper) (o:Oper):List Nat :=
 tmpsOf o.op.operands.toList ++ (match o.guard with
  | some (j,_)=>(Rp ops j).toList
  | none=>[])
theorem FR:∀ {l:List Operand} {t:Nat},Operand.tmp t∈l→t∈tmpsOf l
 | [],_,h=>by simp at h
 | x :: r,t,h=>by
  rcases jw.1 h with rfl | h'
  ·simp [tmpsOf]
  ·have:=FR h'
   cases x<;>simp [tmpsOf,this]
def eP (o:Oper):List Nat:=(o.after.toList.filter (Region.binds .any ·)).map (·.on)
def D3 (ops:List Oper):Nat→Nat→Nat→Bool
 | 0,_,_=>false
 | n+1,i,j=>match ops[j]? with
  | none=>false
  | some o=>(eP o).any fun e=>Nat.beq e i || D3 ops n i e
def BH:Option Nat→Option Nat→Bool
 | some a,some b=>Nat.beq a b
 | _,_=>false
def meets (l m:List Nat):Bool:=l.any fun k=>Rz m k
def Au (ops:List Oper) (o p:Oper) (x y:Rec):Bool :=
 meets x.dst.toList (FQ ops p) || meets y.dst.toList (FQ ops o) || meets (jy x.upd) (y.rds ++ jy y.upd) || meets x.rds (jy y.upd)
def Da (ops:List Oper) (bG:List Rec) (i j:Nat):Bool :=
 match ops[i]?,ops[j]?,bG[i]?,bG[j]? with
 | some o,some p,some x,some y=>!BH x.dst y.dst && (!Au ops o p x y || D3 ops ops.length i j)
 | _,_,_,_=>false
def uB (ops:List Oper) (j:Nat):Bool :=
 match ops[j]? with
 | some o=>(eP o).all fun e=>Nat.blt e j
 | none=>false
def RA (ops:List Oper) (bG:List Rec):Bool :=
 (List.range ops.length).all fun j=>uB ops j && (List.range j).all fun i=>Da ops bG i j
def En (L:Nat→Bool):List Rec→Nat→List (Nat×AV)→List (Nat×AV)
 | [],_,tm=>tm
 | x :: r,i,tm=>En L r (i+1) (match L i with
  | true=>xJ tm x.dst x.val
  | false=>tm)
def r8 (L:Nat→Bool):List Rec→Nat→du→du
 | [],_,σ=>σ
 | x :: r,i,σ=>r8 L r (i+1) (match L i with
  | true=>eX σ x.upd
  | false=>σ)
theorem kP:∀ (u:r7) (σ:du) (k:Nat),au (eX σ u) k=if k∈jy u then au (eX [] u) k else au σ k
 | [],σ,k=>by simp [jy,eX]
 | (n,some o) :: r,σ,k=>by
  simp only [eX]
  rw [kP r (sset σ n o) k,kP r (sset [] n o) k,bg,bg]
  by_cases h1:k∈jy r
  ·simp [jy] at h1 ⊢;simp [h1]
  ·by_cases h2:n=k
   ·subst h2;simp [jy]
   ·have:¬ k∈jy ((n,some o) :: r):=by simp [jy] at h1 ⊢;exact ⟨fun h=>h2 h.symm,h1⟩
    rw [if_neg h1,if_neg h2,if_neg this]
 | (n,none) :: r,σ,k=>by
  simp only [eX]
  rw [kP r (qz σ n) k,kP r (qz [] n) k,eH,eH]
  by_cases h1:k∈jy r
  ·simp [jy] at h1 ⊢;simp [h1]
  ·by_cases h2:n=k
   ·subst h2;simp [jy]
   ·have:¬ k∈jy ((n,none) :: r):=by simp [jy] at h1 ⊢;exact ⟨fun h=>h2 h.symm,h1⟩
    rw [if_neg h1,if_neg h2,if_neg this]
theorem BI {L L':Nat→Bool} {t:Nat}:∀ (bG:List Rec) (i:Nat) (tm MM:List (Nat×AV)),cJ tm t=cJ MM t →
  (∀ (m:Nat) (x:Rec),bG[m]?=some x→L (i+m)≠L' (i+m)→x.dst≠some t)→cJ (En L bG i tm) t=cJ (En L' bG i MM) t
 | [],_,_,_,h,_=>h
 | x :: r,i,tm,MM,h,hd=>by
  simp only [En]
  refine BI r (i+1) _ _ ?_ (fun m y hy ec=>hd (m+1) y (by simpa using hy) (by rw [show i+(m+1)=i+1+m by omega];exact ec))
  by_cases he:L i=L' i
  ·rw [he]
   split
   ·rw [mo,mo]
    split
    ·rfl
    ·exact h
   ·exact h
  ·have:=hd 0 x (by simp) (by simpa using he)
   have e1:cJ (xJ tm x.dst x.val) t=cJ tm t:=by rw [mo,if_neg this]
   have e2:cJ (xJ MM x.dst x.val) t=cJ MM t:=by rw [mo,if_neg this]
   split<;>split<;>simp [e1,e2,h]
theorem zH {L L':Nat→Bool} {k:Nat}:∀ (bG:List Rec) (i:Nat) (σ dx:du),au σ k=au dx k →
  (∀ (m:Nat) (x:Rec),bG[m]?=some x→L (i+m)≠L' (i+m)→k ∉ jy x.upd)→au (r8 L bG i σ) k=au (r8 L' bG i dx) k
 | [],_,_,_,h,_=>h
 | x :: r,i,σ,dx,h,hd=>by
  simp only [r8]
  refine zH r (i+1) _ _ ?_ (fun m y hy ec=>hd (m+1) y (by simpa using hy) (by rw [show i+(m+1)=i+1+m by omega];exact ec))
  by_cases he:L i=L' i
  ·rw [he]
   split
   ·rw [kP,kP x.upd dx]
    split
    ·rfl
    ·exact h
   ·exact h
  ·have:=hd 0 x (by simp) (by simpa using he)
   have e1:au (eX σ x.upd) k=au σ k:=by rw [kP,if_neg this]
   have e2:au (eX dx x.upd) k=au dx k:=by rw [kP,if_neg this]
   split<;>split<;>simp [e1,e2,h]
theorem Js {L:Nat→Bool} {i0:Nat} {x:Rec} {t:Nat}:∀ (bG:List Rec) (i:Nat) (tm:List (Nat×AV)),i≤i0→bG[i0 - i]?=some x →
  (∀ (m:Nat) (y:Rec),bG[m]?=some y→i0 < i+m→x.dst=some t→y.dst≠some t) →
  cJ (En (fun q=>L q || Nat.beq q i0) bG i tm) t=if x.dst=some t then x.val else cJ (En L bG i tm) t
 | [],i,tm,_,h,_=>by simp at h
 | y :: r,i,tm,hi,h,hd=>by
  simp only [En]
  by_cases he:i=i0
  ·subst he
   simp at h;subst h
   rw [ko rfl,Bool.or_true]
   have Xv:∀ ZG tm2:List (Nat×AV),cJ ZG t=cJ tm2 t→cJ (En (fun q=>L q || Nat.beq q i) r (i+1) ZG) t=cJ (En L r (i+1) tm2) t:=by
    intro ZG tm2 h12
    refine BI r (i+1) _ _ h12 ?_
    intro m z hz ec
    exfalso
    apply ec
    rw [lR (by omega),Bool.or_false]
   by_cases hx:y.dst=some t
   ·rw [if_pos hx]
    have DX:∀ (l:List Rec) (n:Nat) (tm:List (Nat×AV)) (M:Nat→Bool),(∀ (m:Nat) (z:Rec),l[m]?=some z→z.dst≠some t)→cJ (En M l n tm) t=cJ tm t:=by
     intro l
     induction l with
     | nil=>intro n tm M _;rfl
     | cons z l ih =>
      intro n tm M hz
      simp only [En]
      rw [ih _ _ _ (fun m u hu=>hz (m+1) u (by simpa using hu))]
      split
      ·rw [mo,if_neg (hz 0 z (by simp))]
      ·rfl
    rw [DX r _ _ _ (fun m z hz=>hd (m+1) z (by simpa using hz) (by omega) hx),mo,if_pos hx]
   ·rw [if_neg hx]
    refine Xv _ _ ?_
    rw [mo,if_neg hx]
    split
    ·rw [mo,if_neg hx]
    ·rfl
  ·rw [lR he,Bool.or_false]
   refine Js r (i+1) _ (by omega) ?_ (fun m z hz ft=>hd (m+1) z (by simpa using hz) (by omega))
   rw [show i0 - i=(i0 - (i+1))+1 by omega] at h
   simpa using h
theorem FT {L:Nat→Bool} {i0:Nat} {x:Rec} {k:Nat}:∀ (bG:List Rec) (i:Nat) (σ:du),i≤i0→bG[i0 - i]?=some x →
  (∀ (m:Nat) (y:Rec),bG[m]?=some y→i0 < i+m→L (i+m)=true→k∈jy x.upd→k ∉ jy y.upd) →
  au (r8 (fun q=>L q || Nat.beq q i0) bG i σ) k=if k∈jy x.upd then au (eX [] x.upd) k else au (r8 L bG i σ) k
 | [],i,σ,_,h,_=>by simp at h
 | y :: r,i,σ,hi,h,hd=>by
  simp only [r8]
  by_cases he:i=i0
  ·subst he
   simp at h;subst h
   rw [ko rfl,Bool.or_true]
   by_cases hx:k∈jy y.upd
   ·rw [if_pos hx]
    have DX:∀ (l:List Rec) (n:Nat) (σ:du) (M:Nat→Bool),(∀ (m:Nat) (z:Rec),l[m]?=some z→M (n+m)=true→k ∉ jy z.upd)→au (r8 M l n σ) k=au σ k:=by
     intro l
     induction l with
     | nil=>intro n tm M _;rfl
     | cons z l ih =>
      intro n σ M hz
      simp only [r8]
      rw [ih _ _ _ (fun m u hu hM=>hz (m+1) u (by simpa using hu) (by rw [show n+(m+1)=n+1+m by omega];exact hM))]
      split
      ·rename_i hM
       rw [kP,if_neg (hz 0 z (by simp) (by simpa using hM))]
      ·rfl
    rw [DX r _ _ _ ?_,kP,if_pos hx]
    intro m z hz hM
    rw [lR (by omega),Bool.or_false] at hM
    exact hd (m+1) z (by simpa using hz) (by omega) (by rw [show i+(m+1)=i+1+m by omega];exact hM) hx
   ·rw [if_neg hx]
    refine zH r (i+1) _ _ ?_ ?_
    ·rw [kP,if_neg hx]
     split
     ·rw [kP,if_neg hx]
     ·rfl
    ·intro m z hz ec
     exfalso
     apply ec
     rw [lR (by omega),Bool.or_false]
  ·rw [lR he,Bool.or_false]
   refine FT r (i+1) _ (by omega) ?_ (fun m z hz ft hL=>hd (m+1) z (by simpa using hz) (by omega) (by rw [show i+(m+1)=i+1+m by omega];exact hL))
   rw [show i0 - i=(i0 - (i+1))+1 by omega] at h
   simpa using h
theorem Jt:∀ (bG:List Rec) (i:Nat) (tm:List (Nat×AV)) (L:Nat→Bool),(∀ m,m < bG.length→L (i+m)=true)→En L bG i tm=vL bG tm
 | [],_,_,_,_=>rfl
 | x :: r,i,tm,L,h=>by
  simp only [En,vL]
  have:=h 0 (by simp)
  rw [Nat.add_zero] at this
  rw [this,Jt r (i+1) _ L (fun m hm=>by rw [show i+1+m=i+(m+1) by omega];exact h (m+1) (by simpa using hm))]
theorem FU:∀ (bG:List Rec) (i:Nat) (σ:du) (L:Nat→Bool),(∀ m,m < bG.length→L (i+m)=true)→r8 L bG i σ=qF bG σ
 | [],_,_,_,_=>rfl
 | x :: r,i,σ,L,h=>by
  simp only [r8,qF]
  have:=h 0 (by simp)
  rw [Nat.add_zero] at this
  rw [this,FU r (i+1) _ L (fun m hm=>by rw [show i+1+m=i+(m+1) by omega];exact h (m+1) (by simpa using hm))]
theorem BJ:∀ (bG:List Rec) (i:Nat) (tm:List (Nat×AV)) (L:Nat→Bool),(∀ m,m < bG.length→L (i+m)=false)→En L bG i tm=tm
 | [],_,_,_,_=>rfl
 | x :: r,i,tm,L,h=>by
  simp only [En]
  have:=h 0 (by simp)
  rw [Nat.add_zero] at this
  rw [this,BJ r (i+1) _ L (fun m hm=>by rw [show i+1+m=i+(m+1) by omega];exact h (m+1) (by simpa using hm))]
theorem zI:∀ (bG:List Rec) (i:Nat) (σ:du) (L:Nat→Bool),(∀ m,m < bG.length→L (i+m)=false)→r8 L bG i σ=σ
 | [],_,_,_,_=>rfl
 | x :: r,i,σ,L,h=>by
  simp only [r8]
  have:=h 0 (by simp)
  rw [Nat.add_zero] at this
  rw [this,zI r (i+1) _ L (fun m hm=>by rw [show i+1+m=i+(m+1) by omega];exact h (m+1) (by simpa using hm))]
section
variable {P:Program}
theorem Db {nt nk:Nat} {ops:List Oper} {orcs:List (Nat×lZ)}:∀ (l:List Oper) (i:Nat) (tm:List (Nat×AV)) (σ:du) (bG:List Rec),oK P nt ops nk orcs l i tm σ=some bG →
  bG.length=l.length∧∀ (m:Nat) (x:Rec),bG[m]?=some x→∃ o,l[m]?=some o ∧
   xI P nt ops (nk+16 * (i+m)) (En (fun q=>Nat.blt q (i+m)) bG i tm) (r8 (fun q=>Nat.blt q (i+m)) bG i σ) o (l3 orcs (i+m))=some x
 | [],i,tm,σ,bG,h=>by
  simp only [oK,az] at h
  subst h
  exact ⟨rfl,fun m x hx=>by simp at hx⟩
 | o :: r,i,tm,σ,bG,h=>by
  simp only [oK] at h
  split at h
  ·cases h
  ·rename_i x0 RC
   simp only [aJ] at h
   obtain ⟨l',h2,rfl⟩:=h
   obtain ⟨h3,h4⟩:=Db r (i+1) _ _ l' h2
   refine ⟨by simp [h3],?_⟩
   intro m x hx
   cases m with
   | zero =>
    simp at hx;subst hx
    refine ⟨o,by simp,?_⟩
    simp only [Nat.add_zero,En,r8]
    have hii:Nat.blt i i=false:=xK (by omega)
    rw [hii]
    rw [BJ,zI]
    ·exact RC
    ·intro m _;exact xK (by omega)
    ·intro m _;exact xK (by omega)
   | succ m =>
    obtain ⟨o',m5,he⟩:=h4 m x (by simpa using hx)
    refine ⟨o',by simpa using m5,?_⟩
    have hii:Nat.blt i (i+(m+1))=true:=Oj (by omega)
    simp only [En,r8]
    rw [hii]
    rw [show i+(m+1)=i+1+m by omega]
    exact he
theorem Ju {nk:Nat} {op:Op} {e e':Operand→AV} {orc:Option lZ} {σ:du} (he:∀ x∈op.operands.toList,e' x=e x):yD P nk σ op e' orc=yD P nk σ op e orc:=by
 unfold yD
 split
 ·unfold BE
  split
  ·rename_i f args FH
   have mem:∀ x,x∈f :: args.toList→e' x=e x:=by
    intro x hx
    refine he x ?_
    simp only [Op.operands,Call.operands] at *
    simpa using hx
   rw [mem f (by simp),jI mem,List.map_congr_left (fun x hx=>by rw [mem x (List.mem_cons_of_mem _ hx)]:∀ x∈args.toList,(e' x).strip.1=(e x).strip.1)]
  ·rfl
 ·exact UR he
theorem Dc {nk:Nat} {op:Op} {e:Operand→AV} {orc:Option lZ} {σ dx:du} {r:R} (h:yD P nk σ op e orc=some r) (hs:∀ k∈r.rds,au dx k=au σ k):yD P nk dx op e orc=some r:=by
 unfold yD at h ⊢
 split at h
 ·unfold BE at h ⊢
  split at h
  ·split at h
   ·rename_i h1 h2
    cases h
    rw [hs _ (by simp),h1,h2]
   ·cases h
  ·cases h
 ·exact PJ h hs
theorem IJ {nt nk:Nat} {ops:List Oper} {tm MM:List (Nat×AV)} {σ dx:du} {o:Oper} {orc:Option lZ} {x:Rec} (h:xI P nt ops nk tm σ o orc=some x)
  (ht:∀ t∈FQ ops o,cJ MM t=cJ tm t) (hs:∀ k∈x.rds,au dx k=au σ k):xI P nt ops nk MM dx o orc=some x:=by
 have he:∀ y∈o.op.operands.toList,xH MM y=xH tm y:=by
  intro y hy
  cases y with
  | tmp t=>exact ht t (by simp only [FQ,List.mem_append];exact .inl (FR hy))
  | _=>rfl
 unfold xI at h ⊢
 split at h
 ·cases h
 ·split at h
  ·simp only [aJ] at h ⊢
   obtain ⟨r,h1,rfl⟩:=h
   exact ⟨r,by rw [Ju he];exact Dc h1 hs,rfl⟩
  ·rename_i j want ZE
   split at h
   ·cases h
   ·rename_i d hd
    have htd:cJ MM d=cJ tm d:=ht d (by simp [FQ,ZE,hd])
    rw [htd]
    split at h
    ·split at h
     ·rename_i g r hg h1
      split at h
      ·rename_i hu
       cases h
       rw [Ju he,Dc h1 hs,hg]
       simp [hu]
      ·cases h
     ·cases h
    ·split at h
     ·rename_i g r hg h1
      cases h
      rw [Ju he,Dc h1 hs,hg]
     ·cases h
    ·split at h
     ·rename_i g hg
      exact h
     ·cases h
theorem qG {ops:List Oper} {L:Nat→Bool} (hd:∀ j,L j=true→∀ o,ops[j]?=some o→∀ e∈eP o,L e=true):∀ (n i j:Nat),D3 ops n i j=true →
  (∀ o,ops[j]?=some o→∀ e∈eP o,L e=true)→L i=true
 | 0,i,j,h,_=>by simp [D3] at h
 | n+1,i,j,h,hj=>by
  simp only [D3] at h
  split at h
  ·cases h
  ·rename_i o ho
   simp only [List.any_eq_true,Bool.or_eq_true] at h
   obtain ⟨e,he,h | h⟩:=h
   ·rw [← bm h];exact hj o ho e he
   ·exact qG hd n i e h fun o' m5 e' Qu=>hd e (hj o ho e he) o' m5 e' Qu
def MN (ops:List Oper) (o p:Oper) (x y:Rec):Prop :=
 (∃ d,x.dst=some d∧d∈FQ ops p)∨(∃ d,y.dst=some d∧d∈FQ ops o)∨(∃ k,k∈jy x.upd∧(k∈y.rds∨k∈jy y.upd))∨∃ k,k∈x.rds∧k∈jy y.upd
theorem zJ {l m:List Nat} {k:Nat} (h1:k∈l) (h2:k∈m):meets l m=true:=List.any_eq_true.2 ⟨k,h1,FP.2 h2⟩
theorem MN.Au {ops:List Oper} {o p:Oper} {x y:Rec} (h:MN ops o p x y):Au ops o p x y=true:=by
 unfold Ab.Au
 simp only [Bool.or_eq_true]
 rcases h with ⟨d,h1,h2⟩ | ⟨d,h1,h2⟩ | ⟨k,h1,h2⟩ | ⟨k,h1,h2⟩
 ·exact .inl (.inl (.inl (zJ (k:=d) (by simp [h1]) h2)))
 ·exact .inl (.inl (.inr (zJ (k:=d) (by simp [h1]) h2)))
 ·exact .inl (.inr (zJ h1 (by simpa using h2)))
 ·exact .inr (zJ h1 h2)
theorem MN.symm {ops:List Oper} {o p:Oper} {x y:Rec} (h:MN ops o p x y):MN ops p o y x:=by
 rcases h with h | h | ⟨k,h1,h2 | h2⟩ | ⟨k,h1,h2⟩
 ·exact .inr (.inl h)
 ·exact .inl h
 ·exact .inr (.inr (.inr ⟨k,h2,h1⟩))
 ·exact .inr (.inr (.inl ⟨k,h2,.inr h1⟩))
 ·exact .inr (.inr (.inl ⟨k,h2,.inl h1⟩))
theorem count_set:∀ (l:List Bool) (i:Nat),l[i]?=some false→((l.set i true).filter (· == true)).length=(l.filter (· == true)).length+1
 | [],i,h=>by simp at h
 | b :: l,0,h=>by simp at h;subst h;simp
 | b :: l,i+1,h=>by
  have:=count_set l i (by simpa using h)
  cases b<;>simp_all
theorem MO {E:Env} {rd:Option Nat} {ds:List Deferred} {nt nk:Nat} {ops:Array Oper} {orcs:List (Nat×lZ)} {Kr:List (Nat×AV)} {IK:du} {bG:List Rec} {Q:Exit→Act→World→Prop} (hz:∀ i,FM P E (l3 orcs i)) (hm:E.m0≤nk)
  (TX:oK P nt ops.toList nk orcs ops.toList 0 Kr IK=some bG) (hp:aW (w8 bG)) (Ek:RA ops.toList bG=true)
  (hQ:∀ a' w' S' cD,a'.tmps.size=nt→a'.defers=ds→Good E (qF bG IK) S' cD w'→(∀ k,nk+16 * ops.size≤k→cD k=none)→(∀ t,aq w' S' cD (a'.tmps.getD t undef) (cJ (vL bG Kr) t))→Q .normal a' w') :
  ∀ (fuel:Nat) (ak:Array Bool) (a:Act) (w:World) (S:Nat→Prop) (μ:Mu),ak.size=ops.size→a.tmps.size=nt→a.defers=ds →
   (∀ j,ak.getD j false=true→∀ o,ops.toList[j]?=some o→∀ e∈eP o,ak.getD e false=true)→ops.size≤fuel+(ak.toList.filter (· == true)).length →
   Good E (r8 (fun j=>ak.getD j false) bG 0 IK) S μ w→(∀ k,nk≤k→(∀ j,nk+16 * j≤k→k < nk+16 * j+16→ak.getD j false=false)→μ k=none) →
   (∀ t,aq w S μ (a.tmps.getD t undef) (cJ (En (fun j=>ak.getD j false) bG 0 Kr) t)) →
   wpAnyIn (FW rd) 0 P .any ops Q fuel ak a w:=by
 obtain ⟨hlen,oa⟩:=Db ops.toList 0 Kr IK bG TX
 simp only [Nat.zero_add] at oa
 have qE:∀ j,j < ops.size→uB ops.toList j=true∧∀ i,i < j→Da ops.toList bG i j=true:=by
  intro j hj
  have:=List.all_eq_true.1 Ek j (mO.2 (by simpa using hj))
  simp only [aV] at this
  exact ⟨this.1,fun i hi=>List.all_eq_true.1 this.2 i (mO.2 hi)⟩
 have K6:∀ j o,ops.toList[j]?=some o→∀ e∈eP o,e < j:=by
  intro j o ho e he
  have hj:j < ops.size:=by simpa using (dd.1 ho).1
  have h1:=(qE j hj).1
  unfold uB at h1
  rw [ho] at h1
  exact tE (List.all_eq_true.1 h1 e he)
 have FV:∀ i j o p x y,i < j→ops.toList[i]?=some o→ops.toList[j]?=some p→bG[i]?=some x→bG[j]?=some y →
   BH x.dst y.dst=false∧(Au ops.toList o p x y=true→D3 ops.toList ops.toList.length i j=true):=by
  intro i j o p x y UD ho n6 hx hy
  have hj:j < ops.size:=by simpa using (dd.1 n6).1
  have h1:=(qE j hj).2 i UD
  unfold Da at h1
  rw [ho,n6,hx,hy] at h1
  simp only [aV,Bool.not_eq_true',Bool.or_eq_true] at h1
  refine ⟨h1.1,fun hc=>?_⟩
  rcases h1.2 with h2 | h2
  ·rw [hc] at h2;cases h2
  ·exact h2
 -- what is ready
 have yF:∀ (ak:Array Bool),ak.size=ops.size→∀ i,i∈Region.ready .any ops ak↔(i < ops.size∧ak.getD i false=false∧∀ o,ops.toList[i]?=some o→∀ e∈eP o,ak.getD e false=true):=by
  intro ak E5 i
  unfold Region.ready
  simp only [List.mem_filter,mO,aV,Bool.not_eq_true']
  constructor
  ·rintro ⟨h1,h2,h3⟩
   have hl:i < ak.size:=by omega
   refine ⟨h1,?_,?_⟩
   ·simp only [fm,dN hl,Option.getD_some] at h2 ⊢;exact h2
   ·intro o ho e he
    have m5:ops[i]?=some o:=by simpa using ho
    simp only [m5,Option.map_some,Option.getD_some,Array.all_eq_true'] at h3
    simp only [eP,List.mem_map,List.mem_filter] at he
    obtain ⟨ed,⟨RE,Pq⟩,rfl⟩:=he
    have:=h3 ed (by simpa using RE)
    rw [Pq] at this
    simpa only [Bool.not_true,Bool.false_or] using this
  ·rintro ⟨h1,h2,h3⟩
   have hl:i < ak.size:=by omega
   refine ⟨h1,?_,?_⟩
   ·simp only [fm,dN hl,Option.getD_some] at h2 ⊢;exact h2
   ·have ho:ops[i]?=some ops[i]:=dN h1
    simp only [ho,Option.map_some,Option.getD_some,Array.all_eq_true']
    intro ed RE
    simp only [Bool.or_eq_true,Bool.not_eq_true']
    cases hb:Region.binds .any ed with
    | false=>exact .inl rfl
    | true =>
     right
     exact h3 ops[i] (by simp) ed.on (by simp only [eP,List.mem_map,List.mem_filter];exact ⟨ed,⟨by simpa using RE,hb⟩,rfl⟩)
 intro fuel
 -- the end
 have fin:∀ (ak:Array Bool) (a:Act) (w:World) (S:Nat→Prop) (μ:Mu),ak.size=ops.size→a.tmps.size=nt→a.defers=ds→(∀ j,j < ops.size→ak.getD j false=true) →
   Good E (r8 (fun j=>ak.getD j false) bG 0 IK) S μ w→(∀ k,nk≤k→(∀ j,nk+16 * j≤k→k < nk+16 * j+16→ak.getD j false=false)→μ k=none) →
   (∀ t,aq w S μ (a.tmps.getD t undef) (cJ (En (fun j=>ak.getD j false) bG 0 Kr) t))→Q .normal a w:=by
  intro ak a w S μ E5 hs Mf TY g hk ht
  have hL:∀ m,m < bG.length→(fun j=>ak.getD j false) (0+m)=true:=fun m fy=>by
   rw [Nat.zero_add];exact TY m (by rw [hlen] at fy;simpa using fy)
  rw [FU bG 0 IK _ hL] at g
  refine hQ a w S μ hs Mf g (fun k lj=>hk k (by omega) fun j hj Qv=>?_) (fun t=>by rw [← Jt bG 0 Kr (fun j=>ak.getD j false) hL];exact ht t)
  have:ak.size≤j:=by omega
  simp [fm,Array.getElem?_eq_none this]
 have RF:∀ (ak:Array Bool),ak.size=ops.size→(∀ j,ak.getD j false=true→∀ o,ops.toList[j]?=some o→∀ e∈eP o,ak.getD e false=true)→Region.ready .any ops ak=[]→∀ j,j < ops.size→ak.getD j false=true:=by
  intro ak E5 Mg hr j
  induction j using Nat.strongRecOn with
  | _ j ih =>
   intro hj
   cases hb:ak.getD j false with
   | true=>rfl
   | false =>
    have:j∈Region.ready .any ops ak:=(yF ak E5 j).2 ⟨hj,hb,fun o ho e he=>ih e (K6 j o ho e he) (by have:=K6 j o ho e he;omega)⟩
    rw [hr] at this;simp at this
 induction fuel with
 | zero =>
  intro ak a w S μ E5 hs Mf Mg K7 g hk ht
  simp only [wpAnyIn]
  have TY:∀ j,j < ops.size→ak.getD j false=true:=by
   have hle:(ak.toList.filter (· == true)).length=ak.toList.length:=by
    have h1:=List.length_filter_le (· == true) ak.toList
    simp at h1 K7 ⊢;omega
   have h2:=List.length_filter_eq_length_iff.1 hle
   intro j hj
   have hl:j < ak.size:=by omega
   have:=h2 ak[j] (by simp)
   simp only [fm,dN hl,Option.getD_some]
   simpa using this
  refine ⟨?_,fin ak a w S μ E5 hs Mf TY g hk ht⟩
  cases hr:Region.ready .any ops ak with
  | nil=>rfl
  | cons i r =>
   have:=(yF ak E5 i).1 (by rw [hr];simp)
   rw [TY i this.1] at this
   simp at this
 | succ fuel ih =>
  intro ak a w S μ E5 hs Mf Mg K7 g hk ht
  simp only [wpAnyIn]
  refine ⟨fun hr=>fin ak a w S μ E5 hs Mf (RF ak E5 Mg hr) g hk ht,?_⟩
  intro i hi
  obtain ⟨mn,yh,CJ⟩:=(yF ak E5 i).1 hi
  have RG:i < bG.length:=by rw [hlen];simpa using mn
  have hx:bG[i]?=some bG[i]:=ke RG
  obtain ⟨o,ho,PK⟩:=oa i _ hx
  generalize bG[i]=x at hx PK
  have hpx:aW x.HA:=by
   have:∀ (l:List Rec) (i:Nat),aW (w8 l)→l[i]?=some x→aW x.HA:=by
    intro l
    induction l with
    | nil=>intro i _ h;simp at h
    | cons y l ih =>
     intro i h hi
     obtain ⟨h1,h2⟩:=aW.app h
     cases i with
     | zero=>simp at hi;exact hi ▸ h1
     | succ i=>exact ih i h2 (by simpa using hi)
   exact this bG i hp hx
  -- an operation that meets this one is carried out just if it stands before it
  have order:∀ (j:Nat) (p:Oper) (y:Rec),j≠i→ops.toList[j]?=some p→bG[j]?=some y→MN ops.toList o p x y→Nat.blt j i=ak.getD j false:=by
   intro j p y ec ZH ZJ hc
   rcases Nat.lt_or_gt_of_ne ec with ft | Ud
   ·rw [Oj ft]
    exact (qG (L:=fun j=>ak.getD j false) Mg _ j i ((FV j i p o y x ft ZH ho ZJ hx).2 hc.symm.Au) (fun o' m5 e he=>by rw [ho] at m5;cases m5;exact CJ o ho e he)).symm
   ·rw [xK (by omega)]
    cases hb:ak.getD j false with
    | false=>rfl
    | true =>
     have:=qG (L:=fun j=>ak.getD j false) Mg _ i j ((FV i j o p x y Ud ho ZH hx ZJ).2 hc.Au) (fun o' m5 e he=>Mg j hb o' m5 e he)
     have:ak.getD i false=true:=this
     rw [yh] at this;cases this
  have BK:∀ (m:Nat) (y:Rec),bG[m]?=some y→∃ p,ops.toList[m]?=some p:=fun m y hy=>let ⟨p,n6,_⟩:=oa m y hy;⟨p,n6⟩
  have RH:xI P nt ops.toList (nk+16 * i) (En (fun j=>ak.getD j false) bG 0 Kr) (r8 (fun j=>ak.getD j false) bG 0 IK) o (l3 orcs i)=some x:=by
   refine IJ PK ?_ ?_
   ·intro t htl
    refine BI bG 0 _ _ rfl ?_
    intro m y hy ec Xw
    rw [Nat.zero_add] at ec
    obtain ⟨p,n6⟩:=BK m y hy
    by_cases xF:m=i
    ·subst xF;exact ec (by rw [yh,xK (by omega)])
    ·exact ec (order m p y xF n6 hy (.inr (.inl ⟨t,Xw,htl⟩))).symm
   ·intro k hkr
    refine zH bG 0 _ _ rfl ?_
    intro m y hy ec Xx
    rw [Nat.zero_add] at ec
    obtain ⟨p,n6⟩:=BK m y hy
    by_cases xF:m=i
    ·subst xF;exact ec (by rw [yh,xK (by omega)])
    ·exact ec (order m p y xF n6 hy (.inr (.inr (.inr ⟨k,hkr,Xx⟩)))).symm
  have MP:i < ak.size:=by omega
  have CS:∀ j,(ak.setIfInBounds i true).getD j false=(ak.getD j false || Nat.beq j i):=by
   intro j
   by_cases Hz:j=i
   ·subst Hz
    rw [ko rfl,Bool.or_true]
    simp [fm,MP]
   ·rw [lR Hz,Bool.or_false]
    simp only [fm]
    rw [Array.getElem?_setIfInBounds_ne (fun h=>Hz h.symm)]
  have RI:(fun j=>(ak.setIfInBounds i true).getD j false)=fun q=>ak.getD q false || Nat.beq q i:=funext CS
  have Iq:∀ q,q < 16→μ (nk+16 * i+q)=none:=fun q hq=>hk _ (by omega) fun j hj Qv=>by
   have Hz:j=i:=by omega
   rw [Hz];exact yh
  refine CZ (by simpa using ho) ht g Iq (by omega) (hz i) RH hpx ?_
  intro v w' S' cD q1 q2 q3 q4
  obtain ⟨d1,d2⟩:=C8 RH
  refine ih _ _ w' S' cD (by simp [E5]) (by rw [yE];exact hs) (by rw [re];exact Mf) ?_ ?_ ?_ ?_ ?_
  ·intro j hj o' m5 e he
   rw [CS] at hj ⊢
   rw [Bool.or_eq_true] at hj ⊢
   rcases hj with hj | hj
   ·exact .inl (Mg j hj o' m5 e he)
   ·have:=bm hj
    subst this
    exact .inl (CJ o' m5 e he)
  ·have hc:=count_set ak.toList i (by
    rw [Array.getElem?_toList,dN MP]
    simp only [fm,dN MP,Option.getD_some] at yh
    rw [yh])
   rw [Array.toList_setIfInBounds,hc]
   omega
  ·rw [RI]
   refine q2.congr ?_
   intro k
   rw [FT bG 0 IK (Nat.zero_le _) (by simpa using hx) ?_,kP x.upd (r8 (fun j=>ak.getD j false) bG 0 IK)]
   intro m y hy ft hL Xx Xy
   rw [Nat.zero_add] at ft hL
   obtain ⟨p,n6⟩:=BK m y hy
   have:=order m p y (by omega) n6 hy (.inr (.inr (.inl ⟨k,Xx,.inr Xy⟩)))
   rw [xK (by omega)] at this
   rw [← this] at hL;cases hL
  ·intro k lj DX
   have hki:k < nk+16 * i∨nk+16 * i+16≤k:=by
    rcases Nat.lt_or_ge k (nk+16 * i) with h1 | h1
    ·exact .inl h1
    ·rcases Nat.lt_or_ge k (nk+16 * i+16) with h2 | h2
     ·have:=DX i h1 h2
      rw [CS,ko rfl,Bool.or_true] at this
      cases this
     ·exact .inr h2
   refine q3 k hki (hk k lj fun j hj Qv=>?_)
   have:=DX j hj Qv
   rw [CS,Bool.or_eq_false_iff] at this
   exact this.1
  ·intro t
   rw [RI,Js bG 0 Kr (Nat.zero_le _) (by simpa using hx) ?_,BF a x.dst v t (fun n hn=>by rw [hs];exact d2 n (d1 ▸ hn))]
   ·split
    ·exact q4
    ·exact (ht t).ext q1
   ·intro m y hy ft hxd hyd
    rw [Nat.zero_add] at ft
    obtain ⟨p,n6⟩:=BK m y hy
    have:=(FV i m o p x y ft ho n6 hx hy).1
    rw [hxd,hyd] at this
    simp only [BH] at this
    rw [ko rfl] at this;cases this
end
end Go.Ab
namespace Go.Ab
inductive Wd where
 | ai
 | sl (n:Nat) (g:Nat→List AV)
 | lO (n:Nat)
 | tF (k:Nat)
 | pt (b:Bool) (cs:List AV)
 | nq (st:Option Bool) (d:Wd)
 | unq (d:Wd)
 | agg (ds:List Wd)
 | tup (ds:List Wd)
def Ks:List AV→List AV→Prop
 | [],[]=>True
 | a :: as,b :: bs=>(a=b∨(a=.nil∧∃ f,b=.sl 0 f))∧Ks as bs
 | _,_=>False
theorem Ks.len:∀ {as bs:List AV},Ks as bs→bs.length=as.length
 | [],[],_=>rfl
 | _ :: _,_ :: _,h=>congrArg (·+1) (Ks.len h.2)
theorem Ks.get:∀ {as bs:List AV} {j:Nat} {x:AV},Ks as bs→bs[j]?=some x→∃ a,as[j]?=some a∧(a=x∨(a=.nil∧∃ f,x=.sl 0 f))
 | [],[],_,_,_,hx=>by simp at hx
 | a :: _,b :: _,0,x,h,hx=>by
  have:b=x:=by simpa using hx
  subst this
  exact ⟨a,rfl,h.1⟩
 | _ :: as,_ :: bs,j+1,x,h,hx=>by
  have:=Ks.get (as:=as) (bs:=bs) (j:=j) (x:=x) h.2 (by simpa using hx)
  simpa using this
theorem Xz {w:World} {S:Nat→Prop} {μ:Mu} {v:Value} {a x:AV} (h:a=x∨(a=.nil∧∃ f,x=.sl 0 f)) (hv:aq w S μ v a):aq w S μ v x:=by
 rcases h with rfl | ⟨rfl,f,rfl⟩
 ·exact hv
 ·cases hv
  exact .sl 0 0 0 (fun _ _=>undef) (fun h=>absurd h (by decide)) (fun i h=>absurd h (dP _)) (fun i j h=>absurd h (dP _)) (fun i j c h=>absurd h (dP _)) (aP _)
inductive Od where
 | ai (k:Nat)
 | arr (k:Nat) (n:Nat) (g:Nat→List AV)
 | RJ (k:Nat) (n:Nat) (g:Nat→List AV)
 | var (k:Nat) (ds:List Wd)
 | mp (k:Nat) (cs:List AV)
 | po (k:Nat) (n:Nat) (l:List (Nat×Nat×Nat)) (b:Nat→List AV)
 | Wu (g:Nat→List AV)
 | nil (sz:Nat) (g:Nat→List AV)
def Od.vB:Od→Option Nat
 | .ai k | .arr k _ _ | .RJ k _ _ | .var k _ | .mp k _ | .po k _ _ _=>some k
 | .nil _ _ | .Wu _=>none
def bk:List (Nat×Nat×Nat)→(Nat→List AV)→Nat→List AV
 | [],b,m=>b m
 | (i,k,n) :: r,b,m=>if m=i then [.os k 0 n] else bk r b m
def RK (f:Nat→Option Nat):List (Nat×Nat×Nat)→Option (List (Nat×Nat×Nat))
 | []=>some []
 | (i,k,n) :: r=>match f k,RK f r with
  | some k',some l=>some ((i,k',n) :: l)
  | _,_=>none
theorem FX {f:Nat→Option Nat} {b:Nat→List AV} {m:Nat} (hb:Fx (b m)=true):∀ {l l':List (Nat×Nat×Nat)},RK f l=some l'→AV.uY f (bk l b m)=bk l' b m
 | [],l',h=>by simp [RK] at h;subst h;exact CO hb
 | (i,k,n) :: r,l',h=>by
  simp only [RK] at h
  split at h
  ·rename_i k' l2 hk hl
   cases h
   simp only [bk]
   split
   ·simp [AV.uY,AV.jx,hk]
   ·exact FX hb hl
  ·cases h
abbrev xZ:=List (Nat×Od)
def uC (m0:Nat):xZ→Nat→Option Nat
 | [],k=>match Nat.blt k m0 with
  | true=>some k
  | false=>none
 | (k',d) :: r,k=>match d.vB with
  | some q=>match Nat.beq q k with
   | true=>some k'
   | false=>uC m0 r k
  | none=>uC m0 r k
def uD:xZ→Nat→Option Od
 | [],_=>none
 | (k',d) :: r,k=>match Nat.beq k' k with
  | true=>some d
  | false=>uD r k
mutual
def FY (σ:du) (F:List Nat) (f:Nat→Option Nat) (eN:xZ):Wd→AV→Option (List Prop×AV)
 | .ai,x=>some ([],x.jx f)
 | .sl n g,.sl n0 g0=>some ([n0=n,∀ i,i < n→g i=g0 i],.sl n g)
 | .sl n g,.os k off len=>match Rz F k,au σ k with
  | true,some o=>match o.pr with
   | true=>some ([len=n,off+len≤o.len,∀ i,i < n→g i=o.get (bQ off i)],.sl n g)
   | false=>none
  | _,_=>none
 | .sl n g,.nil=>some ([n=0],.sl n g)
 | .lO n,.os k off len=>(f k).map fun k'=>([len=n],.os k' off n)
 | .tF k',.nil=>match uD eN k' with
  | some (.nil _ _)=>some ([],.os k' 0 0)
  | some (.Wu _)=>some ([],.os k' 0 0)
  | _=>none
 | .pt b cs,.rp ZK off=>match off with
  | 0=>some ([b=true,cs=ZK],.pt b cs)
  | _+1=>none
 | .pt b cs,.atom v=>match v with
  | .pointer none=>some ([b=false],.pt b cs)
  | _=>none
 | .pt b cs,.pt b0 ZK=>some ([b=b0,b0=true→cs=ZK],.pt b cs)
 | .nq st d,.nq st0 y=>match y with
  | .nq _ _=>none
  | y=>(FY σ F f eN d y).map fun (p,z)=>((st0=st) :: p,.nq st z)
 | .nq st d,.nil=>(FY σ F f eN d .nil).map fun (p,z)=>((st≠some false) :: p,.nq st z)
 | .nq st d,y=>(FY σ F f eN d y).map fun (p,z)=>((st=none) :: p,.nq st z)
 | .unq d,.nq _ y=>FY σ F f eN d y
 | .agg ds,.agg cs=>(US σ F f eN ds cs).map fun (p,c)=>(p,.agg c)
 | .tup ds,.tup cs=>(US σ F f eN ds cs).map fun (p,c)=>(p,.tup c)
 | _,_=>none
def US (σ:du) (F:List Nat) (f:Nat→Option Nat) (eN:xZ):List Wd→List AV→Option (List Prop×List AV)
 | [],[]=>some ([],[])
 | d :: ds,c :: cs=>match FY σ F f eN d c,US σ F f eN ds cs with
  | some (p,x),some (q,xs)=>some (p ++ q,x :: xs)
  | _,_=>none
 | _,_=>none
end
def w9 (σ:du) (F:List Nat) (f:Nat→Option Nat) (eN:xZ):Od→Option (List Prop×Ob)
 | .ai k=>(au σ k).map fun o=>([],o.jx f)
 | .arr k n g=>match au σ k with
  | some o=>match o.pr && !o.var && Nat.ble 1 o.sz with
   | true=>some ([o.len=n,∀ i,i < n→g i=o.get i],⟨o.var,o.sz,n,true,g⟩)
   | false=>none
  | none=>none
 | .RJ k n g=>match au σ k with
  | some o=>match o.pr && !o.var && Nat.ble 1 o.sz with
   | true=>some ([n≤o.len,∀ i,i < n→Ks (o.get i) (g i)],⟨o.var,o.sz,n,true,g⟩)
   | false=>none
  | none=>none
 | .var k ds=>match au σ k with
  | some o=>match o.var && Nat.beq o.len 1 && Nat.ble 1 o.sz,US σ F f eN ds (o.get 0) with
   | true,some (p,cs)=>some (p,⟨true,o.sz,1,AV.lG cs,fun _=>cs⟩)
   | _,_=>none
  | none=>none
 | .mp k cs=>match au σ k with
  | some o=>match Nat.beq o.sz 0 && o.pr && Nat.beq o.len 0 with
   | true=>some ([cs=o.get 0],⟨o.var,o.sz,o.len,true,fun _=>cs⟩)
   | false=>none
  | none=>none
 | .po k n l b=>match au σ k,RK f l with
  | some o,some l'=>match !o.var && Nat.ble 1 o.sz with
   | true=>some ([o.len=n,∀ i,i < n→bk l b i=o.get i,∀ i,i < n→Fx (b i)=true],⟨false,o.sz,n,false,bk l' b⟩)
   | false=>none
  | _,_=>none
 | .Wu g=>some ([],⟨false,1,0,false,g⟩)
 | .nil sz g=>match Nat.ble 1 sz with
  | true=>some ([],⟨false,sz,0,true,g⟩)
  | false=>none
def K8 (σ:du) (F:List Nat) (f:Nat→Option Nat) (eN:xZ) (tm:List (Nat×AV)):List (Nat×Wd)→Option (List Prop×List (Nat×AV))
 | []=>some ([],[])
 | (t,d) :: r=>match FY σ F f eN d (cJ tm t),K8 σ F f eN tm r with
  | some (p,x),some (q,l)=>some (p ++ q,(t,x) :: l)
  | _,_=>none
def K9 (σ:du) (F:List Nat) (f:Nat→Option Nat) (eN:xZ):xZ→Option (List Prop×du)
 | []=>some ([],[])
 | (k,d) :: r=>match w9 σ F f eN d,K9 σ F f eN r with
  | some (p,o),some (q,l)=>some (p ++ q,(k,o) :: l)
  | _,_=>none
def Jv (m0 nk:Nat) (F:List Nat) (eN:xZ):Bool :=
 mH (eN.map (·.1)) && mH (eN.filterMap (·.2.vB)) && (eN.all fun x=>Nat.blt x.1 nk && match x.2.vB with
  | some k=>!Rz F k && (match Nat.blt k m0 with
   | true=>Nat.beq x.1 k || Nat.ble m0 x.1
   | false=>Nat.ble m0 x.1)
  | none=>Nat.ble m0 x.1) && Nat.ble m0 nk
def Dd (m0:Nat) (st:St) (F:List Nat) (rV:List (Nat×Wd)) (eN:xZ) (nk:Nat):Option (List Prop×St) :=
 match Jv m0 nk F eN,K8 st.jk F (uC m0 eN) eN st.tm rV,K9 st.jk F (uC m0 eN) eN eN with
 | true,some (p,tm),some (q,σ)=>some (p ++ q,⟨tm,σ,nk⟩)
 | _,_,_=>none
def HK (m0:Nat) (μ:Mu) (eN:xZ):Mu:=fun k =>
 if k < m0 then μ k else match uD eN k with
  | some (.nil sz _)=>some ⟨0,0,sz⟩
  | some (.Wu _)=>some ⟨0,0,1⟩
  | some d=>d.vB.bind μ
  | none=>none
section
variable {P:Program} {E:Env} {σ:du} {S:Nat→Prop} {μ:Mu} {w:World} {m0 nk:Nat} {F:List Nat} {eN:xZ}
theorem zK:∀ {eN:xZ} {k:Nat} {d:Od},uD eN k=some d→(k,d)∈eN
 | [],k,d,h=>by simp [uD] at h
 | (k',d') :: r,k,d,h=>by
  simp only [uD] at h
  split at h
  ·rename_i hb;cases h;rw [bm hb];simp
  ·exact List.mem_cons_of_mem _ (zK h)
theorem rf:∀ {eN:xZ} {k:Nat} {d:Od},mH (eN.map (·.1))=true→(k,d)∈eN→uD eN k=some d
 | [],k,d,_,h=>by simp at h
 | (k',d') :: r,k,d,hn,h=>by
  simp only [List.map_cons,mH,aV] at hn
  simp only [uD]
  rcases jw.1 h with h | h
  ·cases h;rw [ko rfl]
  ·have ec:¬ k'=k:=by
    rintro rfl
    have Q3:idx (r.map (·.1)) k'=none:=by simpa using hn.1
    obtain ⟨i,hi⟩:=List.getElem?_of_mem (List.mem_map.2 ⟨_,h,rfl⟩:k'∈r.map (·.1))
    exact md _ _ Q3 i hi
   rw [lR ec]
   exact rf hn.2 h
theorem FZ:∀ {eN:xZ} {k k':Nat},uC m0 eN k=some k'→(∃ d,(k',d)∈eN∧d.vB=some k)∨(k < m0∧k'=k)
 | [],k,k',h=>by
  simp only [uC] at h
  split at h
  ·rename_i hb;cases h;exact .inr ⟨tE hb,rfl⟩
  ·cases h
 | (q,d) :: r,k,k',h=>by
  simp only [uC] at h
  have step:uC m0 r k=some k'→(∃ d',(k',d')∈(q,d) :: r∧d'.vB=some k)∨(k < m0∧k'=k):=fun h'=>by
   rcases FZ h' with ⟨d',h1,h2⟩ | h1
   ·exact .inl ⟨d',List.mem_cons_of_mem _ h1,h2⟩
   ·exact .inr h1
  split at h
  ·rename_i o ho
   split at h
   ·rename_i hb
    cases h
    exact .inl ⟨d,by simp,by rw [ho,bm hb]⟩
   ·exact step h
  ·exact step h
structure Names (m0 nk:Nat) (F:List Nat) (eN:xZ):Prop where
 nd:mH (eN.map (·.1))=true
 od:mH (eN.filterMap (·.2.vB))=true
 lt:∀ k d,(k,d)∈eN→k < nk
 fr:∀ k d q,(k,d)∈eN→d.vB=some q→q ∉ F
 lo:∀ k d q,(k,d)∈eN→d.vB=some q→q < m0→k=q∨m0≤k
 hi:∀ k d q,(k,d)∈eN→d.vB=some q→m0≤q→m0≤k
 no:∀ k d,(k,d)∈eN→d.vB=none→m0≤k
 m0:m0≤nk
theorem RM (h:Jv m0 nk F eN=true):Names m0 nk F eN:=by
 unfold Jv at h
 simp only [aV,Nat.ble_eq] at h
 obtain ⟨⟨⟨h1,h2⟩,h3⟩,h4⟩:=h
 have h3:=fun k d (hm:(k,d)∈eN)=>List.all_eq_true.1 h3 (k,d) hm
 simp only [aV] at h3
 refine ⟨h1,h2,fun k d hm=>tE (h3 k d hm).1,?_,?_,?_,?_,h4⟩
 ·intro k d q hm hq hF
  have:=(h3 k d hm).2
  rw [hq] at this
  simp only [aV,Bool.not_eq_true'] at this
  rw [FP.2 hF] at this
  cases this.1
 ·intro k d q hm hq ft
  have:=(h3 k d hm).2
  rw [hq] at this
  simp only [aV] at this
  rw [Oj ft] at this
  rcases Bool.or_eq_true_iff.1 this.2 with h | h
  ·exact .inl (bm h)
  ·exact .inr (Nat.le_of_ble_eq_true h)
 ·intro k d q hm hq hge
  have:=(h3 k d hm).2
  rw [hq] at this
  simp only [aV] at this
  rw [xK (by omega)] at this
  simpa only [Nat.ble_eq] using this.2
 ·intro k d hm hq
  have:=(h3 k d hm).2
  rw [hq] at this
  simpa only [Nat.ble_eq] using this
theorem E6 (N:Names m0 nk F eN) {k k':Nat} {pl:Place} (h:uC m0 eN k=some k') (hm:μ k=some pl):HK m0 μ eN k'=some pl:=by
 rcases FZ h with ⟨d,h1,h2⟩ | ⟨h1,rfl⟩
 ·unfold HK
  by_cases ft:k < m0
  ·rcases N.lo k' d k h1 h2 ft with h | h
   ·rw [if_pos (by omega),h];exact hm
   ·rw [if_neg (by omega),rf N.nd h1]
    cases d<;>simp_all [Od.vB]
  ·have:=N.hi k' d k h1 h2 (by omega)
   rw [if_neg (by omega),rf N.nd h1]
   cases d<;>simp_all [Od.vB]
 ·unfold HK
  rw [if_pos h1];exact hm
theorem AO (N:Names m0 nk F eN) {k k':Nat} {d:Od} (h:(k',d)∈eN) (ho:d.vB=some k):HK m0 μ eN k'=μ k:=by
 unfold HK
 by_cases ft:k < m0
 ·rcases N.lo k' d k h ho ft with h1 | h1
  ·rw [if_pos (by omega),h1]
  ·rw [if_neg (by omega),rf N.nd h]
   cases d<;>simp_all [Od.vB]
 ·have:=N.hi k' d k h ho (by omega)
  rw [if_neg (by omega),rf N.nd h]
  cases d<;>simp_all [Od.vB]
theorem Ok (N:Names m0 nk F eN) {k':Nat} {g:Nat→List AV} (h:(k',Od.Wu g)∈eN):HK m0 μ eN k'=some ⟨0,0,1⟩:=by
 have:=N.no k' _ h rfl
 unfold HK
 rw [if_neg (by omega),rf N.nd h]
theorem Ol (N:Names m0 nk F eN) {k' sz:Nat} {g:Nat→List AV} (h:(k',Od.nil sz g)∈eN):HK m0 μ eN k'=some ⟨0,0,sz⟩:=by
 have:=N.no k' _ h rfl
 unfold HK
 rw [if_neg (by omega),rf N.nd h]
theorem Om (g:Good E σ S μ w) (N:Names m0 nk F eN):∀ (d:Wd) (x:AV) (v:Value) (ps:List Prop) (y:AV),aq w S μ v x→FY σ F (uC m0 eN) eN d x=some (ps,y)→aW ps →
  aq w (SF μ F σ S) (HK m0 μ eN) v y:=by
 have mono:∀ {v:Value} {x:AV} {cD:Mu},aq w S cD v x→aq w (SF μ F σ S) cD v x:=fun h=>h.mono (fun _ h=>.inl h) (fun _ _=>rfl) (fun _ _ h=>h)
 intro d
 induction d using Wd.rec (motive_2:=fun ds=>∀ (cs:List AV) (ps:List Prop) (ys:List AV),US σ F (uC m0 eN) eN ds cs=some (ps,ys)→aW ps →
   cs.length=ys.length∧∀ (j:Nat) c y v,cs[j]?=some c→ys[j]?=some y→aq w S μ v c→aq w (SF μ F σ S) (HK m0 μ eN) v y) with
 | ai =>
  intro x v ps y h hw hp
  simp only [FY,az,ay] at hw
  obtain ⟨rfl,rfl⟩:=hw
  exact (mono h).jx fun k k' pl hk hm=>E6 N hk hm
 | sl n gt =>
  intro x v ps y h hw hp
  cases x<;>simp only [FY] at hw<;>try (cases hw;done)
  case sl n0 g0 =>
   simp only [az,ay] at hw
   obtain ⟨rfl,rfl⟩:=hw
   obtain ⟨rfl,p2,_⟩:=hp
   cases h with
   | sl b off sz f h1 h2 h3 h4 h5 =>
    exact .sl b off sz f (fun hl=>⟨(h1 hl).1,.inl (h1 hl).2⟩) (fun i hi=>by rw [p2 i hi];exact h2 i hi) h3 (fun i j c hi hc=>mono (h4 i j c hi (by rw [← p2 i hi];exact hc))) h5
  case os k off len =>
   split at hw
   ·rename_i o hF ho
    split at hw
    ·rename_i DV
     simp only [az,ay] at hw
     obtain ⟨rfl,rfl⟩:=hw
     obtain ⟨rfl,p2,p3,_⟩:=hp
     obtain ⟨pl,c,T,hm,cE⟩:=g.rep.ob k o ho
     cases h with
     | os iJ fy h1 h2 h3 =>
      rename_i cap a
      rw [hm] at fy;cases fy
      refine .sl pl.b6 (off * pl.sz) o.sz (fun i j=>(c[(off+i) * o.sz+j]?).getD undef) ?_ (fun i hi=>by rw [p3 i hi,dq];exact cE.tz _ (by omega)) ?_ ?_ h2
      ·intro hl
       exact ⟨h1 (by omega),.inr ⟨k,o,pl,FP.1 hF,ho,hm,by omega,rfl⟩⟩
      ·intro i j hi hj
       obtain ⟨v,q1,q2⟩:=di cE (i:=off+i) (by omega) hj
       rw [q1,cE.sz,← ca,q2];rfl
      ·intro i j c' hi jr
       rw [p3 i hi,dq] at jr
       obtain ⟨v,q1,q2⟩:=di cE (i:=off+i) (by omega) (by have:=(dd.1 jr).1;rwa [cE.tz _ (by omega)] at this)
       rw [q1]
       have:=cE.rep _ j c' v (by omega) jr q1
       rw [DV] at this
       exact mono this
    ·cases hw
   ·cases hw
  case nil =>
   simp only [az,ay] at hw
   obtain ⟨rfl,rfl⟩:=hw
   obtain ⟨rfl,_⟩:=hp
   cases h
   exact .sl 0 0 0 (fun _ _=>undef) (fun h=>absurd h (by omega)) (fun i h=>absurd h (by omega)) (fun i j h=>absurd h (by omega)) (fun i j c h=>absurd h (by omega)) (aP _)
 | lO n =>
  intro x v ps y h hw hp
  cases x<;>simp only [FY] at hw<;>try (cases hw;done)
  case os k off len =>
   simp only [aJ,ay] at hw
   obtain ⟨k',lj,rfl,rfl⟩:=hw
   obtain ⟨rfl,_⟩:=hp
   cases h with
   | os pl hm h1 h2 h3=>exact .os pl (E6 N lj hm) h1 h2 h3
 | tF k' =>
  intro x v ps y h hw hp
  cases x<;>simp only [FY] at hw<;>try (cases hw;done)
  case nil =>
   split at hw
   ·rename_i sz gt UT
    simp only [az,ay] at hw
    obtain ⟨rfl,rfl⟩:=hw
    cases h
    exact .os ⟨0,0,sz⟩ (Ol N (zK UT)) (fun h=>absurd h (by omega)) (aP _) (by simp)
   ·rename_i gt UT
    simp only [az,ay] at hw
    obtain ⟨rfl,rfl⟩:=hw
    cases h
    exact .os ⟨0,0,1⟩ (Ok N (zK UT)) (fun h=>absurd h (by omega)) (aP _) (by simp)
   ·cases hw
 | pt b cs =>
  intro x v ps y h hw hp
  have other:∀ {b:Bool} {cs:List AV} {v:Value},aq w S μ v (.pt b cs)→aq w (SF μ F σ S) (HK m0 μ eN) v (.pt b cs):=fun h=>(mono h).pure rfl _
  cases x<;>simp only [FY] at hw<;>try (cases hw;done)
  case rp ZK off =>
   split at hw
   ·simp only [az,ay] at hw
    obtain ⟨rfl,rfl⟩:=hw
    obtain ⟨rfl,rfl,_⟩:=hp
    exact other (.pt (fun _=>h) (fun h=>by cases h))
   ·cases hw
  case atom v0 =>
   split at hw
   ·simp only [az,ay] at hw
    obtain ⟨rfl,rfl⟩:=hw
    obtain ⟨rfl,_⟩:=hp
    exact other (.pt (fun h=>by cases h) (fun _=>db h))
   ·cases hw
  case pt b0 ZK =>
   simp only [az,ay] at hw
   obtain ⟨rfl,rfl⟩:=hw
   obtain ⟨rfl,Xc,_⟩:=hp
   cases h with
   | pt h1 h2=>exact other (.pt (fun hb=>by rw [Xc hb];exact h1 hb) h2)
 | nq st d ih =>
  intro x v ps y h hw hp
  have fin:∀ {x0:AV} {p:List Prop} {z:AV},aq w S μ v x0→FY σ F (uC m0 eN) eN d x0=some (p,z)→aW p→(st=some true→v=.slice none 0 0)→(st=some false→QE v=false)→aq w (SF μ F σ S) (HK m0 μ eN) v (.nq st z) :=
   fun h0 h1 h2 h3 h4=>.nq (ih _ _ _ _ h0 h1 h2) h3 h4
  cases x with
  | nq st0 y0 =>
   have Ps:∃ p z,FY σ F (uC m0 eN) eN d y0=some (p,z)∧ps=(st0=st) :: p∧y=.nq st z:=by
    cases y0<;>simp only [FY,aJ,ay] at hw<;>first | (cases hw;done) | (obtain ⟨⟨p,z⟩,e1,rfl,rfl⟩:=hw;exact ⟨p,z,e1,rfl,rfl⟩)
   obtain ⟨p,z,e1,rfl,rfl⟩:=Ps
   obtain ⟨rfl,vE⟩:=hp
   cases h with
   | nq h0 h1 h2=>exact fin h0 e1 vE h1 h2
  | nil =>
   simp only [FY,aJ,ay] at hw
   obtain ⟨⟨p,z⟩,e1,rfl,rfl⟩:=hw
   obtain ⟨ec,vE⟩:=hp
   cases h
   exact fin .nil e1 vE (fun _=>rfl) (fun e=>absurd e ec)
  | _ =>
   simp only [FY,aJ,ay] at hw
   obtain ⟨⟨p,z⟩,e1,rfl,rfl⟩:=hw
   obtain ⟨rfl,vE⟩:=hp
   exact fin h e1 vE (fun e=>by cases e) (fun e=>by cases e)
 | unq d ih =>
  intro x v ps y h hw hp
  cases x with
  | nq st0 y0 =>
   simp only [FY] at hw
   cases h with
   | nq h0 _ _=>exact ih _ _ _ _ h0 hw hp
  | _=>simp only [FY] at hw;cases hw
 | agg ds ih =>
  intro x v ps y h hw hp
  cases x<;>simp only [FY] at hw<;>try (cases hw;done)
  case agg cs =>
   simp only [aJ,ay] at hw
   obtain ⟨⟨p,c⟩,h1,rfl,rfl⟩:=hw
   obtain ⟨q1,q2⟩:=ih cs p c h1 hp
   cases h with
   | agg h2 h3 =>
    refine .agg (h2.trans q1) fun j y v hy hv=>?_
    have ft:j < cs.length:=by rw [q1];exact (dd.1 hy).1
    exact q2 j _ y v (ke ft) hy (h3 j _ v (ke ft) hv)
 | tup ds ih =>
  intro x v ps y h hw hp
  cases x<;>simp only [FY] at hw<;>try (cases hw;done)
  case tup cs =>
   simp only [aJ,ay] at hw
   obtain ⟨⟨p,c⟩,h1,rfl,rfl⟩:=hw
   obtain ⟨q1,q2⟩:=ih cs p c h1 hp
   cases h with
   | tup h2 h3 =>
    refine .tup (h2.trans q1) fun j y v hy hv=>?_
    have ft:j < cs.length:=by rw [q1];exact (dd.1 hy).1
    exact q2 j _ y v (ke ft) hy (h3 j _ v (ke ft) hv)
 | nil =>
  rename_i cs ps ys h hp
  cases cs with
  | nil=>simp [US] at h;obtain ⟨_,rfl⟩:=h;exact ⟨rfl,fun j c y v hc=>by simp at hc⟩
  | cons=>simp [US] at h
 | cons d ds Kk Kl =>
  rename_i cs ps ys h hp
  cases cs with
  | nil=>simp [US] at h
  | cons c cs =>
   simp only [US] at h
   split at h
   ·rename_i p x q xs e1 e2
    simp only [az,ay] at h
    obtain ⟨rfl,rfl⟩:=h
    obtain ⟨ug,vE⟩:=aW.app hp
    obtain ⟨r1,r2⟩:=Kl cs q xs e2 vE
    refine ⟨by simp [r1],?_⟩
    intro j c' y v hc hy hr
    cases j with
    | zero=>simp at hc hy;subst hc hy;exact Kk c v p x hr e1 ug
    | succ j=>exact r2 j c' y v (by simpa using hc) (by simpa using hy) hr
   ·cases h
end
end Go.Ab
