/- Abstract values over the heap of the machine, and functions read off its code (part 3). No conditions. -/
import Derived.Test.YtlgddcmiekcdiaaGreatCb
import Derived.OrdersIn
import Derived.RangeFuncSeq
set_option linter.unusedVariables false
set_option linter.unusedSimpArgs false
namespace Go.Ab
def ee:List (Nat×AV)→Nat→AV
 | [],_=>.m9
 | (k,x) :: r,n=>match Nat.beq k n with
  | true=>x
  | false=>ee r n
def xS (tm:List (Nat×AV)):Operand→AV
 | .tmp t=>ee tm t
 | .const v=>ofConst v
 | .global g=>.atom (.pointer (some ⟨g,0,none⟩))
 | .func f=>.fn (.func f) [] []
def conds (e:Operand→AV):List Operand→List Prop
 | []=>[]
 | x :: r=>(e x).strip.2 ++ conds e r
def Ps (b:Bool):List Prop→List Prop
 | []=>[]
 | p :: ps=>[b=true→bj (p :: ps)]
def Pt (mx:Bool) (x y:AV):Option AV :=
 match x,y with
 | .atom (.int k a),.atom (.int k' b)=>match decide (k=k') with
  | true=>some (.atom (.int k (match mx with
   | true=>if b > a then b else a
   | false=>if b < a then b else a)))
  | false=>none
 | _,_=>none
def Cj (mx:Bool):AV→List AV→Option AV
 | a,[]=>some a
 | a,b :: r=>match Pt mx a b with
  | some v=>Cj mx v r
  | none=>none
def rP (ps:List Prop) (x:Option AV):Option R:=x.map fun v=>⟨ps,v,[],[]⟩
def UL (l:List Nat) (k:Nat):Bool:=l.any fun x=>Nat.beq x k
def yR (P:Program) (nk:Nat) (σ:dw) (e:Operand→AV) (b:Builtin) (args:List Operand) (Hv:List TypeId):Option R :=
 let s:=fun x=>(e x).strip.1
 let c:=fun xs=>conds e xs
 match b,args,Hv with
 | .len,[x],[t]=>rP (c [x]) (O4 P t (s x))
 | .append,[x,y],[t,t']=>match Nat.beq t t' with
  | true=>(qP P nk σ t (s x) (s y)).map fun (ps,v,rd,u)=>⟨c [x,y] ++ ps,v,rd,u⟩
  | false=>none
 | .min,x :: r,_=>rP (c (x :: r)) (Cj false (s x) (r.map s))
 | .max,x :: r,_=>rP (c (x :: r)) (Cj true (s x) (r.map s))
 | _,_,_=>none
def dZ (P:Program) (nk:Nat) (σ:dw) (op:Op) (e:Operand→AV) (bp:Option oa):Option R :=
 let s:=fun x=>(e x).strip.1
 let c:=fun xs=>conds e xs
 match op with
 | .move x | .assign x=>some ⟨[],e x,[],[]⟩
 | .pick q a b=>match s q,s a,s b with
  | .atom (.bool qb),.atom (.bool x),.atom (.bool y) =>
   some ⟨(e q).strip.2 ++ (Ps qb (e a).strip.2 ++ Ps (!qb) (e b).strip.2),.atom (.bool (cond qb x y)),[],[]⟩
  | _,_,_=>none
 | .alloc T=>(Ib P nk T).map fun (v,u)=>⟨[],v,[],u⟩
 | .box _ x=>(OU nk (s x)).map fun (v,u)=>⟨c [x],v,[],u⟩
 | .build t parts=>rP (c (parts.toList.map (·.2))) (Ic P t (parts.toList.map fun (i,x)=>(i,s x)))
 | .buildSlice t len parts=>match Nat.beq len 0 && !parts.toList.isEmpty with
  | true=>none
  | false=>(vY P nk t len (parts.toList.map fun (i,x)=>(i,s x))).map fun (v,u)=>⟨c (parts.toList.map (·.2)),v,[],u⟩
 | .load T a=>(xI P σ T (s a)).map fun (ps,v,rd)=>⟨c [a] ++ ps,v,rd,[]⟩
 | .store T a x=>(yI P σ T (s a) (s x)).map fun (ps,u,rd)=>⟨c [a,x] ++ ps,.m9,rd,u⟩
 | .nilCheck x=>match s x with
  | .op k i j=>some ⟨c [x],.op k i j,[],[]⟩
  | .rp cs j=>some ⟨c [x],.rp cs j,[],[]⟩
  | .pt b cs=>some ⟨c [x] ++ [b=true],.rp cs 0,[],[]⟩
  | _=>none
 | .binOp o t x y _=>(OS P o t (s x) (s y)).map fun (ps,v)=>⟨c [x,y] ++ ps,v,[],[]⟩
 | .unOp o _ x=>rP (c [x]) (Uq o (s x))
 | .convert src dst x=>match K4 P src dst (s x) with
  | some v=>some ⟨c [x],v,[],[]⟩
  | none=>(yN P σ src dst (s x)).map fun (ps,v,rd)=>⟨c [x] ++ ps,v,rd,[]⟩
 | .makeMap _ none=>some ⟨[],.mp nk,[],[(nk,some ⟨false,0,0,true,fun _=>[]⟩)]⟩
 | .lookup t m x ok=>match bp with
  | some o=>(uS P σ t (s m) (s x) ok o).map fun (ps,v,rd)=>⟨c [m,x] ++ ps,v,rd,[]⟩
  | none=>none
 | .mapUpdate t m x y | .insert t m x y=>match bp with
  | some o=>(uT P σ t (s m) (s x) (s y) o).map fun (ps,u,rd)=>⟨c [m,x,y] ++ ps,.m9,rd,u⟩
  | none=>none
 | .makeFunc f first cap=>some ⟨c (first.toList ++ cap.toList),.fn f (first.toList.map s) (cap.toList.map s),[],[]⟩
 | .makeSlice t l m=>(K6 P nk t (s l) (s m)).map fun (ps,v,u)=>⟨c [l,m] ++ ps,v,[],u⟩
 | .slice t x lo hi none=>(yJ P σ t (s x) (lo.map s) (hi.map s)).map fun (ps,v,rd)=>⟨c (x :: (lo.toList ++ hi.toList)) ++ ps,v,rd,[]⟩
 | .fieldAddr T x f=>rP (c [x]) (xK P T (s x) f)
 | .field T x f=>rP (c [x]) (Ii P T (s x) f)
 | .indexAddr T x i=>(o6 P σ T (s x) (s i)).map fun (ps,v,rd)=>⟨c [x,i] ++ ps,v,rd,[]⟩
 | .index T x i=>(Ik P T (s x) (s i)).map fun (ps,v)=>⟨c [x,i] ++ ps,v,[],[]⟩
 | .extract x i=>match s x with
  | .tup cs=>rP (c [x]) cs[i]?
  | _=>none
 | .call ⟨.value f,args,_⟩=>match bp with
  | some o=>(EU P nk σ (s f) (args.toList.map s) o).map fun r=>{ r with Hm:=r.Hm ++ c (f :: args.toList) }
  | none=>none
 | .call ⟨.builtin b,args,Hv⟩=>yR P nk σ e b args.toList Hv.toList
 | _=>none
section
variable {P:Program} {E:Env} {nk:Nat} {σ:dw} {S:Nat→Prop} {μ:Mu} {w:World}
theorem yS {e:Operand→AV}:∀ {xs:List Operand},bj (conds e xs)→∀ x∈xs,bj (e x).strip.2
 | [],_,x,hx=>by simp at hx
 | y :: r,h,x,hx=>by
  obtain ⟨h1,h2⟩:=bj.app h
  rcases kL.1 hx with rfl | hx
  ·exact h1
  ·exact yS h2 x hx
theorem Hw {b:Bool} {ps:List Prop} (h:bj (Ps b ps)) (hb:b=true):bj ps:=by
 cases ps with
 | nil=>trivial
 | cons p ps=>exact h.1 hb
theorem Lg {mx:Bool} {ρ:Operand→Value} {e:Operand→AV}:∀ (l:List Operand) (va:Value) (a r:AV),aq w S μ va a→(∀ x∈l,aq w S μ (ρ x) ((e x).strip.1)) →
  Cj mx a (l.map fun x=>(e x).strip.1)=some r→∃ z,((l.map ρ).foldlM (match mx with | true=>Builtin.max2 | false=>Builtin.min2) va:Sem Value).run P w=.ok z w∧aq w S μ z r
 | [],va,a,r,ha,_,h=>by
  simp only [List.map_nil,Cj,az] at h
  simp_all
 | x :: l,va,a,r,ha,hl,h=>by
  simp only [List.map_cons,Cj] at h
  split at h
  ·rename_i v hv
   have hx:=hl x (by simp)
   obtain ⟨u,h1,h2⟩:∃ u,((match mx with | true=>Builtin.max2 | false=>Builtin.min2) va (ρ x):Sem Value).run P w=.ok u w∧aq w S μ u v:=by
    unfold Pt at hv
    split at hv
    ·rename_i k p k' q hp hq
     rw [hq] at hx
     have e2:=cY hx
     have e1:=cY ha
     split at hv
     ·cases hv
      cases mx with
      | true=>exact ⟨_,by simp [e1,e2,Builtin.max2],.atom _⟩
      | false=>exact ⟨_,by simp [e1,e2,Builtin.min2],.atom _⟩
     ·cases hv
    ·cases hv
   obtain ⟨z,h3,h4⟩:=Lg l u v r h2 (fun y hy=>hl y (by simp [hy])) h
   simp_all
  ·cases h
theorem R6 {v:Value} {b:Bool} {cs:List AV} (h:aq w S μ v (.pt b cs)) (hb:b=true):aq w S μ v (.rp cs 0):=by
 cases h with
 | pt h1 _=>exact h1 hb
def Pu (E:Env) (nk:Nat) (σ:dw) (S:Nat→Prop) (μ:Mu) (w:World) (r:R) (K:Value→World→Prop):Prop :=
 ∀ v w' S' dn,Ext w S μ w' S' dn→Good E (fA σ r.ml) S' dn w'→(∀ k,(k < nk∨nk+16≤k)→μ k=none→dn k=none)→aq w' S' dn v r.val→K v w'
theorem Hx {ρ:Operand→Value} {e:Operand→AV} {parts:Array (Nat×Operand)} (he:∀ x∈(parts.toList.map (·.2)),aq w S μ (ρ x) ((e x).strip.1)) :
  (parts.map fun (i,x)=>(i,ρ x)).toList.map (·.1)=(parts.toList.map fun (i,x)=>(i,(e x).strip.1)).map (·.1) ∧
  ∀ (j:Nat) x y,(parts.toList.map fun (i,x)=>(i,(e x).strip.1))[j]?=some x→(parts.map fun (i,x)=>(i,ρ x)).toList[j]?=some y→aq w S μ y.2 x.2:=by
 refine ⟨by simp,?_⟩
 grind
theorem EZ {ρ:Operand→Value} {e:Operand→AV} {xs:Array Operand} (he:∀ x∈xs.toList,aq w S μ (ρ x) ((e x).strip.1)) :
  RL w S μ (xs.map ρ) (xs.toList.map fun x=>(e x).strip.1):=by
 refine ⟨by simp,?_⟩
 grind
theorem JW {o:Oper} {a:Act} {e:Operand→AV} {bp:Option oa} {r:R} {next:Act→World→Prop} {Q:Exit→Act→World→Prop}
  (he:∀ x∈o.op.operands.toList,aq w S μ (a.eval x) (e x)) (g:Good E σ S μ w) (z7:∀ j,j < 16→μ (nk+j)=none) (hm:E.m0≤nk)
  (hz:∀ x,bp=some x→x.xi=true→∀ b,¬ E.fp b) (h:dZ P nk σ o.op e bp=some r) (hp:bj r.Hm) (hK:Pu E nk σ S μ w r fun v w'=>next (a.put o.dst v) w'):o.wp P a w next Q:=by
 have hk:μ nk=none:=z7 0 (by omega)
 -- a value without a change
 have pv:∀ (s:Sem Value),execOp a.eval o=(do pure (.value (← s)):Sem Next)→r.ml=[]→(∃ v,s.run P w=.ok v w∧aq w S μ v r.val)→o.wp P a w next Q:=by
  rintro s hs hu ⟨v,h1,h2⟩
  unfold Oper.wp
  rw [hs]
  simp only [bH,h1,cX,Sem.run_pure]
  exact hK v w S μ (Ext.refl _ _ _) (by rw [hu];exact g) (fun _ _ h=>h) h2
 have VW:∀ (v:Value),execOp a.eval o=pure (.value v)→r.ml=[]→aq w S μ v r.val→o.wp P a w next Q:=by
  intro v hs hu h2
  unfold Oper.wp
  rw [hs]
  exact hK v w S μ (Ext.refl _ _ _) (by rw [hu];exact g) (fun _ _ h=>h) h2
 have sv:∀ (s:Sem Value),execOp a.eval o=(do pure (.value (← s)):Sem Next)→Step P E nk σ S μ w s r.val r.ml→o.wp P a w next Q:=by
  rintro s hs ⟨v,w',S',dn,h1,h2,h3,h4,h5⟩
  unfold Oper.wp
  rw [hs]
  simp only [bH,h1,cX,Sem.run_pure]
  exact hK v w' S' dn h2 h3 (fun k oQ=>h4 k (by omega)) h5
 have st:∀ (xs:List Operand),bj (conds e xs)→(∀ x∈xs,x∈o.op.operands.toList)→∀ x∈xs,aq w S μ (a.eval x) ((e x).strip.1) :=
  fun xs h1 h2 x hx=>(he x (h2 x hx)).strip (yS h1 x hx)
 obtain ⟨dst,op,ty,pos,after,guard⟩:=o
 simp only at he h hK pv VW sv st ⊢
 cases op with
 | move x =>
  simp only [dZ,az] at h;subst h
  exact VW (a.eval x) rfl rfl (he x (by simp [Op.operands]))
 | assign x =>
  simp only [dZ,az] at h;subst h
  exact VW (a.eval x) rfl rfl (he x (by simp [Op.operands]))
 | pick q x y =>
  simp only [dZ] at h
  split at h
  ·rename_i qb xb yb hq hx hy
   cases h
   obtain ⟨p1,p2⟩:=bj.app hp
   obtain ⟨p2,p3⟩:=bj.app p2
   have e1:=(he q (by simp [Op.operands])).strip p1
   rw [hq] at e1
   have e1:=cY e1
   refine pv (do pure (if ← asBool (a.eval q) then a.eval x else a.eval y)) (by simp [execOp]) rfl ?_
   cases qb with
   | true =>
    have e2:=(he x (by simp [Op.operands])).strip (Hw p2 rfl)
    simp_all [asBool]
   | false =>
    have e2:=(he y (by simp [Op.operands])).strip (Hw p3 rfl)
    simp_all [asBool]
  ·cases h
 | alloc T =>
  simp only [dZ,aL] at h
  obtain ⟨⟨v,u⟩,h1,rfl⟩:=h
  exact sv _ rfl (OT g hk hm h1)
 | box T x =>
  simp only [dZ,aL] at h
  obtain ⟨⟨v,u⟩,h1,rfl⟩:=h
  exact sv _ rfl (Ur g hk hm (st [x] hp (by simp [Op.operands]) x (by simp)) h1)
 | build t parts =>
  simp only [dZ,rP,aL] at h
  obtain ⟨v,h1,rfl⟩:=h
  have KX:=Hx (st _ hp (by simp [Op.operands]))
  exact pv _ rfl rfl (OW KX.1 KX.2 h1)
 | buildSlice t len parts =>
  simp only [dZ] at h
  split at h
  ·cases h
  ·rename_i JF
   simp only [aL] at h
   obtain ⟨⟨v,u⟩,h1,rfl⟩:=h
   have KX:=Hx (st _ hp (by simp [Op.operands]))
   refine sv _ rfl (GI g hk hm KX.1 KX.2 h1 ?_)
   intro hz
   subst hz
   simp only [Bool.and_eq_false_iff] at JF
   rcases JF with h0 | h0
   ·simp at h0
   ·simp only [Bool.not_eq_false',List.isEmpty_iff] at h0
    simp [h0]
 | load T x =>
  simp only [dZ,aL] at h
  obtain ⟨⟨ps,v,rd⟩,h1,rfl⟩:=h
  obtain ⟨p1,p2⟩:=bj.app hp
  exact pv _ rfl rfl (Ie g (st [x] p1 (by simp [Op.operands]) x (by simp)) h1 p2)
 | store T x y =>
  simp only [dZ,aL] at h
  obtain ⟨⟨ps,u,rd⟩,h1,rfl⟩:=h
  obtain ⟨p1,p2⟩:=bj.app hp
  have s:=st [x,y] p1 (by simp [Op.operands])
  obtain ⟨w',r1,r2,r3⟩:=O0 g (s x (by simp)) (s y (by simp)) h1 p2
  unfold Oper.wp
  have ex:execOp a.eval ⟨dst,.store T x y,ty,pos,after,guard⟩=(do Instr.storeAt T (a.eval x) (a.eval y);pure .skip:Sem Next):=rfl
  rw [ex]
  simp only [bH,r1,cX,Sem.run_pure]
  exact hK undef w' S μ r2 r3 (fun _ _ h=>h) .m9
 | nilCheck x =>
  simp only [dZ] at h
  split at h
  ·rename_i k i j hx
   cases h
   have e1:=st [x] hp (by simp [Op.operands]) x (by simp)
   rw [hx] at e1
   cases hv:a.eval x with
   | pointer q =>
    rw [hv] at e1
    cases q with
    | none=>cases e1
    | some q=>exact VW (.pointer (some q)) (by simp [execOp,hv]) rfl e1
   | _=>rw [hv] at e1;cases e1
  ·rename_i cs j hx
   cases h
   have e1:=st [x] hp (by simp [Op.operands]) x (by simp)
   rw [hx] at e1
   cases hv:a.eval x with
   | pointer q =>
    rw [hv] at e1
    cases q with
    | none=>cases e1
    | some q=>exact VW (.pointer (some q)) (by simp [execOp,hv]) rfl e1
   | _=>rw [hv] at e1;cases e1
  ·rename_i b cs hx
   cases h
   obtain ⟨hp,hb,_⟩:=bj.app hp
   have e1:=st [x] hp (by simp [Op.operands]) x (by simp)
   rw [hx] at e1
   have e1:=R6 e1 hb
   cases hv:a.eval x with
   | pointer q =>
    rw [hv] at e1
    cases q with
    | none=>cases e1
    | some q=>exact VW (.pointer (some q)) (by simp [execOp,hv]) rfl e1
   | _=>rw [hv] at e1;cases e1
  ·cases h
 | binOp o' t x y yt =>
  simp only [dZ,aL] at h
  obtain ⟨⟨ps,v⟩,h1,rfl⟩:=h
  obtain ⟨p1,p2⟩:=bj.app hp
  have s:=st [x,y] p1 (by simp [Op.operands])
  exact pv (do eqGuard o' t x y (a.eval x) (a.eval y);binOp o' t (a.eval x) (a.eval y)) rfl rfl (Un (s x (by simp)) (s y (by simp)) h1 p2)
 | unOp o' t x =>
  simp only [dZ,rP,aL] at h
  obtain ⟨v,h1,rfl⟩:=h
  exact pv _ rfl rfl (Wg (st [x] hp (by simp [Op.operands]) x (by simp)) h1)
 | convert src dt x =>
  simp only [dZ] at h
  split at h
  ·rename_i v h1
   cases h
   exact pv _ rfl rfl (RF (st [x] hp (by simp [Op.operands]) x (by simp)) h1)
  ·simp only [aL] at h
   obtain ⟨⟨ps,v,rd⟩,h1,rfl⟩:=h
   obtain ⟨p1,p2⟩:=bj.app hp
   exact sv _ rfl (Pn g (st [x] p1 (by simp [Op.operands]) x (by simp)) h1 p2)
 | makeMap t hint =>
  cases hint with
  | some _=>simp [dZ] at h
  | none =>
   simp only [dZ,az] at h;subst h
   have ga:=g.allocMap hk hm
   refine sv (Instr.makeMap t none) rfl ⟨_,_,_,_,Go.RowKit.run_makeMap t w,ga.1,ga.2,fun k oQ hn=>by rw [nf _ oQ];exact hn,?_⟩
   exact aq.mp (μ:=bZ μ nk ⟨w.heap.size,1,0⟩) ⟨w.heap.size,1,0⟩ (by simp [bZ])
 | lookup t m x ok =>
  simp only [dZ] at h
  split at h
  ·simp only [aL] at h
   obtain ⟨⟨ps,v,rd⟩,h1,rfl⟩:=h
   obtain ⟨p1,p2⟩:=bj.app hp
   have s:=st [m,x] p1 (by simp [Op.operands])
   exact pv _ rfl rfl (NM g (s m (by simp)) (s x (by simp)) h1 p2)
  ·cases h
 | mapUpdate t m x y =>
  simp only [dZ] at h
  split at h
  ·simp only [aL] at h
   obtain ⟨⟨ps,u,rd⟩,h1,rfl⟩:=h
   obtain ⟨p1,p2⟩:=bj.app hp
   have s:=st [m,x,y] p1 (by simp [Op.operands])
   obtain ⟨w',r1,r2,r3⟩:=Hu g (s m (by simp)) (s x (by simp)) (s y (by simp)) h1 p2
   unfold Oper.wp
   have ex:execOp a.eval ⟨dst,.mapUpdate t m x y,ty,pos,after,guard⟩=(do Instr.mapUpdate t (a.eval m) (a.eval x) (a.eval y);pure .skip:Sem Next):=rfl
   rw [ex]
   simp only [bH,r1,cX,Sem.run_pure]
   exact hK undef w' S μ r2 r3 (fun _ _ h=>h) .m9
  ·cases h
 | insert t m x y =>
  simp only [dZ] at h
  split at h
  ·simp only [aL] at h
   obtain ⟨⟨ps,u,rd⟩,h1,rfl⟩:=h
   obtain ⟨p1,p2⟩:=bj.app hp
   have s:=st [m,x,y] p1 (by simp [Op.operands])
   obtain ⟨w',r1,r2,r3⟩:=Hu g (s m (by simp)) (s x (by simp)) (s y (by simp)) h1 p2
   unfold Oper.wp
   have ex:execOp a.eval ⟨dst,.insert t m x y,ty,pos,after,guard⟩=(do Instr.mapUpdate t (a.eval m) (a.eval x) (a.eval y);pure .skip:Sem Next):=rfl
   rw [ex]
   simp only [bH,r1,cX,Sem.run_pure]
   exact hK undef w' S μ r2 r3 (fun _ _ h=>h) .m9
  ·cases h
 | makeFunc f first cap =>
  simp only [dZ,az] at h;subst h
  have s:=st (first.toList ++ cap.toList) hp (by simp [Op.operands])
  have l1:=EZ (xs:=first) (fun x hx=>s x (by simp only [List.mem_append];exact .inl hx))
  have l2:=EZ (xs:=cap) (fun x hx=>s x (by simp only [List.mem_append];exact .inr hx))
  exact pv _ rfl rfl ⟨_,by simp [Instr.makeFunc],.fn l1.1 l2.1 l1.2 l2.2⟩
 | makeSlice t x y =>
  simp only [dZ,aL] at h
  obtain ⟨⟨ps,v,u⟩,h1,rfl⟩:=h
  obtain ⟨p1,p2⟩:=bj.app hp
  have s:=st [x,y] p1 (by simp [Op.operands])
  exact sv _ rfl (RH g hk hm (s x (by simp)) (s y (by simp)) h1 p2)
 | slice t x lo hi mx =>
  cases mx with
  | some _=>simp [dZ] at h
  | none =>
   simp only [dZ,aL] at h
   obtain ⟨⟨ps,v,rd⟩,h1,rfl⟩:=h
   obtain ⟨p1,p2⟩:=bj.app hp
   have s:=st (x :: (lo.toList ++ hi.toList)) p1 (by
    intro y hy
    simp only [kL,List.mem_append,Option.mem_toList] at hy
    simp only [Op.operands]
    rcases hy with rfl | hy | hy
    ·simp
    ·simp [hy]
    ·simp [hy])
   refine pv (Instr.sliceAt t (a.eval x) (lo.map a.eval) (hi.map a.eval) none) rfl rfl (O3 g (s x (by simp)) ?_ ?_ h1 p2)
   ·refine ⟨by simp,?_⟩
    intro p q sw hq
    simp only [aL] at sw hq
    obtain ⟨y,hy,rfl⟩:=sw
    obtain ⟨z,hz,rfl⟩:=hq
    rw [hy] at hz;cases hz
    exact s y (by simp [hy])
   ·refine ⟨by simp,?_⟩
    intro p q sw hq
    simp only [aL] at sw hq
    obtain ⟨y,hy,rfl⟩:=sw
    obtain ⟨z,hz,rfl⟩:=hq
    rw [hy] at hz;cases hz
    exact s y (by simp [hy])
 | fieldAddr T x f =>
  simp only [dZ,rP,aL] at h
  obtain ⟨v,h1,rfl⟩:=h
  exact pv _ rfl rfl (Ih (st [x] hp (by simp [Op.operands]) x (by simp)) h1)
 | field T x f =>
  simp only [dZ,rP,aL] at h
  obtain ⟨v,h1,rfl⟩:=h
  exact pv _ rfl rfl (O1 (st [x] hp (by simp [Op.operands]) x (by simp)) h1)
 | indexAddr T x i =>
  simp only [dZ,aL] at h
  obtain ⟨⟨ps,v,rd⟩,h1,rfl⟩:=h
  obtain ⟨p1,p2⟩:=bj.app hp
  have s:=st [x,i] p1 (by simp [Op.operands])
  exact pv _ rfl rfl (Ij g (s x (by simp)) (s i (by simp)) h1 p2)
 | index T x i =>
  simp only [dZ,aL] at h
  obtain ⟨⟨ps,v⟩,h1,rfl⟩:=h
  obtain ⟨p1,p2⟩:=bj.app hp
  have s:=st [x,i] p1 (by simp [Op.operands])
  exact pv _ rfl rfl (O2 (s x (by simp)) (s i (by simp)) h1 p2)
 | extract x i =>
  simp only [dZ] at h
  split at h
  ·rename_i cs hx
   simp only [rP,aL] at h
   obtain ⟨v,h1,rfl⟩:=h
   have e1:=st [x] hp (by simp [Op.operands]) x (by simp)
   rw [hx] at e1
   refine pv _ rfl rfl ?_
   cases hv:a.eval x with
   | tuple vs =>
    rw [hv] at e1
    cases e1 with
    | tup q1 q2 =>
     have gS:i < vs.size:=by rw [q1];exact (dJ.1 h1).1
     exact ⟨vs[i],by simp [Instr.extract,jG gS],q2 i v _ h1 (jG gS)⟩
   | _=>rw [hv] at e1;cases e1
  ·cases h
 | call c =>
  obtain ⟨callee,args,argTypes⟩:=c
  cases callee with
  | invoke=>simp [dZ] at h
  | value f =>
   simp only [dZ] at h
   split at h
   ·rename_i o'
    simp only [aL] at h
    obtain ⟨r',h1,rfl⟩:=h
    obtain ⟨p1,p2⟩:=bj.app hp
    have s:=st (f :: args.toList) p2 (by simp [Op.operands,Call.operands])
    have l1:=EZ (xs:=args) (fun x hx=>s x (List.mem_cons_of_mem _ hx))
    obtain ⟨gid,vs,r1,r2⟩:=Lf g z7 hm (s f (by simp)) l1 (hz _ rfl) h1 p1
    unfold Oper.wp
    have ex:execOp a.eval ⟨dst,.call ⟨.value f,args,argTypes⟩,ty,pos,after,guard⟩=(do let d ← Deferred.ofValue (a.eval f) (args.map a.eval);invoke d.target d.args:Sem Next):=rfl
    rw [ex,r1]
    simp only [Oper.upon]
    refine r2.mono ?_
    rintro e' w' ⟨v,S',dn,rfl,q1,q2,q3,q4⟩
    exact hK v w' S' dn q1 q2 q3 q4
   ·cases h
  | builtin b =>
   simp only [dZ] at h
   unfold yR at h
   split at h
   case h_1 x t ha ht =>
    obtain ⟨rfl⟩:args=#[x]:=Array.toList_inj.1 (by rw [ha])
    obtain ⟨rfl⟩:argTypes=#[t]:=Array.toList_inj.1 (by rw [ht])
    simp only [rP,aL] at h
    obtain ⟨v,h1,rfl⟩:=h
    have s:=st [x] hp (by simp [Op.operands,Call.operands])
    exact pv (Builtin.len_ #[t] ty #[a.eval x]) (by simp [execOp,resolve,invoke,builtin]) rfl (Uz (s x (by simp)) h1 ty)
   case h_2 x y t t' ha ht =>
    obtain ⟨rfl⟩:args=#[x,y]:=Array.toList_inj.1 (by rw [ha])
    obtain ⟨rfl⟩:argTypes=#[t,t']:=Array.toList_inj.1 (by rw [ht])
    split at h
    ·rename_i hb
     have hb:=bO hb
     subst hb
     simp only [aL] at h
     obtain ⟨⟨ps,v,rd,u⟩,h1,rfl⟩:=h
     obtain ⟨p1,p2⟩:=bj.app hp
     have s:=st [x,y] p1 (by simp [Op.operands,Call.operands])
     exact sv (Builtin.append_ #[t,t] ty #[a.eval x,a.eval y]) (by simp [execOp,resolve,invoke,builtin]) (Hl g hk hm (s x (by simp)) (s y (by simp)) h1 p2)
    ·cases h
   case h_3 x r ha =>
    simp only [rP,aL] at h
    obtain ⟨v,h1,rfl⟩:=h
    have s:=st (x :: r) hp (by intro y hy;simpa [Op.operands,Call.operands,ha] using hy)
    refine pv (Builtin.min_ argTypes ty (args.map a.eval)) (by simp [execOp,resolve,invoke,builtin]) rfl ?_
    obtain ⟨z,h3,h4⟩:=Lg (P:=P) r (a.eval x) _ v (s x (by simp)) (fun y hy=>s y (by simp [hy])) h1
    refine ⟨z,?_,h4⟩
    unfold Builtin.min_
    rw [Array.toList_map,ha,List.map_cons]
    exact h3
   case h_4 x r ha =>
    simp only [rP,aL] at h
    obtain ⟨v,h1,rfl⟩:=h
    have s:=st (x :: r) hp (by intro y hy;simpa [Op.operands,Call.operands,ha] using hy)
    refine pv (Builtin.max_ argTypes ty (args.map a.eval)) (by simp [execOp,resolve,invoke,builtin]) rfl ?_
    obtain ⟨z,h3,h4⟩:=Lg (P:=P) r (a.eval x) _ v (s x (by simp)) (fun y hy=>s y (by simp [hy])) h1
    refine ⟨z,?_,h4⟩
    unfold Builtin.max_
    rw [Array.toList_map,ha,List.map_cons]
    exact h3
   case h_5=>cases h
 | _=>simp [dZ] at h
def YS:Option oa→Option oa
 | some o=>match o.same with
  | false=>some o
  | true=>none
 | none=>none
def yT (P:Program) (σ:dw) (T:TypeId) (a x:AV):Option (List Prop×AV×List Nat) :=
 match a,P.underlying T,tD P T with
 | .op k i j,some d,some n=>match d.isRow,Nat.beq n 1,au σ k with
  | false,true,some o=>some ([i < o.len,(o.get i)[j]?=some x],x,[k])
  | _,_,_=>none
 | _,_,_=>none
theorem Pv (g:Good E σ S μ w) {T:TypeId} {a x:AV} {va:Value} (ha:aq w S μ va a) {ps:List Prop} {y:AV} {rd:List Nat} (h:yT P σ T a x=some (ps,y,rd)) (hp:bj ps) :
  ∃ v,(Instr.loadAt T va).run P w=.ok v w∧aq w S μ v y:=by
 unfold yT at h
 split at h
 case h_2=>cases h
 rename_i k i j d n hd hn
 split at h
 case h_2=>cases h
 rename_i o h1 h2 ho
 simp only [az,ay] at h
 obtain ⟨rfl,rfl,rfl⟩:=h
 obtain ⟨hi,hx,_⟩:=hp
 have OZ:=bO h2
 subst OZ
 refine Ie (T:=T) g ha (ps:=[i < o.len]) (rd:=[k]) ?_ ⟨hi,trivial⟩
 unfold xI
 simp only [hd,hn,ho,h1]
 unfold RI
 have:Nat.ble (j+1) (o.get i).length=true:=by rw [Nat.ble_eq];exact (dJ.1 hx).1
 rw [this]
 simp [hx]
def It (σ:dw) (k q i:Nat):Option (List Prop×rO) :=
 match au σ k,au σ q with
 | some o,some oq=>match !o.var && !oq.var && oq.pr && Nat.ble 1 oq.sz && !Nat.beq k q with
  | true=>some ([i < o.len,o.get i=[.os q 0 oq.len],∀ j,j < oq.len→nY (oq.get j)=true],[(q,none),(k,some ⟨false,o.sz,o.len,false,fun m=>if m=i then [.mr oq.sz oq.len oq.get] else o.get m⟩)])
  | false=>none
 | _,_=>none
theorem Hy {k q i:Nat} {ps:List Prop} {u:rO} (h:It σ k q i=some (ps,u)) (hp:bj ps) (g:Good E σ S μ w):Good E (fA σ u) S μ w:=by
 unfold It at h
 split at h
 case h_2=>cases h
 rename_i o oq ho UC
 split at h
 case h_2=>cases h
 rename_i hb
 simp only [az,ay] at h
 obtain ⟨rfl,rfl⟩:=h
 simp only [bh,Bool.not_eq_true',Nat.ble_eq] at hb
 obtain ⟨⟨⟨⟨h1,h2⟩,h3⟩,h4⟩,h5⟩:=hb
 obtain ⟨p1,p2,p3,_⟩:=hp
 refine g.cls ho UC (fun e=>?_) h1 h2 h3 h4 p1 p2 fun j=>?_
 ·simp_all
 ·cases hr:rowOf oq j with
  | none=>rfl
  | some x =>
   obtain ⟨_,r2,r3⟩:=da hr
   have:=p3 j r2
   rw [r3] at this;cases this
def Ww:AV→Nat
 | .os _ _ len=>len
 | _=>0
def sB (P:Program) (nk:Nat) (σ:dw) (t:TypeId) (s x:AV) (bp:oa):Option (List Prop×AV×List Nat×rO) :=
 match bp.ks,qP P nk σ t s x with
 | [q],some (ps,v,rd,u)=>match UL (rd ++ u.map (·.1)) q,It (fA σ u) nk q (Ww s) with
  | false,some (TR,u2)=>some (ps ++ TR,v,q :: rd,u ++ u2)
  | _,_=>none
 | _,_=>none
theorem Lh (g:Good E σ S μ w) (hk:μ nk=none) (hm:E.m0≤nk) {t ty:TypeId} {s x:AV} {bp:oa} {vs vx:Value} (hs:aq w S μ vs s) (hx:aq w S μ vx x) {ps:List Prop} {val:AV} {rd:List Nat} {ml:rO}
  (h:sB P nk σ t s x bp=some (ps,val,rd,ml)) (hp:bj ps):Step P E nk σ S μ w (Builtin.append_ #[t,t] ty #[vs,vx]) val ml:=by
 unfold sB at h
 split at h
 case h_2=>cases h
 rename_i q p1 v Mn u hq ha
 split at h
 case h_2=>cases h
 rename_i p2 u2 _ hc
 simp only [az,ay] at h
 obtain ⟨rfl,rfl,rfl,rfl⟩:=h
 obtain ⟨xC,xh⟩:=bj.app hp
 obtain ⟨v',w',S',dn,h1,h2,h3,h4,h5⟩:=Hl (ty:=ty) g hk hm hs hx ha xC
 exact ⟨v',w',S',dn,h1,h2,by grind [gA,Hy],h4,h5⟩
def E0 (P:Program) (T:TypeId) (x lo hi mx:AV):Option (List Prop×AV×List Nat) :=
 match P.underlying T,x,lo,hi,mx with
 | some (.slice e),.os _ _ len,.atom (.int _ l),.atom (.int _ h),.atom (.int _ m)=>match tD P e with
  | some _=>some ([0≤l∧l≤h∧h≤m∧m≤len],.m9,[])
  | none=>none
 | _,_,_,_,_=>none
theorem NO {T:TypeId} {x lo hi mx:AV} {v vl vh vm:Value} (hx:aq w S μ v x) (hl:aq w S μ vl lo) (hh:aq w S μ vh hi) (hm:aq w S μ vm mx) {ps:List Prop} {r:AV} {rd:List Nat}
  (h:E0 P T x lo hi mx=some (ps,r,rd)) (hp:bj ps):∃ u,(Instr.sliceAt T v (some vl) (some vh) (some vm)).run P w=.ok u w∧aq w S μ u r:=by
 unfold E0 at h
 split at h
 case h_2=>cases h
 rename_i e k off len kl l kh h' km m hu
 split at h
 case h_2=>cases h
 rename_i sz rM
 simp only [az,ay] at h
 obtain ⟨rfl,rfl,rfl⟩:=h
 obtain ⟨⟨p1,p2,p3,p4⟩,_⟩:=hp
 have e1:=cY hl
 have e2:=cY hh
 have e3:=cY hm
 subst e1 e2 e3
 cases hx with
 | os pl gV h1 h2 h3 =>
  rename_i cap a
  have q1:0≤m∧m≤(cap:Int):=by omega
  have q2:0≤h'∧h'≤(m.toNat:Int):=by omega
  have q3:0≤l∧l≤(h'.toNat:Int):=by omega
  have hb:(Instr.sliceBounds true len cap (some (.int kl l)) (some (.int kh h')) (some (.int km m))).run P w=.ok (l.toNat,h'.toNat,m.toNat) w:=by
   simp only [Instr.sliceBounds,Instr.sliceBound,asIntOf,bH,Sem.run_pure,cX,Sem.run_ite,if_pos q1,if_pos q2,if_pos q3]
  exact ⟨.slice (if m.toNat=l.toNat then a else a.map (·.add (l.toNat * sz))) (h'.toNat - l.toNat) (m.toNat - l.toNat),by simp [Instr.sliceAt,Instr.slice,run_underlying hu,hb,eI rM],.m9⟩
def uU (P:Program) (σ:dw) (T:TypeId) (x:AV) (lo hi:Option AV):Option (List Prop×AV×List Nat) :=
 match P.underlying T,x with
 | some (.slice e),.os k off len=>match tD P e,bound 0 lo,bound len hi,au σ k with
  | some sz,some l,some h,some o=>match Nat.beq o.sz sz with
   | true=>some ((l≤h∧off+h≤o.len) :: (ue lo ++ ue hi),.os k (bA off l) (h - l),[k])
   | false=>none
  | _,_,_,_=>none
 | _,_=>none
theorem NP (g:Good E σ S μ w) {T:TypeId} {x:AV} {v:Value} (hx:aq w S μ v x) {lo hi:Option AV} {vlo vhi:Option Value}
  (Uw:(vlo=none↔lo=none)∧∀ a b,lo=some a→vlo=some b→aq w S μ b a)
  (NF:(vhi=none↔hi=none)∧∀ a b,hi=some a→vhi=some b→aq w S μ b a) {ps:List Prop} {r:AV} {rd:List Nat} (h:uU P σ T x lo hi=some (ps,r,rd)) (hp:bj ps) :
  ∃ u,(Instr.sliceAt T v vlo vhi none).run P w=.ok u w∧aq w S μ u r:=by
 unfold uU at h
 split at h
 case h_2=>cases h
 rename_i e k off len hu
 split at h
 case h_2=>cases h
 rename_i sz l hh o rM hl Ux ho
 split at h
 case h_2=>cases h
 rename_i hb
 have hb:=bO hb
 simp only [az,ay] at h
 obtain ⟨rfl,rfl,rfl⟩:=h
 obtain ⟨⟨p1,p2⟩,p3⟩:=hp
 obtain ⟨pl,c,T',hm,cZ⟩:=g.rep.ob k o ho
 cases hx with
 | os j9 gV h1 h2 h3 =>
  rename_i cap a
  rw [hm] at gV;cases gV
  have hc:hh≤cap:=by have:=cZ.len;omega
  have Uy:=vZ (P:=P) (w:=w) true (cap:=cap) Uw NF hl Ux p1 hc p3
  refine ⟨.slice (if cap=l then a else a.map (·.add (l * sz))) (hh - l) (cap - l),?_,?_⟩
  ·simp [Instr.sliceAt,Instr.slice,run_underlying hu,Uy,eI rM]
  ·refine .os pl hm ?_ (by omega) (by rw [df];omega)
   intro hc
   have:=h1 (by omega)
   subst this
   rw [if_neg (by omega)]
   simp only [Option.map_some,Addr.add_mid]
   rw [df,cZ.sz,hb,cz]
def Ck (P:Program) (σ:dw) (t:TypeId) (s x:AV):Option (List Prop×AV×List Nat×rO) :=
 match mJ P t with
 | some e=>match tD P e,vV P e,rN P e,s,x with
  | some sz,some _,some _,.os k 0 len,.os k' off n=>match Nat.beq k k',au σ k with
   | true,some o=>match Nat.ble 1 sz && Nat.beq o.sz sz && !o.var with
    | true=>some ([0 < o.len∧len+n≤o.len,off+n≤o.len,∀ i,i < o.len→AV.iP (o.get i)=true],.os k 0 (len+n),[k],
      [(k,some ⟨false,sz,o.len,o.pr,fun m=>if m < len then o.get m else if m < len+n then o.get (bA off (m - len)) else o.get m⟩)])
    | false=>none
   | _,_=>none
  | _,_,_,_,_=>none
 | none=>none
theorem Hz {o:Ob} (h:∀ i,i < o.len→AV.iP (o.get i)=true) (i:Nat):rowOf o i=none:=by
 cases hr:rowOf o i with
 | none=>rfl
 | some x =>
  obtain ⟨_,r2,r3⟩:=da hr
  have:=h i r2
  rw [r3] at this;cases this
theorem R7 (g:Good E σ S μ w) {t ty:TypeId} {s x:AV} {vs vx:Value} (hs:aq w S μ vs s) (hx:aq w S μ vx x) {ps:List Prop} {val:AV} {rd:List Nat} {ml:rO}
  (h:Ck P σ t s x=some (ps,val,rd,ml)) (hp:bj ps):Step P E nk σ S μ w (Builtin.append_ #[t,t] ty #[vs,vx]) val ml:=by
 unfold Ck at h
 split at h
 case h_2=>cases h
 rename_i e he
 have he:=kO he
 split at h
 case h_2=>cases h
 rename_i sz b z k len k' off n rM hb hz
 obtain ⟨ie,Ej,rfl,rfl,Oy⟩:=vW rM hb hz
 split at h
 case h_2=>cases h
 rename_i o Pe ho
 have Pe:=bO Pe
 subst Pe
 split at h
 case h_2=>cases h
 rename_i Cd
 simp only [bh,Nat.ble_eq,Bool.not_eq_true'] at Cd
 obtain ⟨⟨b1,b2⟩,AX⟩:=Cd
 have b2:=bO b2
 simp only [az,ay] at h
 obtain ⟨rfl,rfl,rfl,rfl⟩:=h
 obtain ⟨⟨p0,p1⟩,p2,p3,_⟩:=hp
 obtain ⟨news,sr⟩:=xL (P:=P) (sz:=ie.size) (n:=n) (gt:=fun i=>o.get (bA off i)) (pr:=o.pr) (ps:=[off+n≤o.len,∀ i,i < n→AV.iP (o.get (bA off i))=true]) (rd:=[k]) g hx
  (by unfold uN;simp only [ho,rK b2]) ⟨p2,fun i hi=>p3 _ (by rw [df];omega),trivial⟩
 obtain ⟨pl,c,T',uf,cZ⟩:=g.rep.ob k o ho
 cases hs with
 | os j9 gV h1 h2 h3 =>
  rename_i cap a
  rw [uf] at gV;cases gV
  have VS:=cZ.len
  have ha:=h1 (by omega)
  simp only [Nat.zero_mul] at ha
  subst ha
  have vQ:0 < pl.cap:=by omega
  have JJ:len+n≤cap:=by omega
  have xg:len * ie.size+news.length≤c.size:=by
   have e1:(len+n) * ie.size≤pl.cap * ie.size:=dH _ (by omega)
   have e2:=cZ.cap
   rw [b2] at e2
   rw [sr.size,← cz];omega
  have lG:=EK (P:=P) (w:=w) (ty:=ty) he Ej ((cZ.cK vQ).trans (by rw [fF (by omega)])) sr.len sr.cells sr.one JJ xg
  generalize oG:(c.toList.take (len * ie.size) ++ news ++ c.toList.drop (len * ie.size+news.length)).toArray=c' at lG
  have xJ:(c.toList.take (len * ie.size)).length=len * ie.size:=by simp;omega
  have Ig:c'.size=c.size:=by
   rw [← oG]
   simp;omega
  have qm:∀ m,c'[m]?=if m < len * ie.size then c[m]? else if m < len * ie.size+news.length then news[m - len * ie.size]? else c[m]?:=by
   intro m
   rw [← oG]
   simp only [List.getElem?_toArray]
   by_cases h1:m < len * ie.size
   ·rw [iz (by simp;omega),iz (by omega),pK,if_pos h1,if_pos h1]
    simp
   ·rw [if_neg h1]
    by_cases h2:m < len * ie.size+news.length
    ·rw [iz (by simp;omega),jH (by omega),xJ,if_pos h2]
    ·rw [if_neg h2,jH (by simp;omega)]
     simp only [lY,xJ,oE]
     rw [show len * ie.size+news.length+(m - (len * ie.size+news.length))=m by omega]
     simp
  have pM:∀ i,i < o.len→(if i < len then o.get i else if i < len+n then o.get (bA off (i - len)) else o.get i).length=ie.size:=by
   intro i hi
   split
   ·rw [cZ.tB i hi,b2]
   ·split
    ·rw [cZ.tB _ (by rw [df];omega),b2]
    ·rw [cZ.tB i hi,b2]
  have GD:=Hz p3
  have gw:=g.write ho uf vQ cZ (by omega) ⟨false,ie.size,o.len,o.pr,fun m=>if m < len then o.get m else if m < len+n then o.get (bA off (m - len)) else o.get m⟩ c' b2.symm Ig cZ.len pM (by
   intro i j x v hi hx hv
   have hi:i < o.len:=hi
   have hx:(if i < len then o.get i else if i < len+n then o.get (bA off (i - len)) else o.get i)[j]?=some x:=hx
   have hj:j < ie.size:=by
    have e1:=(dJ.1 hx).1
    have e2:=pM i hi
    omega
   have hv:c'[i * ie.size+j]?=some v:=hv
   rw [qm] at hv
   by_cases GC:i < len
   ·have o5:(i+1) * ie.size≤len * ie.size:=dH _ GC
    rw [cz] at o5
    rw [if_pos (by omega)] at hv
    rw [if_pos GC] at hx
    exact cZ.rep i j x v hi hx (by rw [b2];exact hv)
   ·have o5:len * ie.size≤i * ie.size:=dH _ (by omega)
    rw [if_neg (by omega),sr.size] at hv
    rw [if_neg GC] at hx
    by_cases uP:i < len+n
    ·have Oz:(i+1) * ie.size≤(len+n) * ie.size:=dH _ uP
     rw [cz,cz] at Oz
     rw [if_pos (by omega)] at hv
     rw [if_pos uP] at hx
     refine sr.rep (i - len) j x v (by omega) hx ?_
     rw [← hv,Nat.sub_mul];congr 1;omega
    ·have Oz:(len+n) * ie.size≤i * ie.size:=dH _ (by omega)
     rw [cz] at Oz
     rw [if_neg (by omega)] at hv
     rw [if_neg uP] at hx
     exact cZ.rep i j x v hi hx (by rw [b2];exact hv))
   (fun i x hx=>absurd hx (by
    rw [Hz (o:=⟨false,ie.size,o.len,o.pr,fun m=>if m < len then o.get m else if m < len+n then o.get (bA off (m - len)) else o.get m⟩) (fun i hi=>by
     show AV.iP (if i < len then o.get i else if i < len+n then o.get (bA off (i - len)) else o.get i)=true
     have hi:i < o.len:=hi
     split
     ·exact p3 i hi
     ·split
      ·exact p3 _ (by rw [df];omega)
      ·exact p3 i hi)]
    intro h;cases h))
  exact ⟨_,_,S,μ,lG,gw.1,gw.2,fun _ _ h=>h,aq.os pl uf (by simp) JJ h3⟩
theorem Pw {o:Ob} (h:∀ i,i < o.len→nY (o.get i)=true) (i:Nat):rowOf o i=none:=by
 cases hr:rowOf o i with
 | none=>rfl
 | some x =>
  obtain ⟨_,r2,r3⟩:=da hr
  have:=h i r2
  rw [r3] at this;cases this
theorem JX {l:List AV} (h:AV.iP l=true):nY l=true:=by
 induction l with
 | nil=>rfl
 | cons x l ih =>
  simp only [AV.iP,bh] at h
  simp only [nY,bh]
  refine ⟨?_,ih h.2⟩
  cases x<;>first | rfl | cases h.1
theorem Good.Px (g:Good E σ S μ w) {k:Nat} {o:Ob} (ho:au σ k=some o) {pl:Place} {c:Array Value} {T':TypeId} (uf:μ k=some pl) (cZ:gR w S μ o pl c T') (vQ:0 < pl.cap) {sz p n:Nat}
  {gt:Nat→List AV} {pr:Bool} {v:Value} {news:List Value} (sr:Src P w S μ sz v n gt pr news) (b2:o.sz=sz) (b1:1≤sz) (hle:p+n≤o.len) (GD:∀ i,i < o.len→nY (o.get i)=true) {c':Array Value}
  (oG:(c.toList.take (p * sz) ++ news ++ c.toList.drop (p * sz+news.length)).toArray=c'):p * sz+news.length≤c.size ∧
  Ext w S μ (w.setRow pl.cK c') S μ∧Good E (sset σ k ⟨false,sz,o.len,o.pr && pr,fun m=>if m < p then o.get m else if m < p+n then gt (m - p) else o.get m⟩) S μ (w.setRow pl.cK c'):=by
 have VS:=cZ.len
 have xg:p * sz+news.length≤c.size:=by
  have e1:(p+n) * sz≤pl.cap * sz:=dH _ (by omega)
  have e2:=cZ.cap
  rw [b2] at e2
  rw [sr.size,← cz];omega
 have xJ:(c.toList.take (p * sz)).length=p * sz:=by simp;omega
 have Ig:c'.size=c.size:=by
  rw [← oG]
  simp;omega
 have qm:∀ m,c'[m]?=if m < p * sz then c[m]? else if m < p * sz+news.length then news[m - p * sz]? else c[m]?:=by
  intro m
  rw [← oG]
  simp only [List.getElem?_toArray]
  by_cases h1:m < p * sz
  ·rw [iz (by simp;omega),iz (by omega),pK,if_pos h1,if_pos h1]
   simp
  ·rw [if_neg h1]
   by_cases h2:m < p * sz+news.length
   ·rw [iz (by simp;omega),jH (by omega),xJ,if_pos h2]
   ·rw [if_neg h2,jH (by simp;omega)]
    simp only [lY,xJ,oE]
    rw [show p * sz+news.length+(m - (p * sz+news.length))=m by omega]
    simp
 have pM:∀ i,i < o.len→(if i < p then o.get i else if i < p+n then gt (i - p) else o.get i).length=sz:=by
  intro i hi
  split
  ·rw [cZ.tB i hi,b2]
  ·split
   ·exact sr.tB _ (by omega)
   ·rw [cZ.tB i hi,b2]
 have Wk:∀ {u:Value} {x:AV},aq w S (if o.pr then iL else μ) u x→aq w S (if (o.pr && pr)=true then iL else μ) u x:=by
  intro u x hh
  cases hp:pr
  ·rw [Bool.and_false];exact iQ hh
  ·rw [Bool.and_true];exact hh
 have RN:∀ {u:Value} {x:AV},aq w S (if pr then iL else μ) u x→aq w S (if (o.pr && pr)=true then iL else μ) u x:=by
  intro u x hh
  cases hp:o.pr
  ·rw [Bool.false_and];exact iQ hh
  ·rw [Bool.true_and];exact hh
 refine ⟨xg,g.write ho uf vQ cZ (by omega) ⟨false,sz,o.len,o.pr && pr,fun m=>if m < p then o.get m else if m < p+n then gt (m - p) else o.get m⟩ c' b2.symm Ig cZ.len pM (by
   intro i j x v hi hx hv
   have hi:i < o.len:=hi
   have hx:(if i < p then o.get i else if i < p+n then gt (i - p) else o.get i)[j]?=some x:=hx
   have hj:j < sz:=by
    have e1:=(dJ.1 hx).1
    have e2:=pM i hi
    omega
   have hv:c'[i * sz+j]?=some v:=hv
   rw [qm] at hv
   by_cases GC:i < p
   ·have o5:(i+1) * sz≤p * sz:=dH _ GC
    rw [cz] at o5
    rw [if_pos (by omega)] at hv
    rw [if_pos GC] at hx
    exact Wk (cZ.rep i j x v hi hx (by rw [b2];exact hv))
   ·have o5:p * sz≤i * sz:=dH _ (by omega)
    rw [if_neg (by omega),sr.size] at hv
    rw [if_neg GC] at hx
    by_cases uP:i < p+n
    ·have Oz:(i+1) * sz≤(p+n) * sz:=dH _ uP
     rw [cz,cz] at Oz
     rw [if_pos (by omega)] at hv
     rw [if_pos uP] at hx
     refine RN (sr.rep (i - p) j x v (by omega) hx ?_)
     rw [← hv,Nat.sub_mul];congr 1;omega
    ·have Oz:(p+n) * sz≤i * sz:=dH _ (by omega)
     rw [cz] at Oz
     rw [if_neg (by omega)] at hv
     rw [if_neg uP] at hx
     exact Wk (cZ.rep i j x v hi hx (by rw [b2];exact hv)))
   (fun i x hx=>absurd hx (by
    rw [Pw (o:=⟨false,sz,o.len,o.pr && pr,fun m=>if m < p then o.get m else if m < p+n then gt (m - p) else o.get m⟩) (fun i hi=>by
     show nY (if i < p then o.get i else if i < p+n then gt (i - p) else o.get i)=true
     have hi:i < o.len:=hi
     split
     ·exact GD i hi
     ·split
      ·exact JX (sr.RM _ (by omega))
      ·exact GD i hi)]
    intro h;cases h))⟩
def Cl (P:Program) (σ:dw) (t:TypeId) (s x:AV):Option (List Prop×AV×List Nat×rO) :=
 match mJ P t with
 | some e=>match tD P e,s,x with
  | some sz,.os k z8 nd,.os k' E1 ns=>match Nat.beq k k',au σ k with
   | true,some o=>match Nat.ble 1 sz && Nat.beq o.sz sz && !o.var with
    | true=>some ([nd≤ns,z8+nd≤o.len,E1+nd≤o.len,∀ i,i < o.len→AV.iP (o.get i)=true],.atom (.int .i64 nd),[k],
      [(k,some ⟨false,sz,o.len,o.pr,fun m=>if m < z8 then o.get m else if m < z8+nd then o.get (bA E1 (m - z8)) else o.get m⟩)])
    | false=>none
   | _,_=>none
  | _,_,_=>none
 | none=>none
theorem R8 (g:Good E σ S μ w) {t t' ty:TypeId} {s x:AV} {vs vx:Value} (hs:aq w S μ vs s) (hx:aq w S μ vx x) {ps:List Prop} {val:AV} {rd:List Nat} {ml:rO}
  (h:Cl P σ t s x=some (ps,val,rd,ml)) (hp:bj ps):Step P E nk σ S μ w (Builtin.copy_ #[t,t'] ty #[vs,vx]) val ml:=by
 unfold Cl at h
 split at h
 case h_2=>cases h
 rename_i e he
 have he:=kO he
 split at h
 case h_2=>cases h
 rename_i sz k z8 nd k' E1 ns rM
 obtain ⟨ie,Ej,rfl⟩:∃ ie,P.info? e=some ie∧ie.size=sz:=by
  unfold tD at rM
  simp_all
 split at h
 case h_2=>cases h
 rename_i o Pe ho
 have Pe:=bO Pe
 subst Pe
 split at h
 case h_2=>cases h
 rename_i Cd
 simp only [bh,Nat.ble_eq,Bool.not_eq_true'] at Cd
 obtain ⟨⟨b1,b2⟩,AX⟩:=Cd
 have b2:=bO b2
 simp only [az,ay] at h
 obtain ⟨rfl,rfl,rfl,rfl⟩:=h
 obtain ⟨p0,p1,p2,p3,_⟩:=hp
 obtain ⟨pl,c,T',uf,cZ⟩:=g.rep.ob k o ho
 cases hs with
 | os j9 gV h1 h2 h3 =>
  rename_i cap a
  rw [uf] at gV;cases gV
  cases hx with
  | os rY Dx g1 g2 g3 =>
   rename_i UM a2
   rw [uf] at Dx;cases Dx
   rcases Nat.eq_zero_or_pos nd with h0 | h0
   ·subst h0
    have lG:(Builtin.copy_ #[t,t'] ty #[.slice a 0 cap,.slice a2 ns UM]).run P w=.ok (goInt 0) w:=by
     have e0:Nat.min ns 0=0:=by simp
     cases a<;>cases a2<;>simp [Builtin.copy_,run_underlying he,Builtin.lenOf,Builtin.firstCells,sizeOf,typeInfo,Ej,storeCells,loadCells,loadCellsFrom]
    have eo:(⟨false,ie.size,o.len,o.pr,fun m=>if m < z8 then o.get m else if m < z8+0 then o.get (bA E1 (m - z8)) else o.get m⟩:Ob)=o:=by
     have:(fun m=>if m < z8 then o.get m else if m < z8+0 then o.get (bA E1 (m - z8)) else o.get m)=o.get:=by
      funext m
      split
      ·rfl
      ·split
       ·omega
       ·rfl
     rw [this,← b2,← AX]
    refine ⟨_,w,S,μ,lG,Ext.refl _ _ _,g.congr fun n=>?_,fun _ _ h=>h,.atom _⟩
    show au (sset σ k _) n=_
    grind [ba]
   ·have ha:=h1 (by omega)
    have Rr:=g1 (by omega)
    subst ha Rr
    have vQ:0 < pl.cap:=by have:=cZ.len;omega
    obtain ⟨news,sr⟩:=xL (P:=P) (sz:=ie.size) (x:=.os k E1 nd) (v:=.slice (some ⟨pl.cK,E1 * pl.sz,none⟩) nd UM) (n:=nd) (gt:=fun i=>o.get (bA E1 i)) (pr:=o.pr) (ps:=[E1+nd≤o.len,∀ i,i < nd→AV.iP (o.get (bA E1 i))=true]) (rd:=[k]) g
     (.os pl uf g1 (by omega) g3) (by grind [uN,rK]) ⟨p2,fun i hi=>p3 _ (by rw [df];omega),trivial⟩
    obtain ⟨xg,Wl,UA⟩:=g.Px ho uf cZ vQ sr b2 b1 p1 (fun i hi=>JX (p3 i hi)) rfl
    have AP:=run_storeCells_at P pl.cK (z8 * ie.size) T' news 0 c w ((cZ.cK vQ).trans (by rw [fF (by omega)])) (by simpa using xg) sr.one
    simp only [Nat.add_zero] at AP
    have TH:=sr.cells w rfl
    simp only [Builtin.firstCells] at TH
    have tE:Nat.min ns nd=nd:=Nat.min_eq_right p0
    have lG:(Builtin.copy_ #[t,t'] ty #[.slice (some ⟨pl.cK,z8 * pl.sz,none⟩) nd cap,.slice (some ⟨pl.cK,E1 * pl.sz,none⟩) ns UM]).run P w=.ok (goInt nd) (w.setRow pl.cK (c.toList.take (z8 * ie.size) ++ news ++ c.toList.drop (z8 * ie.size+news.length)).toArray):=by
     rw [cZ.sz,b2] at TH ⊢
     simp [Builtin.copy_,run_underlying he,Builtin.lenOf,Builtin.firstCells,sizeOf,typeInfo,Ej,tE,TH,AP]
    rw [Bool.and_self] at UA
    exact ⟨_,_,S,μ,lG,Wl,UA,fun _ _ h=>h,.atom _⟩
def Cm (P:Program) (σ:dw) (t:TypeId) (s x:AV):Option (List Prop×AV×List Nat×rO) :=
 match mJ P t with
 | some e=>match tD P e,vV P e,rN P e,s with
  | some sz,some _,some _,.os k off m=>match uN σ sz x,au σ k with
   | some (n,gt,pr,ps,rd),some o=>match Nat.ble 1 sz && Nat.beq o.sz sz && !o.var with
    | true=>some ((0 < n∧bA off m+n≤o.len) :: (∀ i,i < o.len→nY (o.get i)=true) :: ps,.os k off (m+n),k :: rd,
      [(k,some ⟨false,sz,o.len,o.pr && pr,fun j=>if j < bA off m then o.get j else if j < bA off m+n then gt (j - bA off m) else o.get j⟩)])
    | false=>none
   | _,_=>none
  | _,_,_,_=>none
 | none=>none
theorem R9 (g:Good E σ S μ w) {t ty:TypeId} {s x:AV} {vs vx:Value} (hs:aq w S μ vs s) (hx:aq w S μ vx x) {ps:List Prop} {val:AV} {rd:List Nat} {ml:rO}
  (h:Cm P σ t s x=some (ps,val,rd,ml)) (hp:bj ps):Step P E nk σ S μ w (Builtin.append_ #[t,t] ty #[vs,vx]) val ml:=by
 unfold Cm at h
 split at h
 case h_2=>cases h
 rename_i e he
 have he:=kO he
 split at h
 case h_2=>cases h
 rename_i sz b z k off m rM hb hz
 obtain ⟨ie,Ej,rfl,rfl,Oy⟩:=vW rM hb hz
 split at h
 case h_2=>cases h
 rename_i n gt pr O6 Mn o uO ho
 split at h
 case h_2=>cases h
 rename_i Cd
 simp only [bh,Nat.ble_eq,Bool.not_eq_true'] at Cd
 obtain ⟨⟨b1,b2⟩,AX⟩:=Cd
 have b2:=bO b2
 simp only [az,ay] at h
 obtain ⟨rfl,rfl,rfl,rfl⟩:=h
 obtain ⟨⟨p0,p1⟩,p2,p3⟩:=hp
 obtain ⟨news,sr⟩:=xL (P:=P) g hx uO p3
 obtain ⟨pl,c,T',uf,cZ⟩:=g.rep.ob k o ho
 cases hs with
 | os j9 gV h1 h2 h3 =>
  rename_i cap a
  rw [uf] at gV;cases gV
  have VS:=cZ.len
  have ez:bA off m=off+m:=df _ _
  have Wx:pl.sz=ie.size:=cZ.sz.trans b2
  have ha:=h1 (by omega)
  rw [Wx] at ha
  subst ha
  obtain ⟨xg,Wl,UA⟩:=g.Px ho uf cZ (by omega) sr b2 b1 p1 p2 rfl
  have lG:=K8 (P:=P) (w:=w) (ty:=ty) he Ej ((cZ.cK (by omega)).trans (by rw [fF (by omega)])) sr.len sr.cells sr.one (b:=off * ie.size) (sLen:=m) (sCap:=cap) (by omega) (by rw [← cz,← ez];exact xg)
  rw [← cz,← ez] at lG
  exact ⟨_,_,S,μ,lG,Wl,UA,fun _ _ h=>h,aq.os pl uf (fun _=>by rw [Wx]) (by omega) h3⟩
def Cn (P:Program) (nk:Nat) (σ:dw) (t:TypeId) (s x:AV):Option (List Prop×AV×List Nat×rO) :=
 match mJ P t with
 | some e=>match tD P e,vV P e,rN P e,s with
  | some sz,some b,some z,.B4 k off m=>match uN σ sz x,au σ k with
   | some (n,gt,pr,ps,rd),some o=>match Nat.ble 1 sz && Nat.ble 1 b && Nat.beq z.cells.size sz && Nat.beq o.sz sz && !o.var with
    | true=>some ((0 < n∧bA off m=o.len) :: ((m+n) * b≤140737488355328) :: (∀ i,i < o.len→AV.iP (o.get i)=true) :: ps,.os nk 0 (m+n),k :: rd,
      [(nk,some ⟨false,sz,m+n,o.pr && pr,fun j=>if j < m then o.get (bA off j) else gt (j - m)⟩)])
    | false=>none
   | _,_=>none
  | _,_,_,_=>none
 | none=>none
theorem Sa (g:Good E σ S μ w) (hk:μ nk=none) (hm:E.m0≤nk) {t ty:TypeId} {s x:AV} {vs vx:Value} (hs:aq w S μ vs s) (hx:aq w S μ vx x) {ps:List Prop} {val:AV} {rd:List Nat} {ml:rO}
  (h:Cn P nk σ t s x=some (ps,val,rd,ml)) (hp:bj ps):Step P E nk σ S μ w (Builtin.append_ #[t,t] ty #[vs,vx]) val ml:=by
 unfold Cn at h
 split at h
 case h_2=>cases h
 rename_i e he
 have he:=kO he
 split at h
 case h_2=>cases h
 rename_i sz b z k off m rM hb hz
 obtain ⟨ie,Ej,rfl,rfl,Oy⟩:=vW rM hb hz
 split at h
 case h_2=>cases h
 rename_i n gt pr O6 Mn o uO ho
 split at h
 case h_2=>cases h
 rename_i Cd
 simp only [bh,Nat.ble_eq,Bool.not_eq_true'] at Cd
 obtain ⟨⟨⟨⟨b1,bb⟩,b3⟩,b2⟩,AX⟩:=Cd
 have b2:=bO b2
 have b3:=bO b3
 simp only [az,ay] at h
 obtain ⟨rfl,rfl,rfl,rfl⟩:=h
 obtain ⟨⟨p0,Dx⟩,p1,p2,p3⟩:=hp
 rw [df] at Dx
 obtain ⟨news,sr⟩:=xL (P:=P) g hx uO p3
 obtain ⟨pl,c,T',uf,cZ⟩:=g.rep.ob k o ho
 cases hs with
 | B4 j9 gV h1 h2 =>
  rename_i a
  rw [uf] at gV;cases gV
  obtain ⟨olds,so⟩:=xL (P:=P) (sz:=ie.size) (x:=.os k off m) (v:=.slice a m m) (n:=m) (gt:=fun i=>o.get (bA off i)) (pr:=o.pr) (ps:=[off+m≤o.len,∀ i,i < m→AV.iP (o.get (bA off i))=true]) (rd:=[k]) g
   (.os pl uf h1 (aG _) h2) (by grind [uN,rK]) ⟨by omega,fun i hi=>p2 _ (by rw [df];omega),trivial⟩
  have lG:=v5 (P:=P) (w:=w) (ty:=ty) he Ej Oy so.cells sr.len sr.cells (by omega) bb p1
  have xf:=EL w (m+n) m e
  have pM:∀ i,i < m+n→((fun q=>if q < m then o.get (bA off q) else gt (q - m)) i).length=ie.size:=by
   intro i hi
   show (if i < m then o.get (bA off i) else gt (i - m)).length=_
   split
   ·rw [cZ.tB (bA off i) (by rw [df];omega),b2]
   ·exact sr.tB _ (by omega)
  have gg:=g.grow (e:=e) hk hm (sz:=ie.size) (n:=n) (len:=m) (cap:=grownCap w (m+n) m e) (olds:=olds) (news:=news)
   (rest:=Builtin.zeroCells z.cells (grownCap w (m+n) m e - (m+n))) (pr:=o.pr && pr) (get:=fun q=>if q < m then o.get (bA off q) else gt (q - m))
   so.size sr.size (by rw [size_zeroCells,b3]) xf pM (by
    intro i j x u hi hx hu
    have hx:(if i < m then o.get (bA off i) else gt (i - m))[j]?=some x:=hx
    have hj:j < ie.size:=by
     have e1:=(dJ.1 hx).1
     have e2:(if i < m then o.get (bA off i) else gt (i - m)).length=ie.size:=pM i hi
     omega
    by_cases GC:i < m
    ·have o5:(i+1) * ie.size≤m * ie.size:=dH _ GC
     rw [cz] at o5
     rw [if_pos GC] at hx
     rw [iz (by rw [so.size];omega)] at hu
     have:=so.rep i j x u GC hx hu
     cases hp:pr
     ·rw [Bool.and_false];exact iQ this
     ·rw [Bool.and_true];exact this
    ·have o5:m * ie.size≤i * ie.size:=dH _ (by omega)
     rw [if_neg GC] at hx
     rw [jH (by rw [so.size];omega),so.size] at hu
     have:=sr.rep (i - m) j x u (by omega) hx (by rw [← hu,Nat.sub_mul];congr 1;omega)
     cases hp:o.pr
     ·rw [Bool.false_and];exact iQ this
     ·rw [Bool.true_and];exact this) (by omega)
   (g.JA hk _ _ (fun _=>aG _) (pN fun i hi=>by
    have hi:i < m+n:=hi
    show AV.iP (if i < m then o.get (bA off i) else gt (i - m))=true
    split
    ·exact p2 _ (by rw [df];omega)
    ·exact sr.RM _ (by omega)) (fun b h=>ft (w:=w.drew) h) (fun _ h=>h) (fun _ h=>.inl h))
  refine ⟨_,_,S,_,lG,gg.1,gg.2,fun k oQ hn=>by rw [nf _ oQ];exact hn,?_⟩
  exact aq.os ⟨w.heap.size,grownCap w (m+n) m e,ie.size⟩ (by simp [bZ]) (by simp) xf (by simp)
def yU (P:Program) (σ:dw) (t:TypeId) (x:AV):Option (List Prop×AV×List Nat×rO) :=
 match mJ P t with
 | some e=>match tD P e,vV P e,rN P e,x with
  | some sz,some _,some z,.os k off n=>match au σ k with
   | some o=>match Nat.ble 1 sz && Nat.beq o.sz sz && !o.var && Nat.beq z.cells.size sz && z.cells.toList.all (·.oneCell') with
    | true=>some ([0 < n∧off+n≤o.len],.m9,[k],[(k,some ⟨false,sz,off,o.pr,o.get⟩)])
    | false=>none
   | none=>none
  | _,_,_,_=>none
 | none=>none
theorem Py (g:Good E σ S μ w) {t ty:TypeId} {x:AV} {vx:Value} (hx:aq w S μ vx x) {ps:List Prop} {val:AV} {rd:List Nat} {ml:rO}
  (h:yU P σ t x=some (ps,val,rd,ml)) (hp:bj ps):Step P E nk σ S μ w (Builtin.clear_ #[t] ty #[vx]) val ml:=by
 unfold yU at h
 split at h
 case h_2=>cases h
 rename_i e he
 have he:=kO he
 split at h
 case h_2=>cases h
 rename_i sz b z k off n rM hb hz
 obtain ⟨ie,Ej,rfl,rfl,Oy⟩:=vW rM hb hz
 split at h
 case h_2=>cases h
 rename_i o ho
 split at h
 case h_2=>cases h
 rename_i Cd
 simp only [bh,Nat.ble_eq,Bool.not_eq_true'] at Cd
 obtain ⟨⟨⟨⟨b1,b2⟩,AX⟩,b3⟩,b4⟩:=Cd
 have b2:=bO b2
 have b3:=bO b3
 simp only [az,ay] at h
 obtain ⟨rfl,rfl,rfl,rfl⟩:=h
 obtain ⟨⟨p0,p1⟩,_⟩:=hp
 obtain ⟨pl,c,T',uf,cZ⟩:=g.rep.ob k o ho
 cases hx with
 | os j9 gV h1 h2 h3 =>
  rename_i cap a
  rw [uf] at gV;cases gV
  have VS:=cZ.len
  have ha:=h1 (by omega)
  subst ha
  have vQ:0 < pl.cap:=by omega
  have hzl:(Builtin.zeroCells z.cells n).toList.length=n * ie.size:=by simp [Builtin.zeroCells,b3]
  have GJ:∀ u∈(Builtin.zeroCells z.cells n).toList,u.oneCell'=true:=by
   intro u hu
   simp only [Builtin.zeroCells,Array.toList_map,List.mem_map] at hu
   obtain ⟨i,hi,rfl⟩:=hu
   have gS:i % z.cells.size < z.cells.size:=Nat.mod_lt _ (by omega)
   rw [getElem!_pos z.cells (i % z.cells.size) gS]
   rw [List.all_eq_true] at b4
   exact b4 _ (Array.mem_toList_iff.2 (Array.getElem_mem gS))
  have xg:off * ie.size+(Builtin.zeroCells z.cells n).toList.length≤c.size:=by
   have e1:(off+n) * ie.size≤pl.cap * ie.size:=dH _ (by omega)
   have e2:=cZ.cap
   rw [b2] at e2
   rw [hzl,← cz];omega
  have AP:=run_storeCells_at P pl.cK (off * ie.size) T' (Builtin.zeroCells z.cells n).toList 0 c w ((cZ.cK vQ).trans (by rw [fF (by omega)])) (by simpa using xg) GJ
  simp only [Nat.add_zero] at AP
  generalize oG:(c.toList.take (off * ie.size) ++ (Builtin.zeroCells z.cells n).toList ++ c.toList.drop (off * ie.size+(Builtin.zeroCells z.cells n).toList.length)).toArray=c' at AP
  have lG:(Builtin.clear_ #[t] ty #[.slice (some ⟨pl.cK,off * pl.sz,none⟩) n cap]).run P w=.ok (.tuple #[]) (w.setRow pl.cK c'):=by
   rw [cZ.sz,b2]
   obtain ⟨m,rfl⟩:∃ m,n=m+1:=⟨n - 1,by omega⟩
   simp [Builtin.clear_,run_underlying he,zeroValue,typeInfo,Ej,Oy,AP]
  have xJ:(c.toList.take (off * ie.size)).length=off * ie.size:=by simp;omega
  have Ig:c'.size=c.size:=by
   rw [← oG]
   simp only [List.size_toArray,lY,xJ,List.length_drop,Array.length_toList]
   rw [Array.length_toList] at xg
   omega
  have qm:∀ m,m < off * ie.size→c'[m]?=c[m]?:=by
   intro m h1
   rw [← oG]
   simp only [List.getElem?_toArray]
   rw [iz (by simp;omega),iz (by omega),pK,if_pos h1]
   simp
  have vU:∀ i x,rowOf ⟨false,ie.size,off,o.pr,o.get⟩ i=some x→rowOf o i=some x∧i < off:=fun i x hx=>by
   obtain ⟨_,q2,q3⟩:=da hx
   have q2:i < off:=q2
   exact ⟨kN AX (by omega) q3,q2⟩
  have Pz:∀ i,i < off→∀ j,j < ie.size→i * ie.size+j < off * ie.size:=fun i hi j hj=>by
   have o5:(i+1) * ie.size≤off * ie.size:=dH _ hi
   rw [cz] at o5;omega
  have gw:=g.write ho uf vQ cZ (by omega) ⟨false,ie.size,off,o.pr,o.get⟩ c' b2.symm Ig (show off≤pl.cap by omega) (fun i hi=>by
   have hi:i < off:=hi
   show (o.get i).length=ie.size
   rw [cZ.tB i (by omega),b2]) (by
   intro i j x v hi hx hv
   have hi:i < off:=hi
   have hx:(o.get i)[j]?=some x:=hx
   have hj:j < ie.size:=by
    have e1:=(dJ.1 hx).1
    rw [cZ.tB i (by omega),b2] at e1;exact e1
   have hv:c'[i * ie.size+j]?=some v:=hv
   rw [qm _ (Pz i hi j hj)] at hv
   exact cZ.rep i j x v (by omega) hx (by rw [b2];exact hv)) (fun i x hx=>⟨(vU i x hx).1,by
    rw [b2];exact qm _ (by have:=Pz i (vU i x hx).2 0 (by omega);omega)⟩)
  exact ⟨_,_,S,μ,lG,gw.1,gw.2,fun _ _ h=>h,.m9⟩
def xT (P:Program) (nk:Nat) (σ:dw) (op:Op) (e:Operand→AV) (bp:Option oa):Option R :=
 match YS bp with
 | none=>dZ P nk σ op e bp
 | some q=>match op with
  | .load T a=>(yT P σ T ((e a).strip.1) q.res).map fun (ps,v,rd)=>⟨conds e [a] ++ ps,v,rd,[]⟩
  | .call ⟨.builtin .append,args,Hv⟩=>match args.toList,Hv.toList with
   | [x,y],[t,t']=>match Nat.beq t t' with
    | true=>(match q.ks,q.res with
     | [],.m9=>Ck P σ t ((e x).strip.1) ((e y).strip.1)
     | [],.nil=>Cm P σ t ((e x).strip.1) ((e y).strip.1)
     | [],_=>Cn P nk σ t ((e x).strip.1) ((e y).strip.1)
     | _,_=>sB P nk σ t ((e x).strip.1) ((e y).strip.1) q).map fun (ps,v,rd,u)=>⟨conds e [x,y] ++ ps,v,rd,u⟩
    | false=>none
   | _,_=>none
  | .call ⟨.builtin .copy,args,Hv⟩=>match args.toList,Hv.toList with
   | [x,y],[t,_]=>(Cl P σ t ((e x).strip.1) ((e y).strip.1)).map fun (ps,v,rd,u)=>⟨conds e [x,y] ++ ps,v,rd,u⟩
   | _,_=>none
  | .call ⟨.builtin .clear,args,Hv⟩=>match args.toList,Hv.toList with
   | [x],[t]=>(yU P σ t ((e x).strip.1)).map fun (ps,v,rd,u)=>⟨conds e [x] ++ ps,v,rd,u⟩
   | _,_=>none
  | .slice t x lo hi mx=>match mx with
   | none=>(uU P σ t ((e x).strip.1) (lo.map fun y=>(e y).strip.1) (hi.map fun y=>(e y).strip.1)).map fun (ps,v,rd)=>⟨conds e (x :: (lo.toList ++ hi.toList)) ++ ps,v,rd,[]⟩
   | some m=>match lo,hi with
    | some l,some h=>(E0 P t ((e x).strip.1) ((e l).strip.1) ((e h).strip.1) ((e m).strip.1)).map fun (ps,v,rd)=>⟨conds e [x,l,h,m] ++ ps,v,rd,[]⟩
    | _,_=>none
  | op=>dZ P nk σ op e bp
theorem HA {o:Oper} {a:Act} {e:Operand→AV} {bp:Option oa} {r:R} {next:Act→World→Prop} {Q:Exit→Act→World→Prop}
  (he:∀ x∈o.op.operands.toList,aq w S μ (a.eval x) (e x)) (g:Good E σ S μ w) (z7:∀ j,j < 16→μ (nk+j)=none) (hm:E.m0≤nk)
  (hz:∀ x,bp=some x→x.xi=true→∀ b,¬ E.fp b) (h:xT P nk σ o.op e bp=some r) (hp:bj r.Hm) (hK:Pu E nk σ S μ w r fun v w'=>next (a.put o.dst v) w'):o.wp P a w next Q:=by
 unfold xT at h
 split at h
 ·exact JW he g z7 hm hz h hp hK
 ·have hk:μ nk=none:=z7 0 (by omega)
  have st:∀ (xs:List Operand),bj (conds e xs)→(∀ x∈xs,x∈o.op.operands.toList)→∀ x∈xs,aq w S μ (a.eval x) ((e x).strip.1) :=
   fun xs h1 h2 x hx=>(he x (h2 x hx)).strip (yS h1 x hx)
  obtain ⟨dst,op,ty,pos,after,guard⟩:=o
  simp only at he h hK st ⊢
  split at h
  ·rename_i T x
   simp only [aL] at h
   obtain ⟨⟨ps,v,rd⟩,h1,rfl⟩:=h
   obtain ⟨p1,p2⟩:=bj.app hp
   obtain ⟨u,r1,r2⟩:=Pv g (st [x] p1 (by simp [Op.operands]) x (by simp)) h1 p2
   unfold Oper.wp
   have ex:execOp a.eval ⟨dst,.load T x,ty,pos,after,guard⟩=(do pure (.value (← Instr.loadAt T (a.eval x))):Sem Next):=rfl
   rw [ex]
   simp only [bH,r1,cX,Sem.run_pure]
   exact hK u w S μ (Ext.refl _ _ _) g (fun _ _ h=>h) r2
  ·rename_i args Hv
   split at h
   case h_2=>cases h
   rename_i x y t t' ha ht
   split at h
   case h_2=>cases h
   rename_i hb
   have hb:=bO hb
   subst hb
   obtain ⟨rfl⟩:args=#[x,y]:=Array.toList_inj.1 (by rw [ha])
   obtain ⟨rfl⟩:Hv=#[t,t]:=Array.toList_inj.1 (by rw [ht])
   simp only [aL] at h
   obtain ⟨⟨ps,v,rd,u⟩,h1,rfl⟩:=h
   obtain ⟨p1,p2⟩:=bj.app hp
   have s:=st [x,y] p1 (by simp [Op.operands,Call.operands])
   have AP:Step P E nk σ S μ w (Builtin.append_ #[t,t] ty #[a.eval x,a.eval y]) v u:=by
    split at h1
    ·exact R7 (ty:=ty) g (s x (by simp)) (s y (by simp)) h1 p2
    ·exact R9 (ty:=ty) g (s x (by simp)) (s y (by simp)) h1 p2
    ·exact Sa (ty:=ty) g hk hm (s x (by simp)) (s y (by simp)) h1 p2
    ·exact Lh (ty:=ty) g hk hm (s x (by simp)) (s y (by simp)) h1 p2
   obtain ⟨v',w',S',dn,r1,r2,r3,r4,r5⟩:=AP
   unfold Oper.wp
   have ex:execOp a.eval ⟨dst,.call ⟨.builtin .append,#[x,y],#[t,t]⟩,ty,pos,after,guard⟩=(do pure (.value (← Builtin.append_ #[t,t] ty #[a.eval x,a.eval y])):Sem Next):=by simp [execOp,resolve,invoke,builtin]
   rw [ex]
   simp only [bH,r1,cX,Sem.run_pure]
   exact hK v' w' S' dn r2 r3 (fun k oQ=>r4 k (by omega)) r5
  ·rename_i args Hv
   split at h
   case h_2=>cases h
   rename_i x y t t' ha ht
   obtain ⟨rfl⟩:args=#[x,y]:=Array.toList_inj.1 (by rw [ha])
   obtain ⟨rfl⟩:Hv=#[t,t']:=Array.toList_inj.1 (by rw [ht])
   simp only [aL] at h
   obtain ⟨⟨ps,v,rd,u⟩,h1,rfl⟩:=h
   obtain ⟨p1,p2⟩:=bj.app hp
   have s:=st [x,y] p1 (by simp [Op.operands,Call.operands])
   obtain ⟨v',w',S',dn,r1,r2,r3,r4,r5⟩:=R8 (nk:=nk) (t':=t') (ty:=ty) g (s x (by simp)) (s y (by simp)) h1 p2
   unfold Oper.wp
   have ex:execOp a.eval ⟨dst,.call ⟨.builtin .copy,#[x,y],#[t,t']⟩,ty,pos,after,guard⟩=(do pure (.value (← Builtin.copy_ #[t,t'] ty #[a.eval x,a.eval y])):Sem Next):=by simp [execOp,resolve,invoke,builtin]
   rw [ex]
   simp only [bH,r1,cX,Sem.run_pure]
   exact hK v' w' S' dn r2 r3 (fun k oQ=>r4 k (by omega)) r5
  ·rename_i args Hv
   split at h
   case h_2=>cases h
   rename_i x t ha ht
   obtain ⟨rfl⟩:args=#[x]:=Array.toList_inj.1 (by rw [ha])
   obtain ⟨rfl⟩:Hv=#[t]:=Array.toList_inj.1 (by rw [ht])
   simp only [aL] at h
   obtain ⟨⟨ps,v,rd,u⟩,h1,rfl⟩:=h
   obtain ⟨p1,p2⟩:=bj.app hp
   have s:=st [x] p1 (by simp [Op.operands,Call.operands])
   obtain ⟨v',w',S',dn,r1,r2,r3,r4,r5⟩:=Py (nk:=nk) (ty:=ty) g (s x (by simp)) h1 p2
   unfold Oper.wp
   have ex:execOp a.eval ⟨dst,.call ⟨.builtin .clear,#[x],#[t]⟩,ty,pos,after,guard⟩=(do pure (.value (← Builtin.clear_ #[t] ty #[a.eval x])):Sem Next):=by simp [execOp,resolve,invoke,builtin]
   rw [ex]
   simp only [bH,r1,cX,Sem.run_pure]
   exact hK v' w' S' dn r2 r3 (fun k oQ=>r4 k (by omega)) r5
  ·rename_i t x lo hi mx
   have ex:∀ y,execOp a.eval ⟨dst,.slice t x lo hi y,ty,pos,after,guard⟩=(do pure (.value (← Instr.sliceAt t (a.eval x) (lo.map a.eval) (hi.map a.eval) (y.map a.eval))):Sem Next):=fun y=>rfl
   cases mx with
   | none =>
    simp only [aL] at h
    obtain ⟨⟨ps,v,rd⟩,h1,rfl⟩:=h
    obtain ⟨p1,p2⟩:=bj.app hp
    have s:=st (x :: (lo.toList ++ hi.toList)) p1 (by
     intro y hy
     simp only [kL,List.mem_append,Option.mem_toList] at hy
     simp only [Op.operands]
     rcases hy with rfl | hy | hy
     ·simp
     ·simp [hy]
     ·simp [hy])
    obtain ⟨u,r1,r2⟩:=NP (P:=P) (vlo:=lo.map a.eval) (vhi:=hi.map a.eval) g (s x (by simp)) (by
     refine ⟨by simp,?_⟩
     intro p q sw hq
     simp only [aL] at sw hq
     obtain ⟨y,hy,rfl⟩:=sw
     obtain ⟨z,hz,rfl⟩:=hq
     rw [hy] at hz;cases hz
     exact s y (by simp [hy])) (by
     refine ⟨by simp,?_⟩
     intro p q sw hq
     simp only [aL] at sw hq
     obtain ⟨y,hy,rfl⟩:=sw
     obtain ⟨z,hz,rfl⟩:=hq
     rw [hy] at hz;cases hz
     exact s y (by simp [hy])) h1 p2
    unfold Oper.wp
    rw [ex none]
    simp only [Option.map_none,bH,r1,cX,Sem.run_pure]
    exact hK u w S μ (Ext.refl _ _ _) g (fun _ _ h=>h) r2
   | some m =>
    simp only at h
    split at h
    case h_2=>cases h
    rename_i l hh
    simp only [aL] at h
    obtain ⟨⟨ps,v,rd⟩,h1,rfl⟩:=h
    obtain ⟨p1,p2⟩:=bj.app hp
    have s:=st [x,l,hh,m] p1 (by simp [Op.operands])
    obtain ⟨u,r1,r2⟩:=NO (P:=P) (s x (by simp)) (s l (by simp)) (s hh (by simp)) (s m (by simp)) h1 p2
    unfold Oper.wp
    rw [ex (some m)]
    simp only [Option.map_some,bH,r1,cX,Sem.run_pure]
    exact hK u w S μ (Ext.refl _ _ _) g (fun _ _ h=>h) r2
  ·exact JW (o:=⟨dst,op,ty,pos,after,guard⟩) he g z7 hm hz h hp hK
def SF (μ:Mu) (F:List Nat) (σ:dw) (S:Nat→Prop) (b:Nat):Prop:=S b∨∃ k o pl,k∈F∧au σ k=some o∧μ k=some pl∧0 < pl.cap∧pl.cK=b
theorem Good.freeze (g:Good E σ S μ w) (F:List Nat) (hz:∀ b,¬ E.fp b):Good E (fA σ (uQ true F)) (SF μ F σ S) μ w:=by
 have sg:∀ n o,au (fA σ (uQ true F)) n=some o→au σ n=some o∧n ∉ F:=fun n o h=>by
  rw [mn] at h
  simp_all
 have e:Ext w S μ w (SF μ F σ S) μ:=⟨aG _,fun _ h=>.inl h,fun _ _=>rfl,fun _ _ h=>h⟩
 refine ⟨g.fr,fun b h=>.inl (g.S0 b h),?_,?_,⟨?_,?_⟩,?_,g.Eh,?_⟩
 ·rintro b (h1 | ⟨k1,o1,AO,Sb,wV,K0,tC,rfl⟩)
  ·exact g.S1 b h1
  ·obtain ⟨j9,c,T,gV,PA⟩:=g.rep.ob k1 o1 wV
   rw [K0] at gV;cases gV
   exact gz (PA.cK tC)
 ·rintro b (h1 | ⟨k1,o1,AO,Sb,wV,K0,tC,rfl⟩)
  ·exact g.S2 b h1
  ·rcases g.own k1 o1 AO wV K0 tC with h2 | h2
   ·exact (hz _ h2).elim
   ·exact .inr h2
 ·intro k o Sc
  obtain ⟨h0,YT⟩:=sg k o Sc
  obtain ⟨pl,c,T,tO,uk⟩:=g.rep.ob k o h0
  refine ⟨pl,c,T,tO,uk.ext e (fun _=>rfl) ?_⟩
  rintro hc (h1 | ⟨k1,o1,AO,Sb,wV,K0,tC,hb⟩)
  ·exact uk.out hc h1
  ·exact g.rep.ne k1 k o1 o AO pl (fun h=>YT (h ▸ Sb)) wV h0 K0 tO tC hc hb
 ·intro k k' o o' pl j9 fZ h1 h2 h3 h4 h5 h6
  exact g.rep.ne k k' o o' pl j9 fZ (sg _ _ h1).1 (sg _ _ h2).1 h3 h4 h5 h6
 ·exact fun k o pl h1 h2 h3=>g.own k o pl (sg _ _ h1).1 h2 h3
 ·have Wy:∀ k i x v,ja w μ (fA σ (uQ true F)) k i x v→ja w μ σ k i x v:=fun k i x v ⟨o,pl,h1,h2,h3,h4⟩=>⟨o,pl,(sg _ _ h1).1,h2,h3,h4⟩
  refine g.mx.tr (fun k=>k) Wy (fun _ _ _ _ _ _ _ _ _ _ h=>h) (fun _ h=>.inl h) (fun _ _=>rfl) (fun k i x v b _ h hb=>⟨rfl,?_,fun h=>h⟩) (fun k o pl h1 h2 h3=>.inl ⟨k,o,pl,(sg _ _ h1).1,h2,h3,rfl⟩)
  rintro (h1 | ⟨k1,o1,AO,_,wV,K0,tC,h1⟩)
  ·exact (g.mx.cK h hb).2.1 h1
  ·exact g.mx.obj _ _ _ _ _ h hb k1 o1 AO wV K0 tC h1
def Rt (σ:dw):dw→Option (List Prop)
 | []=>some []
 | (k,o') :: r=>match au σ k,Rt σ r with
  | some o,some ps=>match o.pr with
   | true=>some ((o'.len≤o.len) :: (∀ i,i < o'.len→o'.get i=o.get i) :: ps)
   | false=>none
  | _,_=>none
mutual
def TS (τ:dw):AV→AV
 | .os k off len=>match off,au τ k with
  | 0,some o=>.sl o.len o.get
  | _,_=>.os k off len
 | .agg cs=>.agg (UN τ cs)
 | x=>x
def UN (τ:dw):List AV→List AV
 | []=>[]
 | c :: cs=>TS τ c :: UN τ cs
end
mutual
def UO (τ:dw):AV→List Prop
 | .os k off len=>match off,au τ k with
  | 0,some o=>[len=o.len]
  | _,_=>[]
 | .agg cs=>Se τ cs
 | _=>[]
def Se (τ:dw):List AV→List Prop
 | []=>[]
 | c :: cs=>UO τ c ++ Se τ cs
end
def VX (τ:dw) (e:Operand→AV):List Operand→List Prop
 | []=>[]
 | x :: r=>UO τ (e x) ++ VX τ e r
theorem Mz:∀ {τ:dw} {ps:List Prop},Rt σ τ=some ps→bj ps→∀ {k:Nat} {o':Ob},au τ k=some o'→k∈τ.map (·.1)∧∃ o,au σ k=some o∧o.pr=true∧o'.len≤o.len∧∀ i,i < o'.len→o'.get i=o.get i
 | [],ps,_,_,k,o',h=>by simp [au] at h
 | (k0,o0) :: r,ps,h,hp,k,o',hk=>by
  simp only [Rt] at h
  split at h
  ·rename_i o qs ho hr
   split at h
   ·rename_i KX
    cases h
    obtain ⟨p1,p2,p3⟩:=hp
    simp only [au] at hk
    split at hk
    ·simp_all
    ·obtain ⟨q1,q2⟩:=Mz hr p3 hk
     simp_all
   ·cases h
  ·cases h
theorem ky {dn:Mu} {v:Value} {x:AV} {F:List Nat} (h:aq w S dn v x):aq w (SF μ F σ S) dn v x:=h.mono (fun _ h=>.inl h) (fun _ _=>rfl) (fun _ _ h=>h)
theorem Wz (g:Good E σ S μ w) {τ:dw} {qs:List Prop} (hs:Rt σ τ=some qs) (hq:bj qs) {k off len:Nat} {v:Value} (h:aq w S μ v (.os k off len)) (hp:bj (UO τ (.os k off len))):aq w (SF μ (τ.map (·.1)) σ S) μ v (TS τ (.os k off len)):=by
 simp only [TS,UO] at hp ⊢
 split at hp
 ·rename_i o' vR
  obtain ⟨rfl,_⟩:=hp
  obtain ⟨hF,o,ho,KX,p2,p3⟩:=Mz hs hq vR
  obtain ⟨pl,c,T,hm,cZ⟩:=g.rep.ob k o ho
  cases h with
  | os j9 gV h1 h2 h3 =>
   rename_i cap a
   rw [hm] at gV;cases gV
   refine .sl pl.cK (0 * pl.sz) o.sz (fun i j=>(c[(0+i) * o.sz+j]?).getD undef) ?_ (fun i hi=>by rw [p3 i hi];exact cZ.tB _ (by omega)) ?_ ?_ h2
   ·intro hl
    exact ⟨h1 (by omega),.inr ⟨k,o,pl,hF,ho,hm,by omega,rfl⟩⟩
   ·intro i j hi hj
    obtain ⟨v,q1,q2⟩:=cQ cZ (i:=0+i) (by omega) hj
    simp_all
   ·intro i j c' hi oG
    rw [p3 i hi] at oG
    obtain ⟨v,q1,q2⟩:=cQ cZ (i:=0+i) (by omega) (by have:=(dJ.1 oG).1;rw [cZ.tB _ (by omega)] at this;exact this)
    rw [q1]
    have:=cZ.rep _ j c' v (by omega) (by simp_all) q1
    grind [ky]
 ·exact ky h
mutual
theorem PB (g:Good E σ S μ w) {τ:dw} {qs:List Prop} (hs:Rt σ τ=some qs) (hq:bj qs):∀ (x:AV) (v:Value),aq w S μ v x→bj (UO τ x)→aq w (SF μ (τ.map (·.1)) σ S) μ v (TS τ x)
 | .os _ _ _,_,h,hp=>Wz g hs hq h hp
 | .agg cs,v,h,hp=>by
  simp only [TS,UO] at hp ⊢
  obtain ⟨vs,rfl,h1,h2⟩:=nL h
  obtain ⟨q1,q2⟩:=MA g hs hq cs hp
  refine .agg (h1.trans q1.symm) fun j c v hc hv=>?_
  grind
 | .nil,_,h,_=>ky h
 | .atom _,_,h,_=>ky h
 | .tup _,_,h,_=>ky h
 | .sl _ _,_,h,_=>ky h
 | .rp _ _,_,h,_=>ky h
 | .op _ _ _,_,h,_=>ky h
 | .fn _ _ _,_,h,_=>ky h
 | .when _ _,_,h,_=>ky h
 | .mp _,_,h,_=>ky h
 | .bn _,_,h,_=>ky h
 | .pt _ _,_,h,_=>ky h
 | .ov _ _ _ _ _,_,h,_=>ky h
 | .B4 _ _ _,_,h,_=>ky h
 | .nq _ _,_,h,_=>ky h
 | .m9,_,h,_=>ky h
 | .mr _ _ _,_,h,_=>ky h
theorem MA (g:Good E σ S μ w) {τ:dw} {qs:List Prop} (hs:Rt σ τ=some qs) (hq:bj qs):∀ (cs:List AV),bj (Se τ cs)→(UN τ cs).length=cs.length ∧
  ∀ (j:Nat) c y v,cs[j]?=some c→(UN τ cs)[j]?=some y→aq w S μ v c→aq w (SF μ (τ.map (·.1)) σ S) μ v y
 | [],_=>⟨rfl,fun j c y v hc=>by simp at hc⟩
 | c :: cs,hp=>by
  simp only [Se] at hp
  obtain ⟨p1,p2⟩:=bj.app hp
  obtain ⟨q1,q2⟩:=MA g hs hq cs p2
  refine ⟨by simp [UN,q1],fun j c' y v hc hy h=>?_⟩
  cases j with
  | zero =>
   simp only [UN,List.getElem?_cons_zero,az] at hc hy
   subst hc hy
   exact PB g hs hq c v h p1
  | succ j =>
   simp only [UN,Eg] at hc hy
   exact q2 j c' y v hc hy h
end
def PC (op:Op):Option oa→Option dw
 | none=>none
 | some q=>match q.xi,op with
  | true,.buildSlice _ _ _=>some q.oh
  | true,.build _ _=>some q.oh
  | true,.box _ _=>some q.oh
  | true,.store _ _ _=>some q.oh
  | _,_=>none
theorem Li {c:Call} (bp:Option oa):PC (.defer c) bp=none:=by
 cases bp with
 | none=>rfl
 | some q=>grind [PC]
theorem PD {op:Op} {bp:Option oa} {τ:dw} (h:PC op bp=some τ):∃ x,bp=some x∧x.xi=true:=by
 unfold PC at h
 grind
def zQ (P:Program) (nk:Nat) (σ:dw) (op:Op) (e:Operand→AV) (bp:Option oa):Option R :=
 match PC op bp with
 | none=>xT P nk σ op e bp
 | some τ=>match Rt σ τ,xT P nk (fA σ (uQ true (τ.map (·.1)))) op (fun x=>TS τ (e x)) bp with
  | some ps,some r=>some ⟨ps ++ (VX τ e op.operands.toList ++ r.Hm),r.val,τ.map (·.1) ++ r.KY,uQ true (τ.map (·.1)) ++ r.ml⟩
  | _,_=>none
theorem MB {τ:dw} {e:Operand→AV}:∀ {xs:List Operand},bj (VX τ e xs)→∀ x∈xs,bj (UO τ (e x))
 | [],_,x,hx=>by simp at hx
 | y :: r,h,x,hx=>by
  obtain ⟨h1,h2⟩:=bj.app h
  rcases kL.1 hx with rfl | hx
  ·exact h1
  ·exact MB h2 x hx
theorem NQ {o:Oper} {a:Act} {e:Operand→AV} {bp:Option oa} {r:R} {next:Act→World→Prop} {Q:Exit→Act→World→Prop}
  (he:∀ x∈o.op.operands.toList,aq w S μ (a.eval x) (e x)) (g:Good E σ S μ w) (z7:∀ j,j < 16→μ (nk+j)=none) (hm:E.m0≤nk)
  (hz:∀ x,bp=some x→x.xi=true→∀ b,¬ E.fp b) (h:zQ P nk σ o.op e bp=some r) (hp:bj r.Hm) (hK:Pu E nk σ S μ w r fun v w'=>next (a.put o.dst v) w'):o.wp P a w next Q:=by
 unfold zQ at h
 split at h
 ·grind [HA]
 ·rename_i τ hτ
  split at h
  ·rename_i ps r0 h1 h2
   cases h
   obtain ⟨p1,p23⟩:=bj.app hp
   obtain ⟨p2,p3⟩:=bj.app p23
   obtain ⟨q,E2,dW⟩:=PD hτ
   have g1:=g.freeze (τ.map (·.1)) (hz q E2 dW)
   have e1:Ext w S μ w (SF μ (τ.map (·.1)) σ S) μ:=⟨aG _,fun _ h=>.inl h,fun _ _=>rfl,fun _ _ h=>h⟩
   refine HA (e:=fun x=>TS τ (e x)) (fun x hx=>PB g h1 p1 _ _ (he x hx) (MB p2 x hx)) g1 z7 hm hz h2 p3 ?_
   intro v w' S' dn x1 x2 x3 x4
   exact hK v w' S' dn (e1.trans x1) (by rw [gA];exact x2) x3 x4
  ·cases h
end
end Go.Ab
namespace Go.Ab
structure St where
 tm:List (Nat×AV)
 oh:dw
 nk:Nat
def um:AV→Bool→Option Bool
 | .atom (.bool b),want=>some (match want with
  | true=>b
  | false=>!b)
 | .when g x,want=>(um x want).map fun b=>g && b
 | _,_=>none
structure Rec where
 Hm:List Prop
 dst:Option Nat
 val:AV
 KY:List Nat
 ml:rO
def A7 (σ:dw) (op:Op) (e:Operand→AV) (y:YC):Option R :=
 match op with
 | .call ⟨.value f,args,_⟩=>match (e f).strip.1,au σ y.k with
  | .atom (.func (.yield l) vs ws),some o=>some ⟨(l=y.l∧vs=#[]∧ws=#[]∧args.toList.map (fun x=>(e x).strip.1)=y.as∧o=y.o) :: conds e (f :: args.toList),.atom (.bool true),[y.k],[(y.k,some y.o')]⟩
  | _,_=>none
 | _=>none
def xU (P:Program) (nk:Nat) (σ:dw) (op:Op) (e:Operand→AV) (bp:Option oa):Option R :=
 match YE bp with
 | some y=>A7 σ op e y
 | none=>zQ P nk σ op e bp
def under (g:Bool):List Prop→List Prop
 | []=>[]
 | p :: ps=>[g=true→bj (p :: ps)]
def PE (ops:List Oper) (j:Nat):Option Nat:=(ops[j]?).bind (·.dst)
def TT (nt:Nat):Option Nat→Bool
 | none=>true
 | some d=>Nat.blt d nt
def zR (P:Program) (nt:Nat) (ops:List Oper) (nk:Nat) (tm:List (Nat×AV)) (σ:dw) (o:Oper) (bp:Option oa):Option Rec :=
 match TT nt o.dst with
 | false=>none
 | true=>match o.guard with
  | none=>(xU P nk σ o.op (xS tm) bp).map fun r=>⟨r.Hm,o.dst,r.val,r.KY,r.ml⟩
  | some (j,want)=>match PE ops j with
   | none=>none
   | some d=>match YF bp with
    | 0=>match um (ee tm d) want,xU P nk σ o.op (xS tm) bp with
     | some g,some r=>match r.ml with
      | []=>some ⟨under g r.Hm,o.dst,.when g r.val,r.KY,[]⟩
      | _ :: _=>none
     | _,_=>none
    | 1=>match um (ee tm d) want,xU P nk σ o.op (xS tm) bp with
     | some g,some r=>some ⟨(g=true) :: r.Hm,o.dst,r.val,r.KY,r.ml⟩
     | _,_=>none
    | _=>match um (ee tm d) want with
     | some g=>some ⟨[g=false],o.dst,.when g (YG bp),[],[]⟩
     | none=>none
def Dk (tm:List (Nat×AV)) (d:Option Nat) (x:AV):List (Nat×AV) :=
 match d with
 | none=>tm
 | some d=>(d,x) :: tm
def qq:List (Nat×oa)→Nat→Option oa
 | [],_=>none
 | (k,o) :: r,n=>match Nat.beq k n with
  | true=>some o
  | false=>qq r n
def r7 (P:Program) (nt:Nat) (ops:List Oper) (nk:Nat) (orcs:List (Nat×oa)):List Oper→Nat→List (Nat×AV)→dw→Option (List Rec)
 | [],_,_,_=>some []
 | o :: r,i,tm,σ=>match zR P nt ops (nk+16 * i) tm σ o (qq orcs i) with
  | none=>none
  | some x=>(r7 P nt ops nk orcs r (i+1) (Dk tm x.dst x.val) (fA σ x.ml)).map fun l=>x :: l
def Dl:List Rec→List (Nat×AV)→List (Nat×AV)
 | [],tm=>tm
 | x :: r,tm=>Dl r (Dk tm x.dst x.val)
def xV:List Rec→dw→dw
 | [],σ=>σ
 | x :: r,σ=>xV r (fA σ x.ml)
def E3:List Rec→List Prop
 | []=>[]
 | x :: r=>x.Hm ++ E3 r
def OH (E:Env) (st:St) (tm:Array Value) (w:World):Prop :=
 ∃ S μ,Good E st.oh S μ w∧(∀ k,st.nk≤k→μ k=none)∧E.m0≤st.nk∧∀ t,aq w S μ (tm.getD t undef) (ee st.tm t)
theorem o7 {tm:List (Nat×AV)} {d:Option Nat} {x:AV} (t:Nat):ee (Dk tm d x) t=if d=some t then x else ee tm t:=by
 cases d with
 | none=>simp [Dk]
 | some d =>
  simp only [Dk,ee,az]
  by_cases h:d=t
  ·rw [rK h,if_pos h]
  ·rw [oZ h,if_neg h]
theorem MC (a:Act) (d:Option Nat) (v:Value) (t:Nat) (h:∀ n,d=some n→n < a.tmps.size):(a.put d v).tmps.getD t undef=if d=some t then v else a.tmps.getD t undef:=by
 cases d with
 | none=>simp [Act.put]
 | some d =>
  simp only [Act.put,az]
  have hd:=h d rfl
  by_cases ht:d=t
  ·simp_all
  simp_all
theorem JY (a:Act) (d:Option Nat) (v:Value):(a.put d v).tmps.size=a.tmps.size:=by cases d<;>simp [Act.put]
theorem Dm (a:Act) (d:Option Nat) (v:Value):(a.put d v).defers=a.defers:=by cases d<;>simp [Act.put]
theorem A8 {w:World} {S:Nat→Prop} {μ:Mu} {a:Act} {tm:List (Nat×AV)} (h:∀ t,aq w S μ (a.tmps.getD t undef) (ee tm t)) (x:Operand):aq w S μ (a.eval x) (xS tm x):=by
 cases x with
 | tmp t=>exact h t
 | const v=>exact He w S μ v
 | global g=>exact .atom _
 | func f=>exact .fn (by simp) (by simp) (fun j c v hc=>by simp at hc) (fun j c v hc=>by simp at hc)
def E4:Value→Option Bool
 | .bool b=>some b
 | _=>none
theorem JZ {w:World} {S:Nat→Prop} {μ:Mu} {v:Value} {x:AV} (h:aq w S μ v x):∀ {want g:Bool},um x want=some g→(E4 v == some want)=g:=by
 induction h with
 | atom v =>
  intro want g hg
  cases v with
  | bool b =>
   simp only [um,az] at hg
   subst hg
   cases b<;>cases want<;>rfl
  | _=>simp [um] at hg
 | @when μ b v x h1 hu ih =>
  intro want g hg
  simp only [um,aL] at hg
  obtain ⟨g',hg',rfl⟩:=hg
  cases b with
  | true=>simpa using ih rfl hg'
  | false =>
   rw [hu rfl]
   simp [undef,E4]
 | _=>grind [um]
section
variable {P:Program} {E:Env} {σ:dw} {S:Nat→Prop} {μ:Mu} {w:World}
def FW (rd:Option Nat):Fence:={ Fence.wide with round:=rd }
theorem Sf {rd:Option Nat} {o:Oper} {a:Act} {next:Act→World→Prop} {Q:Exit→Act→World→Prop} {r:Result Next} (h:o.upon P a next Q r):o.uponIn (FW rd) 0 P a next Q r:=by
 cases r with
 | ok x w' =>
  cases x with
  | value v=>exact h
  | skip=>exact h
  | defer d=>exact h
  | enter f args=>exact ⟨fun hh=>by simp [FW,Fence.wide] at hh,(callsIn_wide (n:=0)).2 h⟩
  | row row args=>exact ⟨fun hh=>by simp [FW,Fence.wide] at hh,fun c cs _=>let ⟨v,w',q1,q2⟩:=h c cs;⟨v,w',q1,stepsIn_wide.2 q2⟩⟩
  | _=>exact h.elim
 | halt x w' =>
  cases x with
  | panic v=>exact h
  | _=>exact h.elim
def XV (P:Program) (E:Env) (y:YC):Prop:=∀ (w:World) (S:Nat→Prop) (μ:Mu) (σ:dw) (vs:Array Value),Good E σ S μ w→RL w S μ vs y.as→au σ y.k=some y.o →
 YieldAt Fence.wide 0 P y.l vs w fun e w'=>e=.returned (.bool true)∧∃ S',Ext w S μ w' S' μ∧Good E (sset σ y.k y.o') S' μ w'
def J0 (P:Program) (E:Env) (bp:Option oa):Prop:=(∀ x,bp=some x→x.xi=true→∀ b,¬ E.fp b)∧∀ x y,bp=some x→x.y=some y→XV P E y
theorem J1 {rd:Option Nat} {o:Oper} {a:Act} {e:Operand→AV} {y:YC} {r:R} {next:Act→World→Prop} {Q:Exit→Act→World→Prop}
  (he:∀ x∈o.op.operands.toList,aq w S μ (a.eval x) (e x)) (g:Good E σ S μ w) {nk:Nat} (hy:XV P E y) (h:A7 σ o.op e y=some r) (hp:bj r.Hm)
  (hK:Pu E nk σ S μ w r fun v w'=>next (a.put o.dst v) w'):o.wpIn (FW rd) 0 P a w next Q:=by
 obtain ⟨dst,op,ty,pos,after,guard⟩:=o
 unfold A7 at h
 simp only at h he
 split at h
 case h_2=>cases h
 rename_i f args Hv
 split at h
 case h_2=>cases h
 rename_i l vs ws o1 YU wV
 simp only [az] at h
 subst h
 obtain ⟨⟨rfl,rfl,rfl,has,rfl⟩,hc⟩:=hp
 have WA:=yS hc
 have mem:∀ x,x∈f :: args.toList→x∈(Op.call ⟨.value f,args,Hv⟩).operands.toList:=by
  intro x hx
  simp only [Op.operands,Call.operands] at *
  simpa using hx
 have hs:∀ x,x∈f :: args.toList→aq w S μ (a.eval x) ((e x).strip.1):=fun x hx=>(he x (mem x hx)).strip (WA x hx)
 have hf:=hs f (by simp)
 rw [YU] at hf
 have hf:=cY hf
 have XS:RL w S μ (args.map a.eval) y.as:=by
  rw [← has]
  refine ⟨by simp,fun j c v hc hv=>?_⟩
  simp only [List.getElem?_map,aL,Array.getElem?_map] at hc hv
  obtain ⟨x,hx,rfl⟩:=hc
  obtain ⟨x',wT,rfl⟩:=hv
  rw [← Array.getElem?_toList,hx] at wT
  cases wT
  exact hs x (List.mem_cons_of_mem _ (List.mem_of_getElem? hx))
 obtain ⟨fn,tmps,assign,body,lG,UP⟩:=hy w S μ σ _ g XS wV
 refine ⟨fun _ _=>trivial,?_⟩
 have ex:(Oper.semAt (FW rd).round a.eval ⟨dst,.call ⟨.value f,args,Hv⟩,ty,pos,after,guard⟩).run P w=.ok (.round y.l fn tmps assign body) w:=by
  rw [Oper.semAt_eq _ _ _ (fun c=>by simp)]
  have:execOp a.eval ⟨dst,.call ⟨.value f,args,Hv⟩,ty,pos,after,guard⟩=(do let d ← Deferred.ofValue (a.eval f) (args.map a.eval);invoke d.target d.args:Sem Next):=rfl
  rw [this,hf]
  simpa [Deferred.ofValue,invoke] using lG
 rw [ex]
 refine ⟨fun hh=>by simp [FW,Fence.wide] at hh,RoundIn.mono (F:=Fence.wide) UP ?_⟩
 rintro e' w' ⟨rfl,S',hx,hg⟩
 exact hK _ w' S' μ hx (by simpa [fA] using hg) (fun _ _ h=>h) (.atom _)
theorem Co {rd:Option Nat} {o:Oper} {a:Act} {e:Operand→AV} {bp:Option oa} {r:R} {nk:Nat} {next:Act→World→Prop} {Q:Exit→Act→World→Prop}
  (he:∀ x∈o.op.operands.toList,aq w S μ (a.eval x) (e x)) (g:Good E σ S μ w) (z7:∀ j,j < 16→μ (nk+j)=none) (hm:E.m0≤nk)
  (hz:J0 P E bp) (h:xU P nk σ o.op e bp=some r) (hp:bj r.Hm) (hK:Pu E nk σ S μ w r fun v w'=>next (a.put o.dst v) w'):o.wpIn (FW rd) 0 P a w next Q:=by
 unfold xU at h
 split at h
 ·rename_i y hy
  have:∃ x,bp=some x∧x.y=some y:=by
   cases bp with
   | none=>cases hy
   | some x=>exact ⟨x,rfl,hy⟩
  obtain ⟨x,h1,h2⟩:=this
  exact J1 (nk:=nk) he g (hz.2 x y h1 h2) h hp hK
 ·refine ⟨fun _ _=>trivial,?_⟩
  have hd:∀ c,o.op≠.defer c:=fun c hc=>by grind [zQ,Li,xT,dZ]
  rw [Oper.semAt_eq _ _ _ hd]
  exact Sf (NQ he g z7 hm hz.1 h hp hK)
theorem HC {rd:Option Nat} {nt nk:Nat} {ops:Array Oper} {i:Nat} {o:Oper} {a:Act} {tm:List (Nat×AV)} {bp:Option oa} {x:Rec} {K:Act→World→Prop} {Q:Exit→Act→World→Prop}
  (hi:ops[i]?=some o) (ht:∀ t,aq w S μ (a.tmps.getD t undef) (ee tm t)) (g:Good E σ S μ w) (hk:∀ j,j < 16→μ (nk+j)=none) (hm:E.m0≤nk)
  (hz:J0 P E bp) (h:zR P nt ops.toList nk tm σ o bp=some x) (hp:bj x.Hm)
  (hK:∀ v w' S' dn,Ext w S μ w' S' dn→Good E (fA σ x.ml) S' dn w'→(∀ k,(k < nk∨nk+16≤k)→μ k=none→dn k=none)→aq w' S' dn v x.val→K (a.put x.dst v) w') :
  wpOpIn (FW rd) 0 P ops Q i K a w:=by
 unfold zR at h
 split at h
 ·cases h
 ·split at h
  ·rename_i XW
   simp only [aL] at h
   obtain ⟨r,h1,rfl⟩:=h
   unfold wpOpIn
   rw [hi]
   simp only [Region.wanted,XW,if_true]
   exact Co (fun x _=>A8 ht x) g hk hm hz h1 hp hK
  ·rename_i j want XW
   split at h
   ·cases h
   ·rename_i d hd
    have UQ:∀ gb,um (ee tm d) want=some gb→Region.wanted o (yielded ops a.tmps)=gb:=fun gb hg=>by
     have hy:yielded ops a.tmps j=E4 (a.tmps.getD d undef):=by
      unfold yielded
      unfold PE at hd
      have VT:(ops[j]?).bind (·.dst)=some d:=by simpa using hd
      rw [VT]
      simp only [ct,uc]
      cases a.tmps[d]? with
      | none=>simp [undef,E4]
      | some v=>cases v<;>simp [E4]
     grind [Region.wanted,JZ]
    split at h
    rotate_left
    ·split at h
     ·rename_i gb r hg h1
      cases h
      unfold wpOpIn
      rw [hi]
      have hw:=UQ gb hg
      obtain ⟨YV,xC⟩:=hp
      subst YV
      simp only [hw,if_true]
      exact Co (fun x _=>A8 ht x) g hk hm hz h1 xC hK
     ·cases h
    ·split at h
     ·rename_i gb hg
      cases h
      unfold wpOpIn
      rw [hi]
      have hw:=UQ gb hg
      obtain ⟨YV,-⟩:=hp
      subst YV
      simp only [hw,Bool.false_eq_true,if_false]
      refine ⟨fun _ _=>trivial,?_⟩
      exact hK undef w S μ (Ext.refl _ _ _) g (fun _ _ h=>h) (.when (fun h=>by cases h) (fun _=>rfl))
     ·cases h
    split at h
    ·rename_i gb r hg h1
     split at h
     ·rename_i hu
      cases h
      unfold wpOpIn
      rw [hi]
      have hw:Region.wanted o (yielded ops a.tmps)=gb:=UQ gb hg
      simp only [hw]
      cases gb with
      | true =>
       simp only [if_true]
       have sw:bj r.Hm:=by
        cases hr:r.Hm with
        | nil=>trivial
        | cons p ps =>
         rw [hr] at hp
         exact hp.1 rfl
       refine Co (fun x _=>A8 ht x) g hk hm hz h1 sw ?_
       intro v w' S' dn q1 q2 q3 q4
       rw [hu] at q2
       exact hK v w' S' dn q1 q2 q3 (.when (fun _=>q4) (fun h=>by cases h))
      | false =>
       simp only [Bool.false_eq_true,if_false]
       refine ⟨fun _ _=>trivial,?_⟩
       exact hK undef w S μ (Ext.refl _ _ _) g (fun _ _ h=>h) (.when (fun h=>by cases h) (fun _=>rfl))
     ·cases h
    ·cases h
theorem HD {nt nk:Nat} {ops:List Oper} {tm:List (Nat×AV)} {o:Oper} {bp:Option oa} {x:Rec} (h:zR P nt ops nk tm σ o bp=some x):x.dst=o.dst∧∀ n,o.dst=some n→n < nt:=by
 unfold zR at h
 split at h
 ·cases h
 ·rename_i hd
  have h2:∀ n,o.dst=some n→n < nt:=fun n hn=>by
   rw [hn] at hd;simp only [TT,Nat.blt,Nat.ble_eq] at hd;exact hd
  split at h
  ·simp only [aL] at h
   grind
  grind
theorem HE {rd:Option Nat} {ds:List Deferred} {nt nk:Nat} {ops:Array Oper} {orcs:List (Nat×oa)} (hz:∀ i,J0 P E (qq orcs i)) (hm:E.m0≤nk) {Q:Exit→Act→World→Prop}:∀ (l:List Oper) (i:Nat) (a:Act) (w:World) (tm:List (Nat×AV)) (σ:dw) (S:Nat→Prop) (μ:Mu) (db:List Rec),
  ops.toList.drop i=l→i+l.length=ops.size→a.tmps.size=nt→a.defers=ds→Good E σ S μ w→(∀ k,nk+16 * i≤k→μ k=none)→(∀ t,aq w S μ (a.tmps.getD t undef) (ee tm t)) →
  r7 P nt ops.toList nk orcs l i tm σ=some db→bj (E3 db) →
  (∀ a' w' S' dn,a'.tmps.size=nt→a'.defers=ds→Good E (xV db σ) S' dn w'→(∀ k,nk+16 * ops.size≤k→dn k=none)→(∀ t,aq w' S' dn (a'.tmps.getD t undef) (ee (Dl db tm) t))→Q .normal a' w') →
  wpOpsIn (FW rd) 0 P ops Q (List.range' i l.length) a w
 | [],i,a,w,tm,σ,S,μ,db,hl,KZ,hs,Ru,g,hk,ht,h,hp,hQ=>by
  simp only [r7,az] at h
  subst h
  simp only [List.length_nil,List.range'_zero,wpOpsIn]
  refine hQ a w S μ hs Ru g (fun k oQ=>hk k (by simp at KZ;omega)) ht
 | o :: r,i,a,w,tm,σ,S,μ,db,hl,KZ,hs,Ru,g,hk,ht,h,hp,hQ=>by
  simp only [r7] at h
  split at h
  ·cases h
  ·rename_i x hx
   simp only [aL] at h
   obtain ⟨l',h2,rfl⟩:=h
   obtain ⟨p1,p2⟩:=bj.app hp
   have hi:ops[i]?=some o:=by
    have:(ops.toList.drop i)[0]?=some o:=by rw [hl];rfl
    rw [oE] at this
    simpa using this
   have hl2:ops.toList.drop (i+1)=r:=by
    rw [← List.tail_drop,hl];rfl
   obtain ⟨d1,d2⟩:=HD hx
   simp only [yH,List.range'_succ]
   rw [wpOpsIn_cons]
   refine HC hi ht g (fun j hj=>hk _ (by omega)) (by omega) (hz i) hx p1 ?_
   intro v w' S' dn q1 q2 q3 q4
   refine HE hz hm r (i+1) _ w' _ _ S' dn l' hl2 (by simp at KZ;omega) (by rw [JY];exact hs) (by rw [Dm];exact Ru) q2 (fun k oQ=>q3 k (by omega) (hk k (by omega))) ?_ h2 p2 hQ
   intro t
   rw [MC a x.dst v t (fun n hn=>by rw [hs];exact d2 n (d1 ▸ hn)),o7]
   split
   ·exact q4
   ·exact (ht t).ext q1
end
end Go.Ab
namespace Go.Ab
def jI (u:rO):List Nat:=u.map (·.1)
section
variable {P:Program} {nk:Nat} {σ eS:dw}
theorem jR {e e':Operand→AV}:∀ {xs:List Operand},(∀ x∈xs,e' x=e x)→conds e' xs=conds e xs
 | [],_=>rfl
 | x :: r,h=>by simp only [conds];rw [h x (by simp),jR fun y hy=>h y (by simp [hy])]
theorem PF {op:Op} {e e':Operand→AV} {bp:Option oa} (he:∀ x∈op.operands.toList,e' x=e x):dZ P nk σ op e' bp=dZ P nk σ op e bp:=by
 cases op with
 | move x=>grind [dZ,Op.operands]
 | assign x=>grind [dZ,Op.operands]
 | pick q a b=>grind [dZ,Op.operands]
 | alloc T=>rfl
 | box T x=>grind [dZ,conds,Op.operands]
 | build t parts =>
  simp only [dZ]
  have h1:∀ x∈parts.toList.map (·.2),e' x=e x:=fun x hx=>he x (by grind [Op.operands])
  rw [jR h1]
  congr 2
  apply List.map_congr_left
  grind
 | buildSlice t len parts =>
  simp only [dZ]
  have h1:∀ x∈parts.toList.map (·.2),e' x=e x:=fun x hx=>he x (by grind [Op.operands])
  rw [jR h1]
  have h2:(parts.toList.map fun p=>(p.1,(e' p.2).strip.1))=(parts.toList.map fun p=>(p.1,(e p.2).strip.1)):=by
   apply List.map_congr_left
   intro p hp
   grind
  rw [h2]
 | load T x=>grind [dZ,conds,Op.operands]
 | store T x y=>grind [dZ,conds,Op.operands]
 | nilCheck x=>grind [dZ,conds,Op.operands]
 | binOp o t x y yt=>grind [dZ,conds,Op.operands]
 | unOp o t x=>grind [dZ,conds,Op.operands]
 | convert s d x=>grind [dZ,conds,Op.operands]
 | makeMap t r=>cases r<;>simp [dZ]
 | lookup t m x ok=>simp_all [dZ,conds,Op.operands]
 | mapUpdate t m x y=>simp_all [dZ,conds,Op.operands]
 | insert t m x y=>simp_all [dZ,conds,Op.operands]
 | makeFunc f first cap =>
  simp only [dZ]
  have h1:∀ x∈first.toList ++ cap.toList,e' x=e x:=fun x hx=>he x (by simpa [Op.operands] using hx)
  rw [jR h1]
  congr 3
  ·apply List.map_congr_left;intro x hx;rw [h1 x (by simp only [List.mem_append];exact .inl hx)]
  ·apply List.map_congr_left;intro x hx;rw [h1 x (by simp only [List.mem_append];exact .inr hx)]
 | makeSlice t x y=>grind [dZ,conds,Op.operands]
 | slice t x lo hi mx =>
  cases mx with
  | some _=>simp [dZ]
  | none =>
   simp only [dZ]
   have h1:∀ y∈x :: (lo.toList ++ hi.toList),e' y=e y:=fun y hy=>he y (by
    simp only [kL,List.mem_append,Option.mem_toList] at hy
    simp only [Op.operands]
    simp_all)
   rw [jR h1,h1 x (by simp)]
   have h2:(lo.map fun x=>(e' x).strip.1)=lo.map fun x=>(e x).strip.1:=by
    cases lo with
    | none=>rfl
    | some y=>simp [h1 y (by simp)]
   have h3:(hi.map fun x=>(e' x).strip.1)=hi.map fun x=>(e x).strip.1:=by
    cases hi with
    | none=>rfl
    | some y=>simp [h1 y (by simp)]
   rw [h2,h3]
 | fieldAddr T x f=>grind [dZ,conds,Op.operands]
 | field T x f=>grind [dZ,conds,Op.operands]
 | indexAddr T x i=>grind [dZ,conds,Op.operands]
 | index T x i=>grind [dZ,conds,Op.operands]
 | extract x i=>grind [dZ,conds,Op.operands]
 | call c =>
  obtain ⟨callee,args,argTypes⟩:=c
  cases callee with
  | invoke=>simp [dZ]
  | value f =>
   simp only [dZ]
   have h1:∀ x∈f :: args.toList,e' x=e x:=fun x hx=>he x (by simpa [Op.operands,Call.operands] using hx)
   rw [jR h1,h1 f (by simp)]
   have h2:(args.toList.map fun x=>(e' x).strip.1)=args.toList.map fun x=>(e x).strip.1:=by
    apply List.map_congr_left;intro x hx;rw [h1 x (by simp [hx])]
   rw [h2]
  | builtin b =>
   simp only [dZ]
   have h1:∀ x∈args.toList,e' x=e x:=fun x hx=>he x (by grind [Op.operands,Call.operands])
   unfold yR
   split
   ·grind [conds]
   ·grind [conds]
   ·rename_i x r ha
    rw [ha] at h1
    dsimp only
    rw [jR h1,h1 x (by simp)]
    have h2:(r.map fun x=>(e' x).strip.1)=r.map fun x=>(e x).strip.1:=by
     apply List.map_congr_left;intro y hy;rw [h1 y (by simp [hy])]
    rw [h2]
   ·rename_i x r ha
    rw [ha] at h1
    dsimp only
    rw [jR h1,h1 x (by simp)]
    have h2:(r.map fun x=>(e' x).strip.1)=r.map fun x=>(e x).strip.1:=by
     apply List.map_congr_left;intro y hy;rw [h1 y (by simp [hy])]
    rw [h2]
   ·rfl
 | _=>simp [dZ]
theorem PG {T:TypeId} {a:AV} {ps:List Prop} {x:AV} {rd:List Nat} (h:xI P σ T a=some (ps,x,rd)) (hs:∀ k∈rd,au eS k=au σ k):xI P eS T a=some (ps,x,rd):=by
 unfold xI at h ⊢
 split at h
 ·split at h
  ·rename_i k i j
   split at h
   ·rename_i o ho
    simp only [aL,ay] at h
    grind
   ·cases h
  ·exact h
  ·grind
  ·cases h
 ·cases h
theorem Lj {T:TypeId} {a x:AV} {ps:List Prop} {u:rO} {rd:List Nat} (h:og P σ T a x=some (ps,u,rd)) (hs:∀ k∈rd,au eS k=au σ k):og P eS T a x=some (ps,u,rd):=by
 unfold og at h ⊢
 grind
theorem NR {T:TypeId} {a x:AV} {ps:List Prop} {u:rO} {rd:List Nat} (h:yI P σ T a x=some (ps,u,rd)) (hs:∀ k∈rd,au eS k=au σ k):yI P eS T a x=some (ps,u,rd):=by
 unfold yI at h ⊢
 split at h
 ·grind
 ·exact Lj h hs
theorem GL {T:TypeId} {x i:AV} {ps:List Prop} {v:AV} {rd:List Nat} (h:o6 P σ T x i=some (ps,v,rd)) (hs:∀ k∈rd,au eS k=au σ k):o6 P eS T x i=some (ps,v,rd):=by
 unfold o6 at h ⊢
 split at h
 ·split at h
  ·grind
  ·cases h
 ·omega
 ·cases h
theorem NS {T:TypeId} {x:AV} {lo hi:Option AV} {ps:List Prop} {v:AV} {rd:List Nat} (h:yJ P σ T x lo hi=some (ps,v,rd)) (hs:∀ k∈rd,au eS k=au σ k):yJ P eS T x lo hi=some (ps,v,rd):=by
 unfold yJ at h ⊢
 split at h
 ·exact h
 ·split at h
  ·grind
  ·cases h
 ·cases h
theorem A9 {sz:Nat} {x:AV} {n:Nat} {g:Nat→List AV} {pr:Bool} {ps:List Prop} {rd:List Nat} (h:uN σ sz x=some (n,g,pr,ps,rd)) (hs:∀ k∈rd,au eS k=au σ k):uN eS sz x=some (n,g,pr,ps,rd):=by
 unfold uN at h ⊢
 grind
theorem NT {src dst:TypeId} {x:AV} {ps:List Prop} {v:AV} {rd:List Nat} (h:yN P σ src dst x=some (ps,v,rd)) (hs:∀ k∈rd,au eS k=au σ k):yN P eS src dst x=some (ps,v,rd):=by
 unfold yN at h ⊢
 split at h
 ·exact h
 ·split at h
  ·rename_i n gt pr qs Mn he uO
   simp only [az,ay] at h
   obtain ⟨rfl,rfl,rfl⟩:=h
   rw [A9 uO hs,he]
  ·cases h
 ·cases h
theorem E5 {t:TypeId} {s x:AV} {ps:List Prop} {v:AV} {rd:List Nat} {u:rO} (h:qP P nk σ t s x=some (ps,v,rd,u)) (hs:∀ k∈rd,au eS k=au σ k):qP P nk eS t s x=some (ps,v,rd,u):=by
 unfold qP at h ⊢
 split at h
 ·split at h
  ·rename_i sz b z h1 h2 h3
   split at h
   ·rename_i n g pr O6 Mn hb uO
    split at h
    ·have Rv:rd=Mn:=by simp only [az,ay] at h;exact h.2.2.1.symm
     rw [A9 uO (fun k hk=>hs k (Rv ▸ hk))]
     simp only [hb]
     exact h
    ·rename_i k len
     split at h
     ·rename_i o ho
      split at h
      ·rename_i Jo
       have Rv:rd=k :: Mn:=by simp only [az,ay] at h;exact h.2.2.1.symm
       rw [A9 uO (fun k hk=>hs k (by rw [Rv];simp [hk]))]
       simp only [hb,hs k (by simp [Rv]),ho,Jo]
       exact h
      ·cases h
     ·cases h
    ·cases h
   ·cases h
  ·cases h
 ·cases h
mutual
theorem PH {ks:List Nat}:∀ (x y:AV) (bs:List Nat) (ps:List Prop),x.gp σ ks=some (y,bs,ps)→(∀ k∈bs,au eS k=au σ k)→x.gp eS ks=some (y,bs,ps)
 | .op k i j,y,bs,ps,h,_=>by simpa [AV.gp] using h
 | .mp k,y,bs,ps,h,_=>by simpa [AV.gp] using h
 | .ov _ _ _ _ _,y,bs,ps,h,_=>by simp [AV.gp] at h
 | .B4 _ _ _,y,bs,ps,h,_=>by simp [AV.gp] at h
 | .nq _ _,y,bs,ps,h,_=>by simp [AV.gp] at h
 | .bn _,y,bs,ps,h,_=>by simpa [AV.gp] using h
 | .pt _ _,y,bs,ps,h,_=>by simpa [AV.gp] using h
 | .os k off len,y,bs,ps,h,hs=>by
  simp only [AV.gp] at h ⊢
  split at h
  ·rename_i n hn;exact h
  ·rename_i hn
   split at h
   ·rename_i o ho
    split at h
    ·rename_i hp
     have hb:bs=[k]:=by simp only [az,ay] at h;exact h.2.1.symm
     simp only [hs k (by simp [hb]),ho,hp]
     exact h
    ·cases h
   ·cases h
 | .agg cs,y,bs,ps,h,hs=>by
  simp only [AV.gp,aL] at h ⊢
  obtain ⟨⟨a,b,c⟩,h,e⟩:=h
  simp only [ay] at e
  obtain ⟨rfl,rfl,rfl⟩:=e
  exact ⟨(a,b,c),sD cs a b c h hs,rfl⟩
 | .tup cs,y,bs,ps,h,hs=>by
  simp only [AV.gp,aL] at h ⊢
  obtain ⟨⟨a,b,c⟩,h,e⟩:=h
  simp only [ay] at e
  obtain ⟨rfl,rfl,rfl⟩:=e
  exact ⟨(a,b,c),sD cs a b c h hs,rfl⟩
 | .fn g x z,y,bs,ps,h,hs=>by
  simp only [AV.gp] at h ⊢
  split at h
  ·rename_i a b c a' b' c' e1 e2
   simp only [az,ay] at h
   obtain ⟨rfl,rfl,rfl⟩:=h
   rw [sD x a b c e1 (fun k hk=>hs k (by simp [hk])),sD z a' b' c' e2 (fun k hk=>hs k (by simp [hk]))]
  ·cases h
 | .when _ _,y,bs,ps,h,_=>by simp [AV.gp] at h
 | .mr _ _ _,y,bs,ps,h,_=>by simp [AV.gp] at h
 | .atom _,y,bs,ps,h,_=>by simpa [AV.gp] using h
 | .sl _ _,y,bs,ps,h,_=>by simpa [AV.gp] using h
 | .rp _ _,y,bs,ps,h,_=>by simpa [AV.gp] using h
 | .nil,y,bs,ps,h,_=>by simpa [AV.gp] using h
 | .m9,y,bs,ps,h,_=>by simpa [AV.gp] using h
theorem sD {ks:List Nat}:∀ (xs ys:List AV) (bs:List Nat) (ps:List Prop),AV.qk σ ks xs=some (ys,bs,ps)→(∀ k∈bs,au eS k=au σ k)→AV.qk eS ks xs=some (ys,bs,ps)
 | [],ys,bs,ps,h,_=>by simpa [AV.qk] using h
 | c :: cs,ys,bs,ps,h,hs=>by
  simp only [AV.qk] at h ⊢
  split at h
  ·rename_i a b p a' b' p' e1 e2
   simp only [az,ay] at h
   obtain ⟨rfl,rfl,rfl⟩:=h
   rw [PH c a b p e1 (fun k hk=>hs k (by simp [hk])),sD cs a' b' p' e2 (fun k hk=>hs k (by simp [hk]))]
  ·cases h
end
theorem HF {ks:List Nat}:∀ (l:List Nat) (i:Nat),(∀ k∈l,au eS k=au σ k)→canon eS ks i l=canon σ ks i l
 | [],i,_=>rfl
 | k :: r,i,h=>by simp only [canon];rw [h k (by simp),HF r (i+1) fun k hk=>h k (by simp [hk])]
theorem z9 {ks:List Nat} {lone:Bool}:∀ (l:List Nat),(∀ k∈l,au eS k=au σ k)→xP eS ks lone l=xP σ ks lone l
 | [],_=>rfl
 | k :: r,h=>by simp only [xP];rw [h k (by simp),z9 r fun k hk=>h k (by simp [hk])]
theorem PJ {f:AV} {args:List AV} {bp:oa} {r:R} (h:EU P nk σ f args bp=some r) (hs:∀ k∈r.KY,au eS k=au σ k):EU P nk eS f args bp=some r:=by
 unfold EU El at h ⊢
 split at h
 case h_2=>cases h
 rename_i gid first cap
 split at h
 case h_2=>cases h
 rename_i as bs ps uh h1 h2 h3
 split at h
 case h_2=>cases h
 rename_i h4
 have hr:r.KY=bp.ks ++ bs:=by
  split at h
  ·split at h
   ·split at h
    ·cases h;rfl
    ·cases h
   ·split at h
    ·cases h;rfl
    ·cases h
  ·split at h
   ·cases h;rfl
   ·cases h
 rw [hr] at hs
 simp only [h1,sD _ _ _ _ h2 (fun k hk=>hs k (by simp [hk])),HF bp.ks 0 (fun k hk=>hs k (by simp [hk])),z9 (ks:=bp.ks) (lone:=bs.isEmpty || bp.xi) bp.ks (fun k hk=>hs k (by simp [hk])),z9 (ks:=bp.ks) (lone:=true) bp.ks (fun k hk=>hs k (by simp [hk])),h3,h4]
 exact h
theorem Lk {t:TypeId} {m x:AV} {ok:Bool} {bp:oa} {ps:List Prop} {v:AV} {rd:List Nat} (h:uS P σ t m x ok bp=some (ps,v,rd)) (hs:∀ k∈rd,au eS k=au σ k):uS P eS t m x ok bp=some (ps,v,rd):=by
 unfold uS at h ⊢
 grind
theorem E6 {t:TypeId} {m x y:AV} {bp:oa} {ps:List Prop} {u:rO} {rd:List Nat} (h:uT P σ t m x y bp=some (ps,u,rd)) (hs:∀ k∈rd,au eS k=au σ k):uT P eS t m x y bp=some (ps,u,rd):=by
 unfold uT at h ⊢
 grind
theorem J2 {op:Op} {e:Operand→AV} {bp:Option oa} {r:R} (h:dZ P nk σ op e bp=some r) (hs:∀ k∈r.KY,au eS k=au σ k):dZ P nk eS op e bp=some r:=by
 cases op with
 | load T x =>
  simp only [dZ,aL] at h ⊢
  obtain ⟨⟨ps,v,rd⟩,h1,rfl⟩:=h
  exact ⟨_,PG h1 hs,rfl⟩
 | store T x y =>
  simp only [dZ,aL] at h ⊢
  obtain ⟨⟨ps,v,rd⟩,h1,rfl⟩:=h
  exact ⟨_,NR h1 hs,rfl⟩
 | indexAddr T x i =>
  simp only [dZ,aL] at h ⊢
  obtain ⟨⟨ps,v,rd⟩,h1,rfl⟩:=h
  exact ⟨_,GL h1 hs,rfl⟩
 | slice t x lo hi mx =>
  cases mx with
  | some _=>simp [dZ] at h
  | none =>
   simp only [dZ,aL] at h ⊢
   obtain ⟨⟨ps,v,rd⟩,h1,rfl⟩:=h
   exact ⟨_,NS h1 hs,rfl⟩
 | convert src dst x =>
  simp only [dZ] at h ⊢
  split at h
  ·omega
  ·rename_i h0
   simp only [aL] at h ⊢
   obtain ⟨⟨ps,v,rd⟩,h1,rfl⟩:=h
   exact ⟨_,NT h1 hs,rfl⟩
 | makeMap t r=>cases r with
  | none=>exact h
  | some _=>simp [dZ] at h
 | lookup t m x ok =>
  simp only [dZ] at h ⊢
  split at h
  ·simp only [aL] at h ⊢
   obtain ⟨⟨ps,v,rd⟩,h1,rfl⟩:=h
   exact ⟨_,Lk h1 hs,rfl⟩
  ·cases h
 | mapUpdate t m x y =>
  simp only [dZ] at h ⊢
  split at h
  ·simp only [aL] at h ⊢
   obtain ⟨⟨ps,u,rd⟩,h1,rfl⟩:=h
   exact ⟨_,E6 h1 hs,rfl⟩
  ·cases h
 | insert t m x y =>
  simp only [dZ] at h ⊢
  split at h
  ·simp only [aL] at h ⊢
   obtain ⟨⟨ps,u,rd⟩,h1,rfl⟩:=h
   exact ⟨_,E6 h1 hs,rfl⟩
  ·cases h
 | call c =>
  obtain ⟨callee,args,argTypes⟩:=c
  cases callee with
  | invoke=>simp [dZ] at h
  | value f =>
   simp only [dZ] at h ⊢
   split at h
   ·simp only [aL] at h ⊢
    obtain ⟨r',h1,rfl⟩:=h
    exact ⟨_,PJ h1 hs,rfl⟩
   ·cases h
  | builtin b =>
   simp only [dZ] at h ⊢
   unfold yR at h ⊢
   split at h
   ·exact h
   ·split at h
    ·simp only [aL] at h ⊢
     obtain ⟨⟨ps,v,rd,u⟩,h1,rfl⟩:=h
     exact ⟨_,E5 h1 hs,rfl⟩
    ·cases h
   ·exact h
   ·exact h
   ·cases h
 | _=>exact h
theorem Sg {op:Op} {e e':Operand→AV} {bp:Option oa} (he:∀ x∈op.operands.toList,e' x=e x):xT P nk σ op e' bp=xT P nk σ op e bp:=by
 unfold xT
 split
 ·exact PF he
 ·split
  ·grind [conds,Op.operands]
  ·grind [Op.operands,Call.operands,conds]
  ·grind [Op.operands,Call.operands,conds]
  ·grind [Op.operands,Call.operands,conds]
  ·rename_i t x lo hi mx
   have h1:e' x=e x:=he x (by simp [Op.operands])
   have h2:∀ y∈lo,e' y=e y:=fun y hy=>he y (by cases hy;simp [Op.operands])
   have h3:∀ y∈hi,e' y=e y:=fun y hy=>he y (by cases hy;simp [Op.operands])
   have h4:∀ y∈mx,e' y=e y:=fun y hy=>he y (by cases hy;simp [Op.operands])
   split
   ·have e2:(lo.map fun y=>(e' y).strip.1)=lo.map fun y=>(e y).strip.1:=by
     cases lo with
     | none=>rfl
     | some y=>simp only [Option.map_some];rw [h2 y rfl]
    have e3:(hi.map fun y=>(e' y).strip.1)=hi.map fun y=>(e y).strip.1:=by
     cases hi with
     | none=>rfl
     | some y=>simp only [Option.map_some];rw [h3 y rfl]
    have e4:conds e' (x :: (lo.toList ++ hi.toList))=conds e (x :: (lo.toList ++ hi.toList)):=jR fun y hy=>by
     simp only [kL,List.mem_append,Option.mem_toList] at hy
     rcases hy with rfl | hy | hy
     ·exact h1
     ·exact h2 _ hy
     ·exact h3 _ hy
    rw [h1,e2,e3,e4]
   ·split
    ·rename_i l h
     simp only [conds];rw [h1,h2 l rfl,h3 h rfl,h4 _ rfl]
    ·rfl
  ·exact PF he
theorem NU {T:TypeId} {a x:AV} {ps:List Prop} {y:AV} {rd:List Nat} (h:yT P σ T a x=some (ps,y,rd)) (hs:∀ k∈rd,au eS k=au σ k):yT P eS T a x=some (ps,y,rd):=by
 unfold yT at h ⊢
 grind
theorem Iu:∀ (u:rO) (n:Nat),(∀ τ WB:dw,au (fA τ u) n=au (fA WB u) n)∨∀ τ:dw,au (fA τ u) n=au τ n
 | [],n=>.inr fun _=>rfl
 | (k,some o) :: u,n=>by
  simp only [fA]
  rcases Iu u n with h | h
  ·grind
  ·by_cases hk:k=n
   ·simp_all [ba,if_pos]
   simp_all [ba,if_neg]
 | (k,none) :: u,n=>by
  simp only [fA]
  rcases Iu u n with h | h
  ·grind
  ·by_cases hk:k=n
   ·simp_all [fO,if_pos]
   simp_all [fO,if_neg]
theorem Sh {τ WB:dw} {k q i:Nat} (h1:au WB k=au τ k) (h2:au WB q=au τ q):It WB k q i=It τ k q i:=by
 unfold It;rw [h1,h2]
theorem J3 {t:TypeId} {s x:AV} {bp:oa} {ps:List Prop} {v:AV} {rd:List Nat} {u:rO} (h:sB P nk σ t s x bp=some (ps,v,rd,u)) (hs:∀ k∈rd,au eS k=au σ k):sB P nk eS t s x bp=some (ps,v,rd,u):=by
 unfold sB at h ⊢
 split at h
 case h_2=>cases h
 rename_i q p1 v' Mn u1 hq ha
 split at h
 case h_2=>cases h
 rename_i p2 u2 hb hc
 have Rv:rd=q :: Mn:=by simp only [az,ay] at h;exact h.2.2.1.symm
 have HG:=E5 ha (fun k hk=>hs k (by rw [Rv];simp [hk]))
 have Yx:au (fA eS u1) nk=au (fA σ u1) nk:=by
  have hu:∃ o,u1=[(nk,some o)]∨∃ k,u1=[(k,none),(nk,some o)]:=by
   unfold qP at ha
   split at ha
   ·split at ha
    ·grind
    ·cases ha
   ·cases ha
  obtain ⟨o,rfl | ⟨k,rfl⟩⟩:=hu<;>simp only [fA]<;>rw [ba,ba,if_pos rfl,if_pos rfl]
 have hqq:au (fA eS u1) q=au (fA σ u1) q:=by
  rcases Iu u1 q with h1 | h1
  ·exact h1 _ _
  ·simp_all
 grind [Sh]
theorem Ll {T:TypeId} {x:AV} {lo hi:Option AV} {ps:List Prop} {v:AV} {rd:List Nat} (h:uU P σ T x lo hi=some (ps,v,rd)) (hs:∀ k∈rd,au eS k=au σ k):uU P eS T x lo hi=some (ps,v,rd):=by
 unfold uU at h ⊢
 split at h
 case h_2=>cases h
 grind
theorem PK {t:TypeId} {s x:AV} {ps:List Prop} {v:AV} {rd:List Nat} {u:rO} (h:Ck P σ t s x=some (ps,v,rd,u)) (hs:∀ k∈rd,au eS k=au σ k):Ck P eS t s x=some (ps,v,rd,u):=by
 unfold Ck at h ⊢
 split at h
 case h_2=>cases h
 grind
theorem PL {t:TypeId} {s x:AV} {ps:List Prop} {v:AV} {rd:List Nat} {u:rO} (h:Cl P σ t s x=some (ps,v,rd,u)) (hs:∀ k∈rd,au eS k=au σ k):Cl P eS t s x=some (ps,v,rd,u):=by
 unfold Cl at h ⊢
 split at h
 case h_2=>cases h
 grind
theorem PM {t:TypeId} {s x:AV} {ps:List Prop} {v:AV} {rd:List Nat} {u:rO} (h:Cm P σ t s x=some (ps,v,rd,u)) (hs:∀ k∈rd,au eS k=au σ k):Cm P eS t s x=some (ps,v,rd,u):=by
 unfold Cm at h ⊢
 split at h
 case h_2=>cases h
 rename_i e he
 split at h
 case h_2=>cases h
 rename_i sz b z k off m rM hb hz
 split at h
 case h_2=>cases h
 rename_i n gt pr O6 Mn o uO ho
 split at h
 case h_2=>cases h
 rename_i Cd
 have Rv:rd=k :: Mn:=by simp only [az,ay] at h;exact h.2.2.1.symm
 rw [A9 uO (fun k hk=>hs k (by rw [Rv];simp [hk]))]
 grind
theorem PN {t:TypeId} {s x:AV} {ps:List Prop} {v:AV} {rd:List Nat} {u:rO} (h:Cn P nk σ t s x=some (ps,v,rd,u)) (hs:∀ k∈rd,au eS k=au σ k):Cn P nk eS t s x=some (ps,v,rd,u):=by
 unfold Cn at h ⊢
 split at h
 case h_2=>cases h
 rename_i e he
 split at h
 case h_2=>cases h
 rename_i sz b z k off m rM hb hz
 split at h
 case h_2=>cases h
 rename_i n gt pr O6 Mn o uO ho
 split at h
 case h_2=>cases h
 rename_i Cd
 have Rv:rd=k :: Mn:=by simp only [az,ay] at h;exact h.2.2.1.symm
 rw [A9 uO (fun k hk=>hs k (by rw [Rv];simp [hk]))]
 grind
theorem NV {t:TypeId} {x:AV} {ps:List Prop} {v:AV} {rd:List Nat} {u:rO} (h:yU P σ t x=some (ps,v,rd,u)) (hs:∀ k∈rd,au eS k=au σ k):yU P eS t x=some (ps,v,rd,u):=by
 unfold yU at h ⊢
 split at h
 case h_2=>cases h
 grind
theorem HH {op:Op} {e:Operand→AV} {bp:Option oa} {r:R} (h:xT P nk σ op e bp=some r) (hs:∀ k∈r.KY,au eS k=au σ k):xT P nk eS op e bp=some r:=by
 unfold xT at h ⊢
 split at h
 ·exact J2 h hs
 ·rename_i q h0
  split at h
  ·simp only [aL] at h ⊢
   obtain ⟨⟨ps,v,rd⟩,h1,rfl⟩:=h
   exact ⟨_,NU h1 hs,rfl⟩
  ·split at h
   ·rename_i x y t t' ha ht
    split at h
    ·rename_i hb
     simp only [aL] at h
     obtain ⟨⟨ps,v,rd,u⟩,h1,rfl⟩:=h
     simp only [ha,ht,hb,aL]
     refine ⟨⟨ps,v,rd,u⟩,?_,rfl⟩
     split at h1
     ·exact PK h1 hs
     ·exact PM h1 hs
     ·exact PN h1 hs
     ·exact J3 h1 hs
    ·cases h
   ·cases h
  ·split at h
   ·rename_i x y t t' ha ht
    simp only [aL] at h
    obtain ⟨⟨ps,v,rd,u⟩,h1,rfl⟩:=h
    simp only [ha,ht,aL]
    exact ⟨_,PL h1 hs,rfl⟩
   ·cases h
  ·split at h
   ·rename_i x t ha ht
    simp only [aL] at h
    obtain ⟨⟨ps,v,rd,u⟩,h1,rfl⟩:=h
    simp only [ha,ht,aL]
    exact ⟨_,NV h1 hs,rfl⟩
   ·cases h
  ·split at h
   ·simp only [aL] at h ⊢
    obtain ⟨⟨ps,v,rd⟩,h1,rfl⟩:=h
    exact ⟨_,Ll h1 hs,rfl⟩
   ·exact h
  ·exact J2 h hs
theorem HI {τ:dw} {e e':Operand→AV}:∀ {xs:List Operand},(∀ x∈xs,e' x=e x)→VX τ e' xs=VX τ e xs
 | [],_=>rfl
 | x :: r,h=>by simp only [VX];rw [h x (by simp),HI fun y hy=>h y (by simp [hy])]
theorem HJ:∀ {τ:dw} {ps:List Prop},Rt σ τ=some ps→(∀ k∈τ.map (·.1),au eS k=au σ k)→Rt eS τ=some ps
 | [],ps,h,_=>h
 | (k,o') :: r,ps,h,hs=>by
  simp only [Rt] at h ⊢
  split at h
  ·rename_i o qs ho hr
   rw [hs k (by simp),ho,HJ hr fun k hk=>hs k (by simp_all)]
   exact h
  ·cases h
theorem Si {op:Op} {e e':Operand→AV} {bp:Option oa} (he:∀ x∈op.operands.toList,e' x=e x):zQ P nk σ op e' bp=zQ P nk σ op e bp:=by
 simp_all [zQ,Sg,HI,TS]
theorem NW {op:Op} {e:Operand→AV} {bp:Option oa} {r:R} (h:zQ P nk σ op e bp=some r) (hs:∀ k∈r.KY,au eS k=au σ k):zQ P nk eS op e bp=some r:=by
 unfold zQ at h ⊢
 split at h
 ·exact HH h hs
 ·split at h
  ·rename_i ps r0 h1 h2
   cases h
   rw [HJ h1 fun k hk=>hs k (List.mem_append_left _ hk),HH h2 fun k hk=>by rw [mn,mn,hs k (List.mem_append_right _ hk)]]
  ·cases h
end
end Go.Ab
namespace Go.Ab
def PO (l:List Nat) (k:Nat):Bool:=l.any fun x=>Nat.beq x k
theorem E7 {l:List Nat} {k:Nat}:PO l k=true↔k∈l:=by
 simp only [PO,List.any_eq_true]
 simp
theorem PQ {a b:Nat} (h:a < b):Nat.blt a b=true:=by
 simp_all
theorem Dn {a b:Nat} (h:¬ a < b):Nat.blt a b=false:=by
 cases hb:Nat.blt a b with
 | false=>rfl
 | true=>simp only [Nat.blt,Nat.ble_eq] at hb;exact (h hb).elim
theorem PR {a b:Nat} (h:Nat.blt a b=true):a < b:=by
 simp_all
def tmpsOf:List Operand→List Nat
 | []=>[]
 | .tmp t :: r=>t :: tmpsOf r
 | _ :: r=>tmpsOf r
def E8 (ops:List Oper) (o:Oper):List Nat :=
 tmpsOf o.op.operands.toList ++ (match o.guard with
  | some (j,_)=>(PE ops j).toList
  | none=>[])
theorem Fa:∀ {l:List Operand} {t:Nat},Operand.tmp t∈l→t∈tmpsOf l
 | [],_,h=>by simp at h
 | x :: r,t,h=>by
  rcases kL.1 h with rfl | h'
  ·simp [tmpsOf]
  ·have:=Fa h'
   cases x<;>simp [tmpsOf,this]
def qD (o:Oper):List Nat:=(o.after.toList.filter (Region.binds .any ·)).map (·.on)
def HK (ops:List Oper):Nat→Nat→Nat→Bool
 | 0,_,_=>false
 | n+1,i,j=>match ops[j]? with
  | none=>false
  | some o=>(qD o).any fun e=>Nat.beq e i || HK ops n i e
def Iv:Option Nat→Option Nat→Bool
 | some a,some b=>Nat.beq a b
 | _,_=>false
def meets (l m:List Nat):Bool:=l.any fun k=>PO m k
def Fb (ops:List Oper) (o p:Oper) (x y:Rec):Bool :=
 meets x.dst.toList (E8 ops p) || meets y.dst.toList (E8 ops o) || meets (jI x.ml) (y.KY ++ jI y.ml) || meets x.KY (jI y.ml)
def Lm (ops:List Oper) (db:List Rec) (i j:Nat):Bool :=
 match ops[i]?,ops[j]?,db[i]?,db[j]? with
 | some o,some p,some x,some y=>!Iv x.dst y.dst && (!Fb ops o p x y || HK ops ops.length i j)
 | _,_,_,_=>false
def Iw (ops:List Oper) (j:Nat):Bool :=
 match ops[j]? with
 | some o=>(qD o).all fun e=>Nat.blt e j
 | none=>false
def PS (ops:List Oper) (db:List Rec):Bool :=
 (List.range ops.length).all fun j=>Iw ops j && (List.range j).all fun i=>Lm ops db i j
def GM (L:Nat→Bool):List Rec→Nat→List (Nat×AV)→List (Nat×AV)
 | [],_,tm=>tm
 | x :: r,i,tm=>GM L r (i+1) (match L i with
  | true=>Dk tm x.dst x.val
  | false=>tm)
def uV (L:Nat→Bool):List Rec→Nat→dw→dw
 | [],_,σ=>σ
 | x :: r,i,σ=>uV L r (i+1) (match L i with
  | true=>fA σ x.ml
  | false=>σ)
theorem mo:∀ (u:rO) (σ:dw) (k:Nat),au (fA σ u) k=if k∈jI u then au (fA [] u) k else au σ k
 | [],σ,k=>by simp [jI,fA]
 | (n,some o) :: r,σ,k=>by
  simp only [fA]
  rw [mo r (sset σ n o) k,mo r (sset [] n o) k,ba,ba]
  by_cases h1:k∈jI r
  ·simp [jI] at h1 ⊢;simp [h1]
  ·by_cases h2:n=k
   ·subst h2;simp [jI]
   ·have:¬ k∈jI ((n,some o) :: r):=by simp [jI] at h1 ⊢;exact ⟨fun h=>h2 h.symm,h1⟩
    rw [if_neg h1,if_neg h2,if_neg this]
 | (n,none) :: r,σ,k=>by
  simp only [fA]
  rw [mo r (uM σ n) k,mo r (uM [] n) k,fO,fO]
  by_cases h1:k∈jI r
  ·simp [jI] at h1 ⊢;simp [h1]
  ·by_cases h2:n=k
   ·subst h2;simp [jI]
   ·have:¬ k∈jI ((n,none) :: r):=by simp [jI] at h1 ⊢;exact ⟨fun h=>h2 h.symm,h1⟩
    rw [if_neg h1,if_neg h2,if_neg this]
theorem Fc {L L':Nat→Bool} {t:Nat}:∀ (db:List Rec) (i:Nat) (tm Ln:List (Nat×AV)),ee tm t=ee Ln t →
  (∀ (m:Nat) (x:Rec),db[m]?=some x→L (i+m)≠L' (i+m)→x.dst≠some t)→ee (GM L db i tm) t=ee (GM L' db i Ln) t
 | [],_,_,_,h,_=>h
 | x :: r,i,tm,Ln,h,hd=>by
  simp only [GM]
  refine Fc r (i+1) _ _ ?_ (fun m y hy fZ=>hd (m+1) y (by simpa using hy) (by grind))
  by_cases he:L i=L' i
  ·grind [o7]
  ·have:=hd 0 x (by simp) (by simpa using he)
   have e1:ee (Dk tm x.dst x.val) t=ee tm t:=by rw [o7,if_neg this]
   have e2:ee (Dk Ln x.dst x.val) t=ee Ln t:=by rw [o7,if_neg this]
   grind
theorem Cp {L L':Nat→Bool} {k:Nat}:∀ (db:List Rec) (i:Nat) (σ eS:dw),au σ k=au eS k →
  (∀ (m:Nat) (x:Rec),db[m]?=some x→L (i+m)≠L' (i+m)→k ∉ jI x.ml)→au (uV L db i σ) k=au (uV L' db i eS) k
 | [],_,_,_,h,_=>h
 | x :: r,i,σ,eS,h,hd=>by
  simp only [uV]
  refine Cp r (i+1) _ _ ?_ (fun m y hy fZ=>hd (m+1) y (by simpa using hy) (by grind))
  by_cases he:L i=L' i
  ·grind [mo]
  ·have:=hd 0 x (by simp) (by simpa using he)
   have e1:au (fA σ x.ml) k=au σ k:=by rw [mo,if_neg this]
   have e2:au (fA eS x.ml) k=au eS k:=by rw [mo,if_neg this]
   grind
theorem MD {L:Nat→Bool} {i0:Nat} {x:Rec} {t:Nat}:∀ (db:List Rec) (i:Nat) (tm:List (Nat×AV)),i≤i0→db[i0 - i]?=some x →
  (∀ (m:Nat) (y:Rec),db[m]?=some y→i0 < i+m→x.dst=some t→y.dst≠some t) →
  ee (GM (fun q=>L q || Nat.beq q i0) db i tm) t=if x.dst=some t then x.val else ee (GM L db i tm) t
 | [],i,tm,_,h,_=>by simp at h
 | y :: r,i,tm,hi,h,hd=>by
  simp only [GM]
  by_cases he:i=i0
  ·subst he
   simp at h;subst h
   rw [rK rfl,Bool.or_true]
   have UR:∀ YW YX:List (Nat×AV),ee YW t=ee YX t→ee (GM (fun q=>L q || Nat.beq q i) r (i+1) YW) t=ee (GM L r (i+1) YX) t:=by
    intro YW YX h12
    refine Fc r (i+1) _ _ h12 ?_
    intro m z hz fZ
    exfalso
    apply fZ
    rw [oZ (by omega),Bool.or_false]
   by_cases hx:y.dst=some t
   ·rw [if_pos hx]
    have GD:∀ (l:List Rec) (n:Nat) (tm:List (Nat×AV)) (M:Nat→Bool),(∀ (m:Nat) (z:Rec),l[m]?=some z→z.dst≠some t)→ee (GM M l n tm) t=ee tm t:=by
     intro l
     induction l with
     | nil=>intro n tm M _;rfl
     | cons z l ih =>
      intro n tm M hz
      simp only [GM]
      rw [ih _ _ _ (fun m u hu=>hz (m+1) u (by simpa using hu))]
      split
      ·rw [o7,if_neg (hz 0 z (by simp))]
      ·rfl
    rw [GD r _ _ _ (fun m z hz=>hd (m+1) z (by simpa using hz) (by omega) hx),o7,if_pos hx]
   ·rw [if_neg hx]
    refine UR _ _ ?_
    rw [o7,if_neg hx]
    split
    ·rw [o7,if_neg hx]
    ·rfl
  ·rw [oZ he,Bool.or_false]
   refine MD r (i+1) _ (by omega) ?_ (fun m z hz gS=>hd (m+1) z (by simpa using hz) (by omega))
   rw [show i0 - i=(i0 - (i+1))+1 by omega] at h
   simpa using h
theorem J4 {L:Nat→Bool} {i0:Nat} {x:Rec} {k:Nat}:∀ (db:List Rec) (i:Nat) (σ:dw),i≤i0→db[i0 - i]?=some x →
  (∀ (m:Nat) (y:Rec),db[m]?=some y→i0 < i+m→L (i+m)=true→k∈jI x.ml→k ∉ jI y.ml) →
  au (uV (fun q=>L q || Nat.beq q i0) db i σ) k=if k∈jI x.ml then au (fA [] x.ml) k else au (uV L db i σ) k
 | [],i,σ,_,h,_=>by simp at h
 | y :: r,i,σ,hi,h,hd=>by
  simp only [uV]
  by_cases he:i=i0
  ·subst he
   simp at h;subst h
   rw [rK rfl,Bool.or_true]
   by_cases hx:k∈jI y.ml
   ·rw [if_pos hx]
    have GD:∀ (l:List Rec) (n:Nat) (σ:dw) (M:Nat→Bool),(∀ (m:Nat) (z:Rec),l[m]?=some z→M (n+m)=true→k ∉ jI z.ml)→au (uV M l n σ) k=au σ k:=by
     intro l
     induction l with
     | nil=>intro n tm M _;rfl
     | cons z l ih =>
      intro n σ M hz
      simp only [uV]
      rw [ih _ _ _ (fun m u hu hM=>hz (m+1) u (by simpa using hu) (by grind))]
      split
      ·rename_i hM
       rw [mo,if_neg (hz 0 z (by simp) (by simpa using hM))]
      ·rfl
    rw [GD r _ _ _ ?_,mo,if_pos hx]
    intro m z hz hM
    rw [oZ (by omega),Bool.or_false] at hM
    exact hd (m+1) z (by simpa using hz) (by omega) (by grind) hx
   ·rw [if_neg hx]
    refine Cp r (i+1) _ _ ?_ ?_
    ·rw [mo,if_neg hx]
     split
     ·rw [mo,if_neg hx]
     ·rfl
    ·intro m z hz fZ
     exfalso
     apply fZ
     rw [oZ (by omega),Bool.or_false]
  ·rw [oZ he,Bool.or_false]
   refine J4 r (i+1) _ (by omega) ?_ (fun m z hz gS hL=>hd (m+1) z (by simpa using hz) (by omega) (by grind))
   grind
theorem ME:∀ (db:List Rec) (i:Nat) (tm:List (Nat×AV)) (L:Nat→Bool),(∀ m,m < db.length→L (i+m)=true)→GM L db i tm=Dl db tm
 | [],_,_,_,_=>rfl
 | x :: r,i,tm,L,h=>by
  simp only [GM,Dl]
  have:=h 0 (by simp)
  rw [Nat.add_zero] at this
  rw [this,ME r (i+1) _ L (fun m hm=>by rw [show i+1+m=i+(m+1) by omega];simp_all)]
theorem J5:∀ (db:List Rec) (i:Nat) (σ:dw) (L:Nat→Bool),(∀ m,m < db.length→L (i+m)=true)→uV L db i σ=xV db σ
 | [],_,_,_,_=>rfl
 | x :: r,i,σ,L,h=>by
  simp only [uV,xV]
  have:=h 0 (by simp)
  rw [Nat.add_zero] at this
  rw [this,J5 r (i+1) _ L (fun m hm=>by rw [show i+1+m=i+(m+1) by omega];simp_all)]
theorem Fe:∀ (db:List Rec) (i:Nat) (tm:List (Nat×AV)) (L:Nat→Bool),(∀ m,m < db.length→L (i+m)=false)→GM L db i tm=tm
 | [],_,_,_,_=>rfl
 | x :: r,i,tm,L,h=>by
  simp only [GM]
  have:=h 0 (by simp)
  rw [Nat.add_zero] at this
  rw [this,Fe r (i+1) _ L (fun m hm=>by rw [show i+1+m=i+(m+1) by omega];simp_all)]
theorem Cq:∀ (db:List Rec) (i:Nat) (σ:dw) (L:Nat→Bool),(∀ m,m < db.length→L (i+m)=false)→uV L db i σ=σ
 | [],_,_,_,_=>rfl
 | x :: r,i,σ,L,h=>by
  simp only [uV]
  have:=h 0 (by simp)
  rw [Nat.add_zero] at this
  rw [this,Cq r (i+1) _ L (fun m hm=>by rw [show i+1+m=i+(m+1) by omega];simp_all)]
section
variable {P:Program}
theorem HL {nt nk:Nat} {ops:List Oper} {orcs:List (Nat×oa)}:∀ (l:List Oper) (i:Nat) (tm:List (Nat×AV)) (σ:dw) (db:List Rec),r7 P nt ops nk orcs l i tm σ=some db →
  db.length=l.length∧∀ (m:Nat) (x:Rec),db[m]?=some x→∃ o,l[m]?=some o ∧
   zR P nt ops (nk+16 * (i+m)) (GM (fun q=>Nat.blt q (i+m)) db i tm) (uV (fun q=>Nat.blt q (i+m)) db i σ) o (qq orcs (i+m))=some x
 | [],i,tm,σ,db,h=>by
  simp only [r7,az] at h
  simp_all
 | o :: r,i,tm,σ,db,h=>by
  simp only [r7] at h
  split at h
  ·cases h
  ·rename_i x0 PT
   simp only [aL] at h
   obtain ⟨l',h2,rfl⟩:=h
   obtain ⟨h3,h4⟩:=HL r (i+1) _ _ l' h2
   refine ⟨by simp [h3],?_⟩
   intro m x hx
   cases m with
   | zero =>
    simp at hx;subst hx
    refine ⟨o,by simp,?_⟩
    simp only [Nat.add_zero,GM,uV]
    have YZ:Nat.blt i i=false:=Dn (by omega)
    rw [YZ]
    rw [Fe,Cq]
    ·exact PT
    ·intro m _;exact Dn (by omega)
    ·intro m _;exact Dn (by omega)
   | succ m =>
    obtain ⟨o',vR,he⟩:=h4 m x (by simpa using hx)
    refine ⟨o',by simpa using vR,?_⟩
    have YZ:Nat.blt i (i+(m+1))=true:=PQ (by omega)
    simp only [GM,uV]
    rw [YZ]
    rw [show i+(m+1)=i+1+m by omega]
    exact he
theorem Ix {nk:Nat} {op:Op} {e e':Operand→AV} {bp:Option oa} {σ:dw} (he:∀ x∈op.operands.toList,e' x=e x):xU P nk σ op e' bp=xU P nk σ op e bp:=by
 unfold xU
 split
 ·unfold A7
  split
  ·rename_i f args Hv
   have mem:∀ x,x∈f :: args.toList→e' x=e x:=by
    intro x hx
    refine he x ?_
    simp only [Op.operands,Call.operands] at *
    simpa using hx
   rw [mem f (by simp),jR mem,List.map_congr_left (fun x hx=>by rw [mem x (List.mem_cons_of_mem _ hx)]:∀ x∈args.toList,(e' x).strip.1=(e x).strip.1)]
  ·rfl
 ·exact Si he
theorem Cr {nk:Nat} {op:Op} {e:Operand→AV} {bp:Option oa} {σ eS:dw} {r:R} (h:xU P nk σ op e bp=some r) (hs:∀ k∈r.KY,au eS k=au σ k):xU P nk eS op e bp=some r:=by
 unfold xU at h ⊢
 split at h
 ·unfold A7 at h ⊢
  grind
 ·exact NW h hs
theorem NX {nt nk:Nat} {ops:List Oper} {tm Ln:List (Nat×AV)} {σ eS:dw} {o:Oper} {bp:Option oa} {x:Rec} (h:zR P nt ops nk tm σ o bp=some x)
  (ht:∀ t∈E8 ops o,ee Ln t=ee tm t) (hs:∀ k∈x.KY,au eS k=au σ k):zR P nt ops nk Ln eS o bp=some x:=by
 have he:∀ y∈o.op.operands.toList,xS Ln y=xS tm y:=by
  intro y hy
  cases y with
  | tmp t=>exact ht t (by simp only [E8,List.mem_append];exact .inl (Fa hy))
  | _=>rfl
 unfold zR at h ⊢
 split at h
 ·cases h
 ·split at h
  ·simp only [aL] at h ⊢
   obtain ⟨r,h1,rfl⟩:=h
   exact ⟨r,by rw [Ix he];exact Cr h1 hs,rfl⟩
  ·rename_i j want XW
   split at h
   ·cases h
   ·rename_i d hd
    have htd:ee Ln d=ee tm d:=ht d (by simp [E8,XW,hd])
    rw [htd]
    split at h
    ·split at h
     ·rename_i g r hg h1
      split at h
      ·rename_i hu
       cases h
       rw [Ix he,Cr h1 hs,hg]
       simp [hu]
      ·cases h
     ·cases h
    ·split at h
     ·rename_i g r hg h1
      cases h
      rw [Ix he,Cr h1 hs,hg]
     ·cases h
    ·split at h
     ·rename_i g hg
      exact h
     ·cases h
theorem Aa {ops:List Oper} {L:Nat→Bool} (hd:∀ j,L j=true→∀ o,ops[j]?=some o→∀ e∈qD o,L e=true):∀ (n i j:Nat),HK ops n i j=true →
  (∀ o,ops[j]?=some o→∀ e∈qD o,L e=true)→L i=true
 | 0,i,j,h,_=>by simp [HK] at h
 | n+1,i,j,h,hj=>by
  simp only [HK] at h
  split at h
  ·cases h
  ·rename_i o ho
   simp only [List.any_eq_true,Bool.or_eq_true] at h
   obtain ⟨e,he,h | h⟩:=h
   ·simp_all
   ·exact Aa hd n i e h fun o' vR e' he'=>hd e (hj o ho e he) o' vR e' he'
def NY (ops:List Oper) (o p:Oper) (x y:Rec):Prop :=
 (∃ d,x.dst=some d∧d∈E8 ops p)∨(∃ d,y.dst=some d∧d∈E8 ops o)∨(∃ k,k∈jI x.ml∧(k∈y.KY∨k∈jI y.ml))∨∃ k,k∈x.KY∧k∈jI y.ml
theorem yV {l m:List Nat} {k:Nat} (h1:k∈l) (h2:k∈m):meets l m=true:=List.any_eq_true.2 ⟨k,h1,E7.2 h2⟩
theorem NY.Fb {ops:List Oper} {o p:Oper} {x y:Rec} (h:NY ops o p x y):Fb ops o p x y=true:=by
 unfold Ab.Fb
 simp only [Bool.or_eq_true]
 rcases h with ⟨d,h1,h2⟩ | ⟨d,h1,h2⟩ | ⟨k,h1,h2⟩ | ⟨k,h1,h2⟩
 ·simp_all [yV]
 ·simp_all [yV]
 ·grind [yV]
 grind [yV]
theorem NY.symm {ops:List Oper} {o p:Oper} {x y:Rec} (h:NY ops o p x y):NY ops p o y x:=by
 rcases h with h | h | ⟨k,h1,h2 | h2⟩ | ⟨k,h1,h2⟩
 ·exact .inr (.inl h)
 ·exact .inl h
 ·exact .inr (.inr (.inr ⟨k,h2,h1⟩))
 ·exact .inr (.inr (.inl ⟨k,h2,.inr h1⟩))
 ·exact .inr (.inr (.inl ⟨k,h2,.inl h1⟩))
theorem count_set:∀ (l:List Bool) (i:Nat),l[i]?=some false→((l.set i true).filter (· == true)).length=(l.filter (· == true)).length+1
 | [],i,h=>by simp at h
 | b :: l,0,h=>by simp at h;subst h;simp
 | b :: l,i+1,h=>by
  have:=count_set l i (by simpa using h)
  cases b<;>simp_all
theorem Lo {E:Env} {rd:Option Nat} {ds:List Deferred} {nt nk:Nat} {ops:Array Oper} {orcs:List (Nat×oa)} {TU:List (Nat×AV)} {Sj:dw} {db:List Rec} {Q:Exit→Act→World→Prop} (hz:∀ i,J0 P E (qq orcs i)) (hm:E.m0≤nk)
  (XY:r7 P nt ops.toList nk orcs ops.toList 0 TU Sj=some db) (hp:bj (E3 db)) (Jr:PS ops.toList db=true)
  (hQ:∀ a' w' S' dn,a'.tmps.size=nt→a'.defers=ds→Good E (xV db Sj) S' dn w'→(∀ k,nk+16 * ops.size≤k→dn k=none)→(∀ t,aq w' S' dn (a'.tmps.getD t undef) (ee (Dl db TU) t))→Q .normal a' w') :
  ∀ (fuel:Nat) (bK:Array Bool) (a:Act) (w:World) (S:Nat→Prop) (μ:Mu),bK.size=ops.size→a.tmps.size=nt→a.defers=ds →
   (∀ j,bK.getD j false=true→∀ o,ops.toList[j]?=some o→∀ e∈qD o,bK.getD e false=true)→ops.size≤fuel+(bK.toList.filter (· == true)).length →
   Good E (uV (fun j=>bK.getD j false) db 0 Sj) S μ w→(∀ k,nk≤k→(∀ j,nk+16 * j≤k→k < nk+16 * j+16→bK.getD j false=false)→μ k=none) →
   (∀ t,aq w S μ (a.tmps.getD t undef) (ee (GM (fun j=>bK.getD j false) db 0 TU) t)) →
   wpAnyIn (FW rd) 0 P .any ops Q fuel bK a w:=by
 obtain ⟨hlen,qm⟩:=HL ops.toList 0 TU Sj db XY
 simp only [Nat.zero_add] at qm
 have xj:∀ j,j < ops.size→Iw ops.toList j=true∧∀ i,i < j→Lm ops.toList db i j=true:=by
  intro j hj
  have:=List.all_eq_true.1 Jr j (vT.2 (by simpa using hj))
  simp only [bh] at this
  exact ⟨this.1,fun i hi=>List.all_eq_true.1 this.2 i (vT.2 hi)⟩
 have TV:∀ j o,ops.toList[j]?=some o→∀ e∈qD o,e < j:=by
  intro j o ho e he
  have hj:j < ops.size:=by simpa using (dJ.1 ho).1
  have h1:=(xj j hj).1
  unfold Iw at h1
  rw [ho] at h1
  exact PR (List.all_eq_true.1 h1 e he)
 have PU:∀ i j o p x y,i < j→ops.toList[i]?=some o→ops.toList[j]?=some p→db[i]?=some x→db[j]?=some y →
   Iv x.dst y.dst=false∧(Fb ops.toList o p x y=true→HK ops.toList ops.toList.length i j=true):=by
  intro i j o p x y UJ ho sw hx hy
  have hj:j < ops.size:=by simpa using (dJ.1 sw).1
  have h1:=(xj j hj).2 i UJ
  unfold Lm at h1
  rw [ho,sw,hx,hy] at h1
  simp only [bh,Bool.not_eq_true',Bool.or_eq_true] at h1
  refine ⟨h1.1,fun hc=>?_⟩
  rcases h1.2 with h2 | h2
  ·rw [hc] at h2;cases h2
  ·exact h2
 -- what is ready
 have Lp:∀ (bK:Array Bool),bK.size=ops.size→∀ i,i∈Region.ready .any ops bK↔(i < ops.size∧bK.getD i false=false∧∀ o,ops.toList[i]?=some o→∀ e∈qD o,bK.getD e false=true):=by
  intro bK PV i
  unfold Region.ready
  simp only [List.mem_filter,vT,bh,Bool.not_eq_true']
  constructor
  ·rintro ⟨h1,h2,h3⟩
   have hl:i < bK.size:=by omega
   refine ⟨h1,?_,?_⟩
   ·simp only [uc,jG hl,Option.getD_some] at h2 ⊢;exact h2
   ·intro o ho e he
    have vR:ops[i]?=some o:=by simpa using ho
    simp only [vR,Option.map_some,Option.getD_some,Array.all_eq_true'] at h3
    simp only [qD,List.mem_map,List.mem_filter] at he
    obtain ⟨ed,⟨Y0,Uy⟩,rfl⟩:=he
    have:=h3 ed (by simpa using Y0)
    rw [Uy] at this
    simpa only [Bool.not_true,Bool.false_or] using this
  ·rintro ⟨h1,h2,h3⟩
   have hl:i < bK.size:=by omega
   refine ⟨h1,?_,?_⟩
   ·simp only [uc,jG hl,Option.getD_some] at h2 ⊢;exact h2
   ·have ho:ops[i]?=some ops[i]:=jG h1
    simp only [ho,Option.map_some,Option.getD_some,Array.all_eq_true']
    intro ed Y0
    simp only [Bool.or_eq_true,Bool.not_eq_true']
    cases hb:Region.binds .any ed with
    | false=>exact .inl rfl
    | true =>
     right
     exact h3 ops[i] (by simp) ed.on (by simp only [qD,List.mem_map,List.mem_filter];exact ⟨ed,⟨by simpa using Y0,hb⟩,rfl⟩)
 intro fuel
 -- the end
 have fin:∀ (bK:Array Bool) (a:Act) (w:World) (S:Nat→Prop) (μ:Mu),bK.size=ops.size→a.tmps.size=nt→a.defers=ds→(∀ j,j < ops.size→bK.getD j false=true) →
   Good E (uV (fun j=>bK.getD j false) db 0 Sj) S μ w→(∀ k,nk≤k→(∀ j,nk+16 * j≤k→k < nk+16 * j+16→bK.getD j false=false)→μ k=none) →
   (∀ t,aq w S μ (a.tmps.getD t undef) (ee (GM (fun j=>bK.getD j false) db 0 TU) t))→Q .normal a w:=by
  intro bK a w S μ PV hs Ru WC g hk ht
  have hL:∀ m,m < db.length→(fun j=>bK.getD j false) (0+m)=true:=fun m gV=>by
   rw [Nat.zero_add];exact WC m (by rw [hlen] at gV;simpa using gV)
  rw [J5 db 0 Sj _ hL] at g
  refine hQ a w S μ hs Ru g (fun k oQ=>hk k (by omega) fun j hj TW=>?_) (fun t=>by rw [← ME db 0 TU (fun j=>bK.getD j false) hL];exact ht t)
  have:bK.size≤j:=by omega
  simp [uc,Array.getElem?_eq_none this]
 have WD:∀ (bK:Array Bool),bK.size=ops.size→(∀ j,bK.getD j false=true→∀ o,ops.toList[j]?=some o→∀ e∈qD o,bK.getD e false=true)→Region.ready .any ops bK=[]→∀ j,j < ops.size→bK.getD j false=true:=by
  intro bK PV US hr j
  induction j using Nat.strongRecOn with
  | _ j ih =>
   intro hj
   cases hb:bK.getD j false with
   | true=>rfl
   | false =>
    have:j∈Region.ready .any ops bK:=(Lp bK PV j).2 ⟨hj,hb,fun o ho e he=>ih e (TV j o ho e he) (by have:=TV j o ho e he;omega)⟩
    rw [hr] at this;simp at this
 induction fuel with
 | zero =>
  intro bK a w S μ PV hs Ru US TX g hk ht
  simp only [wpAnyIn]
  have WC:∀ j,j < ops.size→bK.getD j false=true:=by
   have hle:(bK.toList.filter (· == true)).length=bK.toList.length:=by
    have h1:=List.length_filter_le (· == true) bK.toList
    simp at h1 TX ⊢;omega
   have h2:=List.length_filter_eq_length_iff.1 hle
   intro j hj
   have hl:j < bK.size:=by omega
   have:=h2 bK[j] (by simp)
   simp only [uc,jG hl,Option.getD_some]
   simpa using this
  refine ⟨?_,fin bK a w S μ PV hs Ru WC g hk ht⟩
  cases hr:Region.ready .any ops bK with
  | nil=>rfl
  | cons i r =>
   have:=(Lp bK PV i).1 (by rw [hr];simp)
   rw [WC i this.1] at this
   simp at this
 | succ fuel ih =>
  intro bK a w S μ PV hs Ru US TX g hk ht
  simp only [wpAnyIn]
  refine ⟨fun hr=>fin bK a w S μ PV hs Ru (WD bK PV US hr) g hk ht,?_⟩
  intro i hi
  obtain ⟨uP,KZ,Ej⟩:=(Lp bK PV i).1 hi
  have WE:i < db.length:=by rw [hlen];simpa using uP
  have hx:db[i]?=some db[i]:=pG WE
  obtain ⟨o,ho,hev⟩:=qm i _ hx
  generalize db[i]=x at hx hev
  have hpx:bj x.Hm:=by
   have:∀ (l:List Rec) (i:Nat),bj (E3 l)→l[i]?=some x→bj x.Hm:=by
    intro l
    induction l with
    | nil=>intro i _ h;simp at h
    | cons y l ih =>
     intro i h hi
     obtain ⟨h1,h2⟩:=bj.app h
     cases i with
     | zero=>simp at hi;exact hi ▸ h1
     | succ i=>exact ih i h2 (by simpa using hi)
   exact this db i hp hx
  -- an operation that meets this one is carried out just if it stands before it
  have order:∀ (j:Nat) (p:Oper) (y:Rec),j≠i→ops.toList[j]?=some p→db[j]?=some y→NY ops.toList o p x y→Nat.blt j i=bK.getD j false:=by
   intro j p y fZ hpj hyj hc
   rcases Nat.lt_or_gt_of_ne fZ with gS | Uo
   ·rw [PQ gS]
    exact (Aa (L:=fun j=>bK.getD j false) US _ j i ((PU j i p o y x gS hpj ho hyj hx).2 hc.symm.Fb) (fun o' vR e he=>by rw [ho] at vR;cases vR;exact Ej o ho e he)).symm
   ·rw [Dn (by omega)]
    cases hb:bK.getD j false with
    | false=>rfl
    | true =>
     have:=Aa (L:=fun j=>bK.getD j false) US _ i j ((PU i j o p x y Uo ho hpj hx hyj).2 hc.Fb) (fun o' vR e he=>US j hb o' vR e he)
     have:bK.getD i false=true:=this
     rw [KZ] at this;cases this
  have MF:∀ (m:Nat) (y:Rec),db[m]?=some y→∃ p,ops.toList[m]?=some p:=fun m y hy=>let ⟨p,sw,_⟩:=qm m y hy;⟨p,sw⟩
  have WG:zR P nt ops.toList (nk+16 * i) (GM (fun j=>bK.getD j false) db 0 TU) (uV (fun j=>bK.getD j false) db 0 Sj) o (qq orcs i)=some x:=by
   refine NX hev ?_ ?_
   ·intro t htl
    refine Fc db 0 _ _ rfl ?_
    intro m y hy fZ Y1
    rw [Nat.zero_add] at fZ
    obtain ⟨p,sw⟩:=MF m y hy
    by_cases AW:m=i
    ·subst AW;exact fZ (by rw [KZ,Dn (by omega)])
    ·exact fZ (order m p y AW sw hy (.inr (.inl ⟨t,Y1,htl⟩))).symm
   ·intro k hkr
    refine Cp db 0 _ _ rfl ?_
    intro m y hy fZ Y2
    rw [Nat.zero_add] at fZ
    obtain ⟨p,sw⟩:=MF m y hy
    by_cases AW:m=i
    ·subst AW;exact fZ (by rw [KZ,Dn (by omega)])
    ·exact fZ (order m p y AW sw hy (.inr (.inr (.inr ⟨k,hkr,Y2⟩)))).symm
  have UT:i < bK.size:=by omega
  have NN:∀ j,(bK.setIfInBounds i true).getD j false=(bK.getD j false || Nat.beq j i):=by
   intro j
   by_cases OB:j=i
   ·subst OB
    rw [rK rfl,Bool.or_true]
    simp [uc,UT]
   ·rw [oZ OB,Bool.or_false]
    simp only [uc]
    rw [Array.getElem?_setIfInBounds_ne (fun h=>OB h.symm)]
  have WH:(fun j=>(bK.setIfInBounds i true).getD j false)=fun q=>bK.getD q false || Nat.beq q i:=funext NN
  have Ms:∀ q,q < 16→μ (nk+16 * i+q)=none:=fun q hq=>hk _ (by omega) fun j hj TW=>by
   have OB:j=i:=by omega
   rw [OB];exact KZ
  refine HC (by simpa using ho) ht g Ms (by omega) (hz i) WG hpx ?_
  intro v w' S' dn q1 q2 q3 q4
  obtain ⟨d1,d2⟩:=HD WG
  refine ih _ _ w' S' dn (by simp [PV]) (by rw [JY];exact hs) (by rw [Dm];exact Ru) ?_ ?_ ?_ ?_ ?_
  ·intro j hj o' vR e he
   rw [NN] at hj ⊢
   rw [Bool.or_eq_true] at hj ⊢
   rcases hj with hj | hj
   ·exact .inl (US j hj o' vR e he)
   ·have:=bO hj
    subst this
    exact .inl (Ej o' vR e he)
  ·have hc:=count_set bK.toList i (by
    rw [Array.getElem?_toList,jG UT]
    simp only [uc,jG UT,Option.getD_some] at KZ
    rw [KZ])
   rw [Array.toList_setIfInBounds,hc]
   omega
  ·rw [WH]
   refine q2.congr ?_
   intro k
   rw [J4 db 0 Sj (Nat.zero_le _) (by simpa using hx) ?_,mo x.ml (uV (fun j=>bK.getD j false) db 0 Sj)]
   intro m y hy gS hL Y2 Y3
   rw [Nat.zero_add] at gS hL
   obtain ⟨p,sw⟩:=MF m y hy
   have:=order m p y (by omega) sw hy (.inr (.inr (.inl ⟨k,Y2,.inr Y3⟩)))
   rw [Dn (by omega)] at this
   rw [← this] at hL;cases hL
  ·intro k oQ GD
   have hki:k < nk+16 * i∨nk+16 * i+16≤k:=by
    rcases Nat.lt_or_ge k (nk+16 * i) with h1 | h1
    ·exact .inl h1
    ·rcases Nat.lt_or_ge k (nk+16 * i+16) with h2 | h2
     ·have:=GD i h1 h2
      rw [NN,rK rfl,Bool.or_true] at this
      cases this
     ·exact .inr h2
   refine q3 k hki (hk k oQ fun j hj TW=>?_)
   have:=GD j hj TW
   rw [NN,Bool.or_eq_false_iff] at this
   exact this.1
  ·intro t
   rw [WH,MD db 0 TU (Nat.zero_le _) (by simpa using hx) ?_,MC a x.dst v t (fun n hn=>by rw [hs];exact d2 n (d1 ▸ hn))]
   ·split
    ·exact q4
    ·exact (ht t).ext q1
   ·intro m y hy gS hxd hyd
    rw [Nat.zero_add] at gS
    obtain ⟨p,sw⟩:=MF m y hy
    have:=(PU i m o p x y gS ho sw hx hy).1
    rw [hxd,hyd] at this
    simp only [Iv] at this
    rw [rK rfl] at this;cases this
end
end Go.Ab
namespace Go.Ab
inductive Wd where
 | ag
 | sl (n:Nat) (g:Nat→List AV)
 | kQ (n:Nat)
 | o8 (k:Nat)
 | pt (b:Bool) (cs:List AV)
 | nq (st:Option Bool) (d:Wd)
 | unq (d:Wd)
 | agg (ds:List Wd)
 | tup (ds:List Wd)
def Js:List AV→List AV→Prop
 | [],[]=>True
 | a :: as,b :: bs=>(a=b∨(a=.nil∧∃ f,b=.sl 0 f))∧Js as bs
 | _,_=>False
theorem Js.len:∀ {as bs:List AV},Js as bs→bs.length=as.length
 | [],[],_=>rfl
 | _ :: _,_ :: _,h=>congrArg (·+1) (Js.len h.2)
theorem Js.get:∀ {as bs:List AV} {j:Nat} {x:AV},Js as bs→bs[j]?=some x→∃ a,as[j]?=some a∧(a=x∨(a=.nil∧∃ f,x=.sl 0 f))
 | [],[],_,_,_,hx=>by simp at hx
 | a :: _,b :: _,0,x,h,hx=>by
  have:b=x:=by simpa using hx
  subst this
  exact ⟨a,rfl,h.1⟩
 | _ :: as,_ :: bs,j+1,x,h,hx=>by
  have:=Js.get (as:=as) (bs:=bs) (j:=j) (x:=x) h.2 (by simpa using hx)
  simpa using this
theorem UU {w:World} {S:Nat→Prop} {μ:Mu} {v:Value} {a x:AV} (h:a=x∨(a=.nil∧∃ f,x=.sl 0 f)) (hv:aq w S μ v a):aq w S μ v x:=by
 rcases h with rfl | ⟨rfl,f,rfl⟩
 ·exact hv
 ·cases hv
  exact .sl 0 0 0 (fun _ _=>undef) (fun h=>absurd h (by decide)) (fun i h=>absurd h (dX _)) (fun i j h=>absurd h (dX _)) (fun i j c h=>absurd h (dX _)) (aG _)
inductive Od where
 | ag (k:Nat)
 | arr (k:Nat) (n:Nat) (g:Nat→List AV)
 | PW (k:Nat) (n:Nat) (g:Nat→List AV)
 | var (k:Nat) (ds:List Wd)
 | mp (k:Nat) (cs:List AV)
 | qg (k:Nat) (n:Nat) (l:List (Nat×Nat×Nat)) (b:Nat→List AV)
 | TY (g:Nat→List AV)
 | nil (sz:Nat) (g:Nat→List AV)
def Od.xe:Od→Option Nat
 | .ag k | .arr k _ _ | .PW k _ _ | .var k _ | .mp k _ | .qg k _ _ _=>some k
 | .nil _ _ | .TY _=>none
def aW:List (Nat×Nat×Nat)→(Nat→List AV)→Nat→List AV
 | [],b,m=>b m
 | (i,k,n) :: r,b,m=>if m=i then [.os k 0 n] else aW r b m
def PX (f:Nat→Option Nat):List (Nat×Nat×Nat)→Option (List (Nat×Nat×Nat))
 | []=>some []
 | (i,k,n) :: r=>match f k,PX f r with
  | some k',some l=>some ((i,k',n) :: l)
  | _,_=>none
theorem Ff {f:Nat→Option Nat} {b:Nat→List AV} {m:Nat} (hb:EP (b m)=true):∀ {l l':List (Nat×Nat×Nat)},PX f l=some l'→AV.ug f (aW l b m)=aW l' b m
 | [],l',h=>by simp [PX] at h;subst h;exact Hn hb
 | (i,k,n) :: r,l',h=>by
  simp only [PX] at h
  split at h
  ·rename_i k' l2 hk hl
   cases h
   simp only [aW]
   split
   ·simp [AV.ug,AV.kB,hk]
   ·exact Ff hb hl
  ·cases h
abbrev Ad:=List (Nat×Od)
def tQ (m0:Nat):Ad→Nat→Option Nat
 | [],k=>match Nat.blt k m0 with
  | true=>some k
  | false=>none
 | (k',d) :: r,k=>match d.xe with
  | some q=>match Nat.beq q k with
   | true=>some k'
   | false=>tQ m0 r k
  | none=>tQ m0 r k
def tR:Ad→Nat→Option Od
 | [],_=>none
 | (k',d) :: r,k=>match Nat.beq k' k with
  | true=>some d
  | false=>tR r k
mutual
def Fg (σ:dw) (F:List Nat) (f:Nat→Option Nat) (fC:Ad):Wd→AV→Option (List Prop×AV)
 | .ag,x=>some ([],x.kB f)
 | .sl n g,.sl n0 g0=>some ([n0=n,∀ i,i < n→g i=g0 i],.sl n g)
 | .sl n g,.os k off len=>match PO F k,au σ k with
  | true,some o=>match o.pr with
   | true=>some ([len=n,off+len≤o.len,∀ i,i < n→g i=o.get (bA off i)],.sl n g)
   | false=>none
  | _,_=>none
 | .sl n g,.nil=>some ([n=0],.sl n g)
 | .kQ n,.os k off len=>(f k).map fun k'=>([len=n],.os k' off n)
 | .o8 k',.nil=>match tR fC k' with
  | some (.nil _ _)=>some ([],.os k' 0 0)
  | some (.TY _)=>some ([],.os k' 0 0)
  | _=>none
 | .pt b cs,.rp WJ off=>match off with
  | 0=>some ([b=true,cs=WJ],.pt b cs)
  | _+1=>none
 | .pt b cs,.atom v=>match v with
  | .pointer none=>some ([b=false],.pt b cs)
  | _=>none
 | .pt b cs,.pt b0 WJ=>some ([b=b0,b0=true→cs=WJ],.pt b cs)
 | .nq st d,.nq XZ y=>match y with
  | .nq _ _=>none
  | y=>(Fg σ F f fC d y).map fun (p,z)=>((XZ=st) :: p,.nq st z)
 | .nq st d,.nil=>(Fg σ F f fC d .nil).map fun (p,z)=>((st≠some false) :: p,.nq st z)
 | .nq st d,y=>(Fg σ F f fC d y).map fun (p,z)=>((st=none) :: p,.nq st z)
 | .unq d,.nq _ y=>Fg σ F f fC d y
 | .agg ds,.agg cs=>(Sk σ F f fC ds cs).map fun (p,c)=>(p,.agg c)
 | .tup ds,.tup cs=>(Sk σ F f fC ds cs).map fun (p,c)=>(p,.tup c)
 | _,_=>none
def Sk (σ:dw) (F:List Nat) (f:Nat→Option Nat) (fC:Ad):List Wd→List AV→Option (List Prop×List AV)
 | [],[]=>some ([],[])
 | d :: ds,c :: cs=>match Fg σ F f fC d c,Sk σ F f fC ds cs with
  | some (p,x),some (q,xs)=>some (p ++ q,x :: xs)
  | _,_=>none
 | _,_=>none
end
def wb (σ:dw) (F:List Nat) (f:Nat→Option Nat) (fC:Ad):Od→Option (List Prop×Ob)
 | .ag k=>(au σ k).map fun o=>([],o.kB f)
 | .arr k n g=>match au σ k with
  | some o=>match o.pr && !o.var && Nat.ble 1 o.sz with
   | true=>some ([o.len=n,∀ i,i < n→g i=o.get i],⟨o.var,o.sz,n,true,g⟩)
   | false=>none
  | none=>none
 | .PW k n g=>match au σ k with
  | some o=>match o.pr && !o.var && Nat.ble 1 o.sz with
   | true=>some ([n≤o.len,∀ i,i < n→Js (o.get i) (g i)],⟨o.var,o.sz,n,true,g⟩)
   | false=>none
  | none=>none
 | .var k ds=>match au σ k with
  | some o=>match o.var && Nat.beq o.len 1 && Nat.ble 1 o.sz,Sk σ F f fC ds (o.get 0) with
   | true,some (p,cs)=>some (p,⟨true,o.sz,1,AV.lS cs,fun _=>cs⟩)
   | _,_=>none
  | none=>none
 | .mp k cs=>match au σ k with
  | some o=>match Nat.beq o.sz 0 && o.pr && Nat.beq o.len 0 with
   | true=>some ([cs=o.get 0],⟨o.var,o.sz,o.len,true,fun _=>cs⟩)
   | false=>none
  | none=>none
 | .qg k n l b=>match au σ k,PX f l with
  | some o,some l'=>match !o.var && Nat.ble 1 o.sz with
   | true=>some ([o.len=n,∀ i,i < n→aW l b i=o.get i,∀ i,i < n→EP (b i)=true],⟨false,o.sz,n,false,aW l' b⟩)
   | false=>none
  | _,_=>none
 | .TY g=>some ([],⟨false,1,0,false,g⟩)
 | .nil sz g=>match Nat.ble 1 sz with
  | true=>some ([],⟨false,sz,0,true,g⟩)
  | false=>none
def J6 (σ:dw) (F:List Nat) (f:Nat→Option Nat) (fC:Ad) (tm:List (Nat×AV)):List (Nat×Wd)→Option (List Prop×List (Nat×AV))
 | []=>some ([],[])
 | (t,d) :: r=>match Fg σ F f fC d (ee tm t),J6 σ F f fC tm r with
  | some (p,x),some (q,l)=>some (p ++ q,(t,x) :: l)
  | _,_=>none
def J7 (σ:dw) (F:List Nat) (f:Nat→Option Nat) (fC:Ad):Ad→Option (List Prop×dw)
 | []=>some ([],[])
 | (k,d) :: r=>match wb σ F f fC d,J7 σ F f fC r with
  | some (p,o),some (q,l)=>some (p ++ q,(k,o) :: l)
  | _,_=>none
def Iy (m0 nk:Nat) (F:List Nat) (fC:Ad):Bool :=
 mP (fC.map (·.1)) && mP (fC.filterMap (·.2.xe)) && (fC.all fun x=>Nat.blt x.1 nk && match x.2.xe with
  | some k=>!PO F k && (match Nat.blt k m0 with
   | true=>Nat.beq x.1 k || Nat.ble m0 x.1
   | false=>Nat.ble m0 x.1)
  | none=>Nat.ble m0 x.1) && Nat.ble m0 nk
def GN (m0:Nat) (st:St) (F:List Nat) (xD:List (Nat×Wd)) (fC:Ad) (nk:Nat):Option (List Prop×St) :=
 match Iy m0 nk F fC,J6 st.oh F (tQ m0 fC) fC st.tm xD,J7 st.oh F (tQ m0 fC) fC fC with
 | true,some (p,tm),some (q,σ)=>some (p ++ q,⟨tm,σ,nk⟩)
 | _,_,_=>none
def GO (m0:Nat) (μ:Mu) (fC:Ad):Mu:=fun k =>
 if k < m0 then μ k else match tR fC k with
  | some (.nil sz _)=>some ⟨0,0,sz⟩
  | some (.TY _)=>some ⟨0,0,1⟩
  | some d=>d.xe.bind μ
  | none=>none
section
variable {P:Program} {E:Env} {σ:dw} {S:Nat→Prop} {μ:Mu} {w:World} {m0 nk:Nat} {F:List Nat} {fC:Ad}
theorem yW:∀ {fC:Ad} {k:Nat} {d:Od},tR fC k=some d→(k,d)∈fC
 | [],k,d,h=>by simp [tR] at h
 | (k',d') :: r,k,d,h=>by
  simp only [tR] at h
  split at h
  ·simp_all
  ·exact List.mem_cons_of_mem _ (yW h)
theorem qR:∀ {fC:Ad} {k:Nat} {d:Od},mP (fC.map (·.1))=true→(k,d)∈fC→tR fC k=some d
 | [],k,d,_,h=>by simp at h
 | (k',d') :: r,k,d,hn,h=>by
  simp only [List.map_cons,mP,bh] at hn
  simp only [tR]
  rcases kL.1 h with h | h
  ·cases h;rw [rK rfl]
  ·have fZ:¬ k'=k:=by
    rintro rfl
    have Pf:idx (r.map (·.1)) k'=none:=by simpa using hn.1
    obtain ⟨i,hi⟩:=List.getElem?_of_mem (List.mem_map.2 ⟨_,h,rfl⟩:k'∈r.map (·.1))
    exact mm _ _ Pf i hi
   rw [oZ fZ]
   exact qR hn.2 h
theorem Fh:∀ {fC:Ad} {k k':Nat},tQ m0 fC k=some k'→(∃ d,(k',d)∈fC∧d.xe=some k)∨(k < m0∧k'=k)
 | [],k,k',h=>by
  simp only [tQ] at h
  split at h
  ·simp_all
  ·cases h
 | (q,d) :: r,k,k',h=>by
  simp only [tQ] at h
  have step:tQ m0 r k=some k'→(∃ d',(k',d')∈(q,d) :: r∧d'.xe=some k)∨(k < m0∧k'=k):=fun h'=>by
   rcases Fh h' with ⟨d',h1,h2⟩ | h1
   ·grind
   ·exact .inr h1
  split at h
  ·rename_i o ho
   split at h
   ·rename_i hb
    cases h
    exact .inl ⟨d,by simp,by rw [ho,bO hb]⟩
   ·exact step h
  ·exact step h
structure Names (m0 nk:Nat) (F:List Nat) (fC:Ad):Prop where
 nd:mP (fC.map (·.1))=true
 od:mP (fC.filterMap (·.2.xe))=true
 lt:∀ k d,(k,d)∈fC→k < nk
 fr:∀ k d q,(k,d)∈fC→d.xe=some q→q ∉ F
 lo:∀ k d q,(k,d)∈fC→d.xe=some q→q < m0→k=q∨m0≤k
 hi:∀ k d q,(k,d)∈fC→d.xe=some q→m0≤q→m0≤k
 no:∀ k d,(k,d)∈fC→d.xe=none→m0≤k
 m0:m0≤nk
theorem PY (h:Iy m0 nk F fC=true):Names m0 nk F fC:=by
 unfold Iy at h
 simp only [bh,Nat.ble_eq] at h
 obtain ⟨⟨⟨h1,h2⟩,h3⟩,h4⟩:=h
 have h3:=fun k d (hm:(k,d)∈fC)=>List.all_eq_true.1 h3 (k,d) hm
 simp only [bh] at h3
 refine ⟨h1,h2,fun k d hm=>PR (h3 k d hm).1,?_,?_,?_,?_,h4⟩
 ·intro k d q hm hq hF
  have:=(h3 k d hm).2
  rw [hq] at this
  simp only [bh,Bool.not_eq_true'] at this
  grind [E7]
 ·intro k d q hm hq gS
  have:=(h3 k d hm).2
  simp_all [bh,PQ,Bool.or_eq_true_iff,bO,Nat.le_of_ble_eq_true]
 ·intro k d q hm hq YL
  have:=(h3 k d hm).2
  simp_all [bh,Dn,Nat.ble_eq]
 ·intro k d hm hq
  have:=(h3 k d hm).2
  rw [hq] at this
  simpa only [Nat.ble_eq] using this
theorem Em (N:Names m0 nk F fC) {k k':Nat} {pl:Place} (h:tQ m0 fC k=some k') (hm:μ k=some pl):GO m0 μ fC k'=some pl:=by
 rcases Fh h with ⟨d,h1,h2⟩ | ⟨h1,rfl⟩
 ·unfold GO
  by_cases gS:k < m0
  ·rcases N.lo k' d k h1 h2 gS with h | h
   ·simp_all
   ·rw [if_neg (by omega),qR N.nd h1]
    grind [Od.xe]
  ·have:=N.hi k' d k h1 h2 (by omega)
   rw [if_neg (by omega),qR N.nd h1]
   grind [Od.xe]
 simp_all [GO,if_pos]
theorem Ae (N:Names m0 nk F fC) {k k':Nat} {d:Od} (h:(k',d)∈fC) (ho:d.xe=some k):GO m0 μ fC k'=μ k:=by
 unfold GO
 by_cases gS:k < m0
 ·rcases N.lo k' d k h ho gS with h1 | h1
  ·simp_all
  ·rw [if_neg (by omega),qR N.nd h]
   grind [Od.xe]
 ·have:=N.hi k' d k h ho (by omega)
  rw [if_neg (by omega),qR N.nd h]
  grind [Od.xe]
theorem MG (N:Names m0 nk F fC) {k':Nat} {g:Nat→List AV} (h:(k',Od.TY g)∈fC):GO m0 μ fC k'=some ⟨0,0,1⟩:=by
 have:=N.no k' _ h rfl
 unfold GO
 rw [if_neg (by omega),qR N.nd h]
theorem MH (N:Names m0 nk F fC) {k' sz:Nat} {g:Nat→List AV} (h:(k',Od.nil sz g)∈fC):GO m0 μ fC k'=some ⟨0,0,sz⟩:=by
 have:=N.no k' _ h rfl
 unfold GO
 rw [if_neg (by omega),qR N.nd h]
theorem MI (g:Good E σ S μ w) (N:Names m0 nk F fC):∀ (d:Wd) (x:AV) (v:Value) (ps:List Prop) (y:AV),aq w S μ v x→Fg σ F (tQ m0 fC) fC d x=some (ps,y)→bj ps →
  aq w (SF μ F σ S) (GO m0 μ fC) v y:=by
 have mono:∀ {v:Value} {x:AV} {dn:Mu},aq w S dn v x→aq w (SF μ F σ S) dn v x:=fun h=>h.mono (fun _ h=>.inl h) (fun _ _=>rfl) (fun _ _ h=>h)
 intro d
 induction d using Wd.rec (motive_2:=fun ds=>∀ (cs:List AV) (ps:List Prop) (ys:List AV),Sk σ F (tQ m0 fC) fC ds cs=some (ps,ys)→bj ps →
   cs.length=ys.length∧∀ (j:Nat) c y v,cs[j]?=some c→ys[j]?=some y→aq w S μ v c→aq w (SF μ F σ S) (GO m0 μ fC) v y) with
 | ag =>
  intro x v ps y h hw hp
  simp only [Fg,az,ay] at hw
  obtain ⟨rfl,rfl⟩:=hw
  exact (mono h).kB fun k k' pl hk hm=>Em N hk hm
 | sl n gt =>
  intro x v ps y h hw hp
  cases x<;>simp only [Fg] at hw<;>try (cases hw;done)
  case sl n0 g0 =>
   simp only [az,ay] at hw
   obtain ⟨rfl,rfl⟩:=hw
   obtain ⟨rfl,p2,_⟩:=hp
   cases h with
   | sl b off sz f h1 h2 h3 h4 h5 =>
    exact .sl b off sz f (fun hl=>⟨(h1 hl).1,.inl (h1 hl).2⟩) (fun i hi=>by simp_all) h3 (fun i j c hi hc=>mono (h4 i j c hi (by simp_all))) h5
  case os k off len =>
   split at hw
   ·rename_i o hF ho
    split at hw
    ·rename_i KX
     simp only [az,ay] at hw
     obtain ⟨rfl,rfl⟩:=hw
     obtain ⟨rfl,p2,p3,_⟩:=hp
     obtain ⟨pl,c,T,hm,cZ⟩:=g.rep.ob k o ho
     cases h with
     | os j9 gV h1 h2 h3 =>
      rename_i cap a
      rw [hm] at gV;cases gV
      refine .sl pl.cK (off * pl.sz) o.sz (fun i j=>(c[(off+i) * o.sz+j]?).getD undef) ?_ (fun i hi=>by rw [p3 i hi,df];exact cZ.tB _ (by omega)) ?_ ?_ h2
      ·intro hl
       exact ⟨h1 (by omega),.inr ⟨k,o,pl,E7.1 hF,ho,hm,by omega,rfl⟩⟩
      ·intro i j hi hj
       obtain ⟨v,q1,q2⟩:=cQ cZ (i:=off+i) (by omega) hj
       rw [q1,cZ.sz,← cz,q2];rfl
      ·intro i j c' hi oG
       rw [p3 i hi,df] at oG
       obtain ⟨v,q1,q2⟩:=cQ cZ (i:=off+i) (by omega) (by have:=(dJ.1 oG).1;rwa [cZ.tB _ (by omega)] at this)
       rw [q1]
       have:=cZ.rep _ j c' v (by omega) oG q1
       simp_all
    ·cases hw
   ·cases hw
  case nil =>
   simp only [az,ay] at hw
   obtain ⟨rfl,rfl⟩:=hw
   obtain ⟨rfl,_⟩:=hp
   cases h
   exact .sl 0 0 0 (fun _ _=>undef) (fun h=>absurd h (by omega)) (fun i h=>absurd h (by omega)) (fun i j h=>absurd h (by omega)) (fun i j c h=>absurd h (by omega)) (aG _)
 | kQ n =>
  intro x v ps y h hw hp
  cases x<;>simp only [Fg] at hw<;>try (cases hw;done)
  case os k off len =>
   simp only [aL,ay] at hw
   obtain ⟨k',oQ,rfl,rfl⟩:=hw
   obtain ⟨rfl,_⟩:=hp
   cases h with
   | os pl hm h1 h2 h3=>exact .os pl (Em N oQ hm) h1 h2 h3
 | o8 k' =>
  intro x v ps y h hw hp
  cases x<;>simp only [Fg] at hw<;>try (cases hw;done)
  case nil =>
   split at hw
   ·rename_i sz gt Sl
    simp only [az,ay] at hw
    obtain ⟨rfl,rfl⟩:=hw
    cases h
    exact .os ⟨0,0,sz⟩ (MH N (yW Sl)) (fun h=>absurd h (by omega)) (aG _) (by simp)
   ·rename_i gt Sl
    simp only [az,ay] at hw
    obtain ⟨rfl,rfl⟩:=hw
    cases h
    exact .os ⟨0,0,1⟩ (MG N (yW Sl)) (fun h=>absurd h (by omega)) (aG _) (by simp)
   ·cases hw
 | pt b cs =>
  intro x v ps y h hw hp
  have other:∀ {b:Bool} {cs:List AV} {v:Value},aq w S μ v (.pt b cs)→aq w (SF μ F σ S) (GO m0 μ fC) v (.pt b cs):=fun h=>(mono h).pure rfl _
  cases x<;>simp only [Fg] at hw<;>try (cases hw;done)
  case rp WJ off =>
   split at hw
   ·simp only [az,ay] at hw
    obtain ⟨rfl,rfl⟩:=hw
    obtain ⟨rfl,rfl,_⟩:=hp
    exact other (.pt (fun _=>h) (fun h=>by cases h))
   ·cases hw
  case atom v0 =>
   split at hw
   ·simp only [az,ay] at hw
    obtain ⟨rfl,rfl⟩:=hw
    obtain ⟨rfl,_⟩:=hp
    exact other (.pt (fun h=>by cases h) (fun _=>cY h))
   ·cases hw
  case pt b0 WJ =>
   simp only [az,ay] at hw
   obtain ⟨rfl,rfl⟩:=hw
   obtain ⟨rfl,Us,_⟩:=hp
   cases h with
   | pt h1 h2=>exact other (.pt (fun hb=>by rw [Us hb];exact h1 hb) h2)
 | nq st d ih =>
  intro x v ps y h hw hp
  have fin:∀ {x0:AV} {p:List Prop} {z:AV},aq w S μ v x0→Fg σ F (tQ m0 fC) fC d x0=some (p,z)→bj p→(st=some true→v=.slice none 0 0)→(st=some false→OM v=false)→aq w (SF μ F σ S) (GO m0 μ fC) v (.nq st z) :=
   fun h0 h1 h2 h3 h4=>.nq (ih _ _ _ _ h0 h1 h2) h3 h4
  cases x with
  | nq XZ y0 =>
   have YA:∃ p z,Fg σ F (tQ m0 fC) fC d y0=some (p,z)∧ps=(XZ=st) :: p∧y=.nq st z:=by
    cases y0<;>simp only [Fg,aL,ay] at hw<;>grind
   obtain ⟨p,z,e1,rfl,rfl⟩:=YA
   obtain ⟨rfl,xh⟩:=hp
   cases h with
   | nq h0 h1 h2=>exact fin h0 e1 xh h1 h2
  | nil =>
   simp only [Fg,aL,ay] at hw
   obtain ⟨⟨p,z⟩,e1,rfl,rfl⟩:=hw
   obtain ⟨fZ,xh⟩:=hp
   cases h
   exact fin .nil e1 xh (fun _=>rfl) (fun e=>absurd e fZ)
  | _ =>
   simp only [Fg,aL,ay] at hw
   obtain ⟨⟨p,z⟩,e1,rfl,rfl⟩:=hw
   obtain ⟨rfl,xh⟩:=hp
   grind
 | unq d ih =>
  intro x v ps y h hw hp
  cases x with
  | nq XZ y0 =>
   simp only [Fg] at hw
   cases h with
   | nq h0 _ _=>exact ih _ _ _ _ h0 hw hp
  | _=>grind [Fg]
 | agg ds ih =>
  intro x v ps y h hw hp
  cases x<;>simp only [Fg] at hw<;>try (cases hw;done)
  case agg cs =>
   simp only [aL,ay] at hw
   obtain ⟨⟨p,c⟩,h1,rfl,rfl⟩:=hw
   obtain ⟨q1,q2⟩:=ih cs p c h1 hp
   cases h with
   | agg h2 h3 =>
    refine .agg (h2.trans q1) fun j y v hy hv=>?_
    have gS:j < cs.length:=by rw [q1];exact (dJ.1 hy).1
    exact q2 j _ y v (pG gS) hy (h3 j _ v (pG gS) hv)
 | tup ds ih =>
  intro x v ps y h hw hp
  cases x<;>simp only [Fg] at hw<;>try (cases hw;done)
  case tup cs =>
   simp only [aL,ay] at hw
   obtain ⟨⟨p,c⟩,h1,rfl,rfl⟩:=hw
   obtain ⟨q1,q2⟩:=ih cs p c h1 hp
   cases h with
   | tup h2 h3 =>
    refine .tup (h2.trans q1) fun j y v hy hv=>?_
    have gS:j < cs.length:=by rw [q1];exact (dJ.1 hy).1
    exact q2 j _ y v (pG gS) hy (h3 j _ v (pG gS) hv)
 | nil =>
  rename_i cs ps ys h hp
  cases cs with
  | nil=>simp [Sk] at h;obtain ⟨_,rfl⟩:=h;exact ⟨rfl,fun j c y v hc=>by simp at hc⟩
  | cons=>simp [Sk] at h
 | cons d ds Nv Nw =>
  rename_i cs ps ys h hp
  cases cs with
  | nil=>simp [Sk] at h
  | cons c cs =>
   simp only [Sk] at h
   split at h
   ·rename_i p x q xs e1 e2
    simp only [az,ay] at h
    obtain ⟨rfl,rfl⟩:=h
    obtain ⟨xC,xh⟩:=bj.app hp
    obtain ⟨r1,r2⟩:=Nw cs q xs e2 xh
    refine ⟨by simp [r1],?_⟩
    intro j c' y v hc hy hr
    cases j with
    | zero=>simp at hc hy;subst hc hy;exact Nv c v p x hr e1 xC
    | succ j=>exact r2 j c' y v (by simpa using hc) (by simpa using hy) hr
   ·cases h
end
end Go.Ab
