/- Abstract values over the heap of the machine, and functions read off its code (part 3). No conditions. -/
import Derived.Test.YtlgddcmiekcdiaaGreatCb
import Derived.OrdersIn
import Derived.RangeFuncSeq
set_option linter.unusedVariables false
set_option linter.unusedSimpArgs false
namespace Go.Ab
def ey:List (Nat×AV)→Nat→AV
 | [],_=>.mH
 | (k,x) :: r,n=>match Nat.beq k n with
  | true=>x
  | false=>ey r n
def yr (tm:List (Nat×AV)):Operand→AV
 | .tmp t=>ey tm t
 | .const v=>ofConst v
 | .global g=>.atom (.pointer (some ⟨g,0,none⟩))
 | .func f=>.fn (.func f) [] []
def conds (e:Operand→AV):List Operand→List Prop
 | []=>[]
 | x :: r=>(e x).strip.2 ++ conds e r
def P9 (b:Bool):List Prop→List Prop
 | []=>[]
 | p :: ps=>[b=true→bq (p :: ps)]
def Qa (mx:Bool) (x y:AV):Option AV :=
 match x,y with
 | .atom (.int k a),.atom (.int k' b)=>match decide (k=k') with
  | true=>some (.atom (.int k (match mx with
   | true=>if b > a then b else a
   | false=>if b < a then b else a)))
  | false=>none
 | _,_=>none
def CE (mx:Bool):AV→List AV→Option AV
 | a,[]=>some a
 | a,b :: r=>match Qa mx a b with
  | some v=>CE mx v r
  | none=>none
def sy (ps:List Prop) (x:Option AV):Option R:=x.map fun v=>⟨ps,v,[],[]⟩
def Vp (l:List Nat) (k:Nat):Bool:=l.any fun x=>Nat.beq x k
def zt (P:Program) (nk:Nat) (σ:dD) (e:Operand→AV) (b:Builtin) (args:List Operand) (H0:List TypeId):Option R :=
 let s:=fun x=>(e x).strip.1
 let c:=fun xs=>conds e xs
 match b,args,H0 with
 | .len,[x],[t]=>sy (c [x]) (PM P t (s x))
 | .append,[x,y],[t,t']=>match Nat.beq t t' with
  | true=>(rh P nk σ t (s x) (s y)).map fun (ps,v,rd,u)=>⟨c [x,y] ++ ps,v,rd,u⟩
  | false=>none
 | .min,x :: r,_=>sy (c (x :: r)) (CE false (s x) (r.map s))
 | .max,x :: r,_=>sy (c (x :: r)) (CE true (s x) (r.map s))
 | _,_,_=>none
def eu (P:Program) (nk:Nat) (σ:dD) (op:Op) (e:Operand→AV) (bw:Option ow):Option R :=
 let s:=fun x=>(e x).strip.1
 let c:=fun xs=>conds e xs
 match op with
 | .move x | .assign x=>some ⟨[],e x,[],[]⟩
 | .pick q a b=>match s q,s a,s b with
  | .atom (.bool qb),.atom (.bool x),.atom (.bool y) =>
   some ⟨(e q).strip.2 ++ (P9 qb (e a).strip.2 ++ P9 (!qb) (e b).strip.2),.atom (.bool (cond qb x y)),[],[]⟩
  | _,_,_=>none
 | .alloc T=>(IW P nk T).map fun (v,u)=>⟨[],v,[],u⟩
 | .box _ x=>(PB nk (s x)).map fun (v,u)=>⟨c [x],v,[],u⟩
 | .build t parts=>sy (c (parts.toList.map (·.2))) (IX P t (parts.toList.map fun (i,x)=>(i,s x)))
 | .buildSlice t len parts=>match Nat.beq len 0 && !parts.toList.isEmpty with
  | true=>none
  | false=>(wN P nk t len (parts.toList.map fun (i,x)=>(i,s x))).map fun (v,u)=>⟨c (parts.toList.map (·.2)),v,[],u⟩
 | .load T a=>(yg P σ T (s a)).map fun (ps,v,rd)=>⟨c [a] ++ ps,v,rd,[]⟩
 | .store T a x=>(ze P σ T (s a) (s x)).map fun (ps,u,rd)=>⟨c [a,x] ++ ps,.mH,rd,u⟩
 | .nilCheck x=>match s x with
  | .op k i j=>some ⟨c [x],.op k i j,[],[]⟩
  | .rp cs j=>some ⟨c [x],.rp cs j,[],[]⟩
  | .pt b cs=>some ⟨c [x] ++ [b=true],.rp cs 0,[],[]⟩
  | _=>none
 | .binOp o t x y _=>(Pz P o t (s x) (s y)).map fun (ps,v)=>⟨c [x,y] ++ ps,v,[],[]⟩
 | .unOp o _ x=>sy (c [x]) (U4 o (s x))
 | .convert src dst x=>match L1 P src dst (s x) with
  | some v=>some ⟨c [x],v,[],[]⟩
  | none=>(zl P σ src dst (s x)).map fun (ps,v,rd)=>⟨c [x] ++ ps,v,rd,[]⟩
 | .makeMap _ none=>some ⟨[],.mp nk,[],[(nk,some ⟨false,0,0,true,fun _=>[]⟩)]⟩
 | .lookup t m x ok=>match bw with
  | some o=>(vD P σ t (s m) (s x) ok o).map fun (ps,v,rd)=>⟨c [m,x] ++ ps,v,rd,[]⟩
  | none=>none
 | .mapUpdate t m x y | .insert t m x y=>match bw with
  | some o=>(vE P σ t (s m) (s x) (s y) o).map fun (ps,u,rd)=>⟨c [m,x,y] ++ ps,.mH,rd,u⟩
  | none=>none
 | .makeFunc f first cap=>some ⟨c (first.toList ++ cap.toList),.fn f (first.toList.map s) (cap.toList.map s),[],[]⟩
 | .makeSlice t l m=>(L4 P nk t (s l) (s m)).map fun (ps,v,u)=>⟨c [l,m] ++ ps,v,[],u⟩
 | .slice t x lo hi none=>(zf P σ t (s x) (lo.map s) (hi.map s)).map fun (ps,v,rd)=>⟨c (x :: (lo.toList ++ hi.toList)) ++ ps,v,rd,[]⟩
 | .fieldAddr T x f=>sy (c [x]) (yi P T (s x) f)
 | .field T x f=>sy (c [x]) (I1 P T (s x) f)
 | .indexAddr T x i=>(pC P σ T (s x) (s i)).map fun (ps,v,rd)=>⟨c [x,i] ++ ps,v,rd,[]⟩
 | .index T x i=>(I3 P T (s x) (s i)).map fun (ps,v)=>⟨c [x,i] ++ ps,v,[],[]⟩
 | .extract x i=>match s x with
  | .tup cs=>sy (c [x]) cs[i]?
  | _=>none
 | .call ⟨.value f,args,_⟩=>match bw with
  | some o=>(Fu P nk σ (s f) (args.toList.map s) o).map fun r=>{ r with HR:=r.HR ++ c (f :: args.toList) }
  | none=>none
 | .call ⟨.builtin b,args,H0⟩=>zt P nk σ e b args.toList H0.toList
 | _=>none
section
variable {P:Program} {E:Env} {nk:Nat} {σ:dD} {S:Nat→Prop} {μ:Mu} {w:World}
theorem zu {e:Operand→AV}:∀ {xs:List Operand},bq (conds e xs)→∀ x∈xs,bq (e x).strip.2
 | [],_,x,hx=>by simp at hx
 | y :: r,h,x,hx=>by
  obtain ⟨h1,h2⟩:=bq.app h
  rcases kI.1 hx with rfl | hx
  ·exact h1
  ·exact zu h2 x hx
theorem H2 {b:Bool} {ps:List Prop} (h:bq (P9 b ps)) (hb:b=true):bq ps:=by
 cases ps with
 | nil=>trivial
 | cons p ps=>exact h.1 hb
theorem Md {mx:Bool} {ρ:Operand→Value} {e:Operand→AV}:∀ (l:List Operand) (va:Value) (a r:AV),ar w S μ va a→(∀ x∈l,ar w S μ (ρ x) ((e x).strip.1)) →
  CE mx a (l.map fun x=>(e x).strip.1)=some r→∃ z,((l.map ρ).foldlM (match mx with | true=>Builtin.max2 | false=>Builtin.min2) va:Sem Value).run P w=.ok z w∧ar w S μ z r
 | [],va,a,r,ha,_,h=>by
  simp only [List.map_nil,CE,aD] at h
  simp_all
 | x :: l,va,a,r,ha,hl,h=>by
  simp only [List.map_cons,CE] at h
  split at h
  ·rename_i v hv
   have hx:=hl x (by simp)
   obtain ⟨u,h1,h2⟩:∃ u,((match mx with | true=>Builtin.max2 | false=>Builtin.min2) va (ρ x):Sem Value).run P w=.ok u w∧ar w S μ u v:=by
    unfold Qa at hv
    split at hv
    ·rename_i k p k' q hp hq
     rw [hq] at hx
     have e2:=dg hx
     have e1:=dg ha
     split at hv
     ·cases hv
      cases mx with
      | true=>exact ⟨_,by simp [e1,e2,Builtin.max2],.atom _⟩
      | false=>exact ⟨_,by simp [e1,e2,Builtin.min2],.atom _⟩
     ·cases hv
    ·cases hv
   obtain ⟨z,h3,h4⟩:=Md l u v r h2 (fun y hy=>hl y (by simp [hy])) h
   simp_all
  ·cases h
theorem SR {v:Value} {b:Bool} {cs:List AV} (h:ar w S μ v (.pt b cs)) (hb:b=true):ar w S μ v (.rp cs 0):=by
 cases h with
 | pt h1 _=>exact h1 hb
def Qb (E:Env) (nk:Nat) (σ:dD) (S:Nat→Prop) (μ:Mu) (w:World) (r:R) (K:Value→World→Prop):Prop :=
 ∀ v w' S' dy,Ext w S μ w' S' dy→Good E (fI σ r.mF) S' dy w'→(∀ k,(k < nk∨nk+16≤k)→μ k=none→dy k=none)→ar w' S' dy v r.val→K v w'
theorem H3 {ρ:Operand→Value} {e:Operand→AV} {parts:Array (Nat×Operand)} (he:∀ x∈(parts.toList.map (·.2)),ar w S μ (ρ x) ((e x).strip.1)) :
  (parts.map fun (i,x)=>(i,ρ x)).toList.map (·.1)=(parts.toList.map fun (i,x)=>(i,(e x).strip.1)).map (·.1) ∧
  ∀ (j:Nat) x y,(parts.toList.map fun (i,x)=>(i,(e x).strip.1))[j]?=some x→(parts.map fun (i,x)=>(i,ρ x)).toList[j]?=some y→ar w S μ y.2 x.2:=by
 refine ⟨by simp,?_⟩
 grind
theorem Fz {ρ:Operand→Value} {e:Operand→AV} {xs:Array Operand} (he:∀ x∈xs.toList,ar w S μ (ρ x) ((e x).strip.1)) :
  RL w S μ (xs.map ρ) (xs.toList.map fun x=>(e x).strip.1):=by
 refine ⟨by simp,?_⟩
 grind
theorem Kx {o:Oper} {a:Act} {e:Operand→AV} {bw:Option ow} {r:R} {next:Act→World→Prop} {Q:Exit→Act→World→Prop}
  (he:∀ x∈o.op.operands.toList,ar w S μ (a.eval x) (e x)) (g:Good E σ S μ w) (Ax:∀ j,j < 16→μ (nk+j)=none) (hm:E.m0≤nk)
  (hz:∀ x,bw=some x→x.xO=true→∀ b,¬ E.fp b) (h:eu P nk σ o.op e bw=some r) (hp:bq r.HR) (hK:Qb E nk σ S μ w r fun v w'=>next (a.put o.dst v) w'):o.wp P a w next Q:=by
 have hk:μ nk=none:=Ax 0 (by omega)
 -- a value without a change
 have pv:∀ (s:Sem Value),execOp a.eval o=(do pure (.value (← s)):Sem Next)→r.mF=[]→(∃ v,s.run P w=.ok v w∧ar w S μ v r.val)→o.wp P a w next Q:=by
  rintro s hs hu ⟨v,h1,h2⟩
  unfold Oper.wp
  rw [hs]
  simp only [bN,h1,df,Sem.run_pure]
  exact hK v w S μ (Ext.refl _ _ _) (by rw [hu];exact g) (fun _ _ h=>h) h2
 have WE:∀ (v:Value),execOp a.eval o=pure (.value v)→r.mF=[]→ar w S μ v r.val→o.wp P a w next Q:=by
  intro v hs hu h2
  unfold Oper.wp
  rw [hs]
  exact hK v w S μ (Ext.refl _ _ _) (by rw [hu];exact g) (fun _ _ h=>h) h2
 have sv:∀ (s:Sem Value),execOp a.eval o=(do pure (.value (← s)):Sem Next)→Step P E nk σ S μ w s r.val r.mF→o.wp P a w next Q:=by
  rintro s hs ⟨v,w',S',dy,h1,h2,h3,h4,h5⟩
  unfold Oper.wp
  rw [hs]
  simp only [bN,h1,df,Sem.run_pure]
  exact hK v w' S' dy h2 h3 (fun k ph=>h4 k (by omega)) h5
 have st:∀ (xs:List Operand),bq (conds e xs)→(∀ x∈xs,x∈o.op.operands.toList)→∀ x∈xs,ar w S μ (a.eval x) ((e x).strip.1) :=
  fun xs h1 h2 x hx=>(he x (h2 x hx)).strip (zu h1 x hx)
 obtain ⟨dst,op,ty,pos,after,guard⟩:=o
 simp only at he h hK pv WE sv st ⊢
 cases op with
 | move x =>
  simp only [eu,aD] at h;subst h
  exact WE (a.eval x) rfl rfl (he x (by simp [Op.operands]))
 | assign x =>
  simp only [eu,aD] at h;subst h
  exact WE (a.eval x) rfl rfl (he x (by simp [Op.operands]))
 | pick q x y =>
  simp only [eu] at h
  split at h
  ·rename_i qb xb yb hq hx hy
   cases h
   obtain ⟨p1,p2⟩:=bq.app hp
   obtain ⟨p2,p3⟩:=bq.app p2
   have e1:=(he q (by simp [Op.operands])).strip p1
   rw [hq] at e1
   have e1:=dg e1
   refine pv (do pure (if ← asBool (a.eval q) then a.eval x else a.eval y)) (by simp [execOp]) rfl ?_
   cases qb with
   | true =>
    have e2:=(he x (by simp [Op.operands])).strip (H2 p2 rfl)
    simp_all [asBool]
   | false =>
    have e2:=(he y (by simp [Op.operands])).strip (H2 p3 rfl)
    simp_all [asBool]
  ·cases h
 | alloc T =>
  simp only [eu,aK] at h
  obtain ⟨⟨v,u⟩,h1,rfl⟩:=h
  exact sv _ rfl (PA g hk hm h1)
 | box T x =>
  simp only [eu,aK] at h
  obtain ⟨⟨v,u⟩,h1,rfl⟩:=h
  exact sv _ rfl (U5 g hk hm (st [x] hp (by simp [Op.operands]) x (by simp)) h1)
 | build t parts =>
  simp only [eu,sy,aK] at h
  obtain ⟨v,h1,rfl⟩:=h
  have LS:=H3 (st _ hp (by simp [Op.operands]))
  exact pv _ rfl rfl (PD LS.1 LS.2 h1)
 | buildSlice t len parts =>
  simp only [eu] at h
  split at h
  ·cases h
  ·rename_i Kg
   simp only [aK] at h
   obtain ⟨⟨v,u⟩,h1,rfl⟩:=h
   have LS:=H3 (st _ hp (by simp [Op.operands]))
   refine sv _ rfl (Hf g hk hm LS.1 LS.2 h1 ?_)
   intro hz
   subst hz
   simp only [Bool.and_eq_false_iff] at Kg
   rcases Kg with h0 | h0
   ·simp at h0
   ·simp only [Bool.not_eq_false',List.isEmpty_iff] at h0
    simp [h0]
 | load T x =>
  simp only [eu,aK] at h
  obtain ⟨⟨ps,v,rd⟩,h1,rfl⟩:=h
  obtain ⟨p1,p2⟩:=bq.app hp
  exact pv _ rfl rfl (IY g (st [x] p1 (by simp [Op.operands]) x (by simp)) h1 p2)
 | store T x y =>
  simp only [eu,aK] at h
  obtain ⟨⟨ps,u,rd⟩,h1,rfl⟩:=h
  obtain ⟨p1,p2⟩:=bq.app hp
  have s:=st [x,y] p1 (by simp [Op.operands])
  obtain ⟨w',r1,r2,r3⟩:=PH g (s x (by simp)) (s y (by simp)) h1 p2
  unfold Oper.wp
  have ex:execOp a.eval ⟨dst,.store T x y,ty,pos,after,guard⟩=(do Instr.storeAt T (a.eval x) (a.eval y);pure .skip:Sem Next):=rfl
  rw [ex]
  simp only [bN,r1,df,Sem.run_pure]
  exact hK undef w' S μ r2 r3 (fun _ _ h=>h) .mH
 | nilCheck x =>
  simp only [eu] at h
  split at h
  ·rename_i k i j hx
   cases h
   have e1:=st [x] hp (by simp [Op.operands]) x (by simp)
   rw [hx] at e1
   cases hv:a.eval x with
   | pointer q =>
    rw [hv] at e1
    cases q with
    | none=>cases e1
    | some q=>exact WE (.pointer (some q)) (by simp [execOp,hv]) rfl e1
   | _=>rw [hv] at e1;cases e1
  ·rename_i cs j hx
   cases h
   have e1:=st [x] hp (by simp [Op.operands]) x (by simp)
   rw [hx] at e1
   cases hv:a.eval x with
   | pointer q =>
    rw [hv] at e1
    cases q with
    | none=>cases e1
    | some q=>exact WE (.pointer (some q)) (by simp [execOp,hv]) rfl e1
   | _=>rw [hv] at e1;cases e1
  ·rename_i b cs hx
   cases h
   obtain ⟨hp,hb,_⟩:=bq.app hp
   have e1:=st [x] hp (by simp [Op.operands]) x (by simp)
   rw [hx] at e1
   have e1:=SR e1 hb
   cases hv:a.eval x with
   | pointer q =>
    rw [hv] at e1
    cases q with
    | none=>cases e1
    | some q=>exact WE (.pointer (some q)) (by simp [execOp,hv]) rfl e1
   | _=>rw [hv] at e1;cases e1
  ·cases h
 | binOp o' t x y yt =>
  simp only [eu,aK] at h
  obtain ⟨⟨ps,v⟩,h1,rfl⟩:=h
  obtain ⟨p1,p2⟩:=bq.app hp
  have s:=st [x,y] p1 (by simp [Op.operands])
  exact pv (do eqGuard o' t x y (a.eval x) (a.eval y);binOp o' t (a.eval x) (a.eval y)) rfl rfl (U2 (s x (by simp)) (s y (by simp)) h1 p2)
 | unOp o' t x =>
  simp only [eu,sy,aK] at h
  obtain ⟨v,h1,rfl⟩:=h
  exact pv _ rfl rfl (WZ (st [x] hp (by simp [Op.operands]) x (by simp)) h1)
 | convert src dt x =>
  simp only [eu] at h
  split at h
  ·rename_i v h1
   cases h
   exact pv _ rfl rfl (Sr (st [x] hp (by simp [Op.operands]) x (by simp)) h1)
  ·simp only [aK] at h
   obtain ⟨⟨ps,v,rd⟩,h1,rfl⟩:=h
   obtain ⟨p1,p2⟩:=bq.app hp
   exact sv _ rfl (P4 g (st [x] p1 (by simp [Op.operands]) x (by simp)) h1 p2)
 | makeMap t hint =>
  cases hint with
  | some _=>simp [eu] at h
  | none =>
   simp only [eu,aD] at h;subst h
   have ga:=g.allocMap hk hm
   refine sv (Instr.makeMap t none) rfl ⟨_,_,_,_,Go.RowKit.run_makeMap t w,ga.1,ga.2,fun k ph hn=>by rw [ny _ ph];exact hn,?_⟩
   exact ar.mp (μ:=ca μ nk ⟨w.heap.size,1,0⟩) ⟨w.heap.size,1,0⟩ (by simp [ca])
 | lookup t m x ok =>
  simp only [eu] at h
  split at h
  ·simp only [aK] at h
   obtain ⟨⟨ps,v,rd⟩,h1,rfl⟩:=h
   obtain ⟨p1,p2⟩:=bq.app hp
   have s:=st [m,x] p1 (by simp [Op.operands])
   exact pv _ rfl rfl (OD g (s m (by simp)) (s x (by simp)) h1 p2)
  ·cases h
 | mapUpdate t m x y =>
  simp only [eu] at h
  split at h
  ·simp only [aK] at h
   obtain ⟨⟨ps,u,rd⟩,h1,rfl⟩:=h
   obtain ⟨p1,p2⟩:=bq.app hp
   have s:=st [m,x,y] p1 (by simp [Op.operands])
   obtain ⟨w',r1,r2,r3⟩:=HZ g (s m (by simp)) (s x (by simp)) (s y (by simp)) h1 p2
   unfold Oper.wp
   have ex:execOp a.eval ⟨dst,.mapUpdate t m x y,ty,pos,after,guard⟩=(do Instr.mapUpdate t (a.eval m) (a.eval x) (a.eval y);pure .skip:Sem Next):=rfl
   rw [ex]
   simp only [bN,r1,df,Sem.run_pure]
   exact hK undef w' S μ r2 r3 (fun _ _ h=>h) .mH
  ·cases h
 | insert t m x y =>
  simp only [eu] at h
  split at h
  ·simp only [aK] at h
   obtain ⟨⟨ps,u,rd⟩,h1,rfl⟩:=h
   obtain ⟨p1,p2⟩:=bq.app hp
   have s:=st [m,x,y] p1 (by simp [Op.operands])
   obtain ⟨w',r1,r2,r3⟩:=HZ g (s m (by simp)) (s x (by simp)) (s y (by simp)) h1 p2
   unfold Oper.wp
   have ex:execOp a.eval ⟨dst,.insert t m x y,ty,pos,after,guard⟩=(do Instr.mapUpdate t (a.eval m) (a.eval x) (a.eval y);pure .skip:Sem Next):=rfl
   rw [ex]
   simp only [bN,r1,df,Sem.run_pure]
   exact hK undef w' S μ r2 r3 (fun _ _ h=>h) .mH
  ·cases h
 | makeFunc f first cap =>
  simp only [eu,aD] at h;subst h
  have s:=st (first.toList ++ cap.toList) hp (by simp [Op.operands])
  have l1:=Fz (xs:=first) (fun x hx=>s x (by simp only [List.mem_append];exact .inl hx))
  have l2:=Fz (xs:=cap) (fun x hx=>s x (by simp only [List.mem_append];exact .inr hx))
  exact pv _ rfl rfl ⟨_,by simp [Instr.makeFunc],.fn l1.1 l2.1 l1.2 l2.2⟩
 | makeSlice t x y =>
  simp only [eu,aK] at h
  obtain ⟨⟨ps,v,u⟩,h1,rfl⟩:=h
  obtain ⟨p1,p2⟩:=bq.app hp
  have s:=st [x,y] p1 (by simp [Op.operands])
  exact sv _ rfl (Su g hk hm (s x (by simp)) (s y (by simp)) h1 p2)
 | slice t x lo hi mx =>
  cases mx with
  | some _=>simp [eu] at h
  | none =>
   simp only [eu,aK] at h
   obtain ⟨⟨ps,v,rd⟩,h1,rfl⟩:=h
   obtain ⟨p1,p2⟩:=bq.app hp
   have s:=st (x :: (lo.toList ++ hi.toList)) p1 (by
    intro y hy
    simp only [kI,List.mem_append,Option.mem_toList] at hy
    simp only [Op.operands]
    rcases hy with rfl | hy | hy
    ·simp
    ·simp [hy]
    ·simp [hy])
   refine pv (Instr.sliceAt t (a.eval x) (lo.map a.eval) (hi.map a.eval) none) rfl rfl (PL g (s x (by simp)) ?_ ?_ h1 p2)
   ·refine ⟨by simp,?_⟩
    intro p q ta hq
    simp only [aK] at ta hq
    obtain ⟨y,hy,rfl⟩:=ta
    obtain ⟨z,hz,rfl⟩:=hq
    rw [hy] at hz;cases hz
    exact s y (by simp [hy])
   ·refine ⟨by simp,?_⟩
    intro p q ta hq
    simp only [aK] at ta hq
    obtain ⟨y,hy,rfl⟩:=ta
    obtain ⟨z,hz,rfl⟩:=hq
    rw [hy] at hz;cases hz
    exact s y (by simp [hy])
 | fieldAddr T x f =>
  simp only [eu,sy,aK] at h
  obtain ⟨v,h1,rfl⟩:=h
  exact pv _ rfl rfl (I0 (st [x] hp (by simp [Op.operands]) x (by simp)) h1)
 | field T x f =>
  simp only [eu,sy,aK] at h
  obtain ⟨v,h1,rfl⟩:=h
  exact pv _ rfl rfl (PJ (st [x] hp (by simp [Op.operands]) x (by simp)) h1)
 | indexAddr T x i =>
  simp only [eu,aK] at h
  obtain ⟨⟨ps,v,rd⟩,h1,rfl⟩:=h
  obtain ⟨p1,p2⟩:=bq.app hp
  have s:=st [x,i] p1 (by simp [Op.operands])
  exact pv _ rfl rfl (I2 g (s x (by simp)) (s i (by simp)) h1 p2)
 | index T x i =>
  simp only [eu,aK] at h
  obtain ⟨⟨ps,v⟩,h1,rfl⟩:=h
  obtain ⟨p1,p2⟩:=bq.app hp
  have s:=st [x,i] p1 (by simp [Op.operands])
  exact pv _ rfl rfl (PK (s x (by simp)) (s i (by simp)) h1 p2)
 | extract x i =>
  simp only [eu] at h
  split at h
  ·rename_i cs hx
   simp only [sy,aK] at h
   obtain ⟨v,h1,rfl⟩:=h
   have e1:=st [x] hp (by simp [Op.operands]) x (by simp)
   rw [hx] at e1
   refine pv _ rfl rfl ?_
   cases hv:a.eval x with
   | tuple vs =>
    rw [hv] at e1
    cases e1 with
    | tup q1 q2 =>
     have gY:i < vs.size:=by rw [q1];exact (dU.1 h1).1
     exact ⟨vs[i],by simp [Instr.extract,jR gY],q2 i v _ h1 (jR gY)⟩
   | _=>rw [hv] at e1;cases e1
  ·cases h
 | call c =>
  obtain ⟨callee,args,argTypes⟩:=c
  cases callee with
  | invoke=>simp [eu] at h
  | value f =>
   simp only [eu] at h
   split at h
   ·rename_i o'
    simp only [aK] at h
    obtain ⟨r',h1,rfl⟩:=h
    obtain ⟨p1,p2⟩:=bq.app hp
    have s:=st (f :: args.toList) p2 (by simp [Op.operands,Call.operands])
    have l1:=Fz (xs:=args) (fun x hx=>s x (List.mem_cons_of_mem _ hx))
    obtain ⟨gid,vs,r1,r2⟩:=Mc g Ax hm (s f (by simp)) l1 (hz _ rfl) h1 p1
    unfold Oper.wp
    have ex:execOp a.eval ⟨dst,.call ⟨.value f,args,argTypes⟩,ty,pos,after,guard⟩=(do let d ← Deferred.ofValue (a.eval f) (args.map a.eval);invoke d.target d.args:Sem Next):=rfl
    rw [ex,r1]
    simp only [Oper.upon]
    refine r2.mono ?_
    rintro e' w' ⟨v,S',dy,rfl,q1,q2,q3,q4⟩
    exact hK v w' S' dy q1 q2 q3 q4
   ·cases h
  | builtin b =>
   simp only [eu] at h
   unfold zt at h
   split at h
   case h_1 x t ha ht =>
    obtain ⟨rfl⟩:args=#[x]:=Array.toList_inj.1 (by rw [ha])
    obtain ⟨rfl⟩:argTypes=#[t]:=Array.toList_inj.1 (by rw [ht])
    simp only [sy,aK] at h
    obtain ⟨v,h1,rfl⟩:=h
    have s:=st [x] hp (by simp [Op.operands,Call.operands])
    exact pv (Builtin.len_ #[t] ty #[a.eval x]) (by simp [execOp,resolve,invoke,builtin]) rfl (Vd (s x (by simp)) h1 ty)
   case h_2 x y t t' ha ht =>
    obtain ⟨rfl⟩:args=#[x,y]:=Array.toList_inj.1 (by rw [ha])
    obtain ⟨rfl⟩:argTypes=#[t,t']:=Array.toList_inj.1 (by rw [ht])
    split at h
    ·rename_i hb
     have hb:=bW hb
     subst hb
     simp only [aK] at h
     obtain ⟨⟨ps,v,rd,u⟩,h1,rfl⟩:=h
     obtain ⟨p1,p2⟩:=bq.app hp
     have s:=st [x,y] p1 (by simp [Op.operands,Call.operands])
     exact sv (Builtin.append_ #[t,t] ty #[a.eval x,a.eval y]) (by simp [execOp,resolve,invoke,builtin]) (HQ g hk hm (s x (by simp)) (s y (by simp)) h1 p2)
    ·cases h
   case h_3 x r ha =>
    simp only [sy,aK] at h
    obtain ⟨v,h1,rfl⟩:=h
    have s:=st (x :: r) hp (by intro y hy;simpa [Op.operands,Call.operands,ha] using hy)
    refine pv (Builtin.min_ argTypes ty (args.map a.eval)) (by simp [execOp,resolve,invoke,builtin]) rfl ?_
    obtain ⟨z,h3,h4⟩:=Md (P:=P) r (a.eval x) _ v (s x (by simp)) (fun y hy=>s y (by simp [hy])) h1
    refine ⟨z,?_,h4⟩
    unfold Builtin.min_
    rw [Array.toList_map,ha,List.map_cons]
    exact h3
   case h_4 x r ha =>
    simp only [sy,aK] at h
    obtain ⟨v,h1,rfl⟩:=h
    have s:=st (x :: r) hp (by intro y hy;simpa [Op.operands,Call.operands,ha] using hy)
    refine pv (Builtin.max_ argTypes ty (args.map a.eval)) (by simp [execOp,resolve,invoke,builtin]) rfl ?_
    obtain ⟨z,h3,h4⟩:=Md (P:=P) r (a.eval x) _ v (s x (by simp)) (fun y hy=>s y (by simp [hy])) h1
    refine ⟨z,?_,h4⟩
    unfold Builtin.max_
    rw [Array.toList_map,ha,List.map_cons]
    exact h3
   case h_5=>cases h
 | _=>simp [eu] at h
def ZJ:Option ow→Option ow
 | some o=>match o.same with
  | false=>some o
  | true=>none
 | none=>none
def zw (P:Program) (σ:dD) (T:TypeId) (a x:AV):Option (List Prop×AV×List Nat) :=
 match a,P.underlying T,ud P T with
 | .op k i j,some d,some n=>match d.isRow,Nat.beq n 1,au σ k with
  | false,true,some o=>some ([i < o.len,(o.get i)[j]?=some x],x,[k])
  | _,_,_=>none
 | _,_,_=>none
theorem Qc (g:Good E σ S μ w) {T:TypeId} {a x:AV} {va:Value} (ha:ar w S μ va a) {ps:List Prop} {y:AV} {rd:List Nat} (h:zw P σ T a x=some (ps,y,rd)) (hp:bq ps) :
  ∃ v,(Instr.loadAt T va).run P w=.ok v w∧ar w S μ v y:=by
 unfold zw at h
 split at h
 case h_2=>cases h
 rename_i k i j d n hd hn
 split at h
 case h_2=>cases h
 rename_i o h1 h2 ho
 simp only [aD,aA] at h
 obtain ⟨rfl,rfl,rfl⟩:=h
 obtain ⟨hi,hx,_⟩:=hp
 have PG:=bW h2
 subst PG
 refine IY (T:=T) g ha (ps:=[i < o.len]) (rd:=[k]) ?_ ⟨hi,trivial⟩
 unfold yg
 simp only [hd,hn,ho,h1]
 unfold Sv
 have:Nat.ble (j+1) (o.get i).length=true:=by rw [Nat.ble_eq];exact (dU.1 hx).1
 rw [this]
 simp [hx]
def Ja (σ:dD) (k q i:Nat):Option (List Prop×sx) :=
 match au σ k,au σ q with
 | some o,some oq=>match !o.var && !oq.var && oq.pr && Nat.ble 1 oq.sz && !Nat.beq k q with
  | true=>some ([i < o.len,o.get i=[.os q 0 oq.len],∀ j,j < oq.len→og (oq.get j)=true],[(q,none),(k,some ⟨false,o.sz,o.len,false,fun m=>if m=i then [.mr oq.sz oq.len oq.get] else o.get m⟩)])
  | false=>none
 | _,_=>none
theorem H4 {k q i:Nat} {ps:List Prop} {u:sx} (h:Ja σ k q i=some (ps,u)) (hp:bq ps) (g:Good E σ S μ w):Good E (fI σ u) S μ w:=by
 unfold Ja at h
 split at h
 case h_2=>cases h
 rename_i o oq ho Vg
 split at h
 case h_2=>cases h
 rename_i hb
 simp only [aD,aA] at h
 obtain ⟨rfl,rfl⟩:=h
 simp only [bp,Bool.not_eq_true',Nat.ble_eq] at hb
 obtain ⟨⟨⟨⟨h1,h2⟩,h3⟩,h4⟩,h5⟩:=hb
 obtain ⟨p1,p2,p3,_⟩:=hp
 refine g.cls ho Vg (fun e=>?_) h1 h2 h3 h4 p1 p2 fun j=>?_
 ·simp_all
 ·cases hr:rowOf oq j with
  | none=>rfl
  | some x =>
   obtain ⟨_,r2,r3⟩:=di hr
   have:=p3 j r2
   rw [r3] at this;cases this
def Xh:AV→Nat
 | .os _ _ len=>len
 | _=>0
def tf (P:Program) (nk:Nat) (σ:dD) (t:TypeId) (s x:AV) (bw:ow):Option (List Prop×AV×List Nat×sx) :=
 match bw.ks,rh P nk σ t s x with
 | [q],some (ps,v,rd,u)=>match Vp (rd ++ u.map (·.1)) q,Ja (fI σ u) nk q (Xh s) with
  | false,some (UB,u2)=>some (ps ++ UB,v,q :: rd,u ++ u2)
  | _,_=>none
 | _,_=>none
theorem Me (g:Good E σ S μ w) (hk:μ nk=none) (hm:E.m0≤nk) {t ty:TypeId} {s x:AV} {bw:ow} {vs vx:Value} (hs:ar w S μ vs s) (hx:ar w S μ vx x) {ps:List Prop} {val:AV} {rd:List Nat} {mF:sx}
  (h:tf P nk σ t s x bw=some (ps,val,rd,mF)) (hp:bq ps):Step P E nk σ S μ w (Builtin.append_ #[t,t] ty #[vs,vx]) val mF:=by
 unfold tf at h
 split at h
 case h_2=>cases h
 rename_i q p1 v Nc u hq ha
 split at h
 case h_2=>cases h
 rename_i p2 u2 _ hc
 simp only [aD,aA] at h
 obtain ⟨rfl,rfl,rfl,rfl⟩:=h
 obtain ⟨x8,xN⟩:=bq.app hp
 obtain ⟨v',w',S',dy,h1,h2,h3,h4,h5⟩:=HQ (ty:=ty) g hk hm hs hx ha x8
 exact ⟨v',w',S',dy,h1,h2,by grind [gD,H4],h4,h5⟩
def FA (P:Program) (T:TypeId) (x lo hi mx:AV):Option (List Prop×AV×List Nat) :=
 match P.underlying T,x,lo,hi,mx with
 | some (.slice e),.os _ _ len,.atom (.int _ l),.atom (.int _ h),.atom (.int _ m)=>match ud P e with
  | some _=>some ([0≤l∧l≤h∧h≤m∧m≤len],.mH,[])
  | none=>none
 | _,_,_,_,_=>none
theorem OF {T:TypeId} {x lo hi mx:AV} {v vl vh vm:Value} (hx:ar w S μ v x) (hl:ar w S μ vl lo) (hh:ar w S μ vh hi) (hm:ar w S μ vm mx) {ps:List Prop} {r:AV} {rd:List Nat}
  (h:FA P T x lo hi mx=some (ps,r,rd)) (hp:bq ps):∃ u,(Instr.sliceAt T v (some vl) (some vh) (some vm)).run P w=.ok u w∧ar w S μ u r:=by
 unfold FA at h
 split at h
 case h_2=>cases h
 rename_i e k off len kl l kh h' km m hu
 split at h
 case h_2=>cases h
 rename_i sz su
 simp only [aD,aA] at h
 obtain ⟨rfl,rfl,rfl⟩:=h
 obtain ⟨⟨p1,p2,p3,p4⟩,_⟩:=hp
 have e1:=dg hl
 have e2:=dg hh
 have e3:=dg hm
 subst e1 e2 e3
 cases hx with
 | os pl gZ h1 h2 h3 =>
  rename_i cap a
  have q1:0≤m∧m≤(cap:Int):=by omega
  have q2:0≤h'∧h'≤(m.toNat:Int):=by omega
  have q3:0≤l∧l≤(h'.toNat:Int):=by omega
  have hb:(Instr.sliceBounds true len cap (some (.int kl l)) (some (.int kh h')) (some (.int km m))).run P w=.ok (l.toNat,h'.toNat,m.toNat) w:=by
   simp only [Instr.sliceBounds,Instr.sliceBound,asIntOf,bN,Sem.run_pure,df,Sem.run_ite,if_pos q1,if_pos q2,if_pos q3]
  exact ⟨.slice (if m.toNat=l.toNat then a else a.map (·.add (l.toNat * sz))) (h'.toNat - l.toNat) (m.toNat - l.toNat),by simp [Instr.sliceAt,Instr.slice,run_underlying hu,hb,eO su],.mH⟩
def vF (P:Program) (σ:dD) (T:TypeId) (x:AV) (lo hi:Option AV):Option (List Prop×AV×List Nat) :=
 match P.underlying T,x with
 | some (.slice e),.os k off len=>match ud P e,bound 0 lo,bound len hi,au σ k with
  | some sz,some l,some h,some o=>match Nat.beq o.sz sz with
   | true=>some ((l≤h∧off+h≤o.len) :: (uM lo ++ uM hi),.os k (bC off l) (h - l),[k])
   | false=>none
  | _,_,_,_=>none
 | _,_=>none
theorem OG (g:Good E σ S μ w) {T:TypeId} {x:AV} {v:Value} (hx:ar w S μ v x) {lo hi:Option AV} {vlo vhi:Option Value}
  (Va:(vlo=none↔lo=none)∧∀ a b,lo=some a→vlo=some b→ar w S μ b a)
  (Ow:(vhi=none↔hi=none)∧∀ a b,hi=some a→vhi=some b→ar w S μ b a) {ps:List Prop} {r:AV} {rd:List Nat} (h:vF P σ T x lo hi=some (ps,r,rd)) (hp:bq ps) :
  ∃ u,(Instr.sliceAt T v vlo vhi none).run P w=.ok u w∧ar w S μ u r:=by
 unfold vF at h
 split at h
 case h_2=>cases h
 rename_i e k off len hu
 split at h
 case h_2=>cases h
 rename_i sz l hh o su hl Vb ho
 split at h
 case h_2=>cases h
 rename_i hb
 have hb:=bW hb
 simp only [aD,aA] at h
 obtain ⟨rfl,rfl,rfl⟩:=h
 obtain ⟨⟨p1,p2⟩,p3⟩:=hp
 obtain ⟨pl,c,T',hm,dh⟩:=g.rep.ob k o ho
 cases hx with
 | os kn gZ h1 h2 h3 =>
  rename_i cap a
  rw [hm] at gZ;cases gZ
  have hc:hh≤cap:=by have:=dh.len;omega
  have Vc:=wO (P:=P) (w:=w) true (cap:=cap) Va Ow hl Vb p1 hc p3
  refine ⟨.slice (if cap=l then a else a.map (·.add (l * sz))) (hh - l) (cap - l),?_,?_⟩
  ·simp [Instr.sliceAt,Instr.slice,run_underlying hu,Vc,eO su]
  ·refine .os pl hm ?_ (by omega) (by rw [dp];omega)
   intro hc
   have:=h1 (by omega)
   subst this
   rw [if_neg (by omega)]
   simp only [Option.map_some,Addr.add_mid]
   rw [dp,dh.sz,hb,cD]
def CF (P:Program) (σ:dD) (t:TypeId) (s x:AV):Option (List Prop×AV×List Nat×sx) :=
 match mY P t with
 | some e=>match ud P e,wH P e,sw P e,s,x with
  | some sz,some _,some _,.os k 0 len,.os k' off n=>match Nat.beq k k',au σ k with
   | true,some o=>match Nat.ble 1 sz && Nat.beq o.sz sz && !o.var with
    | true=>some ([0 < o.len∧len+n≤o.len,off+n≤o.len,∀ i,i < o.len→AV.fJ (o.get i)=true],.os k 0 (len+n),[k],
      [(k,some ⟨false,sz,o.len,o.pr,fun m=>if m < len then o.get m else if m < len+n then o.get (bC off (m - len)) else o.get m⟩)])
    | false=>none
   | _,_=>none
  | _,_,_,_,_=>none
 | none=>none
theorem H5 {o:Ob} (h:∀ i,i < o.len→AV.fJ (o.get i)=true) (i:Nat):rowOf o i=none:=by
 cases hr:rowOf o i with
 | none=>rfl
 | some x =>
  obtain ⟨_,r2,r3⟩:=di hr
  have:=h i r2
  rw [r3] at this;cases this
theorem SS (g:Good E σ S μ w) {t ty:TypeId} {s x:AV} {vs vx:Value} (hs:ar w S μ vs s) (hx:ar w S μ vx x) {ps:List Prop} {val:AV} {rd:List Nat} {mF:sx}
  (h:CF P σ t s x=some (ps,val,rd,mF)) (hp:bq ps):Step P E nk σ S μ w (Builtin.append_ #[t,t] ty #[vs,vx]) val mF:=by
 unfold CF at h
 split at h
 case h_2=>cases h
 rename_i e he
 have he:=k6 he
 split at h
 case h_2=>cases h
 rename_i sz b z k len k' off n su hb hz
 obtain ⟨ie,ER,rfl,rfl,Pd⟩:=wJ su hb hz
 split at h
 case h_2=>cases h
 rename_i o PX ho
 have PX:=bW PX
 subst PX
 split at h
 case h_2=>cases h
 rename_i Cy
 simp only [bp,Nat.ble_eq,Bool.not_eq_true'] at Cy
 obtain ⟨⟨b1,b2⟩,Bq⟩:=Cy
 have b2:=bW b2
 simp only [aD,aA] at h
 obtain ⟨rfl,rfl,rfl,rfl⟩:=h
 obtain ⟨⟨p0,p1⟩,p2,p3,_⟩:=hp
 obtain ⟨news,sr⟩:=yj (P:=P) (sz:=ie.size) (n:=n) (gt:=fun i=>o.get (bC off i)) (pr:=o.pr) (ps:=[off+n≤o.len,∀ i,i < n→AV.fJ (o.get (bC off i))=true]) (rd:=[k]) g hx
  (by unfold vz;simp only [ho,sq b2]) ⟨p2,fun i hi=>p3 _ (by rw [dp];omega),trivial⟩
 obtain ⟨pl,c,T',uN,dh⟩:=g.rep.ob k o ho
 cases hs with
 | os kn gZ h1 h2 h3 =>
  rename_i cap a
  rw [uN] at gZ;cases gZ
  have WA:=dh.len
  have ha:=h1 (by omega)
  simp only [Nat.zero_mul] at ha
  subst ha
  have wz:0 < pl.cap:=by omega
  have Kk:len+n≤cap:=by omega
  have xM:len * ie.size+news.length≤c.size:=by
   have e1:(len+n) * ie.size≤pl.cap * ie.size:=dS _ (by omega)
   have e2:=dh.cap
   rw [b2] at e2
   rw [sr.size,← cD];omega
  have lV:=Fj (P:=P) (w:=w) (ty:=ty) he ER ((dh.cQ wz).trans (by rw [fO (by omega)])) sr.len sr.cells sr.one Kk xM
  generalize oU:(c.toList.take (len * ie.size) ++ news ++ c.toList.drop (len * ie.size+news.length)).toArray=c' at lV
  have yh:(c.toList.take (len * ie.size)).length=len * ie.size:=by simp;omega
  have IZ:c'.size=c.size:=by
   rw [← oU]
   simp;omega
  have qB:∀ m,c'[m]?=if m < len * ie.size then c[m]? else if m < len * ie.size+news.length then news[m - len * ie.size]? else c[m]?:=by
   intro m
   rw [← oU]
   simp only [List.getElem?_toArray]
   by_cases h1:m < len * ie.size
   ·rw [iH (by simp;omega),iH (by omega),pW,if_pos h1,if_pos h1]
    simp
   ·rw [if_neg h1]
    by_cases h2:m < len * ie.size+news.length
    ·rw [iH (by simp;omega),jS (by omega),yh,if_pos h2]
    ·rw [if_neg h2,jS (by simp;omega)]
     simp only [kH,yh,oS]
     rw [show len * ie.size+news.length+(m - (len * ie.size+news.length))=m by omega]
     simp
  have pY:∀ i,i < o.len→(if i < len then o.get i else if i < len+n then o.get (bC off (i - len)) else o.get i).length=ie.size:=by
   intro i hi
   split
   ·rw [dh.ub i hi,b2]
   ·split
    ·rw [dh.ub _ (by rw [dp];omega),b2]
    ·rw [dh.ub i hi,b2]
  have Ha:=H5 p3
  have gw:=g.write ho uN wz dh (by omega) ⟨false,ie.size,o.len,o.pr,fun m=>if m < len then o.get m else if m < len+n then o.get (bC off (m - len)) else o.get m⟩ c' b2.symm IZ dh.len pY (by
   intro i j x v hi hx hv
   have hi:i < o.len:=hi
   have hx:(if i < len then o.get i else if i < len+n then o.get (bC off (i - len)) else o.get i)[j]?=some x:=hx
   have hj:j < ie.size:=by
    have e1:=(dU.1 hx).1
    have e2:=pY i hi
    omega
   have hv:c'[i * ie.size+j]?=some v:=hv
   rw [qB] at hv
   by_cases G9:i < len
   ·have pB:(i+1) * ie.size≤len * ie.size:=dS _ G9
    rw [cD] at pB
    rw [if_pos (by omega)] at hv
    rw [if_pos G9] at hx
    exact dh.rep i j x v hi hx (by rw [b2];exact hv)
   ·have pB:len * ie.size≤i * ie.size:=dS _ (by omega)
    rw [if_neg (by omega),sr.size] at hv
    rw [if_neg G9] at hx
    by_cases zZ:i < len+n
    ·have Pe:(i+1) * ie.size≤(len+n) * ie.size:=dS _ zZ
     rw [cD,cD] at Pe
     rw [if_pos (by omega)] at hv
     rw [if_pos zZ] at hx
     refine sr.rep (i - len) j x v (by omega) hx ?_
     rw [← hv,Nat.sub_mul];congr 1;omega
    ·have Pe:(len+n) * ie.size≤i * ie.size:=dS _ (by omega)
     rw [cD] at Pe
     rw [if_neg (by omega)] at hv
     rw [if_neg zZ] at hx
     exact dh.rep i j x v hi hx (by rw [b2];exact hv))
   (fun i x hx=>absurd hx (by
    rw [H5 (o:=⟨false,ie.size,o.len,o.pr,fun m=>if m < len then o.get m else if m < len+n then o.get (bC off (m - len)) else o.get m⟩) (fun i hi=>by
     show AV.fJ (if i < len then o.get i else if i < len+n then o.get (bC off (i - len)) else o.get i)=true
     have hi:i < o.len:=hi
     split
     ·exact p3 i hi
     ·split
      ·exact p3 _ (by rw [dp];omega)
      ·exact p3 i hi)]
    intro h;cases h))
  exact ⟨_,_,S,μ,lV,gw.1,gw.2,fun _ _ h=>h,ar.os pl uN (by simp) Kk h3⟩
theorem Qd {o:Ob} (h:∀ i,i < o.len→og (o.get i)=true) (i:Nat):rowOf o i=none:=by
 cases hr:rowOf o i with
 | none=>rfl
 | some x =>
  obtain ⟨_,r2,r3⟩:=di hr
  have:=h i r2
  rw [r3] at this;cases this
theorem Ky {l:List AV} (h:AV.fJ l=true):og l=true:=by
 induction l with
 | nil=>rfl
 | cons x l ih =>
  simp only [AV.fJ,bp] at h
  simp only [og,bp]
  refine ⟨?_,ih h.2⟩
  cases x<;>first | rfl | cases h.1
theorem Good.Qe (g:Good E σ S μ w) {k:Nat} {o:Ob} (ho:au σ k=some o) {pl:Place} {c:Array Value} {T':TypeId} (uN:μ k=some pl) (dh:gX w S μ o pl c T') (wz:0 < pl.cap) {sz p n:Nat}
  {gt:Nat→List AV} {pr:Bool} {v:Value} {news:List Value} (sr:Src P w S μ sz v n gt pr news) (b2:o.sz=sz) (b1:1≤sz) (hle:p+n≤o.len) (Ha:∀ i,i < o.len→og (o.get i)=true) {c':Array Value}
  (oU:(c.toList.take (p * sz) ++ news ++ c.toList.drop (p * sz+news.length)).toArray=c'):p * sz+news.length≤c.size ∧
  Ext w S μ (w.setRow pl.cQ c') S μ∧Good E (sset σ k ⟨false,sz,o.len,o.pr && pr,fun m=>if m < p then o.get m else if m < p+n then gt (m - p) else o.get m⟩) S μ (w.setRow pl.cQ c'):=by
 have WA:=dh.len
 have xM:p * sz+news.length≤c.size:=by
  have e1:(p+n) * sz≤pl.cap * sz:=dS _ (by omega)
  have e2:=dh.cap
  rw [b2] at e2
  rw [sr.size,← cD];omega
 have yh:(c.toList.take (p * sz)).length=p * sz:=by simp;omega
 have IZ:c'.size=c.size:=by
  rw [← oU]
  simp;omega
 have qB:∀ m,c'[m]?=if m < p * sz then c[m]? else if m < p * sz+news.length then news[m - p * sz]? else c[m]?:=by
  intro m
  rw [← oU]
  simp only [List.getElem?_toArray]
  by_cases h1:m < p * sz
  ·rw [iH (by simp;omega),iH (by omega),pW,if_pos h1,if_pos h1]
   simp
  ·rw [if_neg h1]
   by_cases h2:m < p * sz+news.length
   ·rw [iH (by simp;omega),jS (by omega),yh,if_pos h2]
   ·rw [if_neg h2,jS (by simp;omega)]
    simp only [kH,yh,oS]
    rw [show p * sz+news.length+(m - (p * sz+news.length))=m by omega]
    simp
 have pY:∀ i,i < o.len→(if i < p then o.get i else if i < p+n then gt (i - p) else o.get i).length=sz:=by
  intro i hi
  split
  ·rw [dh.ub i hi,b2]
  ·split
   ·exact sr.ub _ (by omega)
   ·rw [dh.ub i hi,b2]
 have W5:∀ {u:Value} {x:AV},ar w S (if o.pr then iW else μ) u x→ar w S (if (o.pr && pr)=true then iW else μ) u x:=by
  intro u x hh
  cases hp:pr
  ·rw [Bool.and_false];exact iX hh
  ·rw [Bool.and_true];exact hh
 have Sz:∀ {u:Value} {x:AV},ar w S (if pr then iW else μ) u x→ar w S (if (o.pr && pr)=true then iW else μ) u x:=by
  intro u x hh
  cases hp:o.pr
  ·rw [Bool.false_and];exact iX hh
  ·rw [Bool.true_and];exact hh
 refine ⟨xM,g.write ho uN wz dh (by omega) ⟨false,sz,o.len,o.pr && pr,fun m=>if m < p then o.get m else if m < p+n then gt (m - p) else o.get m⟩ c' b2.symm IZ dh.len pY (by
   intro i j x v hi hx hv
   have hi:i < o.len:=hi
   have hx:(if i < p then o.get i else if i < p+n then gt (i - p) else o.get i)[j]?=some x:=hx
   have hj:j < sz:=by
    have e1:=(dU.1 hx).1
    have e2:=pY i hi
    omega
   have hv:c'[i * sz+j]?=some v:=hv
   rw [qB] at hv
   by_cases G9:i < p
   ·have pB:(i+1) * sz≤p * sz:=dS _ G9
    rw [cD] at pB
    rw [if_pos (by omega)] at hv
    rw [if_pos G9] at hx
    exact W5 (dh.rep i j x v hi hx (by rw [b2];exact hv))
   ·have pB:p * sz≤i * sz:=dS _ (by omega)
    rw [if_neg (by omega),sr.size] at hv
    rw [if_neg G9] at hx
    by_cases zZ:i < p+n
    ·have Pe:(i+1) * sz≤(p+n) * sz:=dS _ zZ
     rw [cD,cD] at Pe
     rw [if_pos (by omega)] at hv
     rw [if_pos zZ] at hx
     refine Sz (sr.rep (i - p) j x v (by omega) hx ?_)
     rw [← hv,Nat.sub_mul];congr 1;omega
    ·have Pe:(p+n) * sz≤i * sz:=dS _ (by omega)
     rw [cD] at Pe
     rw [if_neg (by omega)] at hv
     rw [if_neg zZ] at hx
     exact W5 (dh.rep i j x v hi hx (by rw [b2];exact hv)))
   (fun i x hx=>absurd hx (by
    rw [Qd (o:=⟨false,sz,o.len,o.pr && pr,fun m=>if m < p then o.get m else if m < p+n then gt (m - p) else o.get m⟩) (fun i hi=>by
     show og (if i < p then o.get i else if i < p+n then gt (i - p) else o.get i)=true
     have hi:i < o.len:=hi
     split
     ·exact Ha i hi
     ·split
      ·exact Ky (sr.Sy _ (by omega))
      ·exact Ha i hi)]
    intro h;cases h))⟩
def CG (P:Program) (σ:dD) (t:TypeId) (s x:AV):Option (List Prop×AV×List Nat×sx) :=
 match mY P t with
 | some e=>match ud P e,s,x with
  | some sz,.os k Ay nd,.os k' FB ns=>match Nat.beq k k',au σ k with
   | true,some o=>match Nat.ble 1 sz && Nat.beq o.sz sz && !o.var with
    | true=>some ([nd≤ns,Ay+nd≤o.len,FB+nd≤o.len,∀ i,i < o.len→AV.fJ (o.get i)=true],.atom (.int .i64 nd),[k],
      [(k,some ⟨false,sz,o.len,o.pr,fun m=>if m < Ay then o.get m else if m < Ay+nd then o.get (bC FB (m - Ay)) else o.get m⟩)])
    | false=>none
   | _,_=>none
  | _,_,_=>none
 | none=>none
theorem SU (g:Good E σ S μ w) {t t' ty:TypeId} {s x:AV} {vs vx:Value} (hs:ar w S μ vs s) (hx:ar w S μ vx x) {ps:List Prop} {val:AV} {rd:List Nat} {mF:sx}
  (h:CG P σ t s x=some (ps,val,rd,mF)) (hp:bq ps):Step P E nk σ S μ w (Builtin.copy_ #[t,t'] ty #[vs,vx]) val mF:=by
 unfold CG at h
 split at h
 case h_2=>cases h
 rename_i e he
 have he:=k6 he
 split at h
 case h_2=>cases h
 rename_i sz k Ay nd k' FB ns su
 obtain ⟨ie,ER,rfl⟩:∃ ie,P.info? e=some ie∧ie.size=sz:=by
  unfold ud at su
  simp_all
 split at h
 case h_2=>cases h
 rename_i o PX ho
 have PX:=bW PX
 subst PX
 split at h
 case h_2=>cases h
 rename_i Cy
 simp only [bp,Nat.ble_eq,Bool.not_eq_true'] at Cy
 obtain ⟨⟨b1,b2⟩,Bq⟩:=Cy
 have b2:=bW b2
 simp only [aD,aA] at h
 obtain ⟨rfl,rfl,rfl,rfl⟩:=h
 obtain ⟨p0,p1,p2,p3,_⟩:=hp
 obtain ⟨pl,c,T',uN,dh⟩:=g.rep.ob k o ho
 cases hs with
 | os kn gZ h1 h2 h3 =>
  rename_i cap a
  rw [uN] at gZ;cases gZ
  cases hx with
  | os sI DZ g1 g2 g3 =>
   rename_i Vq a2
   rw [uN] at DZ;cases DZ
   rcases Nat.eq_zero_or_pos nd with h0 | h0
   ·subst h0
    have lV:(Builtin.copy_ #[t,t'] ty #[.slice a 0 cap,.slice a2 ns Vq]).run P w=.ok (goInt 0) w:=by
     have e0:Nat.min ns 0=0:=by simp
     cases a<;>cases a2<;>simp [Builtin.copy_,run_underlying he,Builtin.lenOf,Builtin.firstCells,sizeOf,typeInfo,ER,storeCells,loadCells,loadCellsFrom]
    have eo:(⟨false,ie.size,o.len,o.pr,fun m=>if m < Ay then o.get m else if m < Ay+0 then o.get (bC FB (m - Ay)) else o.get m⟩:Ob)=o:=by
     have:(fun m=>if m < Ay then o.get m else if m < Ay+0 then o.get (bC FB (m - Ay)) else o.get m)=o.get:=by
      funext m
      split
      ·rfl
      ·split
       ·omega
       ·rfl
     rw [this,← b2,← Bq]
    refine ⟨_,w,S,μ,lV,Ext.refl _ _ _,g.congr fun n=>?_,fun _ _ h=>h,.atom _⟩
    show au (sset σ k _) n=_
    grind [bj]
   ·have ha:=h1 (by omega)
    have Se:=g1 (by omega)
    subst ha Se
    have wz:0 < pl.cap:=by have:=dh.len;omega
    obtain ⟨news,sr⟩:=yj (P:=P) (sz:=ie.size) (x:=.os k FB nd) (v:=.slice (some ⟨pl.cQ,FB * pl.sz,none⟩) nd Vq) (n:=nd) (gt:=fun i=>o.get (bC FB i)) (pr:=o.pr) (ps:=[FB+nd≤o.len,∀ i,i < nd→AV.fJ (o.get (bC FB i))=true]) (rd:=[k]) g
     (.os pl uN g1 (by omega) g3) (by grind [vz,sq]) ⟨p2,fun i hi=>p3 _ (by rw [dp];omega),trivial⟩
    obtain ⟨xM,W6,Ve⟩:=g.Qe ho uN dh wz sr b2 b1 p1 (fun i hi=>Ky (p3 i hi)) rfl
    have Bk:=run_storeCells_at P pl.cQ (Ay * ie.size) T' news 0 c w ((dh.cQ wz).trans (by rw [fO (by omega)])) (by simpa using xM) sr.one
    simp only [Nat.add_zero] at Bk
    have Uq:=sr.cells w rfl
    simp only [Builtin.firstCells] at Uq
    have ue:Nat.min ns nd=nd:=Nat.min_eq_right p0
    have lV:(Builtin.copy_ #[t,t'] ty #[.slice (some ⟨pl.cQ,Ay * pl.sz,none⟩) nd cap,.slice (some ⟨pl.cQ,FB * pl.sz,none⟩) ns Vq]).run P w=.ok (goInt nd) (w.setRow pl.cQ (c.toList.take (Ay * ie.size) ++ news ++ c.toList.drop (Ay * ie.size+news.length)).toArray):=by
     rw [dh.sz,b2] at Uq ⊢
     simp [Builtin.copy_,run_underlying he,Builtin.lenOf,Builtin.firstCells,sizeOf,typeInfo,ER,ue,Uq,Bk]
    rw [Bool.and_self] at Ve
    exact ⟨_,_,S,μ,lV,W6,Ve,fun _ _ h=>h,.atom _⟩
def CH (P:Program) (σ:dD) (t:TypeId) (s x:AV):Option (List Prop×AV×List Nat×sx) :=
 match mY P t with
 | some e=>match ud P e,wH P e,sw P e,s with
  | some sz,some _,some _,.os k off m=>match vz σ sz x,au σ k with
   | some (n,gt,pr,ps,rd),some o=>match Nat.ble 1 sz && Nat.beq o.sz sz && !o.var with
    | true=>some ((0 < n∧bC off m+n≤o.len) :: (∀ i,i < o.len→og (o.get i)=true) :: ps,.os k off (m+n),k :: rd,
      [(k,some ⟨false,sz,o.len,o.pr && pr,fun j=>if j < bC off m then o.get j else if j < bC off m+n then gt (j - bC off m) else o.get j⟩)])
    | false=>none
   | _,_=>none
  | _,_,_,_=>none
 | none=>none
theorem SV (g:Good E σ S μ w) {t ty:TypeId} {s x:AV} {vs vx:Value} (hs:ar w S μ vs s) (hx:ar w S μ vx x) {ps:List Prop} {val:AV} {rd:List Nat} {mF:sx}
  (h:CH P σ t s x=some (ps,val,rd,mF)) (hp:bq ps):Step P E nk σ S μ w (Builtin.append_ #[t,t] ty #[vs,vx]) val mF:=by
 unfold CH at h
 split at h
 case h_2=>cases h
 rename_i e he
 have he:=k6 he
 split at h
 case h_2=>cases h
 rename_i sz b z k off m su hb hz
 obtain ⟨ie,ER,rfl,rfl,Pd⟩:=wJ su hb hz
 split at h
 case h_2=>cases h
 rename_i n gt pr PO Nc o vA ho
 split at h
 case h_2=>cases h
 rename_i Cy
 simp only [bp,Nat.ble_eq,Bool.not_eq_true'] at Cy
 obtain ⟨⟨b1,b2⟩,Bq⟩:=Cy
 have b2:=bW b2
 simp only [aD,aA] at h
 obtain ⟨rfl,rfl,rfl,rfl⟩:=h
 obtain ⟨⟨p0,p1⟩,p2,p3⟩:=hp
 obtain ⟨news,sr⟩:=yj (P:=P) g hx vA p3
 obtain ⟨pl,c,T',uN,dh⟩:=g.rep.ob k o ho
 cases hs with
 | os kn gZ h1 h2 h3 =>
  rename_i cap a
  rw [uN] at gZ;cases gZ
  have WA:=dh.len
  have ez:bC off m=off+m:=dp _ _
  have Xi:pl.sz=ie.size:=dh.sz.trans b2
  have ha:=h1 (by omega)
  rw [Xi] at ha
  subst ha
  obtain ⟨xM,W6,Ve⟩:=g.Qe ho uN dh (by omega) sr b2 b1 p1 p2 rfl
  have lV:=L6 (P:=P) (w:=w) (ty:=ty) he ER ((dh.cQ (by omega)).trans (by rw [fO (by omega)])) sr.len sr.cells sr.one (b:=off * ie.size) (sLen:=m) (sCap:=cap) (by omega) (by rw [← cD,← ez];exact xM)
  rw [← cD,← ez] at lV
  exact ⟨_,_,S,μ,lV,W6,Ve,fun _ _ h=>h,ar.os pl uN (fun _=>by rw [Xi]) (by omega) h3⟩
def CI (P:Program) (nk:Nat) (σ:dD) (t:TypeId) (s x:AV):Option (List Prop×AV×List Nat×sx) :=
 match mY P t with
 | some e=>match ud P e,wH P e,sw P e,s with
  | some sz,some b,some z,.Cq k off m=>match vz σ sz x,au σ k with
   | some (n,gt,pr,ps,rd),some o=>match Nat.ble 1 sz && Nat.ble 1 b && Nat.beq z.cells.size sz && Nat.beq o.sz sz && !o.var with
    | true=>some ((0 < n∧bC off m=o.len) :: ((m+n) * b≤140737488355328) :: (∀ i,i < o.len→AV.fJ (o.get i)=true) :: ps,.os nk 0 (m+n),k :: rd,
      [(nk,some ⟨false,sz,m+n,o.pr && pr,fun j=>if j < m then o.get (bC off j) else gt (j - m)⟩)])
    | false=>none
   | _,_=>none
  | _,_,_,_=>none
 | none=>none
theorem SW (g:Good E σ S μ w) (hk:μ nk=none) (hm:E.m0≤nk) {t ty:TypeId} {s x:AV} {vs vx:Value} (hs:ar w S μ vs s) (hx:ar w S μ vx x) {ps:List Prop} {val:AV} {rd:List Nat} {mF:sx}
  (h:CI P nk σ t s x=some (ps,val,rd,mF)) (hp:bq ps):Step P E nk σ S μ w (Builtin.append_ #[t,t] ty #[vs,vx]) val mF:=by
 unfold CI at h
 split at h
 case h_2=>cases h
 rename_i e he
 have he:=k6 he
 split at h
 case h_2=>cases h
 rename_i sz b z k off m su hb hz
 obtain ⟨ie,ER,rfl,rfl,Pd⟩:=wJ su hb hz
 split at h
 case h_2=>cases h
 rename_i n gt pr PO Nc o vA ho
 split at h
 case h_2=>cases h
 rename_i Cy
 simp only [bp,Nat.ble_eq,Bool.not_eq_true'] at Cy
 obtain ⟨⟨⟨⟨b1,bb⟩,b3⟩,b2⟩,Bq⟩:=Cy
 have b2:=bW b2
 have b3:=bW b3
 simp only [aD,aA] at h
 obtain ⟨rfl,rfl,rfl,rfl⟩:=h
 obtain ⟨⟨p0,DZ⟩,p1,p2,p3⟩:=hp
 rw [dp] at DZ
 obtain ⟨news,sr⟩:=yj (P:=P) g hx vA p3
 obtain ⟨pl,c,T',uN,dh⟩:=g.rep.ob k o ho
 cases hs with
 | Cq kn gZ h1 h2 =>
  rename_i a
  rw [uN] at gZ;cases gZ
  obtain ⟨olds,so⟩:=yj (P:=P) (sz:=ie.size) (x:=.os k off m) (v:=.slice a m m) (n:=m) (gt:=fun i=>o.get (bC off i)) (pr:=o.pr) (ps:=[off+m≤o.len,∀ i,i < m→AV.fJ (o.get (bC off i))=true]) (rd:=[k]) g
   (.os pl uN h1 (az _) h2) (by grind [vz,sq]) ⟨by omega,fun i hi=>p2 _ (by rw [dp];omega),trivial⟩
  have lV:=wP (P:=P) (w:=w) (ty:=ty) he ER Pd so.cells sr.len sr.cells (by omega) bb p1
  have xL:=Fk w (m+n) m e
  have pY:∀ i,i < m+n→((fun q=>if q < m then o.get (bC off q) else gt (q - m)) i).length=ie.size:=by
   intro i hi
   show (if i < m then o.get (bC off i) else gt (i - m)).length=_
   split
   ·rw [dh.ub (bC off i) (by rw [dp];omega),b2]
   ·exact sr.ub _ (by omega)
  have gg:=g.grow (e:=e) hk hm (sz:=ie.size) (n:=n) (len:=m) (cap:=grownCap w (m+n) m e) (olds:=olds) (news:=news)
   (rest:=Builtin.zeroCells z.cells (grownCap w (m+n) m e - (m+n))) (pr:=o.pr && pr) (get:=fun q=>if q < m then o.get (bC off q) else gt (q - m))
   so.size sr.size (by rw [size_zeroCells,b3]) xL pY (by
    intro i j x u hi hx hu
    have hx:(if i < m then o.get (bC off i) else gt (i - m))[j]?=some x:=hx
    have hj:j < ie.size:=by
     have e1:=(dU.1 hx).1
     have e2:(if i < m then o.get (bC off i) else gt (i - m)).length=ie.size:=pY i hi
     omega
    by_cases G9:i < m
    ·have pB:(i+1) * ie.size≤m * ie.size:=dS _ G9
     rw [cD] at pB
     rw [if_pos G9] at hx
     rw [iH (by rw [so.size];omega)] at hu
     have:=so.rep i j x u G9 hx hu
     cases hp:pr
     ·rw [Bool.and_false];exact iX this
     ·rw [Bool.and_true];exact this
    ·have pB:m * ie.size≤i * ie.size:=dS _ (by omega)
     rw [if_neg G9] at hx
     rw [jS (by rw [so.size];omega),so.size] at hu
     have:=sr.rep (i - m) j x u (by omega) hx (by rw [← hu,Nat.sub_mul];congr 1;omega)
     cases hp:o.pr
     ·rw [Bool.false_and];exact iX this
     ·rw [Bool.true_and];exact this) (by omega)
   (g.Kb hk _ _ (fun _=>az _) (pZ fun i hi=>by
    have hi:i < m+n:=hi
    show AV.fJ (if i < m then o.get (bC off i) else gt (i - m))=true
    split
    ·exact p2 _ (by rw [dp];omega)
    ·exact sr.Sy _ (by omega)) (fun b h=>fC (w:=w.drew) h) (fun _ h=>h) (fun _ h=>.inl h))
  refine ⟨_,_,S,_,lV,gg.1,gg.2,fun k ph hn=>by rw [ny _ ph];exact hn,?_⟩
  exact ar.os ⟨w.heap.size,grownCap w (m+n) m e,ie.size⟩ (by simp [ca]) (by simp) xL (by simp)
def zx (P:Program) (σ:dD) (t:TypeId) (x:AV):Option (List Prop×AV×List Nat×sx) :=
 match mY P t with
 | some e=>match ud P e,wH P e,sw P e,x with
  | some sz,some _,some z,.os k off n=>match au σ k with
   | some o=>match Nat.ble 1 sz && Nat.beq o.sz sz && !o.var && Nat.beq z.cells.size sz && z.cells.toList.all (·.oneCell') with
    | true=>some ([0 < n∧off+n≤o.len],.mH,[k],[(k,some ⟨false,sz,off,o.pr,o.get⟩)])
    | false=>none
   | none=>none
  | _,_,_,_=>none
 | none=>none
theorem Qf (g:Good E σ S μ w) {t ty:TypeId} {x:AV} {vx:Value} (hx:ar w S μ vx x) {ps:List Prop} {val:AV} {rd:List Nat} {mF:sx}
  (h:zx P σ t x=some (ps,val,rd,mF)) (hp:bq ps):Step P E nk σ S μ w (Builtin.clear_ #[t] ty #[vx]) val mF:=by
 unfold zx at h
 split at h
 case h_2=>cases h
 rename_i e he
 have he:=k6 he
 split at h
 case h_2=>cases h
 rename_i sz b z k off n su hb hz
 obtain ⟨ie,ER,rfl,rfl,Pd⟩:=wJ su hb hz
 split at h
 case h_2=>cases h
 rename_i o ho
 split at h
 case h_2=>cases h
 rename_i Cy
 simp only [bp,Nat.ble_eq,Bool.not_eq_true'] at Cy
 obtain ⟨⟨⟨⟨b1,b2⟩,Bq⟩,b3⟩,b4⟩:=Cy
 have b2:=bW b2
 have b3:=bW b3
 simp only [aD,aA] at h
 obtain ⟨rfl,rfl,rfl,rfl⟩:=h
 obtain ⟨⟨p0,p1⟩,_⟩:=hp
 obtain ⟨pl,c,T',uN,dh⟩:=g.rep.ob k o ho
 cases hx with
 | os kn gZ h1 h2 h3 =>
  rename_i cap a
  rw [uN] at gZ;cases gZ
  have WA:=dh.len
  have ha:=h1 (by omega)
  subst ha
  have wz:0 < pl.cap:=by omega
  have hzl:(Builtin.zeroCells z.cells n).toList.length=n * ie.size:=by simp [Builtin.zeroCells,b3]
  have Hg:∀ u∈(Builtin.zeroCells z.cells n).toList,u.oneCell'=true:=by
   intro u hu
   simp only [Builtin.zeroCells,Array.toList_map,List.mem_map] at hu
   obtain ⟨i,hi,rfl⟩:=hu
   have gY:i % z.cells.size < z.cells.size:=Nat.mod_lt _ (by omega)
   rw [getElem!_pos z.cells (i % z.cells.size) gY]
   rw [List.all_eq_true] at b4
   exact b4 _ (Array.mem_toList_iff.2 (Array.getElem_mem gY))
  have xM:off * ie.size+(Builtin.zeroCells z.cells n).toList.length≤c.size:=by
   have e1:(off+n) * ie.size≤pl.cap * ie.size:=dS _ (by omega)
   have e2:=dh.cap
   rw [b2] at e2
   rw [hzl,← cD];omega
  have Bk:=run_storeCells_at P pl.cQ (off * ie.size) T' (Builtin.zeroCells z.cells n).toList 0 c w ((dh.cQ wz).trans (by rw [fO (by omega)])) (by simpa using xM) Hg
  simp only [Nat.add_zero] at Bk
  generalize oU:(c.toList.take (off * ie.size) ++ (Builtin.zeroCells z.cells n).toList ++ c.toList.drop (off * ie.size+(Builtin.zeroCells z.cells n).toList.length)).toArray=c' at Bk
  have lV:(Builtin.clear_ #[t] ty #[.slice (some ⟨pl.cQ,off * pl.sz,none⟩) n cap]).run P w=.ok (.tuple #[]) (w.setRow pl.cQ c'):=by
   rw [dh.sz,b2]
   obtain ⟨m,rfl⟩:∃ m,n=m+1:=⟨n - 1,by omega⟩
   simp [Builtin.clear_,run_underlying he,zeroValue,typeInfo,ER,Pd,Bk]
  have yh:(c.toList.take (off * ie.size)).length=off * ie.size:=by simp;omega
  have IZ:c'.size=c.size:=by
   rw [← oU]
   simp only [List.size_toArray,kH,yh,List.length_drop,Array.length_toList]
   rw [Array.length_toList] at xM
   omega
  have qB:∀ m,m < off * ie.size→c'[m]?=c[m]?:=by
   intro m h1
   rw [← oU]
   simp only [List.getElem?_toArray]
   rw [iH (by simp;omega),iH (by omega),pW,if_pos h1]
   simp
  have wG:∀ i x,rowOf ⟨false,ie.size,off,o.pr,o.get⟩ i=some x→rowOf o i=some x∧i < off:=fun i x hx=>by
   obtain ⟨_,q2,q3⟩:=di hx
   have q2:i < off:=q2
   exact ⟨k5 Bq (by omega) q3,q2⟩
  have Qg:∀ i,i < off→∀ j,j < ie.size→i * ie.size+j < off * ie.size:=fun i hi j hj=>by
   have pB:(i+1) * ie.size≤off * ie.size:=dS _ hi
   rw [cD] at pB;omega
  have gw:=g.write ho uN wz dh (by omega) ⟨false,ie.size,off,o.pr,o.get⟩ c' b2.symm IZ (show off≤pl.cap by omega) (fun i hi=>by
   have hi:i < off:=hi
   show (o.get i).length=ie.size
   rw [dh.ub i (by omega),b2]) (by
   intro i j x v hi hx hv
   have hi:i < off:=hi
   have hx:(o.get i)[j]?=some x:=hx
   have hj:j < ie.size:=by
    have e1:=(dU.1 hx).1
    rw [dh.ub i (by omega),b2] at e1;exact e1
   have hv:c'[i * ie.size+j]?=some v:=hv
   rw [qB _ (Qg i hi j hj)] at hv
   exact dh.rep i j x v (by omega) hx (by rw [b2];exact hv)) (fun i x hx=>⟨(wG i x hx).1,by
    rw [b2];exact qB _ (by have:=Qg i (wG i x hx).2 0 (by omega);omega)⟩)
  exact ⟨_,_,S,μ,lV,gw.1,gw.2,fun _ _ h=>h,.mH⟩
def yu (P:Program) (nk:Nat) (σ:dD) (op:Op) (e:Operand→AV) (bw:Option ow):Option R :=
 match ZJ bw with
 | none=>eu P nk σ op e bw
 | some q=>match op with
  | .load T a=>(zw P σ T ((e a).strip.1) q.res).map fun (ps,v,rd)=>⟨conds e [a] ++ ps,v,rd,[]⟩
  | .call ⟨.builtin .append,args,H0⟩=>match args.toList,H0.toList with
   | [x,y],[t,t']=>match Nat.beq t t' with
    | true=>(match q.ks,q.res with
     | [],.mH=>CF P σ t ((e x).strip.1) ((e y).strip.1)
     | [],.nil=>CH P σ t ((e x).strip.1) ((e y).strip.1)
     | [],_=>CI P nk σ t ((e x).strip.1) ((e y).strip.1)
     | _,_=>tf P nk σ t ((e x).strip.1) ((e y).strip.1) q).map fun (ps,v,rd,u)=>⟨conds e [x,y] ++ ps,v,rd,u⟩
    | false=>none
   | _,_=>none
  | .call ⟨.builtin .copy,args,H0⟩=>match args.toList,H0.toList with
   | [x,y],[t,_]=>(CG P σ t ((e x).strip.1) ((e y).strip.1)).map fun (ps,v,rd,u)=>⟨conds e [x,y] ++ ps,v,rd,u⟩
   | _,_=>none
  | .call ⟨.builtin .clear,args,H0⟩=>match args.toList,H0.toList with
   | [x],[t]=>(zx P σ t ((e x).strip.1)).map fun (ps,v,rd,u)=>⟨conds e [x] ++ ps,v,rd,u⟩
   | _,_=>none
  | .slice t x lo hi mx=>match mx with
   | none=>(vF P σ t ((e x).strip.1) (lo.map fun y=>(e y).strip.1) (hi.map fun y=>(e y).strip.1)).map fun (ps,v,rd)=>⟨conds e (x :: (lo.toList ++ hi.toList)) ++ ps,v,rd,[]⟩
   | some m=>match lo,hi with
    | some l,some h=>(FA P t ((e x).strip.1) ((e l).strip.1) ((e h).strip.1) ((e m).strip.1)).map fun (ps,v,rd)=>⟨conds e [x,l,h,m] ++ ps,v,rd,[]⟩
    | _,_=>none
  | op=>eu P nk σ op e bw
theorem H6 {o:Oper} {a:Act} {e:Operand→AV} {bw:Option ow} {r:R} {next:Act→World→Prop} {Q:Exit→Act→World→Prop}
  (he:∀ x∈o.op.operands.toList,ar w S μ (a.eval x) (e x)) (g:Good E σ S μ w) (Ax:∀ j,j < 16→μ (nk+j)=none) (hm:E.m0≤nk)
  (hz:∀ x,bw=some x→x.xO=true→∀ b,¬ E.fp b) (h:yu P nk σ o.op e bw=some r) (hp:bq r.HR) (hK:Qb E nk σ S μ w r fun v w'=>next (a.put o.dst v) w'):o.wp P a w next Q:=by
 unfold yu at h
 split at h
 ·exact Kx he g Ax hm hz h hp hK
 ·have hk:μ nk=none:=Ax 0 (by omega)
  have st:∀ (xs:List Operand),bq (conds e xs)→(∀ x∈xs,x∈o.op.operands.toList)→∀ x∈xs,ar w S μ (a.eval x) ((e x).strip.1) :=
   fun xs h1 h2 x hx=>(he x (h2 x hx)).strip (zu h1 x hx)
  obtain ⟨dst,op,ty,pos,after,guard⟩:=o
  simp only at he h hK st ⊢
  split at h
  ·rename_i T x
   simp only [aK] at h
   obtain ⟨⟨ps,v,rd⟩,h1,rfl⟩:=h
   obtain ⟨p1,p2⟩:=bq.app hp
   obtain ⟨u,r1,r2⟩:=Qc g (st [x] p1 (by simp [Op.operands]) x (by simp)) h1 p2
   unfold Oper.wp
   have ex:execOp a.eval ⟨dst,.load T x,ty,pos,after,guard⟩=(do pure (.value (← Instr.loadAt T (a.eval x))):Sem Next):=rfl
   rw [ex]
   simp only [bN,r1,df,Sem.run_pure]
   exact hK u w S μ (Ext.refl _ _ _) g (fun _ _ h=>h) r2
  ·rename_i args H0
   split at h
   case h_2=>cases h
   rename_i x y t t' ha ht
   split at h
   case h_2=>cases h
   rename_i hb
   have hb:=bW hb
   subst hb
   obtain ⟨rfl⟩:args=#[x,y]:=Array.toList_inj.1 (by rw [ha])
   obtain ⟨rfl⟩:H0=#[t,t]:=Array.toList_inj.1 (by rw [ht])
   simp only [aK] at h
   obtain ⟨⟨ps,v,rd,u⟩,h1,rfl⟩:=h
   obtain ⟨p1,p2⟩:=bq.app hp
   have s:=st [x,y] p1 (by simp [Op.operands,Call.operands])
   have Bk:Step P E nk σ S μ w (Builtin.append_ #[t,t] ty #[a.eval x,a.eval y]) v u:=by
    split at h1
    ·exact SS (ty:=ty) g (s x (by simp)) (s y (by simp)) h1 p2
    ·exact SV (ty:=ty) g (s x (by simp)) (s y (by simp)) h1 p2
    ·exact SW (ty:=ty) g hk hm (s x (by simp)) (s y (by simp)) h1 p2
    ·exact Me (ty:=ty) g hk hm (s x (by simp)) (s y (by simp)) h1 p2
   obtain ⟨v',w',S',dy,r1,r2,r3,r4,r5⟩:=Bk
   unfold Oper.wp
   have ex:execOp a.eval ⟨dst,.call ⟨.builtin .append,#[x,y],#[t,t]⟩,ty,pos,after,guard⟩=(do pure (.value (← Builtin.append_ #[t,t] ty #[a.eval x,a.eval y])):Sem Next):=by simp [execOp,resolve,invoke,builtin]
   rw [ex]
   simp only [bN,r1,df,Sem.run_pure]
   exact hK v' w' S' dy r2 r3 (fun k ph=>r4 k (by omega)) r5
  ·rename_i args H0
   split at h
   case h_2=>cases h
   rename_i x y t t' ha ht
   obtain ⟨rfl⟩:args=#[x,y]:=Array.toList_inj.1 (by rw [ha])
   obtain ⟨rfl⟩:H0=#[t,t']:=Array.toList_inj.1 (by rw [ht])
   simp only [aK] at h
   obtain ⟨⟨ps,v,rd,u⟩,h1,rfl⟩:=h
   obtain ⟨p1,p2⟩:=bq.app hp
   have s:=st [x,y] p1 (by simp [Op.operands,Call.operands])
   obtain ⟨v',w',S',dy,r1,r2,r3,r4,r5⟩:=SU (nk:=nk) (t':=t') (ty:=ty) g (s x (by simp)) (s y (by simp)) h1 p2
   unfold Oper.wp
   have ex:execOp a.eval ⟨dst,.call ⟨.builtin .copy,#[x,y],#[t,t']⟩,ty,pos,after,guard⟩=(do pure (.value (← Builtin.copy_ #[t,t'] ty #[a.eval x,a.eval y])):Sem Next):=by simp [execOp,resolve,invoke,builtin]
   rw [ex]
   simp only [bN,r1,df,Sem.run_pure]
   exact hK v' w' S' dy r2 r3 (fun k ph=>r4 k (by omega)) r5
  ·rename_i args H0
   split at h
   case h_2=>cases h
   rename_i x t ha ht
   obtain ⟨rfl⟩:args=#[x]:=Array.toList_inj.1 (by rw [ha])
   obtain ⟨rfl⟩:H0=#[t]:=Array.toList_inj.1 (by rw [ht])
   simp only [aK] at h
   obtain ⟨⟨ps,v,rd,u⟩,h1,rfl⟩:=h
   obtain ⟨p1,p2⟩:=bq.app hp
   have s:=st [x] p1 (by simp [Op.operands,Call.operands])
   obtain ⟨v',w',S',dy,r1,r2,r3,r4,r5⟩:=Qf (nk:=nk) (ty:=ty) g (s x (by simp)) h1 p2
   unfold Oper.wp
   have ex:execOp a.eval ⟨dst,.call ⟨.builtin .clear,#[x],#[t]⟩,ty,pos,after,guard⟩=(do pure (.value (← Builtin.clear_ #[t] ty #[a.eval x])):Sem Next):=by simp [execOp,resolve,invoke,builtin]
   rw [ex]
   simp only [bN,r1,df,Sem.run_pure]
   exact hK v' w' S' dy r2 r3 (fun k ph=>r4 k (by omega)) r5
  ·rename_i t x lo hi mx
   have ex:∀ y,execOp a.eval ⟨dst,.slice t x lo hi y,ty,pos,after,guard⟩=(do pure (.value (← Instr.sliceAt t (a.eval x) (lo.map a.eval) (hi.map a.eval) (y.map a.eval))):Sem Next):=fun y=>rfl
   cases mx with
   | none =>
    simp only [aK] at h
    obtain ⟨⟨ps,v,rd⟩,h1,rfl⟩:=h
    obtain ⟨p1,p2⟩:=bq.app hp
    have s:=st (x :: (lo.toList ++ hi.toList)) p1 (by
     intro y hy
     simp only [kI,List.mem_append,Option.mem_toList] at hy
     simp only [Op.operands]
     rcases hy with rfl | hy | hy
     ·simp
     ·simp [hy]
     ·simp [hy])
    obtain ⟨u,r1,r2⟩:=OG (P:=P) (vlo:=lo.map a.eval) (vhi:=hi.map a.eval) g (s x (by simp)) (by
     refine ⟨by simp,?_⟩
     intro p q ta hq
     simp only [aK] at ta hq
     obtain ⟨y,hy,rfl⟩:=ta
     obtain ⟨z,hz,rfl⟩:=hq
     rw [hy] at hz;cases hz
     exact s y (by simp [hy])) (by
     refine ⟨by simp,?_⟩
     intro p q ta hq
     simp only [aK] at ta hq
     obtain ⟨y,hy,rfl⟩:=ta
     obtain ⟨z,hz,rfl⟩:=hq
     rw [hy] at hz;cases hz
     exact s y (by simp [hy])) h1 p2
    unfold Oper.wp
    rw [ex none]
    simp only [Option.map_none,bN,r1,df,Sem.run_pure]
    exact hK u w S μ (Ext.refl _ _ _) g (fun _ _ h=>h) r2
   | some m =>
    simp only at h
    split at h
    case h_2=>cases h
    rename_i l hh
    simp only [aK] at h
    obtain ⟨⟨ps,v,rd⟩,h1,rfl⟩:=h
    obtain ⟨p1,p2⟩:=bq.app hp
    have s:=st [x,l,hh,m] p1 (by simp [Op.operands])
    obtain ⟨u,r1,r2⟩:=OF (P:=P) (s x (by simp)) (s l (by simp)) (s hh (by simp)) (s m (by simp)) h1 p2
    unfold Oper.wp
    rw [ex (some m)]
    simp only [Option.map_some,bN,r1,df,Sem.run_pure]
    exact hK u w S μ (Ext.refl _ _ _) g (fun _ _ h=>h) r2
  ·exact Kx (o:=⟨dst,op,ty,pos,after,guard⟩) he g Ax hm hz h hp hK
def SF (μ:Mu) (F:List Nat) (σ:dD) (S:Nat→Prop) (b:Nat):Prop:=S b∨∃ k o pl,k∈F∧au σ k=some o∧μ k=some pl∧0 < pl.cap∧pl.cQ=b
theorem Good.freeze (g:Good E σ S μ w) (F:List Nat) (hz:∀ b,¬ E.fp b):Good E (fI σ (vB true F)) (SF μ F σ S) μ w:=by
 have sg:∀ n o,au (fI σ (vB true F)) n=some o→au σ n=some o∧n ∉ F:=fun n o h=>by
  rw [mK] at h
  simp_all
 have e:Ext w S μ w (SF μ F σ S) μ:=⟨az _,fun _ h=>.inl h,fun _ _=>rfl,fun _ _ h=>h⟩
 refine ⟨g.fr,fun b h=>.inl (g.S0 b h),?_,?_,⟨?_,?_⟩,?_,g.EO,?_⟩
 ·rintro b (h1 | ⟨k1,o1,Bj,SX,xy,LW,uc,rfl⟩)
  ·exact g.S1 b h1
  ·obtain ⟨kn,c,T,gZ,Qh⟩:=g.rep.ob k1 o1 xy
   rw [LW] at gZ;cases gZ
   exact gC (Qh.cQ uc)
 ·rintro b (h1 | ⟨k1,o1,Bj,SX,xy,LW,uc,rfl⟩)
  ·exact g.S2 b h1
  ·rcases g.own k1 o1 Bj xy LW uc with h2 | h2
   ·exact (hz _ h2).elim
   ·exact .inr h2
 ·intro k o SY
  obtain ⟨h0,ZK⟩:=sg k o SY
  obtain ⟨pl,c,T,uu,uS⟩:=g.rep.ob k o h0
  refine ⟨pl,c,T,uu,uS.ext e (fun _=>rfl) ?_⟩
  rintro hc (h1 | ⟨k1,o1,Bj,SX,xy,LW,uc,hb⟩)
  ·exact uS.out hc h1
  ·exact g.rep.ne k1 k o1 o Bj pl (fun h=>ZK (h ▸ SX)) xy h0 LW uu uc hc hb
 ·intro k k' o o' pl kn fx h1 h2 h3 h4 h5 h6
  exact g.rep.ne k k' o o' pl kn fx (sg _ _ h1).1 (sg _ _ h2).1 h3 h4 h5 h6
 ·exact fun k o pl h1 h2 h3=>g.own k o pl (sg _ _ h1).1 h2 h3
 ·have Xj:∀ k i x v,je w μ (fI σ (vB true F)) k i x v→je w μ σ k i x v:=fun k i x v ⟨o,pl,h1,h2,h3,h4⟩=>⟨o,pl,(sg _ _ h1).1,h2,h3,h4⟩
  refine g.mx.tr (fun k=>k) Xj (fun _ _ _ _ _ _ _ _ _ _ h=>h) (fun _ h=>.inl h) (fun _ _=>rfl) (fun k i x v b _ h hb=>⟨rfl,?_,fun h=>h⟩) (fun k o pl h1 h2 h3=>.inl ⟨k,o,pl,(sg _ _ h1).1,h2,h3,rfl⟩)
  rintro (h1 | ⟨k1,o1,Bj,_,xy,LW,uc,h1⟩)
  ·exact (g.mx.cQ h hb).2.1 h1
  ·exact g.mx.obj _ _ _ _ _ h hb k1 o1 Bj xy LW uc h1
def Sg (σ:dD):dD→Option (List Prop)
 | []=>some []
 | (k,o') :: r=>match au σ k,Sg σ r with
  | some o,some ps=>match o.pr with
   | true=>some ((o'.len≤o.len) :: (∀ i,i < o'.len→o'.get i=o.get i) :: ps)
   | false=>none
  | _,_=>none
mutual
def UC (τ:dD):AV→AV
 | .os k off len=>match off,au τ k with
  | 0,some o=>.sl o.len o.get
  | _,_=>.os k off len
 | .agg cs=>.agg (Vr τ cs)
 | x=>x
def Vr (τ:dD):List AV→List AV
 | []=>[]
 | c :: cs=>UC τ c :: Vr τ cs
end
mutual
def Vs (τ:dD):AV→List Prop
 | .os k off len=>match off,au τ k with
  | 0,some o=>[len=o.len]
  | _,_=>[]
 | .agg cs=>SZ τ cs
 | _=>[]
def SZ (τ:dD):List AV→List Prop
 | []=>[]
 | c :: cs=>Vs τ c ++ SZ τ cs
end
def WG (τ:dD) (e:Operand→AV):List Operand→List Prop
 | []=>[]
 | x :: r=>Vs τ (e x) ++ WG τ e r
theorem No:∀ {τ:dD} {ps:List Prop},Sg σ τ=some ps→bq ps→∀ {k:Nat} {o':Ob},au τ k=some o'→k∈τ.map (·.1)∧∃ o,au σ k=some o∧o.pr=true∧o'.len≤o.len∧∀ i,i < o'.len→o'.get i=o.get i
 | [],ps,_,_,k,o',h=>by simp [au] at h
 | (k0,o0) :: r,ps,h,hp,k,o',hk=>by
  simp only [Sg] at h
  split at h
  ·rename_i o qs ho hr
   split at h
   ·rename_i LS
    cases h
    obtain ⟨p1,p2,p3⟩:=hp
    simp only [au] at hk
    split at hk
    ·simp_all
    ·obtain ⟨q1,q2⟩:=No hr p3 hk
     simp_all
   ·cases h
  ·cases h
theorem kJ {dy:Mu} {v:Value} {x:AV} {F:List Nat} (h:ar w S dy v x):ar w (SF μ F σ S) dy v x:=h.mono (fun _ h=>.inl h) (fun _ _=>rfl) (fun _ _ h=>h)
theorem Xk (g:Good E σ S μ w) {τ:dD} {qs:List Prop} (hs:Sg σ τ=some qs) (hq:bq qs) {k off len:Nat} {v:Value} (h:ar w S μ v (.os k off len)) (hp:bq (Vs τ (.os k off len))):ar w (SF μ (τ.map (·.1)) σ S) μ v (UC τ (.os k off len)):=by
 simp only [UC,Vs] at hp ⊢
 split at hp
 ·rename_i o' wA
  obtain ⟨rfl,_⟩:=hp
  obtain ⟨hF,o,ho,LS,p2,p3⟩:=No hs hq wA
  obtain ⟨pl,c,T,hm,dh⟩:=g.rep.ob k o ho
  cases h with
  | os kn gZ h1 h2 h3 =>
   rename_i cap a
   rw [hm] at gZ;cases gZ
   refine .sl pl.cQ (0 * pl.sz) o.sz (fun i j=>(c[(0+i) * o.sz+j]?).getD undef) ?_ (fun i hi=>by rw [p3 i hi];exact dh.ub _ (by omega)) ?_ ?_ h2
   ·intro hl
    exact ⟨h1 (by omega),.inr ⟨k,o,pl,hF,ho,hm,by omega,rfl⟩⟩
   ·intro i j hi hj
    obtain ⟨v,q1,q2⟩:=da dh (i:=0+i) (by omega) hj
    simp_all
   ·intro i j c' hi oU
    rw [p3 i hi] at oU
    obtain ⟨v,q1,q2⟩:=da dh (i:=0+i) (by omega) (by have:=(dU.1 oU).1;rw [dh.ub _ (by omega)] at this;exact this)
    rw [q1]
    have:=dh.rep _ j c' v (by omega) (by simp_all) q1
    grind [kJ]
 ·exact kJ h
mutual
theorem Qi (g:Good E σ S μ w) {τ:dD} {qs:List Prop} (hs:Sg σ τ=some qs) (hq:bq qs):∀ (x:AV) (v:Value),ar w S μ v x→bq (Vs τ x)→ar w (SF μ (τ.map (·.1)) σ S) μ v (UC τ x)
 | .os _ _ _,_,h,hp=>Xk g hs hq h hp
 | .agg cs,v,h,hp=>by
  simp only [UC,Vs] at hp ⊢
  obtain ⟨vs,rfl,h1,h2⟩:=n4 h
  obtain ⟨q1,q2⟩:=Np g hs hq cs hp
  refine .agg (h1.trans q1.symm) fun j c v hc hv=>?_
  grind
 | .nil,_,h,_=>kJ h
 | .atom _,_,h,_=>kJ h
 | .tup _,_,h,_=>kJ h
 | .sl _ _,_,h,_=>kJ h
 | .rp _ _,_,h,_=>kJ h
 | .op _ _ _,_,h,_=>kJ h
 | .fn _ _ _,_,h,_=>kJ h
 | .when _ _,_,h,_=>kJ h
 | .mp _,_,h,_=>kJ h
 | .bn _,_,h,_=>kJ h
 | .pt _ _,_,h,_=>kJ h
 | .ov _ _ _ _ _,_,h,_=>kJ h
 | .Cq _ _ _,_,h,_=>kJ h
 | .nq _ _,_,h,_=>kJ h
 | .mH,_,h,_=>kJ h
 | .mr _ _ _,_,h,_=>kJ h
theorem Np (g:Good E σ S μ w) {τ:dD} {qs:List Prop} (hs:Sg σ τ=some qs) (hq:bq qs):∀ (cs:List AV),bq (SZ τ cs)→(Vr τ cs).length=cs.length ∧
  ∀ (j:Nat) c y v,cs[j]?=some c→(Vr τ cs)[j]?=some y→ar w S μ v c→ar w (SF μ (τ.map (·.1)) σ S) μ v y
 | [],_=>⟨rfl,fun j c y v hc=>by simp at hc⟩
 | c :: cs,hp=>by
  simp only [SZ] at hp
  obtain ⟨p1,p2⟩:=bq.app hp
  obtain ⟨q1,q2⟩:=Np g hs hq cs p2
  refine ⟨by simp [Vr,q1],fun j c' y v hc hy h=>?_⟩
  cases j with
  | zero =>
   simp only [Vr,List.getElem?_cons_zero,aD] at hc hy
   subst hc hy
   exact Qi g hs hq c v h p1
  | succ j =>
   simp only [Vr,EN] at hc hy
   exact q2 j c' y v hc hy h
end
def Qj (op:Op):Option ow→Option dD
 | none=>none
 | some q=>match q.xO,op with
  | true,.buildSlice _ _ _=>some q.oA
  | true,.build _ _=>some q.oA
  | true,.box _ _=>some q.oA
  | true,.store _ _ _=>some q.oA
  | _,_=>none
theorem Mf {c:Call} (bw:Option ow):Qj (.defer c) bw=none:=by
 cases bw with
 | none=>rfl
 | some q=>grind [Qj]
theorem Qk {op:Op} {bw:Option ow} {τ:dD} (h:Qj op bw=some τ):∃ x,bw=some x∧x.xO=true:=by
 unfold Qj at h
 grind
def Ak (P:Program) (nk:Nat) (σ:dD) (op:Op) (e:Operand→AV) (bw:Option ow):Option R :=
 match Qj op bw with
 | none=>yu P nk σ op e bw
 | some τ=>match Sg σ τ,yu P nk (fI σ (vB true (τ.map (·.1)))) op (fun x=>UC τ (e x)) bw with
  | some ps,some r=>some ⟨ps ++ (WG τ e op.operands.toList ++ r.HR),r.val,τ.map (·.1) ++ r.LU,vB true (τ.map (·.1)) ++ r.mF⟩
  | _,_=>none
theorem Nq {τ:dD} {e:Operand→AV}:∀ {xs:List Operand},bq (WG τ e xs)→∀ x∈xs,bq (Vs τ (e x))
 | [],_,x,hx=>by simp at hx
 | y :: r,h,x,hx=>by
  obtain ⟨h1,h2⟩:=bq.app h
  rcases kI.1 hx with rfl | hx
  ·exact h1
  ·exact Nq h2 x hx
theorem OH {o:Oper} {a:Act} {e:Operand→AV} {bw:Option ow} {r:R} {next:Act→World→Prop} {Q:Exit→Act→World→Prop}
  (he:∀ x∈o.op.operands.toList,ar w S μ (a.eval x) (e x)) (g:Good E σ S μ w) (Ax:∀ j,j < 16→μ (nk+j)=none) (hm:E.m0≤nk)
  (hz:∀ x,bw=some x→x.xO=true→∀ b,¬ E.fp b) (h:Ak P nk σ o.op e bw=some r) (hp:bq r.HR) (hK:Qb E nk σ S μ w r fun v w'=>next (a.put o.dst v) w'):o.wp P a w next Q:=by
 unfold Ak at h
 split at h
 ·grind [H6]
 ·rename_i τ hτ
  split at h
  ·rename_i ps r0 h1 h2
   cases h
   obtain ⟨p1,p23⟩:=bq.app hp
   obtain ⟨p2,p3⟩:=bq.app p23
   obtain ⟨q,FC,ee⟩:=Qk hτ
   have g1:=g.freeze (τ.map (·.1)) (hz q FC ee)
   have e1:Ext w S μ w (SF μ (τ.map (·.1)) σ S) μ:=⟨az _,fun _ h=>.inl h,fun _ _=>rfl,fun _ _ h=>h⟩
   refine H6 (e:=fun x=>UC τ (e x)) (fun x hx=>Qi g h1 p1 _ _ (he x hx) (Nq p2 x hx)) g1 Ax hm hz h2 p3 ?_
   intro v w' S' dy x1 x2 x3 x4
   exact hK v w' S' dy (e1.trans x1) (by rw [gD];exact x2) x3 x4
  ·cases h
end
end Go.Ab
namespace Go.Ab
structure St where
 tm:List (Nat×AV)
 oA:dD
 nk:Nat
def uT:AV→Bool→Option Bool
 | .atom (.bool b),want=>some (match want with
  | true=>b
  | false=>!b)
 | .when g x,want=>(uT x want).map fun b=>g && b
 | _,_=>none
structure Rec where
 HR:List Prop
 dst:Option Nat
 val:AV
 LU:List Nat
 mF:sx
def BA (σ:dD) (op:Op) (e:Operand→AV) (y:YC):Option R :=
 match op with
 | .call ⟨.value f,args,_⟩=>match (e f).strip.1,au σ y.k with
  | .atom (.func (.yield l) vs ws),some o=>some ⟨(l=y.l∧vs=#[]∧ws=#[]∧args.toList.map (fun x=>(e x).strip.1)=y.as∧o=y.o) :: conds e (f :: args.toList),.atom (.bool true),[y.k],[(y.k,some y.o')]⟩
  | _,_=>none
 | _=>none
def yw (P:Program) (nk:Nat) (σ:dD) (op:Op) (e:Operand→AV) (bw:Option ow):Option R :=
 match Zt bw with
 | some y=>BA σ op e y
 | none=>Ak P nk σ op e bw
def under (g:Bool):List Prop→List Prop
 | []=>[]
 | p :: ps=>[g=true→bq (p :: ps)]
def Ql (ops:List Oper) (j:Nat):Option Nat:=(ops[j]?).bind (·.dst)
def UD (nt:Nat):Option Nat→Bool
 | none=>true
 | some d=>Nat.blt d nt
def Al (P:Program) (nt:Nat) (ops:List Oper) (nk:Nat) (tm:List (Nat×AV)) (σ:dD) (o:Oper) (bw:Option ow):Option Rec :=
 match UD nt o.dst with
 | false=>none
 | true=>match o.guard with
  | none=>(yw P nk σ o.op (yr tm) bw).map fun r=>⟨r.HR,o.dst,r.val,r.LU,r.mF⟩
  | some (j,want)=>match Ql ops j with
   | none=>none
   | some d=>match Zu bw with
    | 0=>match uT (ey tm d) want,yw P nk σ o.op (yr tm) bw with
     | some g,some r=>match r.mF with
      | []=>some ⟨under g r.HR,o.dst,.when g r.val,r.LU,[]⟩
      | _ :: _=>none
     | _,_=>none
    | 1=>match uT (ey tm d) want,yw P nk σ o.op (yr tm) bw with
     | some g,some r=>some ⟨(g=true) :: r.HR,o.dst,r.val,r.LU,r.mF⟩
     | _,_=>none
    | _=>match uT (ey tm d) want with
     | some g=>some ⟨[g=false],o.dst,.when g (Zv bw),[],[]⟩
     | none=>none
def DL (tm:List (Nat×AV)) (d:Option Nat) (x:AV):List (Nat×AV) :=
 match d with
 | none=>tm
 | some d=>(d,x) :: tm
def qF:List (Nat×ow)→Nat→Option ow
 | [],_=>none
 | (k,o) :: r,n=>match Nat.beq k n with
  | true=>some o
  | false=>qF r n
def sK (P:Program) (nt:Nat) (ops:List Oper) (nk:Nat) (orcs:List (Nat×ow)):List Oper→Nat→List (Nat×AV)→dD→Option (List Rec)
 | [],_,_,_=>some []
 | o :: r,i,tm,σ=>match Al P nt ops (nk+16 * i) tm σ o (qF orcs i) with
  | none=>none
  | some x=>(sK P nt ops nk orcs r (i+1) (DL tm x.dst x.val) (fI σ x.mF)).map fun l=>x :: l
def DM:List Rec→List (Nat×AV)→List (Nat×AV)
 | [],tm=>tm
 | x :: r,tm=>DM r (DL tm x.dst x.val)
def yx:List Rec→dD→dD
 | [],σ=>σ
 | x :: r,σ=>yx r (fI σ x.mF)
def FD:List Rec→List Prop
 | []=>[]
 | x :: r=>x.HR ++ FD r
def Po (E:Env) (st:St) (tm:Array Value) (w:World):Prop :=
 ∃ S μ,Good E st.oA S μ w∧(∀ k,st.nk≤k→μ k=none)∧E.m0≤st.nk∧∀ t,ar w S μ (tm.getD t undef) (ey st.tm t)
theorem pD {tm:List (Nat×AV)} {d:Option Nat} {x:AV} (t:Nat):ey (DL tm d x) t=if d=some t then x else ey tm t:=by
 cases d with
 | none=>simp [DL]
 | some d =>
  simp only [DL,ey,aD]
  by_cases h:d=t
  ·rw [sq h,if_pos h]
  ·rw [pA h,if_neg h]
theorem Nr (a:Act) (d:Option Nat) (v:Value) (t:Nat) (h:∀ n,d=some n→n < a.tmps.size):(a.put d v).tmps.getD t undef=if d=some t then v else a.tmps.getD t undef:=by
 cases d with
 | none=>simp [Act.put]
 | some d =>
  simp only [Act.put,aD]
  have hd:=h d rfl
  by_cases ht:d=t
  ·simp_all
  simp_all
theorem Kz (a:Act) (d:Option Nat) (v:Value):(a.put d v).tmps.size=a.tmps.size:=by cases d<;>simp [Act.put]
theorem DN (a:Act) (d:Option Nat) (v:Value):(a.put d v).defers=a.defers:=by cases d<;>simp [Act.put]
theorem BB {w:World} {S:Nat→Prop} {μ:Mu} {a:Act} {tm:List (Nat×AV)} (h:∀ t,ar w S μ (a.tmps.getD t undef) (ey tm t)) (x:Operand):ar w S μ (a.eval x) (yr tm x):=by
 cases x with
 | tmp t=>exact h t
 | const v=>exact HJ w S μ v
 | global g=>exact .atom _
 | func f=>exact .fn (by simp) (by simp) (fun j c v hc=>by simp at hc) (fun j c v hc=>by simp at hc)
def FE:Value→Option Bool
 | .bool b=>some b
 | _=>none
theorem KA {w:World} {S:Nat→Prop} {μ:Mu} {v:Value} {x:AV} (h:ar w S μ v x):∀ {want g:Bool},uT x want=some g→(FE v == some want)=g:=by
 induction h with
 | atom v =>
  intro want g hg
  cases v with
  | bool b =>
   simp only [uT,aD] at hg
   subst hg
   cases b<;>cases want<;>rfl
  | _=>simp [uT] at hg
 | @when μ b v x h1 hu ih =>
  intro want g hg
  simp only [uT,aK] at hg
  obtain ⟨g',hg',rfl⟩:=hg
  cases b with
  | true=>simpa using ih rfl hg'
  | false =>
   rw [hu rfl]
   simp [undef,FE]
 | _=>grind [uT]
section
variable {P:Program} {E:Env} {σ:dD} {S:Nat→Prop} {μ:Mu} {w:World}
def FW (rd:Option Nat):Fence:={ Fence.wide with round:=rd }
theorem S3 {rd:Option Nat} {o:Oper} {a:Act} {next:Act→World→Prop} {Q:Exit→Act→World→Prop} {r:Result Next} (h:o.upon P a next Q r):o.uponIn (FW rd) 0 P a next Q r:=by
 cases r with
 | ok x w' =>
  cases x with
  | value v=>exact h
  | skip=>exact h
  | defer d=>exact h
  | enter f args=>exact ⟨fun hh=>by simp [FW,Fence.wide] at hh,(callsIn_wide (n:=0)).2 h⟩
  | row row args=>exact ⟨fun hh=>by simp [FW,Fence.wide] at hh,fun c cs _=>let ⟨v,w',q1,q2⟩:=h c cs;⟨v,w',q1,stepsIn_wide.2 q2⟩⟩
  | _=>exact h.elim
 | halt x w' =>
  cases x with
  | panic v=>exact h
  | _=>exact h.elim
def YM (P:Program) (E:Env) (y:YC):Prop:=∀ (w:World) (S:Nat→Prop) (μ:Mu) (σ:dD) (vs:Array Value),Good E σ S μ w→RL w S μ vs y.as→au σ y.k=some y.o →
 YieldAt Fence.wide 0 P y.l vs w fun e w'=>e=.returned (.bool true)∧∃ S',Ext w S μ w' S' μ∧Good E (sset σ y.k y.o') S' μ w'
def KB (P:Program) (E:Env) (bw:Option ow):Prop:=(∀ x,bw=some x→x.xO=true→∀ b,¬ E.fp b)∧∀ x y,bw=some x→x.y=some y→YM P E y
theorem KC {rd:Option Nat} {o:Oper} {a:Act} {e:Operand→AV} {y:YC} {r:R} {next:Act→World→Prop} {Q:Exit→Act→World→Prop}
  (he:∀ x∈o.op.operands.toList,ar w S μ (a.eval x) (e x)) (g:Good E σ S μ w) {nk:Nat} (hy:YM P E y) (h:BA σ o.op e y=some r) (hp:bq r.HR)
  (hK:Qb E nk σ S μ w r fun v w'=>next (a.put o.dst v) w'):o.wpIn (FW rd) 0 P a w next Q:=by
 obtain ⟨dst,op,ty,pos,after,guard⟩:=o
 unfold BA at h
 simp only at h he
 split at h
 case h_2=>cases h
 rename_i f args H0
 split at h
 case h_2=>cases h
 rename_i l vs ws o1 ZL xy
 simp only [aD] at h
 subst h
 obtain ⟨⟨rfl,rfl,rfl,has,rfl⟩,hc⟩:=hp
 have Xl:=zu hc
 have mem:∀ x,x∈f :: args.toList→x∈(Op.call ⟨.value f,args,H0⟩).operands.toList:=by
  intro x hx
  simp only [Op.operands,Call.operands] at *
  simpa using hx
 have hs:∀ x,x∈f :: args.toList→ar w S μ (a.eval x) ((e x).strip.1):=fun x hx=>(he x (mem x hx)).strip (Xl x hx)
 have hf:=hs f (by simp)
 rw [ZL] at hf
 have hf:=dg hf
 have YK:RL w S μ (args.map a.eval) y.as:=by
  rw [← has]
  refine ⟨by simp,fun j c v hc hv=>?_⟩
  simp only [List.getElem?_map,aK,Array.getElem?_map] at hc hv
  obtain ⟨x,hx,rfl⟩:=hc
  obtain ⟨x',xw,rfl⟩:=hv
  rw [← Array.getElem?_toList,hx] at xw
  cases xw
  exact hs x (List.mem_cons_of_mem _ (List.mem_of_getElem? hx))
 obtain ⟨fn,tmps,assign,body,lV,Vt⟩:=hy w S μ σ _ g YK xy
 refine ⟨fun _ _=>trivial,?_⟩
 have ex:(Oper.semAt (FW rd).round a.eval ⟨dst,.call ⟨.value f,args,H0⟩,ty,pos,after,guard⟩).run P w=.ok (.round y.l fn tmps assign body) w:=by
  rw [Oper.semAt_eq _ _ _ (fun c=>by simp)]
  have:execOp a.eval ⟨dst,.call ⟨.value f,args,H0⟩,ty,pos,after,guard⟩=(do let d ← Deferred.ofValue (a.eval f) (args.map a.eval);invoke d.target d.args:Sem Next):=rfl
  rw [this,hf]
  simpa [Deferred.ofValue,invoke] using lV
 rw [ex]
 refine ⟨fun hh=>by simp [FW,Fence.wide] at hh,RoundIn.mono (F:=Fence.wide) Vt ?_⟩
 rintro e' w' ⟨rfl,S',hx,hg⟩
 exact hK _ w' S' μ hx (by simpa [fI] using hg) (fun _ _ h=>h) (.atom _)
theorem CJ {rd:Option Nat} {o:Oper} {a:Act} {e:Operand→AV} {bw:Option ow} {r:R} {nk:Nat} {next:Act→World→Prop} {Q:Exit→Act→World→Prop}
  (he:∀ x∈o.op.operands.toList,ar w S μ (a.eval x) (e x)) (g:Good E σ S μ w) (Ax:∀ j,j < 16→μ (nk+j)=none) (hm:E.m0≤nk)
  (hz:KB P E bw) (h:yw P nk σ o.op e bw=some r) (hp:bq r.HR) (hK:Qb E nk σ S μ w r fun v w'=>next (a.put o.dst v) w'):o.wpIn (FW rd) 0 P a w next Q:=by
 unfold yw at h
 split at h
 ·rename_i y hy
  have:∃ x,bw=some x∧x.y=some y:=by
   cases bw with
   | none=>cases hy
   | some x=>exact ⟨x,rfl,hy⟩
  obtain ⟨x,h1,h2⟩:=this
  exact KC (nk:=nk) he g (hz.2 x y h1 h2) h hp hK
 ·refine ⟨fun _ _=>trivial,?_⟩
  have hd:∀ c,o.op≠.defer c:=fun c hc=>by grind [Ak,Mf,yu,eu]
  rw [Oper.semAt_eq _ _ _ hd]
  exact S3 (OH he g Ax hm hz.1 h hp hK)
theorem H7 {rd:Option Nat} {nt nk:Nat} {ops:Array Oper} {i:Nat} {o:Oper} {a:Act} {tm:List (Nat×AV)} {bw:Option ow} {x:Rec} {K:Act→World→Prop} {Q:Exit→Act→World→Prop}
  (hi:ops[i]?=some o) (ht:∀ t,ar w S μ (a.tmps.getD t undef) (ey tm t)) (g:Good E σ S μ w) (hk:∀ j,j < 16→μ (nk+j)=none) (hm:E.m0≤nk)
  (hz:KB P E bw) (h:Al P nt ops.toList nk tm σ o bw=some x) (hp:bq x.HR)
  (hK:∀ v w' S' dy,Ext w S μ w' S' dy→Good E (fI σ x.mF) S' dy w'→(∀ k,(k < nk∨nk+16≤k)→μ k=none→dy k=none)→ar w' S' dy v x.val→K (a.put x.dst v) w') :
  wpOpIn (FW rd) 0 P ops Q i K a w:=by
 unfold Al at h
 split at h
 ·cases h
 ·split at h
  ·rename_i YN
   simp only [aK] at h
   obtain ⟨r,h1,rfl⟩:=h
   unfold wpOpIn
   rw [hi]
   simp only [Region.wanted,YN,if_true]
   exact CJ (fun x _=>BB ht x) g hk hm hz h1 hp hK
  ·rename_i j want YN
   split at h
   ·cases h
   ·rename_i d hd
    have Vu:∀ gb,uT (ey tm d) want=some gb→Region.wanted o (yielded ops a.tmps)=gb:=fun gb hg=>by
     have hy:yielded ops a.tmps j=FE (a.tmps.getD d undef):=by
      unfold yielded
      unfold Ql at hd
      have WB:(ops[j]?).bind (·.dst)=some d:=by simpa using hd
      rw [WB]
      simp only [cF,uK]
      cases a.tmps[d]? with
      | none=>simp [undef,FE]
      | some v=>cases v<;>simp [FE]
     grind [Region.wanted,KA]
    split at h
    rotate_left
    ·split at h
     ·rename_i gb r hg h1
      cases h
      unfold wpOpIn
      rw [hi]
      have hw:=Vu gb hg
      obtain ⟨ZM,x8⟩:=hp
      subst ZM
      simp only [hw,if_true]
      exact CJ (fun x _=>BB ht x) g hk hm hz h1 x8 hK
     ·cases h
    ·split at h
     ·rename_i gb hg
      cases h
      unfold wpOpIn
      rw [hi]
      have hw:=Vu gb hg
      obtain ⟨ZM,-⟩:=hp
      subst ZM
      simp only [hw,Bool.false_eq_true,if_false]
      refine ⟨fun _ _=>trivial,?_⟩
      exact hK undef w S μ (Ext.refl _ _ _) g (fun _ _ h=>h) (.when (fun h=>by cases h) (fun _=>rfl))
     ·cases h
    split at h
    ·rename_i gb r hg h1
     split at h
     ·rename_i hu
      cases h
      unfold wpOpIn
      rw [hi]
      have hw:Region.wanted o (yielded ops a.tmps)=gb:=Vu gb hg
      simp only [hw]
      cases gb with
      | true =>
       simp only [if_true]
       have ta:bq r.HR:=by
        cases hr:r.HR with
        | nil=>trivial
        | cons p ps =>
         rw [hr] at hp
         exact hp.1 rfl
       refine CJ (fun x _=>BB ht x) g hk hm hz h1 ta ?_
       intro v w' S' dy q1 q2 q3 q4
       rw [hu] at q2
       exact hK v w' S' dy q1 q2 q3 (.when (fun _=>q4) (fun h=>by cases h))
      | false =>
       simp only [Bool.false_eq_true,if_false]
       refine ⟨fun _ _=>trivial,?_⟩
       exact hK undef w S μ (Ext.refl _ _ _) g (fun _ _ h=>h) (.when (fun h=>by cases h) (fun _=>rfl))
     ·cases h
    ·cases h
theorem H8 {nt nk:Nat} {ops:List Oper} {tm:List (Nat×AV)} {o:Oper} {bw:Option ow} {x:Rec} (h:Al P nt ops nk tm σ o bw=some x):x.dst=o.dst∧∀ n,o.dst=some n→n < nt:=by
 unfold Al at h
 split at h
 ·cases h
 ·rename_i hd
  have h2:∀ n,o.dst=some n→n < nt:=fun n hn=>by
   rw [hn] at hd;simp only [UD,Nat.blt,Nat.ble_eq] at hd;exact hd
  split at h
  ·simp only [aK] at h
   grind
  grind
theorem H9 {rd:Option Nat} {ds:List Deferred} {nt nk:Nat} {ops:Array Oper} {orcs:List (Nat×ow)} (hz:∀ i,KB P E (qF orcs i)) (hm:E.m0≤nk) {Q:Exit→Act→World→Prop}:∀ (l:List Oper) (i:Nat) (a:Act) (w:World) (tm:List (Nat×AV)) (σ:dD) (S:Nat→Prop) (μ:Mu) (dj:List Rec),
  ops.toList.drop i=l→i+l.length=ops.size→a.tmps.size=nt→a.defers=ds→Good E σ S μ w→(∀ k,nk+16 * i≤k→μ k=none)→(∀ t,ar w S μ (a.tmps.getD t undef) (ey tm t)) →
  sK P nt ops.toList nk orcs l i tm σ=some dj→bq (FD dj) →
  (∀ a' w' S' dy,a'.tmps.size=nt→a'.defers=ds→Good E (yx dj σ) S' dy w'→(∀ k,nk+16 * ops.size≤k→dy k=none)→(∀ t,ar w' S' dy (a'.tmps.getD t undef) (ey (DM dj tm) t))→Q .normal a' w') →
  wpOpsIn (FW rd) 0 P ops Q (List.range' i l.length) a w
 | [],i,a,w,tm,σ,S,μ,dj,hl,LV,hs,Sh,g,hk,ht,h,hp,hQ=>by
  simp only [sK,aD] at h
  subst h
  simp only [List.length_nil,List.range'_zero,wpOpsIn]
  refine hQ a w S μ hs Sh g (fun k ph=>hk k (by simp at LV;omega)) ht
 | o :: r,i,a,w,tm,σ,S,μ,dj,hl,LV,hs,Sh,g,hk,ht,h,hp,hQ=>by
  simp only [sK] at h
  split at h
  ·cases h
  ·rename_i x hx
   simp only [aK] at h
   obtain ⟨l',h2,rfl⟩:=h
   obtain ⟨p1,p2⟩:=bq.app hp
   have hi:ops[i]?=some o:=by
    have:(ops.toList.drop i)[0]?=some o:=by rw [hl];rfl
    rw [oS] at this
    simpa using this
   have hl2:ops.toList.drop (i+1)=r:=by
    rw [← List.tail_drop,hl];rfl
   obtain ⟨d1,d2⟩:=H8 hx
   simp only [wC,List.range'_succ]
   rw [wpOpsIn_cons]
   refine H7 hi ht g (fun j hj=>hk _ (by omega)) (by omega) (hz i) hx p1 ?_
   intro v w' S' dy q1 q2 q3 q4
   refine H9 hz hm r (i+1) _ w' _ _ S' dy l' hl2 (by simp at LV;omega) (by rw [Kz];exact hs) (by rw [DN];exact Sh) q2 (fun k ph=>q3 k (by omega) (hk k (by omega))) ?_ h2 p2 hQ
   intro t
   rw [Nr a x.dst v t (fun n hn=>by rw [hs];exact d2 n (d1 ▸ hn)),pD]
   split
   ·exact q4
   ·exact (ht t).ext q1
end
end Go.Ab
namespace Go.Ab
def jT (u:sx):List Nat:=u.map (·.1)
section
variable {P:Program} {nk:Nat} {σ eV:dD}
theorem j4 {e e':Operand→AV}:∀ {xs:List Operand},(∀ x∈xs,e' x=e x)→conds e' xs=conds e xs
 | [],_=>rfl
 | x :: r,h=>by simp only [conds];rw [h x (by simp),j4 fun y hy=>h y (by simp [hy])]
theorem Qm {op:Op} {e e':Operand→AV} {bw:Option ow} (he:∀ x∈op.operands.toList,e' x=e x):eu P nk σ op e' bw=eu P nk σ op e bw:=by
 cases op with
 | move x=>grind [eu,Op.operands]
 | assign x=>grind [eu,Op.operands]
 | pick q a b=>grind [eu,Op.operands]
 | alloc T=>rfl
 | box T x=>grind [eu,conds,Op.operands]
 | build t parts =>
  simp only [eu]
  have h1:∀ x∈parts.toList.map (·.2),e' x=e x:=fun x hx=>he x (by grind [Op.operands])
  rw [j4 h1]
  congr 2
  apply List.map_congr_left
  grind
 | buildSlice t len parts =>
  simp only [eu]
  have h1:∀ x∈parts.toList.map (·.2),e' x=e x:=fun x hx=>he x (by grind [Op.operands])
  rw [j4 h1]
  have h2:(parts.toList.map fun p=>(p.1,(e' p.2).strip.1))=(parts.toList.map fun p=>(p.1,(e p.2).strip.1)):=by
   apply List.map_congr_left
   intro p hp
   grind
  rw [h2]
 | load T x=>grind [eu,conds,Op.operands]
 | store T x y=>grind [eu,conds,Op.operands]
 | nilCheck x=>grind [eu,conds,Op.operands]
 | binOp o t x y yt=>grind [eu,conds,Op.operands]
 | unOp o t x=>grind [eu,conds,Op.operands]
 | convert s d x=>grind [eu,conds,Op.operands]
 | makeMap t r=>cases r<;>simp [eu]
 | lookup t m x ok=>simp_all [eu,conds,Op.operands]
 | mapUpdate t m x y=>simp_all [eu,conds,Op.operands]
 | insert t m x y=>simp_all [eu,conds,Op.operands]
 | makeFunc f first cap =>
  simp only [eu]
  have h1:∀ x∈first.toList ++ cap.toList,e' x=e x:=fun x hx=>he x (by simpa [Op.operands] using hx)
  rw [j4 h1]
  congr 3
  ·apply List.map_congr_left;intro x hx;rw [h1 x (by simp only [List.mem_append];exact .inl hx)]
  ·apply List.map_congr_left;intro x hx;rw [h1 x (by simp only [List.mem_append];exact .inr hx)]
 | makeSlice t x y=>grind [eu,conds,Op.operands]
 | slice t x lo hi mx =>
  cases mx with
  | some _=>simp [eu]
  | none =>
   simp only [eu]
   have h1:∀ y∈x :: (lo.toList ++ hi.toList),e' y=e y:=fun y hy=>he y (by
    simp only [kI,List.mem_append,Option.mem_toList] at hy
    simp only [Op.operands]
    simp_all)
   rw [j4 h1,h1 x (by simp)]
   have h2:(lo.map fun x=>(e' x).strip.1)=lo.map fun x=>(e x).strip.1:=by
    cases lo with
    | none=>rfl
    | some y=>simp [h1 y (by simp)]
   have h3:(hi.map fun x=>(e' x).strip.1)=hi.map fun x=>(e x).strip.1:=by
    cases hi with
    | none=>rfl
    | some y=>simp [h1 y (by simp)]
   rw [h2,h3]
 | fieldAddr T x f=>grind [eu,conds,Op.operands]
 | field T x f=>grind [eu,conds,Op.operands]
 | indexAddr T x i=>grind [eu,conds,Op.operands]
 | index T x i=>grind [eu,conds,Op.operands]
 | extract x i=>grind [eu,conds,Op.operands]
 | call c =>
  obtain ⟨callee,args,argTypes⟩:=c
  cases callee with
  | invoke=>simp [eu]
  | value f =>
   simp only [eu]
   have h1:∀ x∈f :: args.toList,e' x=e x:=fun x hx=>he x (by simpa [Op.operands,Call.operands] using hx)
   rw [j4 h1,h1 f (by simp)]
   have h2:(args.toList.map fun x=>(e' x).strip.1)=args.toList.map fun x=>(e x).strip.1:=by
    apply List.map_congr_left;intro x hx;rw [h1 x (by simp [hx])]
   rw [h2]
  | builtin b =>
   simp only [eu]
   have h1:∀ x∈args.toList,e' x=e x:=fun x hx=>he x (by grind [Op.operands,Call.operands])
   unfold zt
   split
   ·grind [conds]
   ·grind [conds]
   ·rename_i x r ha
    rw [ha] at h1
    dsimp only
    rw [j4 h1,h1 x (by simp)]
    have h2:(r.map fun x=>(e' x).strip.1)=r.map fun x=>(e x).strip.1:=by
     apply List.map_congr_left;intro y hy;rw [h1 y (by simp [hy])]
    rw [h2]
   ·rename_i x r ha
    rw [ha] at h1
    dsimp only
    rw [j4 h1,h1 x (by simp)]
    have h2:(r.map fun x=>(e' x).strip.1)=r.map fun x=>(e x).strip.1:=by
     apply List.map_congr_left;intro y hy;rw [h1 y (by simp [hy])]
    rw [h2]
   ·rfl
 | _=>simp [eu]
theorem Qn {T:TypeId} {a:AV} {ps:List Prop} {x:AV} {rd:List Nat} (h:yg P σ T a=some (ps,x,rd)) (hs:∀ k∈rd,au eV k=au σ k):yg P eV T a=some (ps,x,rd):=by
 unfold yg at h ⊢
 split at h
 ·split at h
  ·rename_i k i j
   split at h
   ·rename_i o ho
    simp only [aK,aA] at h
    grind
   ·cases h
  ·exact h
  ·grind
  ·cases h
 ·cases h
theorem Mg {T:TypeId} {a x:AV} {ps:List Prop} {u:sx} {rd:List Nat} (h:oz P σ T a x=some (ps,u,rd)) (hs:∀ k∈rd,au eV k=au σ k):oz P eV T a x=some (ps,u,rd):=by
 unfold oz at h ⊢
 grind
theorem OI {T:TypeId} {a x:AV} {ps:List Prop} {u:sx} {rd:List Nat} (h:ze P σ T a x=some (ps,u,rd)) (hs:∀ k∈rd,au eV k=au σ k):ze P eV T a x=some (ps,u,rd):=by
 unfold ze at h ⊢
 split at h
 ·grind
 ·exact Mg h hs
theorem Hi {T:TypeId} {x i:AV} {ps:List Prop} {v:AV} {rd:List Nat} (h:pC P σ T x i=some (ps,v,rd)) (hs:∀ k∈rd,au eV k=au σ k):pC P eV T x i=some (ps,v,rd):=by
 unfold pC at h ⊢
 split at h
 ·split at h
  ·grind
  ·cases h
 ·omega
 ·cases h
theorem OJ {T:TypeId} {x:AV} {lo hi:Option AV} {ps:List Prop} {v:AV} {rd:List Nat} (h:zf P σ T x lo hi=some (ps,v,rd)) (hs:∀ k∈rd,au eV k=au σ k):zf P eV T x lo hi=some (ps,v,rd):=by
 unfold zf at h ⊢
 split at h
 ·exact h
 ·split at h
  ·grind
  ·cases h
 ·cases h
theorem BC {sz:Nat} {x:AV} {n:Nat} {g:Nat→List AV} {pr:Bool} {ps:List Prop} {rd:List Nat} (h:vz σ sz x=some (n,g,pr,ps,rd)) (hs:∀ k∈rd,au eV k=au σ k):vz eV sz x=some (n,g,pr,ps,rd):=by
 unfold vz at h ⊢
 grind
theorem OK {src dst:TypeId} {x:AV} {ps:List Prop} {v:AV} {rd:List Nat} (h:zl P σ src dst x=some (ps,v,rd)) (hs:∀ k∈rd,au eV k=au σ k):zl P eV src dst x=some (ps,v,rd):=by
 unfold zl at h ⊢
 split at h
 ·exact h
 ·split at h
  ·rename_i n gt pr qs Nc he vA
   simp only [aD,aA] at h
   obtain ⟨rfl,rfl,rfl⟩:=h
   rw [BC vA hs,he]
  ·cases h
 ·cases h
theorem FF {t:TypeId} {s x:AV} {ps:List Prop} {v:AV} {rd:List Nat} {u:sx} (h:rh P nk σ t s x=some (ps,v,rd,u)) (hs:∀ k∈rd,au eV k=au σ k):rh P nk eV t s x=some (ps,v,rd,u):=by
 unfold rh at h ⊢
 split at h
 ·split at h
  ·rename_i sz b z h1 h2 h3
   split at h
   ·rename_i n g pr PO Nc hb vA
    split at h
    ·have Si:rd=Nc:=by simp only [aD,aA] at h;exact h.2.2.1.symm
     rw [BC vA (fun k hk=>hs k (Si ▸ hk))]
     simp only [hb]
     exact h
    ·rename_i k len
     split at h
     ·rename_i o ho
      split at h
      ·rename_i J3
       have Si:rd=k :: Nc:=by simp only [aD,aA] at h;exact h.2.2.1.symm
       rw [BC vA (fun k hk=>hs k (by rw [Si];simp [hk]))]
       simp only [hb,hs k (by simp [Si]),ho,J3]
       exact h
      ·cases h
     ·cases h
    ·cases h
   ·cases h
  ·cases h
 ·cases h
mutual
theorem Qo {ks:List Nat}:∀ (x y:AV) (bs:List Nat) (ps:List Prop),x.gu σ ks=some (y,bs,ps)→(∀ k∈bs,au eV k=au σ k)→x.gu eV ks=some (y,bs,ps)
 | .op k i j,y,bs,ps,h,_=>by simpa [AV.gu] using h
 | .mp k,y,bs,ps,h,_=>by simpa [AV.gu] using h
 | .ov _ _ _ _ _,y,bs,ps,h,_=>by simp [AV.gu] at h
 | .Cq _ _ _,y,bs,ps,h,_=>by simp [AV.gu] at h
 | .nq _ _,y,bs,ps,h,_=>by simp [AV.gu] at h
 | .bn _,y,bs,ps,h,_=>by simpa [AV.gu] using h
 | .pt _ _,y,bs,ps,h,_=>by simpa [AV.gu] using h
 | .os k off len,y,bs,ps,h,hs=>by
  simp only [AV.gu] at h ⊢
  split at h
  ·rename_i n hn;exact h
  ·rename_i hn
   split at h
   ·rename_i o ho
    split at h
    ·rename_i hp
     have hb:bs=[k]:=by simp only [aD,aA] at h;exact h.2.1.symm
     simp only [hs k (by simp [hb]),ho,hp]
     exact h
    ·cases h
   ·cases h
 | .agg cs,y,bs,ps,h,hs=>by
  simp only [AV.gu,aK] at h ⊢
  obtain ⟨⟨a,b,c⟩,h,e⟩:=h
  simp only [aA] at e
  obtain ⟨rfl,rfl,rfl⟩:=e
  exact ⟨(a,b,c),tg cs a b c h hs,rfl⟩
 | .tup cs,y,bs,ps,h,hs=>by
  simp only [AV.gu,aK] at h ⊢
  obtain ⟨⟨a,b,c⟩,h,e⟩:=h
  simp only [aA] at e
  obtain ⟨rfl,rfl,rfl⟩:=e
  exact ⟨(a,b,c),tg cs a b c h hs,rfl⟩
 | .fn g x z,y,bs,ps,h,hs=>by
  simp only [AV.gu] at h ⊢
  split at h
  ·rename_i a b c a' b' c' e1 e2
   simp only [aD,aA] at h
   obtain ⟨rfl,rfl,rfl⟩:=h
   rw [tg x a b c e1 (fun k hk=>hs k (by simp [hk])),tg z a' b' c' e2 (fun k hk=>hs k (by simp [hk]))]
  ·cases h
 | .when _ _,y,bs,ps,h,_=>by simp [AV.gu] at h
 | .mr _ _ _,y,bs,ps,h,_=>by simp [AV.gu] at h
 | .atom _,y,bs,ps,h,_=>by simpa [AV.gu] using h
 | .sl _ _,y,bs,ps,h,_=>by simpa [AV.gu] using h
 | .rp _ _,y,bs,ps,h,_=>by simpa [AV.gu] using h
 | .nil,y,bs,ps,h,_=>by simpa [AV.gu] using h
 | .mH,y,bs,ps,h,_=>by simpa [AV.gu] using h
theorem tg {ks:List Nat}:∀ (xs ys:List AV) (bs:List Nat) (ps:List Prop),AV.qy σ ks xs=some (ys,bs,ps)→(∀ k∈bs,au eV k=au σ k)→AV.qy eV ks xs=some (ys,bs,ps)
 | [],ys,bs,ps,h,_=>by simpa [AV.qy] using h
 | c :: cs,ys,bs,ps,h,hs=>by
  simp only [AV.qy] at h ⊢
  split at h
  ·rename_i a b p a' b' p' e1 e2
   simp only [aD,aA] at h
   obtain ⟨rfl,rfl,rfl⟩:=h
   rw [Qo c a b p e1 (fun k hk=>hs k (by simp [hk])),tg cs a' b' p' e2 (fun k hk=>hs k (by simp [hk]))]
  ·cases h
end
theorem Ia {ks:List Nat}:∀ (l:List Nat) (i:Nat),(∀ k∈l,au eV k=au σ k)→canon eV ks i l=canon σ ks i l
 | [],i,_=>rfl
 | k :: r,i,h=>by simp only [canon];rw [h k (by simp),Ia r (i+1) fun k hk=>h k (by simp [hk])]
theorem Az {ks:List Nat} {lone:Bool}:∀ (l:List Nat),(∀ k∈l,au eV k=au σ k)→yn eV ks lone l=yn σ ks lone l
 | [],_=>rfl
 | k :: r,h=>by simp only [yn];rw [h k (by simp),Az r fun k hk=>h k (by simp [hk])]
theorem Qp {f:AV} {args:List AV} {bw:ow} {r:R} (h:Fu P nk σ f args bw=some r) (hs:∀ k∈r.LU,au eV k=au σ k):Fu P nk eV f args bw=some r:=by
 unfold Fu ET at h ⊢
 split at h
 case h_2=>cases h
 rename_i gid first cap
 split at h
 case h_2=>cases h
 rename_i as bs ps uP h1 h2 h3
 split at h
 case h_2=>cases h
 rename_i h4
 have hr:r.LU=bw.ks ++ bs:=by
  split at h
  ·split at h
   ·split at h
    ·cases h;rfl
    ·cases h
   ·split at h
    ·cases h;rfl
    ·cases h
  ·split at h
   ·cases h;rfl
   ·cases h
 rw [hr] at hs
 simp only [h1,tg _ _ _ _ h2 (fun k hk=>hs k (by simp [hk])),Ia bw.ks 0 (fun k hk=>hs k (by simp [hk])),Az (ks:=bw.ks) (lone:=bs.isEmpty || bw.xO) bw.ks (fun k hk=>hs k (by simp [hk])),Az (ks:=bw.ks) (lone:=true) bw.ks (fun k hk=>hs k (by simp [hk])),h3,h4]
 exact h
theorem Mh {t:TypeId} {m x:AV} {ok:Bool} {bw:ow} {ps:List Prop} {v:AV} {rd:List Nat} (h:vD P σ t m x ok bw=some (ps,v,rd)) (hs:∀ k∈rd,au eV k=au σ k):vD P eV t m x ok bw=some (ps,v,rd):=by
 unfold vD at h ⊢
 grind
theorem FG {t:TypeId} {m x y:AV} {bw:ow} {ps:List Prop} {u:sx} {rd:List Nat} (h:vE P σ t m x y bw=some (ps,u,rd)) (hs:∀ k∈rd,au eV k=au σ k):vE P eV t m x y bw=some (ps,u,rd):=by
 unfold vE at h ⊢
 grind
theorem KD {op:Op} {e:Operand→AV} {bw:Option ow} {r:R} (h:eu P nk σ op e bw=some r) (hs:∀ k∈r.LU,au eV k=au σ k):eu P nk eV op e bw=some r:=by
 cases op with
 | load T x =>
  simp only [eu,aK] at h ⊢
  obtain ⟨⟨ps,v,rd⟩,h1,rfl⟩:=h
  exact ⟨_,Qn h1 hs,rfl⟩
 | store T x y =>
  simp only [eu,aK] at h ⊢
  obtain ⟨⟨ps,v,rd⟩,h1,rfl⟩:=h
  exact ⟨_,OI h1 hs,rfl⟩
 | indexAddr T x i =>
  simp only [eu,aK] at h ⊢
  obtain ⟨⟨ps,v,rd⟩,h1,rfl⟩:=h
  exact ⟨_,Hi h1 hs,rfl⟩
 | slice t x lo hi mx =>
  cases mx with
  | some _=>simp [eu] at h
  | none =>
   simp only [eu,aK] at h ⊢
   obtain ⟨⟨ps,v,rd⟩,h1,rfl⟩:=h
   exact ⟨_,OJ h1 hs,rfl⟩
 | convert src dst x =>
  simp only [eu] at h ⊢
  split at h
  ·omega
  ·rename_i h0
   simp only [aK] at h ⊢
   obtain ⟨⟨ps,v,rd⟩,h1,rfl⟩:=h
   exact ⟨_,OK h1 hs,rfl⟩
 | makeMap t r=>cases r with
  | none=>exact h
  | some _=>simp [eu] at h
 | lookup t m x ok =>
  simp only [eu] at h ⊢
  split at h
  ·simp only [aK] at h ⊢
   obtain ⟨⟨ps,v,rd⟩,h1,rfl⟩:=h
   exact ⟨_,Mh h1 hs,rfl⟩
  ·cases h
 | mapUpdate t m x y =>
  simp only [eu] at h ⊢
  split at h
  ·simp only [aK] at h ⊢
   obtain ⟨⟨ps,u,rd⟩,h1,rfl⟩:=h
   exact ⟨_,FG h1 hs,rfl⟩
  ·cases h
 | insert t m x y =>
  simp only [eu] at h ⊢
  split at h
  ·simp only [aK] at h ⊢
   obtain ⟨⟨ps,u,rd⟩,h1,rfl⟩:=h
   exact ⟨_,FG h1 hs,rfl⟩
  ·cases h
 | call c =>
  obtain ⟨callee,args,argTypes⟩:=c
  cases callee with
  | invoke=>simp [eu] at h
  | value f =>
   simp only [eu] at h ⊢
   split at h
   ·simp only [aK] at h ⊢
    obtain ⟨r',h1,rfl⟩:=h
    exact ⟨_,Qp h1 hs,rfl⟩
   ·cases h
  | builtin b =>
   simp only [eu] at h ⊢
   unfold zt at h ⊢
   split at h
   ·exact h
   ·split at h
    ·simp only [aK] at h ⊢
     obtain ⟨⟨ps,v,rd,u⟩,h1,rfl⟩:=h
     exact ⟨_,FF h1 hs,rfl⟩
    ·cases h
   ·exact h
   ·exact h
   ·cases h
 | _=>exact h
theorem S4 {op:Op} {e e':Operand→AV} {bw:Option ow} (he:∀ x∈op.operands.toList,e' x=e x):yu P nk σ op e' bw=yu P nk σ op e bw:=by
 unfold yu
 split
 ·exact Qm he
 ·split
  ·grind [conds,Op.operands]
  ·grind [Op.operands,Call.operands,conds]
  ·grind [Op.operands,Call.operands,conds]
  ·grind [Op.operands,Call.operands,conds]
  ·rename_i t x lo hi mx
   have h1:e' x=e x:=he x (by simp [Op.operands])
   have h2:∀ y∈lo,e' y=e y:=fun y hy=>he y (by cases hy;simp [Op.operands])
   have h3:∀ y∈hi,e' y=e y:=fun y hy=>he y (by cases hy;simp [Op.operands])
   have h4:∀ y∈mx,e' y=e y:=fun y hy=>he y (by cases hy;simp [Op.operands])
   split
   ·have e2:(lo.map fun y=>(e' y).strip.1)=lo.map fun y=>(e y).strip.1:=by
     cases lo with
     | none=>rfl
     | some y=>simp only [Option.map_some];rw [h2 y rfl]
    have e3:(hi.map fun y=>(e' y).strip.1)=hi.map fun y=>(e y).strip.1:=by
     cases hi with
     | none=>rfl
     | some y=>simp only [Option.map_some];rw [h3 y rfl]
    have e4:conds e' (x :: (lo.toList ++ hi.toList))=conds e (x :: (lo.toList ++ hi.toList)):=j4 fun y hy=>by
     simp only [kI,List.mem_append,Option.mem_toList] at hy
     rcases hy with rfl | hy | hy
     ·exact h1
     ·exact h2 _ hy
     ·exact h3 _ hy
    rw [h1,e2,e3,e4]
   ·split
    ·rename_i l h
     simp only [conds];rw [h1,h2 l rfl,h3 h rfl,h4 _ rfl]
    ·rfl
  ·exact Qm he
theorem OL {T:TypeId} {a x:AV} {ps:List Prop} {y:AV} {rd:List Nat} (h:zw P σ T a x=some (ps,y,rd)) (hs:∀ k∈rd,au eV k=au σ k):zw P eV T a x=some (ps,y,rd):=by
 unfold zw at h ⊢
 grind
theorem Jb:∀ (u:sx) (n:Nat),(∀ τ Xm:dD,au (fI τ u) n=au (fI Xm u) n)∨∀ τ:dD,au (fI τ u) n=au τ n
 | [],n=>.inr fun _=>rfl
 | (k,some o) :: u,n=>by
  simp only [fI]
  rcases Jb u n with h | h
  ·grind
  ·by_cases hk:k=n
   ·simp_all [bj,if_pos]
   simp_all [bj,if_neg]
 | (k,none) :: u,n=>by
  simp only [fI]
  rcases Jb u n with h | h
  ·grind
  ·by_cases hk:k=n
   ·simp_all [fT,if_pos]
   simp_all [fT,if_neg]
theorem S5 {τ Xm:dD} {k q i:Nat} (h1:au Xm k=au τ k) (h2:au Xm q=au τ q):Ja Xm k q i=Ja τ k q i:=by
 unfold Ja;rw [h1,h2]
theorem KE {t:TypeId} {s x:AV} {bw:ow} {ps:List Prop} {v:AV} {rd:List Nat} {u:sx} (h:tf P nk σ t s x bw=some (ps,v,rd,u)) (hs:∀ k∈rd,au eV k=au σ k):tf P nk eV t s x bw=some (ps,v,rd,u):=by
 unfold tf at h ⊢
 split at h
 case h_2=>cases h
 rename_i q p1 v' Nc u1 hq ha
 split at h
 case h_2=>cases h
 rename_i p2 u2 hb hc
 have Si:rd=q :: Nc:=by simp only [aD,aA] at h;exact h.2.2.1.symm
 have Ib:=FF ha (fun k hk=>hs k (by rw [Si];simp [hk]))
 have Zn:au (fI eV u1) nk=au (fI σ u1) nk:=by
  have hu:∃ o,u1=[(nk,some o)]∨∃ k,u1=[(k,none),(nk,some o)]:=by
   unfold rh at ha
   split at ha
   ·split at ha
    ·grind
    ·cases ha
   ·cases ha
  obtain ⟨o,rfl | ⟨k,rfl⟩⟩:=hu<;>simp only [fI]<;>rw [bj,bj,if_pos rfl,if_pos rfl]
 have hqq:au (fI eV u1) q=au (fI σ u1) q:=by
  rcases Jb u1 q with h1 | h1
  ·exact h1 _ _
  ·simp_all
 grind [S5]
theorem Mi {T:TypeId} {x:AV} {lo hi:Option AV} {ps:List Prop} {v:AV} {rd:List Nat} (h:vF P σ T x lo hi=some (ps,v,rd)) (hs:∀ k∈rd,au eV k=au σ k):vF P eV T x lo hi=some (ps,v,rd):=by
 unfold vF at h ⊢
 split at h
 case h_2=>cases h
 grind
theorem Qq {t:TypeId} {s x:AV} {ps:List Prop} {v:AV} {rd:List Nat} {u:sx} (h:CF P σ t s x=some (ps,v,rd,u)) (hs:∀ k∈rd,au eV k=au σ k):CF P eV t s x=some (ps,v,rd,u):=by
 unfold CF at h ⊢
 split at h
 case h_2=>cases h
 grind
theorem Qr {t:TypeId} {s x:AV} {ps:List Prop} {v:AV} {rd:List Nat} {u:sx} (h:CG P σ t s x=some (ps,v,rd,u)) (hs:∀ k∈rd,au eV k=au σ k):CG P eV t s x=some (ps,v,rd,u):=by
 unfold CG at h ⊢
 split at h
 case h_2=>cases h
 grind
theorem Qs {t:TypeId} {s x:AV} {ps:List Prop} {v:AV} {rd:List Nat} {u:sx} (h:CH P σ t s x=some (ps,v,rd,u)) (hs:∀ k∈rd,au eV k=au σ k):CH P eV t s x=some (ps,v,rd,u):=by
 unfold CH at h ⊢
 split at h
 case h_2=>cases h
 rename_i e he
 split at h
 case h_2=>cases h
 rename_i sz b z k off m su hb hz
 split at h
 case h_2=>cases h
 rename_i n gt pr PO Nc o vA ho
 split at h
 case h_2=>cases h
 rename_i Cy
 have Si:rd=k :: Nc:=by simp only [aD,aA] at h;exact h.2.2.1.symm
 rw [BC vA (fun k hk=>hs k (by rw [Si];simp [hk]))]
 grind
theorem Qt {t:TypeId} {s x:AV} {ps:List Prop} {v:AV} {rd:List Nat} {u:sx} (h:CI P nk σ t s x=some (ps,v,rd,u)) (hs:∀ k∈rd,au eV k=au σ k):CI P nk eV t s x=some (ps,v,rd,u):=by
 unfold CI at h ⊢
 split at h
 case h_2=>cases h
 rename_i e he
 split at h
 case h_2=>cases h
 rename_i sz b z k off m su hb hz
 split at h
 case h_2=>cases h
 rename_i n gt pr PO Nc o vA ho
 split at h
 case h_2=>cases h
 rename_i Cy
 have Si:rd=k :: Nc:=by simp only [aD,aA] at h;exact h.2.2.1.symm
 rw [BC vA (fun k hk=>hs k (by rw [Si];simp [hk]))]
 grind
theorem OM {t:TypeId} {x:AV} {ps:List Prop} {v:AV} {rd:List Nat} {u:sx} (h:zx P σ t x=some (ps,v,rd,u)) (hs:∀ k∈rd,au eV k=au σ k):zx P eV t x=some (ps,v,rd,u):=by
 unfold zx at h ⊢
 split at h
 case h_2=>cases h
 grind
theorem Ic {op:Op} {e:Operand→AV} {bw:Option ow} {r:R} (h:yu P nk σ op e bw=some r) (hs:∀ k∈r.LU,au eV k=au σ k):yu P nk eV op e bw=some r:=by
 unfold yu at h ⊢
 split at h
 ·exact KD h hs
 ·rename_i q h0
  split at h
  ·simp only [aK] at h ⊢
   obtain ⟨⟨ps,v,rd⟩,h1,rfl⟩:=h
   exact ⟨_,OL h1 hs,rfl⟩
  ·split at h
   ·rename_i x y t t' ha ht
    split at h
    ·rename_i hb
     simp only [aK] at h
     obtain ⟨⟨ps,v,rd,u⟩,h1,rfl⟩:=h
     simp only [ha,ht,hb,aK]
     refine ⟨⟨ps,v,rd,u⟩,?_,rfl⟩
     split at h1
     ·exact Qq h1 hs
     ·exact Qs h1 hs
     ·exact Qt h1 hs
     ·exact KE h1 hs
    ·cases h
   ·cases h
  ·split at h
   ·rename_i x y t t' ha ht
    simp only [aK] at h
    obtain ⟨⟨ps,v,rd,u⟩,h1,rfl⟩:=h
    simp only [ha,ht,aK]
    exact ⟨_,Qr h1 hs,rfl⟩
   ·cases h
  ·split at h
   ·rename_i x t ha ht
    simp only [aK] at h
    obtain ⟨⟨ps,v,rd,u⟩,h1,rfl⟩:=h
    simp only [ha,ht,aK]
    exact ⟨_,OM h1 hs,rfl⟩
   ·cases h
  ·split at h
   ·simp only [aK] at h ⊢
    obtain ⟨⟨ps,v,rd⟩,h1,rfl⟩:=h
    exact ⟨_,Mi h1 hs,rfl⟩
   ·exact h
  ·exact KD h hs
theorem Ie {τ:dD} {e e':Operand→AV}:∀ {xs:List Operand},(∀ x∈xs,e' x=e x)→WG τ e' xs=WG τ e xs
 | [],_=>rfl
 | x :: r,h=>by simp only [WG];rw [h x (by simp),Ie fun y hy=>h y (by simp [hy])]
theorem Ig:∀ {τ:dD} {ps:List Prop},Sg σ τ=some ps→(∀ k∈τ.map (·.1),au eV k=au σ k)→Sg eV τ=some ps
 | [],ps,h,_=>h
 | (k,o') :: r,ps,h,hs=>by
  simp only [Sg] at h ⊢
  split at h
  ·rename_i o qs ho hr
   rw [hs k (by simp),ho,Ig hr fun k hk=>hs k (by simp_all)]
   exact h
  ·cases h
theorem S6 {op:Op} {e e':Operand→AV} {bw:Option ow} (he:∀ x∈op.operands.toList,e' x=e x):Ak P nk σ op e' bw=Ak P nk σ op e bw:=by
 simp_all [Ak,S4,Ie,UC]
theorem ON {op:Op} {e:Operand→AV} {bw:Option ow} {r:R} (h:Ak P nk σ op e bw=some r) (hs:∀ k∈r.LU,au eV k=au σ k):Ak P nk eV op e bw=some r:=by
 unfold Ak at h ⊢
 split at h
 ·exact Ic h hs
 ·split at h
  ·rename_i ps r0 h1 h2
   cases h
   rw [Ig h1 fun k hk=>hs k (List.mem_append_left _ hk),Ic h2 fun k hk=>by rw [mK,mK,hs k (List.mem_append_right _ hk)]]
  ·cases h
end
end Go.Ab
namespace Go.Ab
def Qu (l:List Nat) (k:Nat):Bool:=l.any fun x=>Nat.beq x k
theorem FH {l:List Nat} {k:Nat}:Qu l k=true↔k∈l:=by
 simp only [Qu,List.any_eq_true]
 simp
theorem Qv {a b:Nat} (h:a < b):Nat.blt a b=true:=by
 simp_all
theorem DP {a b:Nat} (h:¬ a < b):Nat.blt a b=false:=by
 cases hb:Nat.blt a b with
 | false=>rfl
 | true=>simp only [Nat.blt,Nat.ble_eq] at hb;exact (h hb).elim
theorem Qw {a b:Nat} (h:Nat.blt a b=true):a < b:=by
 simp_all
def tmpsOf:List Operand→List Nat
 | []=>[]
 | .tmp t :: r=>t :: tmpsOf r
 | _ :: r=>tmpsOf r
def FI (ops:List Oper) (o:Oper):List Nat :=
 tmpsOf o.op.operands.toList ++ (match o.guard with
  | some (j,_)=>(Ql ops j).toList
  | none=>[])
theorem FJ:∀ {l:List Operand} {t:Nat},Operand.tmp t∈l→t∈tmpsOf l
 | [],_,h=>by simp at h
 | x :: r,t,h=>by
  rcases kI.1 h with rfl | h'
  ·simp [tmpsOf]
  ·have:=FJ h'
   cases x<;>simp [tmpsOf,this]
def qT (o:Oper):List Nat:=(o.after.toList.filter (Region.binds .any ·)).map (·.on)
def Ih (ops:List Oper):Nat→Nat→Nat→Bool
 | 0,_,_=>false
 | n+1,i,j=>match ops[j]? with
  | none=>false
  | some o=>(qT o).any fun e=>Nat.beq e i || Ih ops n i e
def Jc:Option Nat→Option Nat→Bool
 | some a,some b=>Nat.beq a b
 | _,_=>false
def meets (l m:List Nat):Bool:=l.any fun k=>Qu m k
def FK (ops:List Oper) (o p:Oper) (x y:Rec):Bool :=
 meets x.dst.toList (FI ops p) || meets y.dst.toList (FI ops o) || meets (jT x.mF) (y.LU ++ jT y.mF) || meets x.LU (jT y.mF)
def Mj (ops:List Oper) (dj:List Rec) (i j:Nat):Bool :=
 match ops[i]?,ops[j]?,dj[i]?,dj[j]? with
 | some o,some p,some x,some y=>!Jc x.dst y.dst && (!FK ops o p x y || Ih ops ops.length i j)
 | _,_,_,_=>false
def Jd (ops:List Oper) (j:Nat):Bool :=
 match ops[j]? with
 | some o=>(qT o).all fun e=>Nat.blt e j
 | none=>false
def Qx (ops:List Oper) (dj:List Rec):Bool :=
 (List.range ops.length).all fun j=>Jd ops j && (List.range j).all fun i=>Mj ops dj i j
def Hj (L:Nat→Bool):List Rec→Nat→List (Nat×AV)→List (Nat×AV)
 | [],_,tm=>tm
 | x :: r,i,tm=>Hj L r (i+1) (match L i with
  | true=>DL tm x.dst x.val
  | false=>tm)
def vG (L:Nat→Bool):List Rec→Nat→dD→dD
 | [],_,σ=>σ
 | x :: r,i,σ=>vG L r (i+1) (match L i with
  | true=>fI σ x.mF
  | false=>σ)
theorem mL:∀ (u:sx) (σ:dD) (k:Nat),au (fI σ u) k=if k∈jT u then au (fI [] u) k else au σ k
 | [],σ,k=>by simp [jT,fI]
 | (n,some o) :: r,σ,k=>by
  simp only [fI]
  rw [mL r (sset σ n o) k,mL r (sset [] n o) k,bj,bj]
  by_cases h1:k∈jT r
  ·simp [jT] at h1 ⊢;simp [h1]
  ·by_cases h2:n=k
   ·subst h2;simp [jT]
   ·have:¬ k∈jT ((n,some o) :: r):=by simp [jT] at h1 ⊢;exact ⟨fun h=>h2 h.symm,h1⟩
    rw [if_neg h1,if_neg h2,if_neg this]
 | (n,none) :: r,σ,k=>by
  simp only [fI]
  rw [mL r (vw σ n) k,mL r (vw [] n) k,fT,fT]
  by_cases h1:k∈jT r
  ·simp [jT] at h1 ⊢;simp [h1]
  ·by_cases h2:n=k
   ·subst h2;simp [jT]
   ·have:¬ k∈jT ((n,none) :: r):=by simp [jT] at h1 ⊢;exact ⟨fun h=>h2 h.symm,h1⟩
    rw [if_neg h1,if_neg h2,if_neg this]
theorem FL {L L':Nat→Bool} {t:Nat}:∀ (dj:List Rec) (i:Nat) (tm Mk:List (Nat×AV)),ey tm t=ey Mk t →
  (∀ (m:Nat) (x:Rec),dj[m]?=some x→L (i+m)≠L' (i+m)→x.dst≠some t)→ey (Hj L dj i tm) t=ey (Hj L' dj i Mk) t
 | [],_,_,_,h,_=>h
 | x :: r,i,tm,Mk,h,hd=>by
  simp only [Hj]
  refine FL r (i+1) _ _ ?_ (fun m y hy fx=>hd (m+1) y (by simpa using hy) (by grind))
  by_cases he:L i=L' i
  ·grind [pD]
  ·have:=hd 0 x (by simp) (by simpa using he)
   have e1:ey (DL tm x.dst x.val) t=ey tm t:=by rw [pD,if_neg this]
   have e2:ey (DL Mk x.dst x.val) t=ey Mk t:=by rw [pD,if_neg this]
   grind
theorem CK {L L':Nat→Bool} {k:Nat}:∀ (dj:List Rec) (i:Nat) (σ eV:dD),au σ k=au eV k →
  (∀ (m:Nat) (x:Rec),dj[m]?=some x→L (i+m)≠L' (i+m)→k ∉ jT x.mF)→au (vG L dj i σ) k=au (vG L' dj i eV) k
 | [],_,_,_,h,_=>h
 | x :: r,i,σ,eV,h,hd=>by
  simp only [vG]
  refine CK r (i+1) _ _ ?_ (fun m y hy fx=>hd (m+1) y (by simpa using hy) (by grind))
  by_cases he:L i=L' i
  ·grind [mL]
  ·have:=hd 0 x (by simp) (by simpa using he)
   have e1:au (fI σ x.mF) k=au σ k:=by rw [mL,if_neg this]
   have e2:au (fI eV x.mF) k=au eV k:=by rw [mL,if_neg this]
   grind
theorem Ns {L:Nat→Bool} {i0:Nat} {x:Rec} {t:Nat}:∀ (dj:List Rec) (i:Nat) (tm:List (Nat×AV)),i≤i0→dj[i0 - i]?=some x →
  (∀ (m:Nat) (y:Rec),dj[m]?=some y→i0 < i+m→x.dst=some t→y.dst≠some t) →
  ey (Hj (fun q=>L q || Nat.beq q i0) dj i tm) t=if x.dst=some t then x.val else ey (Hj L dj i tm) t
 | [],i,tm,_,h,_=>by simp at h
 | y :: r,i,tm,hi,h,hd=>by
  simp only [Hj]
  by_cases he:i=i0
  ·subst he
   simp at h;subst h
   rw [sq rfl,Bool.or_true]
   have Vv:∀ ZN ZO:List (Nat×AV),ey ZN t=ey ZO t→ey (Hj (fun q=>L q || Nat.beq q i) r (i+1) ZN) t=ey (Hj L r (i+1) ZO) t:=by
    intro ZN ZO h12
    refine FL r (i+1) _ _ h12 ?_
    intro m z hz fx
    exfalso
    apply fx
    rw [pA (by omega),Bool.or_false]
   by_cases hx:y.dst=some t
   ·rw [if_pos hx]
    have Ha:∀ (l:List Rec) (n:Nat) (tm:List (Nat×AV)) (M:Nat→Bool),(∀ (m:Nat) (z:Rec),l[m]?=some z→z.dst≠some t)→ey (Hj M l n tm) t=ey tm t:=by
     intro l
     induction l with
     | nil=>intro n tm M _;rfl
     | cons z l ih =>
      intro n tm M hz
      simp only [Hj]
      rw [ih _ _ _ (fun m u hu=>hz (m+1) u (by simpa using hu))]
      split
      ·rw [pD,if_neg (hz 0 z (by simp))]
      ·rfl
    rw [Ha r _ _ _ (fun m z hz=>hd (m+1) z (by simpa using hz) (by omega) hx),pD,if_pos hx]
   ·rw [if_neg hx]
    refine Vv _ _ ?_
    rw [pD,if_neg hx]
    split
    ·rw [pD,if_neg hx]
    ·rfl
  ·rw [pA he,Bool.or_false]
   refine Ns r (i+1) _ (by omega) ?_ (fun m z hz gY=>hd (m+1) z (by simpa using hz) (by omega))
   rw [show i0 - i=(i0 - (i+1))+1 by omega] at h
   simpa using h
theorem KF {L:Nat→Bool} {i0:Nat} {x:Rec} {k:Nat}:∀ (dj:List Rec) (i:Nat) (σ:dD),i≤i0→dj[i0 - i]?=some x →
  (∀ (m:Nat) (y:Rec),dj[m]?=some y→i0 < i+m→L (i+m)=true→k∈jT x.mF→k ∉ jT y.mF) →
  au (vG (fun q=>L q || Nat.beq q i0) dj i σ) k=if k∈jT x.mF then au (fI [] x.mF) k else au (vG L dj i σ) k
 | [],i,σ,_,h,_=>by simp at h
 | y :: r,i,σ,hi,h,hd=>by
  simp only [vG]
  by_cases he:i=i0
  ·subst he
   simp at h;subst h
   rw [sq rfl,Bool.or_true]
   by_cases hx:k∈jT y.mF
   ·rw [if_pos hx]
    have Ha:∀ (l:List Rec) (n:Nat) (σ:dD) (M:Nat→Bool),(∀ (m:Nat) (z:Rec),l[m]?=some z→M (n+m)=true→k ∉ jT z.mF)→au (vG M l n σ) k=au σ k:=by
     intro l
     induction l with
     | nil=>intro n tm M _;rfl
     | cons z l ih =>
      intro n σ M hz
      simp only [vG]
      rw [ih _ _ _ (fun m u hu hM=>hz (m+1) u (by simpa using hu) (by grind))]
      split
      ·rename_i hM
       rw [mL,if_neg (hz 0 z (by simp) (by simpa using hM))]
      ·rfl
    rw [Ha r _ _ _ ?_,mL,if_pos hx]
    intro m z hz hM
    rw [pA (by omega),Bool.or_false] at hM
    exact hd (m+1) z (by simpa using hz) (by omega) (by grind) hx
   ·rw [if_neg hx]
    refine CK r (i+1) _ _ ?_ ?_
    ·rw [mL,if_neg hx]
     split
     ·rw [mL,if_neg hx]
     ·rfl
    ·intro m z hz fx
     exfalso
     apply fx
     rw [pA (by omega),Bool.or_false]
  ·rw [pA he,Bool.or_false]
   refine KF r (i+1) _ (by omega) ?_ (fun m z hz gY hL=>hd (m+1) z (by simpa using hz) (by omega) (by grind))
   grind
theorem Nt:∀ (dj:List Rec) (i:Nat) (tm:List (Nat×AV)) (L:Nat→Bool),(∀ m,m < dj.length→L (i+m)=true)→Hj L dj i tm=DM dj tm
 | [],_,_,_,_=>rfl
 | x :: r,i,tm,L,h=>by
  simp only [Hj,DM]
  have:=h 0 (by simp)
  rw [Nat.add_zero] at this
  rw [this,Nt r (i+1) _ L (fun m hm=>by rw [show i+1+m=i+(m+1) by omega];simp_all)]
theorem KG:∀ (dj:List Rec) (i:Nat) (σ:dD) (L:Nat→Bool),(∀ m,m < dj.length→L (i+m)=true)→vG L dj i σ=yx dj σ
 | [],_,_,_,_=>rfl
 | x :: r,i,σ,L,h=>by
  simp only [vG,yx]
  have:=h 0 (by simp)
  rw [Nat.add_zero] at this
  rw [this,KG r (i+1) _ L (fun m hm=>by rw [show i+1+m=i+(m+1) by omega];simp_all)]
theorem FM:∀ (dj:List Rec) (i:Nat) (tm:List (Nat×AV)) (L:Nat→Bool),(∀ m,m < dj.length→L (i+m)=false)→Hj L dj i tm=tm
 | [],_,_,_,_=>rfl
 | x :: r,i,tm,L,h=>by
  simp only [Hj]
  have:=h 0 (by simp)
  rw [Nat.add_zero] at this
  rw [this,FM r (i+1) _ L (fun m hm=>by rw [show i+1+m=i+(m+1) by omega];simp_all)]
theorem CL:∀ (dj:List Rec) (i:Nat) (σ:dD) (L:Nat→Bool),(∀ m,m < dj.length→L (i+m)=false)→vG L dj i σ=σ
 | [],_,_,_,_=>rfl
 | x :: r,i,σ,L,h=>by
  simp only [vG]
  have:=h 0 (by simp)
  rw [Nat.add_zero] at this
  rw [this,CL r (i+1) _ L (fun m hm=>by rw [show i+1+m=i+(m+1) by omega];simp_all)]
section
variable {P:Program}
theorem Ii {nt nk:Nat} {ops:List Oper} {orcs:List (Nat×ow)}:∀ (l:List Oper) (i:Nat) (tm:List (Nat×AV)) (σ:dD) (dj:List Rec),sK P nt ops nk orcs l i tm σ=some dj →
  dj.length=l.length∧∀ (m:Nat) (x:Rec),dj[m]?=some x→∃ o,l[m]?=some o ∧
   Al P nt ops (nk+16 * (i+m)) (Hj (fun q=>Nat.blt q (i+m)) dj i tm) (vG (fun q=>Nat.blt q (i+m)) dj i σ) o (qF orcs (i+m))=some x
 | [],i,tm,σ,dj,h=>by
  simp only [sK,aD] at h
  simp_all
 | o :: r,i,tm,σ,dj,h=>by
  simp only [sK] at h
  split at h
  ·cases h
  ·rename_i x0 Qy
   simp only [aK] at h
   obtain ⟨l',h2,rfl⟩:=h
   obtain ⟨h3,h4⟩:=Ii r (i+1) _ _ l' h2
   refine ⟨by simp [h3],?_⟩
   intro m x hx
   cases m with
   | zero =>
    simp at hx;subst hx
    refine ⟨o,by simp,?_⟩
    simp only [Nat.add_zero,Hj,vG]
    have ZP:Nat.blt i i=false:=DP (by omega)
    rw [ZP]
    rw [FM,CL]
    ·exact Qy
    ·intro m _;exact DP (by omega)
    ·intro m _;exact DP (by omega)
   | succ m =>
    obtain ⟨o',wA,he⟩:=h4 m x (by simpa using hx)
    refine ⟨o',by simpa using wA,?_⟩
    have ZP:Nat.blt i (i+(m+1))=true:=Qv (by omega)
    simp only [Hj,vG]
    rw [ZP]
    rw [show i+(m+1)=i+1+m by omega]
    exact he
theorem Je {nk:Nat} {op:Op} {e e':Operand→AV} {bw:Option ow} {σ:dD} (he:∀ x∈op.operands.toList,e' x=e x):yw P nk σ op e' bw=yw P nk σ op e bw:=by
 unfold yw
 split
 ·unfold BA
  split
  ·rename_i f args H0
   have mem:∀ x,x∈f :: args.toList→e' x=e x:=by
    intro x hx
    refine he x ?_
    simp only [Op.operands,Call.operands] at *
    simpa using hx
   rw [mem f (by simp),j4 mem,List.map_congr_left (fun x hx=>by rw [mem x (List.mem_cons_of_mem _ hx)]:∀ x∈args.toList,(e' x).strip.1=(e x).strip.1)]
  ·rfl
 ·exact S6 he
theorem CM {nk:Nat} {op:Op} {e:Operand→AV} {bw:Option ow} {σ eV:dD} {r:R} (h:yw P nk σ op e bw=some r) (hs:∀ k∈r.LU,au eV k=au σ k):yw P nk eV op e bw=some r:=by
 unfold yw at h ⊢
 split at h
 ·unfold BA at h ⊢
  grind
 ·exact ON h hs
theorem OO {nt nk:Nat} {ops:List Oper} {tm Mk:List (Nat×AV)} {σ eV:dD} {o:Oper} {bw:Option ow} {x:Rec} (h:Al P nt ops nk tm σ o bw=some x)
  (ht:∀ t∈FI ops o,ey Mk t=ey tm t) (hs:∀ k∈x.LU,au eV k=au σ k):Al P nt ops nk Mk eV o bw=some x:=by
 have he:∀ y∈o.op.operands.toList,yr Mk y=yr tm y:=by
  intro y hy
  cases y with
  | tmp t=>exact ht t (by simp only [FI,List.mem_append];exact .inl (FJ hy))
  | _=>rfl
 unfold Al at h ⊢
 split at h
 ·cases h
 ·split at h
  ·simp only [aK] at h ⊢
   obtain ⟨r,h1,rfl⟩:=h
   exact ⟨r,by rw [Je he];exact CM h1 hs,rfl⟩
  ·rename_i j want YN
   split at h
   ·cases h
   ·rename_i d hd
    have htd:ey Mk d=ey tm d:=ht d (by simp [FI,YN,hd])
    rw [htd]
    split at h
    ·split at h
     ·rename_i g r hg h1
      split at h
      ·rename_i hu
       cases h
       rw [Je he,CM h1 hs,hg]
       simp [hu]
      ·cases h
     ·cases h
    ·split at h
     ·rename_i g r hg h1
      cases h
      rw [Je he,CM h1 hs,hg]
     ·cases h
    ·split at h
     ·rename_i g hg
      exact h
     ·cases h
theorem AA {ops:List Oper} {L:Nat→Bool} (hd:∀ j,L j=true→∀ o,ops[j]?=some o→∀ e∈qT o,L e=true):∀ (n i j:Nat),Ih ops n i j=true →
  (∀ o,ops[j]?=some o→∀ e∈qT o,L e=true)→L i=true
 | 0,i,j,h,_=>by simp [Ih] at h
 | n+1,i,j,h,hj=>by
  simp only [Ih] at h
  split at h
  ·cases h
  ·rename_i o ho
   simp only [List.any_eq_true,Bool.or_eq_true] at h
   obtain ⟨e,he,h | h⟩:=h
   ·simp_all
   ·exact AA hd n i e h fun o' wA e' he'=>hd e (hj o ho e he) o' wA e' he'
def OP (ops:List Oper) (o p:Oper) (x y:Rec):Prop :=
 (∃ d,x.dst=some d∧d∈FI ops p)∨(∃ d,y.dst=some d∧d∈FI ops o)∨(∃ k,k∈jT x.mF∧(k∈y.LU∨k∈jT y.mF))∨∃ k,k∈x.LU∧k∈jT y.mF
theorem zy {l m:List Nat} {k:Nat} (h1:k∈l) (h2:k∈m):meets l m=true:=List.any_eq_true.2 ⟨k,h1,FH.2 h2⟩
theorem OP.FK {ops:List Oper} {o p:Oper} {x y:Rec} (h:OP ops o p x y):FK ops o p x y=true:=by
 unfold Ab.FK
 simp only [Bool.or_eq_true]
 rcases h with ⟨d,h1,h2⟩ | ⟨d,h1,h2⟩ | ⟨k,h1,h2⟩ | ⟨k,h1,h2⟩
 ·simp_all [zy]
 ·simp_all [zy]
 ·grind [zy]
 grind [zy]
theorem OP.symm {ops:List Oper} {o p:Oper} {x y:Rec} (h:OP ops o p x y):OP ops p o y x:=by
 rcases h with h | h | ⟨k,h1,h2 | h2⟩ | ⟨k,h1,h2⟩
 ·exact .inr (.inl h)
 ·exact .inl h
 ·exact .inr (.inr (.inr ⟨k,h2,h1⟩))
 ·exact .inr (.inr (.inl ⟨k,h2,.inr h1⟩))
 ·exact .inr (.inr (.inl ⟨k,h2,.inl h1⟩))
theorem count_set:∀ (l:List Bool) (i:Nat),l[i]?=some false→((l.set i true).filter (· == true)).length=(l.filter (· == true)).length+1
 | [],i,h=>by simp at h
 | b :: l,0,h=>by simp at h;subst h;simp
 | b :: l,i+1,h=>by
  have:=count_set l i (by simpa using h)
  cases b<;>simp_all
theorem Ml {E:Env} {rd:Option Nat} {ds:List Deferred} {nt nk:Nat} {ops:Array Oper} {orcs:List (Nat×ow)} {UE:List (Nat×AV)} {S7:dD} {dj:List Rec} {Q:Exit→Act→World→Prop} (hz:∀ i,KB P E (qF orcs i)) (hm:E.m0≤nk)
  (YO:sK P nt ops.toList nk orcs ops.toList 0 UE S7=some dj) (hp:bq (FD dj)) (J5:Qx ops.toList dj=true)
  (hQ:∀ a' w' S' dy,a'.tmps.size=nt→a'.defers=ds→Good E (yx dj S7) S' dy w'→(∀ k,nk+16 * ops.size≤k→dy k=none)→(∀ t,ar w' S' dy (a'.tmps.getD t undef) (ey (DM dj UE) t))→Q .normal a' w') :
  ∀ (fuel:Nat) (bS:Array Bool) (a:Act) (w:World) (S:Nat→Prop) (μ:Mu),bS.size=ops.size→a.tmps.size=nt→a.defers=ds →
   (∀ j,bS.getD j false=true→∀ o,ops.toList[j]?=some o→∀ e∈qT o,bS.getD e false=true)→ops.size≤fuel+(bS.toList.filter (· == true)).length →
   Good E (vG (fun j=>bS.getD j false) dj 0 S7) S μ w→(∀ k,nk≤k→(∀ j,nk+16 * j≤k→k < nk+16 * j+16→bS.getD j false=false)→μ k=none) →
   (∀ t,ar w S μ (a.tmps.getD t undef) (ey (Hj (fun j=>bS.getD j false) dj 0 UE) t)) →
   wpAnyIn (FW rd) 0 P .any ops Q fuel bS a w:=by
 obtain ⟨hlen,qB⟩:=Ii ops.toList 0 UE S7 dj YO
 simp only [Nat.zero_add] at qB
 have xP:∀ j,j < ops.size→Jd ops.toList j=true∧∀ i,i < j→Mj ops.toList dj i j=true:=by
  intro j hj
  have:=List.all_eq_true.1 J5 j (wF.2 (by simpa using hj))
  simp only [bp] at this
  exact ⟨this.1,fun i hi=>List.all_eq_true.1 this.2 i (wF.2 hi)⟩
 have UF:∀ j o,ops.toList[j]?=some o→∀ e∈qT o,e < j:=by
  intro j o ho e he
  have hj:j < ops.size:=by simpa using (dU.1 ho).1
  have h1:=(xP j hj).1
  unfold Jd at h1
  rw [ho] at h1
  exact Qw (List.all_eq_true.1 h1 e he)
 have Qz:∀ i j o p x y,i < j→ops.toList[i]?=some o→ops.toList[j]?=some p→dj[i]?=some x→dj[j]?=some y →
   Jc x.dst y.dst=false∧(FK ops.toList o p x y=true→Ih ops.toList ops.toList.length i j=true):=by
  intro i j o p x y Vn ho ta hx hy
  have hj:j < ops.size:=by simpa using (dU.1 ta).1
  have h1:=(xP j hj).2 i Vn
  unfold Mj at h1
  rw [ho,ta,hx,hy] at h1
  simp only [bp,Bool.not_eq_true',Bool.or_eq_true] at h1
  refine ⟨h1.1,fun hc=>?_⟩
  rcases h1.2 with h2 | h2
  ·rw [hc] at h2;cases h2
  ·exact h2
 -- what is ready
 have Mm:∀ (bS:Array Bool),bS.size=ops.size→∀ i,i∈Region.ready .any ops bS↔(i < ops.size∧bS.getD i false=false∧∀ o,ops.toList[i]?=some o→∀ e∈qT o,bS.getD e false=true):=by
  intro bS QA i
  unfold Region.ready
  simp only [List.mem_filter,wF,bp,Bool.not_eq_true']
  constructor
  ·rintro ⟨h1,h2,h3⟩
   have hl:i < bS.size:=by omega
   refine ⟨h1,?_,?_⟩
   ·simp only [uK,jR hl,Option.getD_some] at h2 ⊢;exact h2
   ·intro o ho e he
    have wA:ops[i]?=some o:=by simpa using ho
    simp only [wA,Option.map_some,Option.getD_some,Array.all_eq_true'] at h3
    simp only [qT,List.mem_map,List.mem_filter] at he
    obtain ⟨ed,⟨ZQ,Vc⟩,rfl⟩:=he
    have:=h3 ed (by simpa using ZQ)
    rw [Vc] at this
    simpa only [Bool.not_true,Bool.false_or] using this
  ·rintro ⟨h1,h2,h3⟩
   have hl:i < bS.size:=by omega
   refine ⟨h1,?_,?_⟩
   ·simp only [uK,jR hl,Option.getD_some] at h2 ⊢;exact h2
   ·have ho:ops[i]?=some ops[i]:=jR h1
    simp only [ho,Option.map_some,Option.getD_some,Array.all_eq_true']
    intro ed ZQ
    simp only [Bool.or_eq_true,Bool.not_eq_true']
    cases hb:Region.binds .any ed with
    | false=>exact .inl rfl
    | true =>
     right
     exact h3 ops[i] (by simp) ed.on (by simp only [qT,List.mem_map,List.mem_filter];exact ⟨ed,⟨by simpa using ZQ,hb⟩,rfl⟩)
 intro fuel
 -- the end
 have fin:∀ (bS:Array Bool) (a:Act) (w:World) (S:Nat→Prop) (μ:Mu),bS.size=ops.size→a.tmps.size=nt→a.defers=ds→(∀ j,j < ops.size→bS.getD j false=true) →
   Good E (vG (fun j=>bS.getD j false) dj 0 S7) S μ w→(∀ k,nk≤k→(∀ j,nk+16 * j≤k→k < nk+16 * j+16→bS.getD j false=false)→μ k=none) →
   (∀ t,ar w S μ (a.tmps.getD t undef) (ey (Hj (fun j=>bS.getD j false) dj 0 UE) t))→Q .normal a w:=by
  intro bS a w S μ QA hs Sh Xn g hk ht
  have hL:∀ m,m < dj.length→(fun j=>bS.getD j false) (0+m)=true:=fun m gZ=>by
   rw [Nat.zero_add];exact Xn m (by rw [hlen] at gZ;simpa using gZ)
  rw [KG dj 0 S7 _ hL] at g
  refine hQ a w S μ hs Sh g (fun k ph=>hk k (by omega) fun j hj UG=>?_) (fun t=>by rw [← Nt dj 0 UE (fun j=>bS.getD j false) hL];exact ht t)
  have:bS.size≤j:=by omega
  simp [uK,Array.getElem?_eq_none this]
 have Xo:∀ (bS:Array Bool),bS.size=ops.size→(∀ j,bS.getD j false=true→∀ o,ops.toList[j]?=some o→∀ e∈qT o,bS.getD e false=true)→Region.ready .any ops bS=[]→∀ j,j < ops.size→bS.getD j false=true:=by
  intro bS QA Vw hr j
  induction j using Nat.strongRecOn with
  | _ j ih =>
   intro hj
   cases hb:bS.getD j false with
   | true=>rfl
   | false =>
    have:j∈Region.ready .any ops bS:=(Mm bS QA j).2 ⟨hj,hb,fun o ho e he=>ih e (UF j o ho e he) (by have:=UF j o ho e he;omega)⟩
    rw [hr] at this;simp at this
 induction fuel with
 | zero =>
  intro bS a w S μ QA hs Sh Vw UH g hk ht
  simp only [wpAnyIn]
  have Xn:∀ j,j < ops.size→bS.getD j false=true:=by
   have hle:(bS.toList.filter (· == true)).length=bS.toList.length:=by
    have h1:=List.length_filter_le (· == true) bS.toList
    simp at h1 UH ⊢;omega
   have h2:=List.length_filter_eq_length_iff.1 hle
   intro j hj
   have hl:j < bS.size:=by omega
   have:=h2 bS[j] (by simp)
   simp only [uK,jR hl,Option.getD_some]
   simpa using this
  refine ⟨?_,fin bS a w S μ QA hs Sh Xn g hk ht⟩
  cases hr:Region.ready .any ops bS with
  | nil=>rfl
  | cons i r =>
   have:=(Mm bS QA i).1 (by rw [hr];simp)
   rw [Xn i this.1] at this
   simp at this
 | succ fuel ih =>
  intro bS a w S μ QA hs Sh Vw UH g hk ht
  simp only [wpAnyIn]
  refine ⟨fun hr=>fin bS a w S μ QA hs Sh (Xo bS QA Vw hr) g hk ht,?_⟩
  intro i hi
  obtain ⟨zZ,LV,ER⟩:=(Mm bS QA i).1 hi
  have Xp:i < dj.length:=by rw [hlen];simpa using zZ
  have hx:dj[i]?=some dj[i]:=pT Xp
  obtain ⟨o,ho,hev⟩:=qB i _ hx
  generalize dj[i]=x at hx hev
  have hpx:bq x.HR:=by
   have:∀ (l:List Rec) (i:Nat),bq (FD l)→l[i]?=some x→bq x.HR:=by
    intro l
    induction l with
    | nil=>intro i _ h;simp at h
    | cons y l ih =>
     intro i h hi
     obtain ⟨h1,h2⟩:=bq.app h
     cases i with
     | zero=>simp at hi;exact hi ▸ h1
     | succ i=>exact ih i h2 (by simpa using hi)
   exact this dj i hp hx
  -- an operation that meets this one is carried out just if it stands before it
  have order:∀ (j:Nat) (p:Oper) (y:Rec),j≠i→ops.toList[j]?=some p→dj[j]?=some y→OP ops.toList o p x y→Nat.blt j i=bS.getD j false:=by
   intro j p y fx hpj hyj hc
   rcases Nat.lt_or_gt_of_ne fx with gY | U3
   ·rw [Qv gY]
    exact (AA (L:=fun j=>bS.getD j false) Vw _ j i ((Qz j i p o y x gY hpj ho hyj hx).2 hc.symm.FK) (fun o' wA e he=>by rw [ho] at wA;cases wA;exact ER o ho e he)).symm
   ·rw [DP (by omega)]
    cases hb:bS.getD j false with
    | false=>rfl
    | true =>
     have:=AA (L:=fun j=>bS.getD j false) Vw _ i j ((Qz i j o p x y U3 ho hpj hx hyj).2 hc.FK) (fun o' wA e he=>Vw j hb o' wA e he)
     have:bS.getD i false=true:=this
     rw [LV] at this;cases this
  have Nu:∀ (m:Nat) (y:Rec),dj[m]?=some y→∃ p,ops.toList[m]?=some p:=fun m y hy=>let ⟨p,ta,_⟩:=qB m y hy;⟨p,ta⟩
  have Xq:Al P nt ops.toList (nk+16 * i) (Hj (fun j=>bS.getD j false) dj 0 UE) (vG (fun j=>bS.getD j false) dj 0 S7) o (qF orcs i)=some x:=by
   refine OO hev ?_ ?_
   ·intro t htl
    refine FL dj 0 _ _ rfl ?_
    intro m y hy fx ZR
    rw [Nat.zero_add] at fx
    obtain ⟨p,ta⟩:=Nu m y hy
    by_cases Bp:m=i
    ·subst Bp;exact fx (by rw [LV,DP (by omega)])
    ·exact fx (order m p y Bp ta hy (.inr (.inl ⟨t,ZR,htl⟩))).symm
   ·intro k hkr
    refine CK dj 0 _ _ rfl ?_
    intro m y hy fx ZS
    rw [Nat.zero_add] at fx
    obtain ⟨p,ta⟩:=Nu m y hy
    by_cases Bp:m=i
    ·subst Bp;exact fx (by rw [LV,DP (by omega)])
    ·exact fx (order m p y Bp ta hy (.inr (.inr (.inr ⟨k,hkr,ZS⟩)))).symm
  have Vx:i < bS.size:=by omega
  have OE:∀ j,(bS.setIfInBounds i true).getD j false=(bS.getD j false || Nat.beq j i):=by
   intro j
   by_cases Pg:j=i
   ·subst Pg
    rw [sq rfl,Bool.or_true]
    simp [uK,Vx]
   ·rw [pA Pg,Bool.or_false]
    simp only [uK]
    rw [Array.getElem?_setIfInBounds_ne (fun h=>Pg h.symm)]
  have Xr:(fun j=>(bS.setIfInBounds i true).getD j false)=fun q=>bS.getD q false || Nat.beq q i:=funext OE
  have Ni:∀ q,q < 16→μ (nk+16 * i+q)=none:=fun q hq=>hk _ (by omega) fun j hj UG=>by
   have Pg:j=i:=by omega
   rw [Pg];exact LV
  refine H7 (by simpa using ho) ht g Ni (by omega) (hz i) Xq hpx ?_
  intro v w' S' dy q1 q2 q3 q4
  obtain ⟨d1,d2⟩:=H8 Xq
  refine ih _ _ w' S' dy (by simp [QA]) (by rw [Kz];exact hs) (by rw [DN];exact Sh) ?_ ?_ ?_ ?_ ?_
  ·intro j hj o' wA e he
   rw [OE] at hj ⊢
   rw [Bool.or_eq_true] at hj ⊢
   rcases hj with hj | hj
   ·exact .inl (Vw j hj o' wA e he)
   ·have:=bW hj
    subst this
    exact .inl (ER o' wA e he)
  ·have hc:=count_set bS.toList i (by
    rw [Array.getElem?_toList,jR Vx]
    simp only [uK,jR Vx,Option.getD_some] at LV
    rw [LV])
   rw [Array.toList_setIfInBounds,hc]
   omega
  ·rw [Xr]
   refine q2.congr ?_
   intro k
   rw [KF dj 0 S7 (Nat.zero_le _) (by simpa using hx) ?_,mL x.mF (vG (fun j=>bS.getD j false) dj 0 S7)]
   intro m y hy gY hL ZS ZT
   rw [Nat.zero_add] at gY hL
   obtain ⟨p,ta⟩:=Nu m y hy
   have:=order m p y (by omega) ta hy (.inr (.inr (.inl ⟨k,ZS,.inr ZT⟩)))
   rw [DP (by omega)] at this
   rw [← this] at hL;cases hL
  ·intro k ph Ha
   have hki:k < nk+16 * i∨nk+16 * i+16≤k:=by
    rcases Nat.lt_or_ge k (nk+16 * i) with h1 | h1
    ·exact .inl h1
    ·rcases Nat.lt_or_ge k (nk+16 * i+16) with h2 | h2
     ·have:=Ha i h1 h2
      rw [OE,sq rfl,Bool.or_true] at this
      cases this
     ·exact .inr h2
   refine q3 k hki (hk k ph fun j hj UG=>?_)
   have:=Ha j hj UG
   rw [OE,Bool.or_eq_false_iff] at this
   exact this.1
  ·intro t
   rw [Xr,Ns dj 0 UE (Nat.zero_le _) (by simpa using hx) ?_,Nr a x.dst v t (fun n hn=>by rw [hs];exact d2 n (d1 ▸ hn))]
   ·split
    ·exact q4
    ·exact (ht t).ext q1
   ·intro m y hy gY hxd hyd
    rw [Nat.zero_add] at gY
    obtain ⟨p,ta⟩:=Nu m y hy
    have:=(Qz i m o p x y gY ho ta hx hy).1
    rw [hxd,hyd] at this
    simp only [Jc] at this
    rw [sq rfl] at this;cases this
end
end Go.Ab
namespace Go.Ab
inductive Wd where
 | ah
 | sl (n:Nat) (g:Nat→List AV)
 | jq (n:Nat)
 | lW (k:Nat)
 | pt (b:Bool) (cs:List AV)
 | nq (st:Option Bool) (d:Wd)
 | unq (d:Wd)
 | agg (ds:List Wd)
 | tup (ds:List Wd)
def Ij:List AV→List AV→Prop
 | [],[]=>True
 | a :: as,b :: bs=>(a=b∨(a=.nil∧∃ f,b=.sl 0 f))∧Ij as bs
 | _,_=>False
theorem Ij.len:∀ {as bs:List AV},Ij as bs→bs.length=as.length
 | [],[],_=>rfl
 | _ :: _,_ :: _,h=>congrArg (·+1) (Ij.len h.2)
theorem Ij.get:∀ {as bs:List AV} {j:Nat} {x:AV},Ij as bs→bs[j]?=some x→∃ a,as[j]?=some a∧(a=x∨(a=.nil∧∃ f,x=.sl 0 f))
 | [],[],_,_,_,hx=>by simp at hx
 | a :: _,b :: _,0,x,h,hx=>by
  have:b=x:=by simpa using hx
  subst this
  exact ⟨a,rfl,h.1⟩
 | _ :: as,_ :: bs,j+1,x,h,hx=>by
  have:=Ij.get (as:=as) (bs:=bs) (j:=j) (x:=x) h.2 (by simpa using hx)
  simpa using this
theorem Vy {w:World} {S:Nat→Prop} {μ:Mu} {v:Value} {a x:AV} (h:a=x∨(a=.nil∧∃ f,x=.sl 0 f)) (hv:ar w S μ v a):ar w S μ v x:=by
 rcases h with rfl | ⟨rfl,f,rfl⟩
 ·exact hv
 ·cases hv
  exact .sl 0 0 0 (fun _ _=>undef) (fun h=>absurd h (by decide)) (fun i h=>absurd h (dT _)) (fun i j h=>absurd h (dT _)) (fun i j c h=>absurd h (dT _)) (az _)
inductive Od where
 | ah (k:Nat)
 | arr (k:Nat) (n:Nat) (g:Nat→List AV)
 | OQ (k:Nat) (n:Nat) (g:Nat→List AV)
 | var (k:Nat) (ds:List Wd)
 | mp (k:Nat) (cs:List AV)
 | qu (k:Nat) (n:Nat) (l:List (Nat×Nat×Nat)) (b:Nat→List AV)
 | UI (g:Nat→List AV)
 | nil (sz:Nat) (g:Nat→List AV)
def Od.xK:Od→Option Nat
 | .ah k | .arr k _ _ | .OQ k _ _ | .var k _ | .mp k _ | .qu k _ _ _=>some k
 | .nil _ _ | .UI _=>none
def ba:List (Nat×Nat×Nat)→(Nat→List AV)→Nat→List AV
 | [],b,m=>b m
 | (i,k,n) :: r,b,m=>if m=i then [.os k 0 n] else ba r b m
def QB (f:Nat→Option Nat):List (Nat×Nat×Nat)→Option (List (Nat×Nat×Nat))
 | []=>some []
 | (i,k,n) :: r=>match f k,QB f r with
  | some k',some l=>some ((i,k',n) :: l)
  | _,_=>none
theorem FN {f:Nat→Option Nat} {b:Nat→List AV} {m:Nat} (hb:Fp (b m)=true):∀ {l l':List (Nat×Nat×Nat)},QB f l=some l'→AV.uO f (ba l b m)=ba l' b m
 | [],l',h=>by simp [QB] at h;subst h;exact HS hb
 | (i,k,n) :: r,l',h=>by
  simp only [QB] at h
  split at h
  ·rename_i k' l2 hk hl
   cases h
   simp only [ba]
   split
   ·simp [AV.uO,AV.kN,hk]
   ·exact FN hb hl
  ·cases h
abbrev AB:=List (Nat×Od)
def uw (m0:Nat):AB→Nat→Option Nat
 | [],k=>match Nat.blt k m0 with
  | true=>some k
  | false=>none
 | (k',d) :: r,k=>match d.xK with
  | some q=>match Nat.beq q k with
   | true=>some k'
   | false=>uw m0 r k
  | none=>uw m0 r k
def ux:AB→Nat→Option Od
 | [],_=>none
 | (k',d) :: r,k=>match Nat.beq k' k with
  | true=>some d
  | false=>ux r k
mutual
def FO (σ:dD) (F:List Nat) (f:Nat→Option Nat) (fM:AB):Wd→AV→Option (List Prop×AV)
 | .ah,x=>some ([],x.kN f)
 | .sl n g,.sl n0 g0=>some ([n0=n,∀ i,i < n→g i=g0 i],.sl n g)
 | .sl n g,.os k off len=>match Qu F k,au σ k with
  | true,some o=>match o.pr with
   | true=>some ([len=n,off+len≤o.len,∀ i,i < n→g i=o.get (bC off i)],.sl n g)
   | false=>none
  | _,_=>none
 | .sl n g,.nil=>some ([n=0],.sl n g)
 | .jq n,.os k off len=>(f k).map fun k'=>([len=n],.os k' off n)
 | .lW k',.nil=>match ux fM k' with
  | some (.nil _ _)=>some ([],.os k' 0 0)
  | some (.UI _)=>some ([],.os k' 0 0)
  | _=>none
 | .pt b cs,.rp Xs off=>match off with
  | 0=>some ([b=true,cs=Xs],.pt b cs)
  | _+1=>none
 | .pt b cs,.atom v=>match v with
  | .pointer none=>some ([b=false],.pt b cs)
  | _=>none
 | .pt b cs,.pt b0 Xs=>some ([b=b0,b0=true→cs=Xs],.pt b cs)
 | .nq st d,.nq YP y=>match y with
  | .nq _ _=>none
  | y=>(FO σ F f fM d y).map fun (p,z)=>((YP=st) :: p,.nq st z)
 | .nq st d,.nil=>(FO σ F f fM d .nil).map fun (p,z)=>((st≠some false) :: p,.nq st z)
 | .nq st d,y=>(FO σ F f fM d y).map fun (p,z)=>((st=none) :: p,.nq st z)
 | .unq d,.nq _ y=>FO σ F f fM d y
 | .agg ds,.agg cs=>(S8 σ F f fM ds cs).map fun (p,c)=>(p,.agg c)
 | .tup ds,.tup cs=>(S8 σ F f fM ds cs).map fun (p,c)=>(p,.tup c)
 | _,_=>none
def S8 (σ:dD) (F:List Nat) (f:Nat→Option Nat) (fM:AB):List Wd→List AV→Option (List Prop×List AV)
 | [],[]=>some ([],[])
 | d :: ds,c :: cs=>match FO σ F f fM d c,S8 σ F f fM ds cs with
  | some (p,x),some (q,xs)=>some (p ++ q,x :: xs)
  | _,_=>none
 | _,_=>none
end
def wV (σ:dD) (F:List Nat) (f:Nat→Option Nat) (fM:AB):Od→Option (List Prop×Ob)
 | .ah k=>(au σ k).map fun o=>([],o.kN f)
 | .arr k n g=>match au σ k with
  | some o=>match o.pr && !o.var && Nat.ble 1 o.sz with
   | true=>some ([o.len=n,∀ i,i < n→g i=o.get i],⟨o.var,o.sz,n,true,g⟩)
   | false=>none
  | none=>none
 | .OQ k n g=>match au σ k with
  | some o=>match o.pr && !o.var && Nat.ble 1 o.sz with
   | true=>some ([n≤o.len,∀ i,i < n→Ij (o.get i) (g i)],⟨o.var,o.sz,n,true,g⟩)
   | false=>none
  | none=>none
 | .var k ds=>match au σ k with
  | some o=>match o.var && Nat.beq o.len 1 && Nat.ble 1 o.sz,S8 σ F f fM ds (o.get 0) with
   | true,some (p,cs)=>some (p,⟨true,o.sz,1,AV.l8 cs,fun _=>cs⟩)
   | _,_=>none
  | none=>none
 | .mp k cs=>match au σ k with
  | some o=>match Nat.beq o.sz 0 && o.pr && Nat.beq o.len 0 with
   | true=>some ([cs=o.get 0],⟨o.var,o.sz,o.len,true,fun _=>cs⟩)
   | false=>none
  | none=>none
 | .qu k n l b=>match au σ k,QB f l with
  | some o,some l'=>match !o.var && Nat.ble 1 o.sz with
   | true=>some ([o.len=n,∀ i,i < n→ba l b i=o.get i,∀ i,i < n→Fp (b i)=true],⟨false,o.sz,n,false,ba l' b⟩)
   | false=>none
  | _,_=>none
 | .UI g=>some ([],⟨false,1,0,false,g⟩)
 | .nil sz g=>match Nat.ble 1 sz with
  | true=>some ([],⟨false,sz,0,true,g⟩)
  | false=>none
def KH (σ:dD) (F:List Nat) (f:Nat→Option Nat) (fM:AB) (tm:List (Nat×AV)):List (Nat×Wd)→Option (List Prop×List (Nat×AV))
 | []=>some ([],[])
 | (t,d) :: r=>match FO σ F f fM d (ey tm t),KH σ F f fM tm r with
  | some (p,x),some (q,l)=>some (p ++ q,(t,x) :: l)
  | _,_=>none
def KI (σ:dD) (F:List Nat) (f:Nat→Option Nat) (fM:AB):AB→Option (List Prop×dD)
 | []=>some ([],[])
 | (k,d) :: r=>match wV σ F f fM d,KI σ F f fM r with
  | some (p,o),some (q,l)=>some (p ++ q,(k,o) :: l)
  | _,_=>none
def Jf (m0 nk:Nat) (F:List Nat) (fM:AB):Bool :=
 na (fM.map (·.1)) && na (fM.filterMap (·.2.xK)) && (fM.all fun x=>Nat.blt x.1 nk && match x.2.xK with
  | some k=>!Qu F k && (match Nat.blt k m0 with
   | true=>Nat.beq x.1 k || Nat.ble m0 x.1
   | false=>Nat.ble m0 x.1)
  | none=>Nat.ble m0 x.1) && Nat.ble m0 nk
def Hk (m0:Nat) (st:St) (F:List Nat) (x9:List (Nat×Wd)) (fM:AB) (nk:Nat):Option (List Prop×St) :=
 match Jf m0 nk F fM,KH st.oA F (uw m0 fM) fM st.tm x9,KI st.oA F (uw m0 fM) fM fM with
 | true,some (p,tm),some (q,σ)=>some (p ++ q,⟨tm,σ,nk⟩)
 | _,_,_=>none
def Hl (m0:Nat) (μ:Mu) (fM:AB):Mu:=fun k =>
 if k < m0 then μ k else match ux fM k with
  | some (.nil sz _)=>some ⟨0,0,sz⟩
  | some (.UI _)=>some ⟨0,0,1⟩
  | some d=>d.xK.bind μ
  | none=>none
section
variable {P:Program} {E:Env} {σ:dD} {S:Nat→Prop} {μ:Mu} {w:World} {m0 nk:Nat} {F:List Nat} {fM:AB}
theorem zz:∀ {fM:AB} {k:Nat} {d:Od},ux fM k=some d→(k,d)∈fM
 | [],k,d,h=>by simp [ux] at h
 | (k',d') :: r,k,d,h=>by
  simp only [ux] at h
  split at h
  ·simp_all
  ·exact List.mem_cons_of_mem _ (zz h)
theorem rj:∀ {fM:AB} {k:Nat} {d:Od},na (fM.map (·.1))=true→(k,d)∈fM→ux fM k=some d
 | [],k,d,_,h=>by simp at h
 | (k',d') :: r,k,d,hn,h=>by
  simp only [List.map_cons,na,bp] at hn
  simp only [ux]
  rcases kI.1 h with h | h
  ·cases h;rw [sq rfl]
  ·have fx:¬ k'=k:=by
    rintro rfl
    have PY:idx (r.map (·.1)) k'=none:=by simpa using hn.1
    obtain ⟨i,hi⟩:=List.getElem?_of_mem (List.mem_map.2 ⟨_,h,rfl⟩:k'∈r.map (·.1))
    exact mJ _ _ PY i hi
   rw [pA fx]
   exact rj hn.2 h
theorem FP:∀ {fM:AB} {k k':Nat},uw m0 fM k=some k'→(∃ d,(k',d)∈fM∧d.xK=some k)∨(k < m0∧k'=k)
 | [],k,k',h=>by
  simp only [uw] at h
  split at h
  ·simp_all
  ·cases h
 | (q,d) :: r,k,k',h=>by
  simp only [uw] at h
  have step:uw m0 r k=some k'→(∃ d',(k',d')∈(q,d) :: r∧d'.xK=some k)∨(k < m0∧k'=k):=fun h'=>by
   rcases FP h' with ⟨d',h1,h2⟩ | h1
   ·grind
   ·exact .inr h1
  split at h
  ·rename_i o ho
   split at h
   ·rename_i hb
    cases h
    exact .inl ⟨d,by simp,by rw [ho,bW hb]⟩
   ·exact step h
  ·exact step h
structure Names (m0 nk:Nat) (F:List Nat) (fM:AB):Prop where
 nd:na (fM.map (·.1))=true
 od:na (fM.filterMap (·.2.xK))=true
 lt:∀ k d,(k,d)∈fM→k < nk
 fr:∀ k d q,(k,d)∈fM→d.xK=some q→q ∉ F
 lo:∀ k d q,(k,d)∈fM→d.xK=some q→q < m0→k=q∨m0≤k
 hi:∀ k d q,(k,d)∈fM→d.xK=some q→m0≤q→m0≤k
 no:∀ k d,(k,d)∈fM→d.xK=none→m0≤k
 m0:m0≤nk
theorem QC (h:Jf m0 nk F fM=true):Names m0 nk F fM:=by
 unfold Jf at h
 simp only [bp,Nat.ble_eq] at h
 obtain ⟨⟨⟨h1,h2⟩,h3⟩,h4⟩:=h
 have h3:=fun k d (hm:(k,d)∈fM)=>List.all_eq_true.1 h3 (k,d) hm
 simp only [bp] at h3
 refine ⟨h1,h2,fun k d hm=>Qw (h3 k d hm).1,?_,?_,?_,?_,h4⟩
 ·intro k d q hm hq hF
  have:=(h3 k d hm).2
  rw [hq] at this
  simp only [bp,Bool.not_eq_true'] at this
  grind [FH]
 ·intro k d q hm hq gY
  have:=(h3 k d hm).2
  simp_all [bp,Qv,Bool.or_eq_true_iff,bW,Nat.le_of_ble_eq_true]
 ·intro k d q hm hq ZA
  have:=(h3 k d hm).2
  simp_all [bp,DP,Nat.ble_eq]
 ·intro k d hm hq
  have:=(h3 k d hm).2
  rw [hq] at this
  simpa only [Nat.ble_eq] using this
theorem EU (N:Names m0 nk F fM) {k k':Nat} {pl:Place} (h:uw m0 fM k=some k') (hm:μ k=some pl):Hl m0 μ fM k'=some pl:=by
 rcases FP h with ⟨d,h1,h2⟩ | ⟨h1,rfl⟩
 ·unfold Hl
  by_cases gY:k < m0
  ·rcases N.lo k' d k h1 h2 gY with h | h
   ·simp_all
   ·rw [if_neg (by omega),rj N.nd h1]
    grind [Od.xK]
  ·have:=N.hi k' d k h1 h2 (by omega)
   rw [if_neg (by omega),rj N.nd h1]
   grind [Od.xK]
 simp_all [Hl,if_pos]
theorem AD (N:Names m0 nk F fM) {k k':Nat} {d:Od} (h:(k',d)∈fM) (ho:d.xK=some k):Hl m0 μ fM k'=μ k:=by
 unfold Hl
 by_cases gY:k < m0
 ·rcases N.lo k' d k h ho gY with h1 | h1
  ·simp_all
  ·rw [if_neg (by omega),rj N.nd h]
   grind [Od.xK]
 ·have:=N.hi k' d k h ho (by omega)
  rw [if_neg (by omega),rj N.nd h]
  grind [Od.xK]
theorem Nv (N:Names m0 nk F fM) {k':Nat} {g:Nat→List AV} (h:(k',Od.UI g)∈fM):Hl m0 μ fM k'=some ⟨0,0,1⟩:=by
 have:=N.no k' _ h rfl
 unfold Hl
 rw [if_neg (by omega),rj N.nd h]
theorem Nw (N:Names m0 nk F fM) {k' sz:Nat} {g:Nat→List AV} (h:(k',Od.nil sz g)∈fM):Hl m0 μ fM k'=some ⟨0,0,sz⟩:=by
 have:=N.no k' _ h rfl
 unfold Hl
 rw [if_neg (by omega),rj N.nd h]
theorem Nx (g:Good E σ S μ w) (N:Names m0 nk F fM):∀ (d:Wd) (x:AV) (v:Value) (ps:List Prop) (y:AV),ar w S μ v x→FO σ F (uw m0 fM) fM d x=some (ps,y)→bq ps →
  ar w (SF μ F σ S) (Hl m0 μ fM) v y:=by
 have mono:∀ {v:Value} {x:AV} {dy:Mu},ar w S dy v x→ar w (SF μ F σ S) dy v x:=fun h=>h.mono (fun _ h=>.inl h) (fun _ _=>rfl) (fun _ _ h=>h)
 intro d
 induction d using Wd.rec (motive_2:=fun ds=>∀ (cs:List AV) (ps:List Prop) (ys:List AV),S8 σ F (uw m0 fM) fM ds cs=some (ps,ys)→bq ps →
   cs.length=ys.length∧∀ (j:Nat) c y v,cs[j]?=some c→ys[j]?=some y→ar w S μ v c→ar w (SF μ F σ S) (Hl m0 μ fM) v y) with
 | ah =>
  intro x v ps y h hw hp
  simp only [FO,aD,aA] at hw
  obtain ⟨rfl,rfl⟩:=hw
  exact (mono h).kN fun k k' pl hk hm=>EU N hk hm
 | sl n gt =>
  intro x v ps y h hw hp
  cases x<;>simp only [FO] at hw<;>try (cases hw;done)
  case sl n0 g0 =>
   simp only [aD,aA] at hw
   obtain ⟨rfl,rfl⟩:=hw
   obtain ⟨rfl,p2,_⟩:=hp
   cases h with
   | sl b off sz f h1 h2 h3 h4 h5 =>
    exact .sl b off sz f (fun hl=>⟨(h1 hl).1,.inl (h1 hl).2⟩) (fun i hi=>by simp_all) h3 (fun i j c hi hc=>mono (h4 i j c hi (by simp_all))) h5
  case os k off len =>
   split at hw
   ·rename_i o hF ho
    split at hw
    ·rename_i LS
     simp only [aD,aA] at hw
     obtain ⟨rfl,rfl⟩:=hw
     obtain ⟨rfl,p2,p3,_⟩:=hp
     obtain ⟨pl,c,T,hm,dh⟩:=g.rep.ob k o ho
     cases h with
     | os kn gZ h1 h2 h3 =>
      rename_i cap a
      rw [hm] at gZ;cases gZ
      refine .sl pl.cQ (off * pl.sz) o.sz (fun i j=>(c[(off+i) * o.sz+j]?).getD undef) ?_ (fun i hi=>by rw [p3 i hi,dp];exact dh.ub _ (by omega)) ?_ ?_ h2
      ·intro hl
       exact ⟨h1 (by omega),.inr ⟨k,o,pl,FH.1 hF,ho,hm,by omega,rfl⟩⟩
      ·intro i j hi hj
       obtain ⟨v,q1,q2⟩:=da dh (i:=off+i) (by omega) hj
       rw [q1,dh.sz,← cD,q2];rfl
      ·intro i j c' hi oU
       rw [p3 i hi,dp] at oU
       obtain ⟨v,q1,q2⟩:=da dh (i:=off+i) (by omega) (by have:=(dU.1 oU).1;rwa [dh.ub _ (by omega)] at this)
       rw [q1]
       have:=dh.rep _ j c' v (by omega) oU q1
       simp_all
    ·cases hw
   ·cases hw
  case nil =>
   simp only [aD,aA] at hw
   obtain ⟨rfl,rfl⟩:=hw
   obtain ⟨rfl,_⟩:=hp
   cases h
   exact .sl 0 0 0 (fun _ _=>undef) (fun h=>absurd h (by omega)) (fun i h=>absurd h (by omega)) (fun i j h=>absurd h (by omega)) (fun i j c h=>absurd h (by omega)) (az _)
 | jq n =>
  intro x v ps y h hw hp
  cases x<;>simp only [FO] at hw<;>try (cases hw;done)
  case os k off len =>
   simp only [aK,aA] at hw
   obtain ⟨k',ph,rfl,rfl⟩:=hw
   obtain ⟨rfl,_⟩:=hp
   cases h with
   | os pl hm h1 h2 h3=>exact .os pl (EU N ph hm) h1 h2 h3
 | lW k' =>
  intro x v ps y h hw hp
  cases x<;>simp only [FO] at hw<;>try (cases hw;done)
  case nil =>
   split at hw
   ·rename_i sz gt S9
    simp only [aD,aA] at hw
    obtain ⟨rfl,rfl⟩:=hw
    cases h
    exact .os ⟨0,0,sz⟩ (Nw N (zz S9)) (fun h=>absurd h (by omega)) (az _) (by simp)
   ·rename_i gt S9
    simp only [aD,aA] at hw
    obtain ⟨rfl,rfl⟩:=hw
    cases h
    exact .os ⟨0,0,1⟩ (Nv N (zz S9)) (fun h=>absurd h (by omega)) (az _) (by simp)
   ·cases hw
 | pt b cs =>
  intro x v ps y h hw hp
  have other:∀ {b:Bool} {cs:List AV} {v:Value},ar w S μ v (.pt b cs)→ar w (SF μ F σ S) (Hl m0 μ fM) v (.pt b cs):=fun h=>(mono h).pure rfl _
  cases x<;>simp only [FO] at hw<;>try (cases hw;done)
  case rp Xs off =>
   split at hw
   ·simp only [aD,aA] at hw
    obtain ⟨rfl,rfl⟩:=hw
    obtain ⟨rfl,rfl,_⟩:=hp
    exact other (.pt (fun _=>h) (fun h=>by cases h))
   ·cases hw
  case atom v0 =>
   split at hw
   ·simp only [aD,aA] at hw
    obtain ⟨rfl,rfl⟩:=hw
    obtain ⟨rfl,_⟩:=hp
    exact other (.pt (fun h=>by cases h) (fun _=>dg h))
   ·cases hw
  case pt b0 Xs =>
   simp only [aD,aA] at hw
   obtain ⟨rfl,rfl⟩:=hw
   obtain ⟨rfl,U6,_⟩:=hp
   cases h with
   | pt h1 h2=>exact other (.pt (fun hb=>by rw [U6 hb];exact h1 hb) h2)
 | nq st d ih =>
  intro x v ps y h hw hp
  have fin:∀ {x0:AV} {p:List Prop} {z:AV},ar w S μ v x0→FO σ F (uw m0 fM) fM d x0=some (p,z)→bq p→(st=some true→v=.slice none 0 0)→(st=some false→Pu v=false)→ar w (SF μ F σ S) (Hl m0 μ fM) v (.nq st z) :=
   fun h0 h1 h2 h3 h4=>.nq (ih _ _ _ _ h0 h1 h2) h3 h4
  cases x with
  | nq YP y0 =>
   have Zq:∃ p z,FO σ F (uw m0 fM) fM d y0=some (p,z)∧ps=(YP=st) :: p∧y=.nq st z:=by
    cases y0<;>simp only [FO,aK,aA] at hw<;>grind
   obtain ⟨p,z,e1,rfl,rfl⟩:=Zq
   obtain ⟨rfl,xN⟩:=hp
   cases h with
   | nq h0 h1 h2=>exact fin h0 e1 xN h1 h2
  | nil =>
   simp only [FO,aK,aA] at hw
   obtain ⟨⟨p,z⟩,e1,rfl,rfl⟩:=hw
   obtain ⟨fx,xN⟩:=hp
   cases h
   exact fin .nil e1 xN (fun _=>rfl) (fun e=>absurd e fx)
  | _ =>
   simp only [FO,aK,aA] at hw
   obtain ⟨⟨p,z⟩,e1,rfl,rfl⟩:=hw
   obtain ⟨rfl,xN⟩:=hp
   grind
 | unq d ih =>
  intro x v ps y h hw hp
  cases x with
  | nq YP y0 =>
   simp only [FO] at hw
   cases h with
   | nq h0 _ _=>exact ih _ _ _ _ h0 hw hp
  | _=>grind [FO]
 | agg ds ih =>
  intro x v ps y h hw hp
  cases x<;>simp only [FO] at hw<;>try (cases hw;done)
  case agg cs =>
   simp only [aK,aA] at hw
   obtain ⟨⟨p,c⟩,h1,rfl,rfl⟩:=hw
   obtain ⟨q1,q2⟩:=ih cs p c h1 hp
   cases h with
   | agg h2 h3 =>
    refine .agg (h2.trans q1) fun j y v hy hv=>?_
    have gY:j < cs.length:=by rw [q1];exact (dU.1 hy).1
    exact q2 j _ y v (pT gY) hy (h3 j _ v (pT gY) hv)
 | tup ds ih =>
  intro x v ps y h hw hp
  cases x<;>simp only [FO] at hw<;>try (cases hw;done)
  case tup cs =>
   simp only [aK,aA] at hw
   obtain ⟨⟨p,c⟩,h1,rfl,rfl⟩:=hw
   obtain ⟨q1,q2⟩:=ih cs p c h1 hp
   cases h with
   | tup h2 h3 =>
    refine .tup (h2.trans q1) fun j y v hy hv=>?_
    have gY:j < cs.length:=by rw [q1];exact (dU.1 hy).1
    exact q2 j _ y v (pT gY) hy (h3 j _ v (pT gY) hv)
 | nil =>
  rename_i cs ps ys h hp
  cases cs with
  | nil=>simp [S8] at h;obtain ⟨_,rfl⟩:=h;exact ⟨rfl,fun j c y v hc=>by simp at hc⟩
  | cons=>simp [S8] at h
 | cons d ds Ok Ol =>
  rename_i cs ps ys h hp
  cases cs with
  | nil=>simp [S8] at h
  | cons c cs =>
   simp only [S8] at h
   split at h
   ·rename_i p x q xs e1 e2
    simp only [aD,aA] at h
    obtain ⟨rfl,rfl⟩:=h
    obtain ⟨x8,xN⟩:=bq.app hp
    obtain ⟨r1,r2⟩:=Ol cs q xs e2 xN
    refine ⟨by simp [r1],?_⟩
    intro j c' y v hc hy hr
    cases j with
    | zero=>simp at hc hy;subst hc hy;exact Ok c v p x hr e1 x8
    | succ j=>exact r2 j c' y v (by simpa using hc) (by simpa using hy) hr
   ·cases h
end
end Go.Ab
