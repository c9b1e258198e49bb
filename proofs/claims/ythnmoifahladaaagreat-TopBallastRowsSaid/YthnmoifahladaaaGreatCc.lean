/- Abstract values over the heap of the machine, and functions read off its code (part 3). No conditions. -/
import Derived.Test.YthnmoifahladaaaGreatCb
import Derived.OrdersIn
import Derived.RangeFuncSeq
set_option linter.unusedVariables false
set_option linter.unusedSimpArgs false
namespace Go.Ab
def fz:List (Nat×AV)->Nat->AV
 | [],_=>.rk
 | (k,x) :: r,n=>match Nat.beq k n with
  | true=>x
  | false=>fz r n
def Hu (tm:List (Nat×AV)):Operand->AV
 | .tmp t=>fz tm t
 | .const v=>ofConst v
 | .global g=>.atom (.pointer (some ⟨g,0,none⟩))
 | .func f=>.fn (.func f) [] []
def conds (e:Operand->AV):List Operand->List Prop
 | []=>[]
 | x :: r=>(e x).strip.2 ++ conds e r
def ae4 (b:Bool):List Prop->List Prop
 | []=>[]
 | p :: ps=>[b=true->bm (p :: ps)]
def ae5 (mx:Bool) (x y:AV):Option AV :=
 match x,y with
 | .atom (.int k a),.atom (.int k' b)=>match decide (k=k') with
  | true=>some (.atom (.int k (match mx with
   | true=>if b > a then b else a
   | false=>if b < a then b else a)))
  | false=>none
 | _,_=>none
def KU (mx:Bool):AV->List AV->Option AV
 | a,[]=>some a
 | a,b :: r=>match ae5 mx a b with
  | some v=>KU mx v r
  | none=>none
def xE (ps:List Prop) (x:Option AV):Option R:=x.map fun v=>⟨ps,v,[],[]⟩
def amw (l:List Nat) (k:Nat):Bool:=l.any fun x=>Nat.beq x k
def Gp (P:Program) (nk:Nat) (σ:eE) (e:Operand->AV) (b:Builtin) (args:List Operand) (SN:List TypeId):Option R :=
 let s:=fun x=>(e x).strip.1
 let c:=fun xs=>conds e xs
 match b,args,SN with
 | .len,[x],[t]=>xE (c [x]) (aeJ P t (s x))
 | .append,[x,y],[t,t']=>match Nat.beq t t' with
  | true=>(wi P nk σ t (s x) (s y)).map fun (ps,v,rd,u)=>⟨c [x,y] ++ ps,v,rd,u⟩
  | false=>none
 | .min,x :: r,_=>xE (c (x :: r)) (KU false (s x) (r.map s))
 | .max,x :: r,_=>xE (c (x :: r)) (KU true (s x) (r.map s))
 | _,_,_=>none
def ft (P:Program) (nk:Nat) (σ:eE) (op:Op) (e:Operand->AV) (bz:Option rS):Option R :=
 let s:=fun x=>(e x).strip.1
 let c:=fun xs=>conds e xs
 match op with
 | .move x | .assign x=>some ⟨[],e x,[],[]⟩
 | .pick q a b=>match s q,s a,s b with
  | .atom (.bool qb),.atom (.bool x),.atom (.bool y) =>
   some ⟨(e q).strip.2 ++ (ae4 qb (e a).strip.2 ++ ae4 (!qb) (e b).strip.2),.atom (.bool (cond qb x y)),[],[]⟩
  | _,_,_=>none
 | .alloc T=>(TY P nk T).map fun (v,u)=>⟨[],v,[],u⟩
 | .box _ x=>(aez nk (s x)).map fun (v,u)=>⟨c [x],v,[],u⟩
 | .build t parts=>xE (c (parts.toList.map (·.2))) (TZ P t (parts.toList.map fun (i,x)=>(i,s x)))
 | .buildSlice t len parts=>match Nat.beq len 0 && !parts.toList.isEmpty with
  | true=>none
  | false=>(Cx P nk t len (parts.toList.map fun (i,x)=>(i,s x))).map fun (v,u)=>⟨c (parts.toList.map (·.2)),v,[],u⟩
 | .load T a=>(Eo P σ T (s a)).map fun (ps,v,rd)=>⟨c [a] ++ ps,v,rd,[]⟩
 | .store T a x=>(Gf P σ T (s a) (s x)).map fun (ps,u,rd)=>⟨c [a,x] ++ ps,.rk,rd,u⟩
 | .nilCheck x=>match s x with
  | .op k i j=>some ⟨c [x],.op k i j,[],[]⟩
  | .rp cs j=>some ⟨c [x],.rp cs j,[],[]⟩
  | .pt b cs=>some ⟨c [x] ++ [b=true],.rp cs 0,[],[]⟩
  | _=>none
 | .binOp o t x y _=>(aex P o t (s x) (s y)).map fun (ps,v)=>⟨c [x,y] ++ ps,v,[],[]⟩
 | .unOp o _ x=>xE (c [x]) (ame o (s x))
 | .convert src dst x=>match YL P src dst (s x) with
  | some v=>some ⟨c [x],v,[],[]⟩
  | none=>(Gk P σ src dst (s x)).map fun (ps,v,rd)=>⟨c [x] ++ ps,v,rd,[]⟩
 | .makeMap _ none=>some ⟨[],.mp nk,[],[(nk,some ⟨false,0,0,true,fun _=>[]⟩)]⟩
 | .lookup t m x ok=>match bz with
  | some o=>(Br P σ t (s m) (s x) ok o).map fun (ps,v,rd)=>⟨c [m,x] ++ ps,v,rd,[]⟩
  | none=>none
 | .mapUpdate t m x y | .insert t m x y=>match bz with
  | some o=>(Bs P σ t (s m) (s x) (s y) o).map fun (ps,u,rd)=>⟨c [m,x,y] ++ ps,.rk,rd,u⟩
  | none=>none
 | .makeFunc f first cap=>some ⟨c (first.toList ++ cap.toList),.fn f (first.toList.map s) (cap.toList.map s),[],[]⟩
 | .makeSlice t l m=>(YN P nk t (s l) (s m)).map fun (ps,v,u)=>⟨c [l,m] ++ ps,v,[],u⟩
 | .slice t x lo hi none=>(Gg P σ t (s x) (lo.map s) (hi.map s)).map fun (ps,v,rd)=>⟨c (x :: (lo.toList ++ hi.toList)) ++ ps,v,rd,[]⟩
 | .fieldAddr T x f=>xE (c [x]) (Er P T (s x) f)
 | .field T x f=>xE (c [x]) (T6 P T (s x) f)
 | .indexAddr T x i=>(tI P σ T (s x) (s i)).map fun (ps,v,rd)=>⟨c [x,i] ++ ps,v,rd,[]⟩
 | .index T x i=>(T8 P T (s x) (s i)).map fun (ps,v)=>⟨c [x,i] ++ ps,v,[],[]⟩
 | .extract x i=>match s x with
  | .tup cs=>xE (c [x]) cs[i]?
  | _=>none
 | .call ⟨.value f,args,_⟩=>match bz with
  | some o=>(OT P nk σ (s f) (args.toList.map s) o).map fun r=>{ r with SC:=r.SC ++ c (f :: args.toList) }
  | none=>none
 | .call ⟨.builtin b,args,SN⟩=>Gp P nk σ e b args.toList SN.toList
 | _=>none
section
variable {P:Program} {E:Env} {nk:Nat} {σ:eE} {S:Nat->Prop} {μ:Mu} {w:World}
theorem Gq {e:Operand->AV}:∀ {xs:List Operand},bm (conds e xs)->∀ x∈xs,bm (e x).strip.2
 | [],_,x,hx=>by simp at hx
 | y :: r,h,x,hx=>by
  obtain ⟨h1,h2⟩:=bm.app h
  rcases lG.1 hx with rfl | hx
  ·exact h1
  ·exact Gq h2 x hx
theorem SO {b:Bool} {ps:List Prop} (h:bm (ae4 b ps)) (hb:b=true):bm ps:=by
 cases ps with
 | nil=>trivial
 | cons p ps=>exact h.1 hb
theorem YW {mx:Bool} {ρ:Operand->Value} {e:Operand->AV}:∀ (l:List Operand) (va:Value) (a r:AV),ak w S μ va a->(∀ x∈l,ak w S μ (ρ x) ((e x).strip.1)) ->
  KU mx a (l.map fun x=>(e x).strip.1)=some r->∃ z,((l.map ρ).foldlM (match mx with | true=>Builtin.max2 | false=>Builtin.min2) va:Sem Value).run P w=.ok z w/\ak w S μ z r
 | [],va,a,r,ha,_,h=>by
  simp only [List.map_nil,KU,aL] at h
  simp_all
 | x :: l,va,a,r,ha,hl,h=>by
  simp only [List.map_cons,KU] at h
  split at h
  ·rename_i v hv
   have hx:=hl x (by simp)
   obtain ⟨u,h1,h2⟩:∃ u,((match mx with | true=>Builtin.max2 | false=>Builtin.min2) va (ρ x):Sem Value).run P w=.ok u w/\ak w S μ u v:=by
    unfold ae5 at hv
    split at hv
    ·rename_i k p k' q hp hq
     rw [hq] at hx
     have e2:=dR hx
     have e1:=dR ha
     split at hv
     ·cases hv
      cases mx with
      | true=>exact ⟨_,by simp [e1,e2,Builtin.max2],.atom _⟩
      | false=>exact ⟨_,by simp [e1,e2,Builtin.min2],.atom _⟩
     ·cases hv
    ·cases hv
   obtain ⟨z,h3,h4⟩:=YW l u v r h2 (fun y hy=>hl y (by simp [hy])) h
   simp_all
  ·cases h
theorem ajP {v:Value} {b:Bool} {cs:List AV} (h:ak w S μ v (.pt b cs)) (hb:b=true):ak w S μ v (.rp cs 0):=by
 cases h with
 | pt h1 _=>exact h1 hb
def ae6 (E:Env) (nk:Nat) (σ:eE) (S:Nat->Prop) (μ:Mu) (w:World) (r:R) (K:Value->World->Prop):Prop :=
 ∀ v w' S' eB,Ext w S μ w' S' eB->Good E (gS σ r.pU) S' eB w'->(∀ k,(k < nk\/nk+16<=k)->μ k=none->eB k=none)->ak w' S' eB v r.val->K v w'
theorem SP {ρ:Operand->Value} {e:Operand->AV} {parts:Array (Nat×Operand)} (he:∀ x∈(parts.toList.map (·.2)),ak w S μ (ρ x) ((e x).strip.1)) :
  (parts.map fun (i,x)=>(i,ρ x)).toList.map (·.1)=(parts.toList.map fun (i,x)=>(i,(e x).strip.1)).map (·.1) /\
  ∀ (j:Nat) x y,(parts.toList.map fun (i,x)=>(i,(e x).strip.1))[j]?=some x->(parts.map fun (i,x)=>(i,ρ x)).toList[j]?=some y->ak w S μ y.2 x.2:=by
 refine ⟨by simp,?_⟩
 grind
theorem OZ {ρ:Operand->Value} {e:Operand->AV} {xs:Array Operand} (he:∀ x∈xs.toList,ak w S μ (ρ x) ((e x).strip.1)) :
  RL w S μ (xs.map ρ) (xs.toList.map fun x=>(e x).strip.1):=by
 refine ⟨by simp,?_⟩
 grind
theorem W4 {o:Oper} {a:Act} {e:Operand->AV} {bz:Option rS} {r:R} {next:Act->World->Prop} {Q:Exit->Act->World->Prop}
  (he:∀ x∈o.op.operands.toList,ak w S μ (a.eval x) (e x)) (g:Good E σ S μ w) (HR:∀ j,j < 16->μ (nk+j)=none) (hm:E.m0<=nk)
  (hz:∀ x,bz=some x->x.D1=true->∀ b,¬ E.fp b) (h:ft P nk σ o.op e bz=some r) (hp:bm r.SC) (hK:ae6 E nk σ S μ w r fun v w'=>next (a.put o.dst v) w'):o.wp P a w next Q:=by
 have hk:μ nk=none:=HR 0 (by omega)
 -- a value without a change
 have pv:∀ (s:Sem Value),execOp a.eval o=(do pure (.value (<- s)):Sem Next)->r.pU=[]->(∃ v,s.run P w=.ok v w/\ak w S μ v r.val)->o.wp P a w next Q:=by
  rintro s hs hu ⟨v,h1,h2⟩
  unfold Oper.wp
  rw [hs]
  simp only [b8,h1,dP,Sem.run_pure]
  exact hK v w S μ (Ext.refl _ _ _) (by rw [hu];exact g) (fun _ _ h=>h) h2
 have pv0:∀ (v:Value),execOp a.eval o=pure (.value v)->r.pU=[]->ak w S μ v r.val->o.wp P a w next Q:=by
  intro v hs hu h2
  unfold Oper.wp
  rw [hs]
  exact hK v w S μ (Ext.refl _ _ _) (by rw [hu];exact g) (fun _ _ h=>h) h2
 have sv:∀ (s:Sem Value),execOp a.eval o=(do pure (.value (<- s)):Sem Next)->Step P E nk σ S μ w s r.val r.pU->o.wp P a w next Q:=by
  rintro s hs ⟨v,w',S',eB,h1,h2,h3,h4,h5⟩
  unfold Oper.wp
  rw [hs]
  simp only [b8,h1,dP,Sem.run_pure]
  exact hK v w' S' eB h2 h3 (fun k tg=>h4 k (by omega)) h5
 have st:∀ (xs:List Operand),bm (conds e xs)->(∀ x∈xs,x∈o.op.operands.toList)->∀ x∈xs,ak w S μ (a.eval x) ((e x).strip.1) :=
  fun xs h1 h2 x hx=>(he x (h2 x hx)).strip (Gq h1 x hx)
 obtain ⟨dst,op,ty,pos,after,guard⟩:=o
 simp only at he h hK pv pv0 sv st ⊢
 cases op with
 | move x =>
  simp only [ft,aL] at h;subst h
  exact pv0 (a.eval x) rfl rfl (he x (by simp [Op.operands]))
 | assign x =>
  simp only [ft,aL] at h;subst h
  exact pv0 (a.eval x) rfl rfl (he x (by simp [Op.operands]))
 | pick q x y =>
  simp only [ft] at h
  split at h
  ·rename_i qb xb yb hq hx hy
   cases h
   obtain ⟨p1,p2⟩:=bm.app hp
   obtain ⟨p2,p3⟩:=bm.app p2
   have e1:=(he q (by simp [Op.operands])).strip p1
   rw [hq] at e1
   have e1:=dR e1
   refine pv (do pure (if <- asBool (a.eval q) then a.eval x else a.eval y)) (by simp [execOp]) rfl ?_
   cases qb with
   | true =>
    have e2:=(he x (by simp [Op.operands])).strip (SO p2 rfl)
    simp_all [asBool]
   | false =>
    have e2:=(he y (by simp [Op.operands])).strip (SO p3 rfl)
    simp_all [asBool]
  ·cases h
 | alloc T =>
  simp only [ft,aW] at h
  obtain ⟨⟨v,u⟩,h1,rfl⟩:=h
  exact sv _ rfl (aey g hk hm h1)
 | box T x =>
  simp only [ft,aW] at h
  obtain ⟨⟨v,u⟩,h1,rfl⟩:=h
  exact sv _ rfl (amf g hk hm (st [x] hp (by simp [Op.operands]) x (by simp)) h1)
 | build t parts =>
  simp only [ft,xE,aW] at h
  obtain ⟨v,h1,rfl⟩:=h
  have YD:=SP (st _ hp (by simp [Op.operands]))
  exact pv _ rfl rfl (aeB YD.1 YD.2 h1)
 | buildSlice t len parts =>
  simp only [ft] at h
  split at h
  ·cases h
  ·rename_i WH
   simp only [aW] at h
   obtain ⟨⟨v,u⟩,h1,rfl⟩:=h
   have YD:=SP (st _ hp (by simp [Op.operands]))
   refine sv _ rfl (RX g hk hm YD.1 YD.2 h1 ?_)
   intro hz
   subst hz
   simp only [Bool.and_eq_false_iff] at WH
   rcases WH with h0 | h0
   ·simp at h0
   ·simp only [Bool.not_eq_false',List.isEmpty_iff] at h0
    simp [h0]
 | load T x =>
  simp only [ft,aW] at h
  obtain ⟨⟨ps,v,rd⟩,h1,rfl⟩:=h
  obtain ⟨p1,p2⟩:=bm.app hp
  exact pv _ rfl rfl (T0 g (st [x] p1 (by simp [Op.operands]) x (by simp)) h1 p2)
 | store T x y =>
  simp only [ft,aW] at h
  obtain ⟨⟨ps,u,rd⟩,h1,rfl⟩:=h
  obtain ⟨p1,p2⟩:=bm.app hp
  have s:=st [x,y] p1 (by simp [Op.operands])
  obtain ⟨w',r1,r2,r3⟩:=aeF g (s x (by simp)) (s y (by simp)) h1 p2
  unfold Oper.wp
  have ex:execOp a.eval ⟨dst,.store T x y,ty,pos,after,guard⟩=(do Instr.storeAt T (a.eval x) (a.eval y);pure .skip:Sem Next):=rfl
  rw [ex]
  simp only [b8,r1,dP,Sem.run_pure]
  exact hK undef w' S μ r2 r3 (fun _ _ h=>h) .rk
 | nilCheck x =>
  simp only [ft] at h
  split at h
  ·rename_i k i j hx
   cases h
   have e1:=st [x] hp (by simp [Op.operands]) x (by simp)
   rw [hx] at e1
   cases hv:a.eval x with
   | pointer q =>
    rw [hv] at e1
    cases q with
    | none=>cases e1
    | some q=>exact pv0 (.pointer (some q)) (by simp [execOp,hv]) rfl e1
   | _=>rw [hv] at e1;cases e1
  ·rename_i cs j hx
   cases h
   have e1:=st [x] hp (by simp [Op.operands]) x (by simp)
   rw [hx] at e1
   cases hv:a.eval x with
   | pointer q =>
    rw [hv] at e1
    cases q with
    | none=>cases e1
    | some q=>exact pv0 (.pointer (some q)) (by simp [execOp,hv]) rfl e1
   | _=>rw [hv] at e1;cases e1
  ·rename_i b cs hx
   cases h
   obtain ⟨hp,hb,_⟩:=bm.app hp
   have e1:=st [x] hp (by simp [Op.operands]) x (by simp)
   rw [hx] at e1
   have e1:=ajP e1 hb
   cases hv:a.eval x with
   | pointer q =>
    rw [hv] at e1
    cases q with
    | none=>cases e1
    | some q=>exact pv0 (.pointer (some q)) (by simp [execOp,hv]) rfl e1
   | _=>rw [hv] at e1;cases e1
  ·cases h
 | binOp o' t x y yt =>
  simp only [ft,aW] at h
  obtain ⟨⟨ps,v⟩,h1,rfl⟩:=h
  obtain ⟨p1,p2⟩:=bm.app hp
  have s:=st [x,y] p1 (by simp [Op.operands])
  exact pv (do eqGuard o' t x y (a.eval x) (a.eval y);binOp o' t (a.eval x) (a.eval y)) rfl rfl (amc (s x (by simp)) (s y (by simp)) h1 p2)
 | unOp o' t x =>
  simp only [ft,xE,aW] at h
  obtain ⟨v,h1,rfl⟩:=h
  exact pv _ rfl rfl (aoM (st [x] hp (by simp [Op.operands]) x (by simp)) h1)
 | convert src dt x =>
  simp only [ft] at h
  split at h
  ·rename_i v h1
   cases h
   exact pv _ rfl rfl (ajs (st [x] hp (by simp [Op.operands]) x (by simp)) h1)
  ·simp only [aW] at h
   obtain ⟨⟨ps,v,rd⟩,h1,rfl⟩:=h
   obtain ⟨p1,p2⟩:=bm.app hp
   exact sv _ rfl (aeZ g (st [x] p1 (by simp [Op.operands]) x (by simp)) h1 p2)
 | makeMap t hint =>
  cases hint with
  | some _=>simp [ft] at h
  | none =>
   simp only [ft,aL] at h;subst h
   have ga:=g.allocMap hk hm
   refine sv (Instr.makeMap t none) rfl ⟨_,_,_,_,Go.RowKit.run_makeMap t w,ga.1,ga.2,fun k tg hn=>by rw [qG _ tg];exact hn,?_⟩
   exact ak.mp (μ:=cK μ nk ⟨w.heap.size,1,0⟩) ⟨w.heap.size,1,0⟩ (by simp [cK])
 | lookup t m x ok =>
  simp only [ft] at h
  split at h
  ·simp only [aW] at h
   obtain ⟨⟨ps,v,rd⟩,h1,rfl⟩:=h
   obtain ⟨p1,p2⟩:=bm.app hp
   have s:=st [m,x] p1 (by simp [Op.operands])
   exact pv _ rfl rfl (acW g (s m (by simp)) (s x (by simp)) h1 p2)
  ·cases h
 | mapUpdate t m x y =>
  simp only [ft] at h
  split at h
  ·simp only [aW] at h
   obtain ⟨⟨ps,u,rd⟩,h1,rfl⟩:=h
   obtain ⟨p1,p2⟩:=bm.app hp
   have s:=st [m,x,y] p1 (by simp [Op.operands])
   obtain ⟨w',r1,r2,r3⟩:=SL g (s m (by simp)) (s x (by simp)) (s y (by simp)) h1 p2
   unfold Oper.wp
   have ex:execOp a.eval ⟨dst,.mapUpdate t m x y,ty,pos,after,guard⟩=(do Instr.mapUpdate t (a.eval m) (a.eval x) (a.eval y);pure .skip:Sem Next):=rfl
   rw [ex]
   simp only [b8,r1,dP,Sem.run_pure]
   exact hK undef w' S μ r2 r3 (fun _ _ h=>h) .rk
  ·cases h
 | insert t m x y =>
  simp only [ft] at h
  split at h
  ·simp only [aW] at h
   obtain ⟨⟨ps,u,rd⟩,h1,rfl⟩:=h
   obtain ⟨p1,p2⟩:=bm.app hp
   have s:=st [m,x,y] p1 (by simp [Op.operands])
   obtain ⟨w',r1,r2,r3⟩:=SL g (s m (by simp)) (s x (by simp)) (s y (by simp)) h1 p2
   unfold Oper.wp
   have ex:execOp a.eval ⟨dst,.insert t m x y,ty,pos,after,guard⟩=(do Instr.mapUpdate t (a.eval m) (a.eval x) (a.eval y);pure .skip:Sem Next):=rfl
   rw [ex]
   simp only [b8,r1,dP,Sem.run_pure]
   exact hK undef w' S μ r2 r3 (fun _ _ h=>h) .rk
  ·cases h
 | makeFunc f first cap =>
  simp only [ft,aL] at h;subst h
  have s:=st (first.toList ++ cap.toList) hp (by simp [Op.operands])
  have l1:=OZ (xs:=first) (fun x hx=>s x (by simp only [List.mem_append];exact .inl hx))
  have l2:=OZ (xs:=cap) (fun x hx=>s x (by simp only [List.mem_append];exact .inr hx))
  exact pv _ rfl rfl ⟨_,by simp [Instr.makeFunc],.fn l1.1 l2.1 l1.2 l2.2⟩
 | makeSlice t x y =>
  simp only [ft,aW] at h
  obtain ⟨⟨ps,v,u⟩,h1,rfl⟩:=h
  obtain ⟨p1,p2⟩:=bm.app hp
  have s:=st [x,y] p1 (by simp [Op.operands])
  exact sv _ rfl (ajv g hk hm (s x (by simp)) (s y (by simp)) h1 p2)
 | slice t x lo hi mx =>
  cases mx with
  | some _=>simp [ft] at h
  | none =>
   simp only [ft,aW] at h
   obtain ⟨⟨ps,v,rd⟩,h1,rfl⟩:=h
   obtain ⟨p1,p2⟩:=bm.app hp
   have s:=st (x :: (lo.toList ++ hi.toList)) p1 (by
    intro y hy
    simp only [lG,List.mem_append,Option.mem_toList] at hy
    simp only [Op.operands]
    rcases hy with rfl | hy | hy
    ·simp
    ·simp [hy]
    ·simp [hy])
   refine pv (Instr.sliceAt t (a.eval x) (lo.map a.eval) (hi.map a.eval) none) rfl rfl (aeI g (s x (by simp)) ?_ ?_ h1 p2)
   ·refine ⟨by simp,?_⟩
    intro p q wW hq
    simp only [aW] at wW hq
    obtain ⟨y,hy,rfl⟩:=wW
    obtain ⟨z,hz,rfl⟩:=hq
    rw [hy] at hz;cases hz
    exact s y (by simp [hy])
   ·refine ⟨by simp,?_⟩
    intro p q wW hq
    simp only [aW] at wW hq
    obtain ⟨y,hy,rfl⟩:=wW
    obtain ⟨z,hz,rfl⟩:=hq
    rw [hy] at hz;cases hz
    exact s y (by simp [hy])
 | fieldAddr T x f =>
  simp only [ft,xE,aW] at h
  obtain ⟨v,h1,rfl⟩:=h
  exact pv _ rfl rfl (T5 (st [x] hp (by simp [Op.operands]) x (by simp)) h1)
 | field T x f =>
  simp only [ft,xE,aW] at h
  obtain ⟨v,h1,rfl⟩:=h
  exact pv _ rfl rfl (aeG (st [x] hp (by simp [Op.operands]) x (by simp)) h1)
 | indexAddr T x i =>
  simp only [ft,aW] at h
  obtain ⟨⟨ps,v,rd⟩,h1,rfl⟩:=h
  obtain ⟨p1,p2⟩:=bm.app hp
  have s:=st [x,i] p1 (by simp [Op.operands])
  exact pv _ rfl rfl (T7 g (s x (by simp)) (s i (by simp)) h1 p2)
 | index T x i =>
  simp only [ft,aW] at h
  obtain ⟨⟨ps,v⟩,h1,rfl⟩:=h
  obtain ⟨p1,p2⟩:=bm.app hp
  have s:=st [x,i] p1 (by simp [Op.operands])
  exact pv _ rfl rfl (aeH (s x (by simp)) (s i (by simp)) h1 p2)
 | extract x i =>
  simp only [ft] at h
  split at h
  ·rename_i cs hx
   simp only [xE,aW] at h
   obtain ⟨v,h1,rfl⟩:=h
   have e1:=st [x] hp (by simp [Op.operands]) x (by simp)
   rw [hx] at e1
   refine pv _ rfl rfl ?_
   cases hv:a.eval x with
   | tuple vs =>
    rw [hv] at e1
    cases e1 with
    | tup q1 q2 =>
     have iQ:i < vs.size:=by rw [q1];exact (fe.1 h1).1
     exact ⟨vs[i],by simp [Instr.extract,lF iQ],q2 i v _ h1 (lF iQ)⟩
   | _=>rw [hv] at e1;cases e1
  ·cases h
 | call c =>
  obtain ⟨callee,args,argTypes⟩:=c
  cases callee with
  | invoke=>simp [ft] at h
  | value f =>
   simp only [ft] at h
   split at h
   ·rename_i o'
    simp only [aW] at h
    obtain ⟨r',h1,rfl⟩:=h
    obtain ⟨p1,p2⟩:=bm.app hp
    have s:=st (f :: args.toList) p2 (by simp [Op.operands,Call.operands])
    have l1:=OZ (xs:=args) (fun x hx=>s x (List.mem_cons_of_mem _ hx))
    obtain ⟨gid,vs,r1,r2⟩:=YV g HR hm (s f (by simp)) l1 (hz _ rfl) h1 p1
    unfold Oper.wp
    have ex:execOp a.eval ⟨dst,.call ⟨.value f,args,argTypes⟩,ty,pos,after,guard⟩=(do let d <- Deferred.ofValue (a.eval f) (args.map a.eval);invoke d.target d.args:Sem Next):=rfl
    rw [ex,r1]
    simp only [Oper.upon]
    refine r2.mono ?_
    rintro e' w' ⟨v,S',eB,rfl,q1,q2,q3,q4⟩
    exact hK v w' S' eB q1 q2 q3 q4
   ·cases h
  | builtin b =>
   simp only [ft] at h
   unfold Gp at h
   split at h
   case h_1 x t ha ht =>
    obtain ⟨rfl⟩:args=#[x]:=Array.toList_inj.1 (by rw [ha])
    obtain ⟨rfl⟩:argTypes=#[t]:=Array.toList_inj.1 (by rw [ht])
    simp only [xE,aW] at h
    obtain ⟨v,h1,rfl⟩:=h
    have s:=st [x] hp (by simp [Op.operands,Call.operands])
    exact pv (Builtin.len_ #[t] ty #[a.eval x]) (by simp [execOp,resolve,invoke,builtin]) rfl (aml (s x (by simp)) h1 ty)
   case h_2 x y t t' ha ht =>
    obtain ⟨rfl⟩:args=#[x,y]:=Array.toList_inj.1 (by rw [ha])
    obtain ⟨rfl⟩:argTypes=#[t,t']:=Array.toList_inj.1 (by rw [ht])
    split at h
    ·rename_i hb
     have hb:=cw hb
     subst hb
     simp only [aW] at h
     obtain ⟨⟨ps,v,rd,u⟩,h1,rfl⟩:=h
     obtain ⟨p1,p2⟩:=bm.app hp
     have s:=st [x,y] p1 (by simp [Op.operands,Call.operands])
     exact sv (Builtin.append_ #[t,t] ty #[a.eval x,a.eval y]) (by simp [execOp,resolve,invoke,builtin]) (SB g hk hm (s x (by simp)) (s y (by simp)) h1 p2)
    ·cases h
   case h_3 x r ha =>
    simp only [xE,aW] at h
    obtain ⟨v,h1,rfl⟩:=h
    have s:=st (x :: r) hp (by intro y hy;simpa [Op.operands,Call.operands,ha] using hy)
    refine pv (Builtin.min_ argTypes ty (args.map a.eval)) (by simp [execOp,resolve,invoke,builtin]) rfl ?_
    obtain ⟨z,h3,h4⟩:=YW (P:=P) r (a.eval x) _ v (s x (by simp)) (fun y hy=>s y (by simp [hy])) h1
    refine ⟨z,?_,h4⟩
    unfold Builtin.min_
    rw [Array.toList_map,ha,List.map_cons]
    exact h3
   case h_4 x r ha =>
    simp only [xE,aW] at h
    obtain ⟨v,h1,rfl⟩:=h
    have s:=st (x :: r) hp (by intro y hy;simpa [Op.operands,Call.operands,ha] using hy)
    refine pv (Builtin.max_ argTypes ty (args.map a.eval)) (by simp [execOp,resolve,invoke,builtin]) rfl ?_
    obtain ⟨z,h3,h4⟩:=YW (P:=P) r (a.eval x) _ v (s x (by simp)) (fun y hy=>s y (by simp [hy])) h1
    refine ⟨z,?_,h4⟩
    unfold Builtin.max_
    rw [Array.toList_map,ha,List.map_cons]
    exact h3
   case h_5=>cases h
 | _=>simp [ft] at h
def ara:Option rS->Option rS
 | some o=>match o.same with
  | false=>some o
  | true=>none
 | none=>none
def Gr (P:Program) (σ:eE) (T:TypeId) (a x:AV):Option (List Prop×AV×List Nat) :=
 match a,P.underlying T,zz P T with
 | .op k i j,some d,some n=>match d.isRow,Nat.beq n 1,au σ k with
  | false,true,some o=>some ([i < o.len,(o.get i)[j]?=some x],x,[k])
  | _,_,_=>none
 | _,_,_=>none
theorem ae7 (g:Good E σ S μ w) {T:TypeId} {a x:AV} {va:Value} (ha:ak w S μ va a) {ps:List Prop} {y:AV} {rd:List Nat} (h:Gr P σ T a x=some (ps,y,rd)) (hp:bm ps) :
  ∃ v,(Instr.loadAt T va).run P w=.ok v w/\ak w S μ v y:=by
 unfold Gr at h
 split at h
 case h_2=>cases h
 rename_i k i j d n hd hn
 split at h
 case h_2=>cases h
 rename_i o h1 h2 ho
 simp only [aL,aG] at h
 obtain ⟨rfl,rfl,rfl⟩:=h
 obtain ⟨hi,hx,_⟩:=hp
 have hn1:=cw h2
 subst hn1
 refine T0 (T:=T) g ha (ps:=[i < o.len]) (rd:=[k]) ?_ ⟨hi,trivial⟩
 unfold Eo
 simp only [hd,hn,ho,h1]
 unfold ldv
 have:Nat.ble (j+1) (o.get i).length=true:=by rw [Nat.ble_eq];exact (fe.1 hx).1
 rw [this]
 simp [hx]
def Ue (σ:eE) (k q i:Nat):Option (List Prop×xD) :=
 match au σ k,au σ q with
 | some o,some oq=>match !o.var && !oq.var && oq.pr && Nat.ble 1 oq.sz && !Nat.beq k q with
  | true=>some ([i < o.len,o.get i=[.os q 0 oq.len],∀ j,j < oq.len->oZ (oq.get j)=true],[(q,none),(k,some ⟨false,o.sz,o.len,false,fun m=>if m=i then [.mr oq.sz oq.len oq.get] else o.get m⟩)])
  | false=>none
 | _,_=>none
theorem SQ {k q i:Nat} {ps:List Prop} {u:xD} (h:Ue σ k q i=some (ps,u)) (hp:bm ps) (g:Good E σ S μ w):Good E (gS σ u) S μ w:=by
 unfold Ue at h
 split at h
 case h_2=>cases h
 rename_i o oq ho hoq
 split at h
 case h_2=>cases h
 rename_i hb
 simp only [aL,aG] at h
 obtain ⟨rfl,rfl⟩:=h
 simp only [a7,Bool.not_eq_true',Nat.ble_eq] at hb
 obtain ⟨⟨⟨⟨h1,h2⟩,h3⟩,h4⟩,h5⟩:=hb
 obtain ⟨p1,p2,p3,_⟩:=hp
 refine g.cls ho hoq (fun e=>?_) h1 h2 h3 h4 p1 p2 fun j=>?_
 ·simp_all
 ·cases hr:rowOf oq j with
  | none=>rfl
  | some x =>
   obtain ⟨_,r2,r3⟩:=dW hr
   have:=p3 j r2
   rw [r3] at this;cases this
def ao3:AV->Nat
 | .os _ _ len=>len
 | _=>0
def yl (P:Program) (nk:Nat) (σ:eE) (t:TypeId) (s x:AV) (bz:rS):Option (List Prop×AV×List Nat×xD) :=
 match bz.ks,wi P nk σ t s x with
 | [q],some (ps,v,rd,u)=>match amw (rd ++ u.map (·.1)) q,Ue (gS σ u) nk q (ao3 s) with
  | false,some (ps2,u2)=>some (ps ++ ps2,v,q :: rd,u ++ u2)
  | _,_=>none
 | _,_=>none
theorem YX (g:Good E σ S μ w) (hk:μ nk=none) (hm:E.m0<=nk) {t ty:TypeId} {s x:AV} {bz:rS} {vs vx:Value} (hs:ak w S μ vs s) (hx:ak w S μ vx x) {ps:List Prop} {val:AV} {rd:List Nat} {pU:xD}
  (h:yl P nk σ t s x bz=some (ps,val,rd,pU)) (hp:bm ps):Step P E nk σ S μ w (Builtin.append_ #[t,t] ty #[vs,vx]) val pU:=by
 unfold yl at h
 split at h
 case h_2=>cases h
 rename_i q p1 v rd' u hq ha
 split at h
 case h_2=>cases h
 rename_i p2 u2 _ hc
 simp only [aL,aG] at h
 obtain ⟨rfl,rfl,rfl,rfl⟩:=h
 obtain ⟨Ej,DZ⟩:=bm.app hp
 obtain ⟨v',w',S',eB,h1,h2,h3,h4,h5⟩:=SB (ty:=ty) g hk hm hs hx ha Ej
 exact ⟨v',w',S',eB,h1,h2,by grind [iW,SQ],h4,h5⟩
def O0 (P:Program) (T:TypeId) (x lo hi mx:AV):Option (List Prop×AV×List Nat) :=
 match P.underlying T,x,lo,hi,mx with
 | some (.slice e),.os _ _ len,.atom (.int _ l),.atom (.int _ h),.atom (.int _ m)=>match zz P e with
  | some _=>some ([0<=l/\l<=h/\h<=m/\m<=len],.rk,[])
  | none=>none
 | _,_,_,_,_=>none
theorem acX {T:TypeId} {x lo hi mx:AV} {v vl vh vm:Value} (hx:ak w S μ v x) (hl:ak w S μ vl lo) (hh:ak w S μ vh hi) (hm:ak w S μ vm mx) {ps:List Prop} {r:AV} {rd:List Nat}
  (h:O0 P T x lo hi mx=some (ps,r,rd)) (hp:bm ps):∃ u,(Instr.sliceAt T v (some vl) (some vh) (some vm)).run P w=.ok u w/\ak w S μ u r:=by
 unfold O0 at h
 split at h
 case h_2=>cases h
 rename_i e k off len kl l kh h' km m hu
 split at h
 case h_2=>cases h
 rename_i sz xB
 simp only [aL,aG] at h
 obtain ⟨rfl,rfl,rfl⟩:=h
 obtain ⟨⟨p1,p2,p3,p4⟩,_⟩:=hp
 have e1:=dR hl
 have e2:=dR hh
 have e3:=dR hm
 subst e1 e2 e3
 cases hx with
 | os pl jl h1 h2 h3 =>
  rename_i cap a
  have q1:0<=m/\m<=(cap:Int):=by omega
  have q2:0<=h'/\h'<=(m.toNat:Int):=by omega
  have q3:0<=l/\l<=(h'.toNat:Int):=by omega
  have hb:(Instr.sliceBounds true len cap (some (.int kl l)) (some (.int kh h')) (some (.int km m))).run P w=.ok (l.toNat,h'.toNat,m.toNat) w:=by
   simp only [Instr.sliceBounds,Instr.sliceBound,asIntOf,b8,Sem.run_pure,dP,Sem.run_ite,if_pos q1,if_pos q2,if_pos q3]
  exact ⟨.slice (if m.toNat=l.toNat then a else a.map (·.add (l.toNat * sz))) (h'.toNat - l.toNat) (m.toNat - l.toNat),by simp [Instr.sliceAt,Instr.slice,run_underlying hu,hb,gh xB],.rk⟩
def Bt (P:Program) (σ:eE) (T:TypeId) (x:AV) (lo hi:Option AV):Option (List Prop×AV×List Nat) :=
 match P.underlying T,x with
 | some (.slice e),.os k off len=>match zz P e,bound 0 lo,bound len hi,au σ k with
  | some sz,some l,some h,some o=>match Nat.beq o.sz sz with
   | true=>some ((l<=h/\off+h<=o.len) :: (Aw lo ++ Aw hi),.os k (bB off l) (h - l),[k])
   | false=>none
  | _,_,_,_=>none
 | _,_=>none
theorem acY (g:Good E σ S μ w) {T:TypeId} {x:AV} {v:Value} (hx:ak w S μ v x) {lo hi:Option AV} {vlo vhi:Option Value}
  (hlo:(vlo=none↔lo=none)/\∀ a b,lo=some a->vlo=some b->ak w S μ b a)
  (hhi:(vhi=none↔hi=none)/\∀ a b,hi=some a->vhi=some b->ak w S μ b a) {ps:List Prop} {r:AV} {rd:List Nat} (h:Bt P σ T x lo hi=some (ps,r,rd)) (hp:bm ps) :
  ∃ u,(Instr.sliceAt T v vlo vhi none).run P w=.ok u w/\ak w S μ u r:=by
 unfold Bt at h
 split at h
 case h_2=>cases h
 rename_i e k off len hu
 split at h
 case h_2=>cases h
 rename_i sz l hh o xB hl hh' ho
 split at h
 case h_2=>cases h
 rename_i hb
 have hb:=cw hb
 simp only [aL,aG] at h
 obtain ⟨rfl,rfl,rfl⟩:=h
 obtain ⟨⟨p1,p2⟩,p3⟩:=hp
 obtain ⟨pl,c,T',hm,dS⟩:=g.rep.ob k o ho
 cases hx with
 | os mf jl h1 h2 h3 =>
  rename_i cap a
  rw [hm] at jl;cases jl
  have hc:hh<=cap:=by have:=dS.len;omega
  have hbd:=Cz (P:=P) (w:=w) true (cap:=cap) hlo hhi hl hh' p1 hc p3
  refine ⟨.slice (if cap=l then a else a.map (·.add (l * sz))) (hh - l) (cap - l),?_,?_⟩
  ·simp [Instr.sliceAt,Instr.slice,run_underlying hu,hbd,gh xB]
  ·refine .os pl hm ?_ (by omega) (by rw [dc];omega)
   intro hc
   have:=h1 (by omega)
   subst this
   rw [if_neg (by omega)]
   simp only [Option.map_some,Addr.add_mid]
   rw [dc,dS.sz,hb,dn]
def KV (P:Program) (σ:eE) (t:TypeId) (s x:AV):Option (List Prop×AV×List Nat×xD) :=
 match qg P t with
 | some e=>match zz P e,Cu P e,xC P e,s,x with
  | some sz,some _,some _,.os k 0 len,.os k' off n=>match Nat.beq k k',au σ k with
   | true,some o=>match Nat.ble 1 sz && Nat.beq o.sz sz && !o.var with
    | true=>some ([0 < o.len/\len+n<=o.len,off+n<=o.len,∀ i,i < o.len->AV.su (o.get i)=true],.os k 0 (len+n),[k],
      [(k,some ⟨false,sz,o.len,o.pr,fun m=>if m < len then o.get m else if m < len+n then o.get (bB off (m - len)) else o.get m⟩)])
    | false=>none
   | _,_=>none
  | _,_,_,_,_=>none
 | none=>none
theorem SR {o:Ob} (h:∀ i,i < o.len->AV.su (o.get i)=true) (i:Nat):rowOf o i=none:=by
 cases hr:rowOf o i with
 | none=>rfl
 | some x =>
  obtain ⟨_,r2,r3⟩:=dW hr
  have:=h i r2
  rw [r3] at this;cases this
theorem ajQ (g:Good E σ S μ w) {t ty:TypeId} {s x:AV} {vs vx:Value} (hs:ak w S μ vs s) (hx:ak w S μ vx x) {ps:List Prop} {val:AV} {rd:List Nat} {pU:xD}
  (h:KV P σ t s x=some (ps,val,rd,pU)) (hp:bm ps):Step P E nk σ S μ w (Builtin.append_ #[t,t] ty #[vs,vx]) val pU:=by
 unfold KV at h
 split at h
 case h_2=>cases h
 rename_i e he
 have he:=ni he
 split at h
 case h_2=>cases h
 rename_i sz b z k len k' off n xB hb hz
 obtain ⟨ie,Of,rfl,rfl,hze⟩:=Cv xB hb hz
 split at h
 case h_2=>cases h
 rename_i o hkk ho
 have hkk:=cw hkk
 subst hkk
 split at h
 case h_2=>cases h
 rename_i KO
 simp only [a7,Nat.ble_eq,Bool.not_eq_true'] at KO
 obtain ⟨⟨b1,b2⟩,Jr⟩:=KO
 have b2:=cw b2
 simp only [aL,aG] at h
 obtain ⟨rfl,rfl,rfl,rfl⟩:=h
 obtain ⟨⟨p0,p1⟩,p2,p3,_⟩:=hp
 obtain ⟨news,sr⟩:=Es (P:=P) (sz:=ie.size) (n:=n) (gt:=fun i=>o.get (bB off i)) (pr:=o.pr) (ps:=[off+n<=o.len,∀ i,i < n->AV.su (o.get (bB off i))=true]) (rd:=[k]) g hx
  (by unfold Bn;simp only [ho,xA b2]) ⟨p2,fun i hi=>p3 _ (by rw [dc];omega),trivial⟩
 obtain ⟨pl,c,T',Ax,dS⟩:=g.rep.ob k o ho
 cases hs with
 | os mf jl h1 h2 h3 =>
  rename_i cap a
  rw [Ax] at jl;cases jl
  have hol:=dS.len
  have ha:=h1 (by omega)
  simp only [Nat.zero_mul] at ha
  subst ha
  have Au:0 < pl.cap:=by omega
  have WM:len+n<=cap:=by omega
  have DY:len * ie.size+news.length<=c.size:=by
   have e1:(len+n) * ie.size<=pl.cap * ie.size:=dN _ (by omega)
   have e2:=dS.cap
   rw [b2] at e2
   rw [sr.size,<- dn];omega
  have oD:=OK (P:=P) (w:=w) (ty:=ty) he Of ((dS.dD Au).trans (by rw [gY (by omega)])) sr.len sr.cells sr.one WM DY
  generalize sS:(c.toList.take (len * ie.size) ++ news ++ c.toList.drop (len * ie.size+news.length)).toArray=c' at oD
  have Ep:(c.toList.take (len * ie.size)).length=len * ie.size:=by simp;omega
  have T4:c'.size=c.size:=by
   rw [<- sS]
   simp;omega
  have ui:∀ m,c'[m]?=if m < len * ie.size then c[m]? else if m < len * ie.size+news.length then news[m - len * ie.size]? else c[m]?:=by
   intro m
   rw [<- sS]
   simp only [List.getElem?_toArray]
   by_cases h1:m < len * ie.size
   ·rw [jj (by simp;omega),jj (by omega),sR,if_pos h1,if_pos h1]
    simp
   ·rw [if_neg h1]
    by_cases h2:m < len * ie.size+news.length
    ·rw [jj (by simp;omega),kU (by omega),Ep,if_pos h2]
    ·rw [if_neg h2,kU (by simp;omega)]
     simp only [gI,Ep,rm]
     rw [show len * ie.size+news.length+(m - (len * ie.size+news.length))=m by omega]
     simp
  have ug:∀ i,i < o.len->(if i < len then o.get i else if i < len+n then o.get (bB off (i - len)) else o.get i).length=ie.size:=by
   intro i hi
   split
   ·rw [dS.zw i hi,b2]
   ·split
    ·rw [dS.zw _ (by rw [dc];omega),b2]
    ·rw [dS.zw i hi,b2]
  have Ei:=SR p3
  have gw:=g.write ho Ax Au dS (by omega) ⟨false,ie.size,o.len,o.pr,fun m=>if m < len then o.get m else if m < len+n then o.get (bB off (m - len)) else o.get m⟩ c' b2.symm T4 dS.len ug (by
   intro i j x v hi hx hv
   have hi:i < o.len:=hi
   have hx:(if i < len then o.get i else if i < len+n then o.get (bB off (i - len)) else o.get i)[j]?=some x:=hx
   have hj:j < ie.size:=by
    have e1:=(fe.1 hx).1
    have e2:=ug i hi
    omega
   have hv:c'[i * ie.size+j]?=some v:=hv
   rw [ui] at hv
   by_cases RM:i < len
   ·have ss:(i+1) * ie.size<=len * ie.size:=dN _ RM
    rw [dn] at ss
    rw [if_pos (by omega)] at hv
    rw [if_pos RM] at hx
    exact dS.rep i j x v hi hx (by rw [b2];exact hv)
   ·have ss:len * ie.size<=i * ie.size:=dN _ (by omega)
    rw [if_neg (by omega),sr.size] at hv
    rw [if_neg RM] at hx
    by_cases m5:i < len+n
    ·have hb3:(i+1) * ie.size<=(len+n) * ie.size:=dN _ m5
     rw [dn,dn] at hb3
     rw [if_pos (by omega)] at hv
     rw [if_pos m5] at hx
     refine sr.rep (i - len) j x v (by omega) hx ?_
     rw [<- hv,Nat.sub_mul];congr 1;omega
    ·have hb3:(len+n) * ie.size<=i * ie.size:=dN _ (by omega)
     rw [dn] at hb3
     rw [if_neg (by omega)] at hv
     rw [if_neg m5] at hx
     exact dS.rep i j x v hi hx (by rw [b2];exact hv))
   (fun i x hx=>absurd hx (by
    rw [SR (o:=⟨false,ie.size,o.len,o.pr,fun m=>if m < len then o.get m else if m < len+n then o.get (bB off (m - len)) else o.get m⟩) (fun i hi=>by
     show AV.su (if i < len then o.get i else if i < len+n then o.get (bB off (i - len)) else o.get i)=true
     have hi:i < o.len:=hi
     split
     ·exact p3 i hi
     ·split
      ·exact p3 _ (by rw [dc];omega)
      ·exact p3 i hi)]
    intro h;cases h))
  exact ⟨_,_,S,μ,oD,gw.1,gw.2,fun _ _ h=>h,ak.os pl Ax (by simp) WM h3⟩
theorem ae8 {o:Ob} (h:∀ i,i < o.len->oZ (o.get i)=true) (i:Nat):rowOf o i=none:=by
 cases hr:rowOf o i with
 | none=>rfl
 | some x =>
  obtain ⟨_,r2,r3⟩:=dW hr
  have:=h i r2
  rw [r3] at this;cases this
theorem W5 {l:List AV} (h:AV.su l=true):oZ l=true:=by
 induction l with
 | nil=>rfl
 | cons x l ih =>
  simp only [AV.su,a7] at h
  simp only [oZ,a7]
  refine ⟨?_,ih h.2⟩
  cases x<;>first | rfl | cases h.1
theorem Good.ae9 (g:Good E σ S μ w) {k:Nat} {o:Ob} (ho:au σ k=some o) {pl:Place} {c:Array Value} {T':TypeId} (Ax:μ k=some pl) (dS:jq w S μ o pl c T') (Au:0 < pl.cap) {sz p n:Nat}
  {gt:Nat->List AV} {pr:Bool} {v:Value} {news:List Value} (sr:Src P w S μ sz v n gt pr news) (b2:o.sz=sz) (b1:1<=sz) (hle:p+n<=o.len) (Ei:∀ i,i < o.len->oZ (o.get i)=true) {c':Array Value}
  (sS:(c.toList.take (p * sz) ++ news ++ c.toList.drop (p * sz+news.length)).toArray=c'):p * sz+news.length<=c.size /\
  Ext w S μ (w.setRow pl.dD c') S μ/\Good E (sset σ k ⟨false,sz,o.len,o.pr && pr,fun m=>if m < p then o.get m else if m < p+n then gt (m - p) else o.get m⟩) S μ (w.setRow pl.dD c'):=by
 have hol:=dS.len
 have DY:p * sz+news.length<=c.size:=by
  have e1:(p+n) * sz<=pl.cap * sz:=dN _ (by omega)
  have e2:=dS.cap
  rw [b2] at e2
  rw [sr.size,<- dn];omega
 have Ep:(c.toList.take (p * sz)).length=p * sz:=by simp;omega
 have T4:c'.size=c.size:=by
  rw [<- sS]
  simp;omega
 have ui:∀ m,c'[m]?=if m < p * sz then c[m]? else if m < p * sz+news.length then news[m - p * sz]? else c[m]?:=by
  intro m
  rw [<- sS]
  simp only [List.getElem?_toArray]
  by_cases h1:m < p * sz
  ·rw [jj (by simp;omega),jj (by omega),sR,if_pos h1,if_pos h1]
   simp
  ·rw [if_neg h1]
   by_cases h2:m < p * sz+news.length
   ·rw [jj (by simp;omega),kU (by omega),Ep,if_pos h2]
   ·rw [if_neg h2,kU (by simp;omega)]
    simp only [gI,Ep,rm]
    rw [show p * sz+news.length+(m - (p * sz+news.length))=m by omega]
    simp
 have ug:∀ i,i < o.len->(if i < p then o.get i else if i < p+n then gt (i - p) else o.get i).length=sz:=by
  intro i hi
  split
  ·rw [dS.zw i hi,b2]
  ·split
   ·exact sr.zw _ (by omega)
   ·rw [dS.zw i hi,b2]
 have prw:∀ {u:Value} {x:AV},ak w S (if o.pr then kF else μ) u x->ak w S (if (o.pr && pr)=true then kF else μ) u x:=by
  intro u x hh
  cases hp:pr
  ·rw [Bool.and_false];exact j6 hh
  ·rw [Bool.and_true];exact hh
 have ajA:∀ {u:Value} {x:AV},ak w S (if pr then kF else μ) u x->ak w S (if (o.pr && pr)=true then kF else μ) u x:=by
  intro u x hh
  cases hp:o.pr
  ·rw [Bool.false_and];exact j6 hh
  ·rw [Bool.true_and];exact hh
 refine ⟨DY,g.write ho Ax Au dS (by omega) ⟨false,sz,o.len,o.pr && pr,fun m=>if m < p then o.get m else if m < p+n then gt (m - p) else o.get m⟩ c' b2.symm T4 dS.len ug (by
   intro i j x v hi hx hv
   have hi:i < o.len:=hi
   have hx:(if i < p then o.get i else if i < p+n then gt (i - p) else o.get i)[j]?=some x:=hx
   have hj:j < sz:=by
    have e1:=(fe.1 hx).1
    have e2:=ug i hi
    omega
   have hv:c'[i * sz+j]?=some v:=hv
   rw [ui] at hv
   by_cases RM:i < p
   ·have ss:(i+1) * sz<=p * sz:=dN _ RM
    rw [dn] at ss
    rw [if_pos (by omega)] at hv
    rw [if_pos RM] at hx
    exact prw (dS.rep i j x v hi hx (by rw [b2];exact hv))
   ·have ss:p * sz<=i * sz:=dN _ (by omega)
    rw [if_neg (by omega),sr.size] at hv
    rw [if_neg RM] at hx
    by_cases m5:i < p+n
    ·have hb3:(i+1) * sz<=(p+n) * sz:=dN _ m5
     rw [dn,dn] at hb3
     rw [if_pos (by omega)] at hv
     rw [if_pos m5] at hx
     refine ajA (sr.rep (i - p) j x v (by omega) hx ?_)
     rw [<- hv,Nat.sub_mul];congr 1;omega
    ·have hb3:(p+n) * sz<=i * sz:=dN _ (by omega)
     rw [dn] at hb3
     rw [if_neg (by omega)] at hv
     rw [if_neg m5] at hx
     exact prw (dS.rep i j x v hi hx (by rw [b2];exact hv)))
   (fun i x hx=>absurd hx (by
    rw [ae8 (o:=⟨false,sz,o.len,o.pr && pr,fun m=>if m < p then o.get m else if m < p+n then gt (m - p) else o.get m⟩) (fun i hi=>by
     show oZ (if i < p then o.get i else if i < p+n then gt (i - p) else o.get i)=true
     have hi:i < o.len:=hi
     split
     ·exact Ei i hi
     ·split
      ·exact W5 (sr.ajz _ (by omega))
      ·exact Ei i hi)]
    intro h;cases h))⟩
def KW (P:Program) (σ:eE) (t:TypeId) (s x:AV):Option (List Prop×AV×List Nat×xD) :=
 match qg P t with
 | some e=>match zz P e,s,x with
  | some sz,.os k HS nd,.os k' O1 ns=>match Nat.beq k k',au σ k with
   | true,some o=>match Nat.ble 1 sz && Nat.beq o.sz sz && !o.var with
    | true=>some ([nd<=ns,HS+nd<=o.len,O1+nd<=o.len,∀ i,i < o.len->AV.su (o.get i)=true],.atom (.int .i64 nd),[k],
      [(k,some ⟨false,sz,o.len,o.pr,fun m=>if m < HS then o.get m else if m < HS+nd then o.get (bB O1 (m - HS)) else o.get m⟩)])
    | false=>none
   | _,_=>none
  | _,_,_=>none
 | none=>none
theorem ajR (g:Good E σ S μ w) {t t' ty:TypeId} {s x:AV} {vs vx:Value} (hs:ak w S μ vs s) (hx:ak w S μ vx x) {ps:List Prop} {val:AV} {rd:List Nat} {pU:xD}
  (h:KW P σ t s x=some (ps,val,rd,pU)) (hp:bm ps):Step P E nk σ S μ w (Builtin.copy_ #[t,t'] ty #[vs,vx]) val pU:=by
 unfold KW at h
 split at h
 case h_2=>cases h
 rename_i e he
 have he:=ni he
 split at h
 case h_2=>cases h
 rename_i sz k HS nd k' O1 ns xB
 obtain ⟨ie,Of,rfl⟩:∃ ie,P.info? e=some ie/\ie.size=sz:=by
  unfold zz at xB
  simp_all
 split at h
 case h_2=>cases h
 rename_i o hkk ho
 have hkk:=cw hkk
 subst hkk
 split at h
 case h_2=>cases h
 rename_i KO
 simp only [a7,Nat.ble_eq,Bool.not_eq_true'] at KO
 obtain ⟨⟨b1,b2⟩,Jr⟩:=KO
 have b2:=cw b2
 simp only [aL,aG] at h
 obtain ⟨rfl,rfl,rfl,rfl⟩:=h
 obtain ⟨p0,p1,p2,p3,_⟩:=hp
 obtain ⟨pl,c,T',Ax,dS⟩:=g.rep.ob k o ho
 cases hs with
 | os mf jl h1 h2 h3 =>
  rename_i cap a
  rw [Ax] at jl;cases jl
  cases hx with
  | os xQ OG g1 g2 g3 =>
   rename_i amx a2
   rw [Ax] at OG;cases OG
   rcases Nat.eq_zero_or_pos nd with h0 | h0
   ·subst h0
    have oD:(Builtin.copy_ #[t,t'] ty #[.slice a 0 cap,.slice a2 ns amx]).run P w=.ok (goInt 0) w:=by
     have e0:Nat.min ns 0=0:=by simp
     cases a<;>cases a2<;>simp [Builtin.copy_,run_underlying he,Builtin.lenOf,Builtin.firstCells,sizeOf,typeInfo,Of,storeCells,loadCells,loadCellsFrom]
    have eo:(⟨false,ie.size,o.len,o.pr,fun m=>if m < HS then o.get m else if m < HS+0 then o.get (bB O1 (m - HS)) else o.get m⟩:Ob)=o:=by
     have:(fun m=>if m < HS then o.get m else if m < HS+0 then o.get (bB O1 (m - HS)) else o.get m)=o.get:=by
      funext m
      split
      ·rfl
      ·split
       ·omega
       ·rfl
     rw [this,<- b2,<- Jr]
    refine ⟨_,w,S,μ,oD,Ext.refl _ _ _,g.congr fun n=>?_,fun _ _ h=>h,.atom _⟩
    show au (sset σ k _) n=_
    grind [bj]
   ·have ha:=h1 (by omega)
    have ha2:=g1 (by omega)
    subst ha ha2
    have Au:0 < pl.cap:=by have:=dS.len;omega
    obtain ⟨news,sr⟩:=Es (P:=P) (sz:=ie.size) (x:=.os k O1 nd) (v:=.slice (some ⟨pl.dD,O1 * pl.sz,none⟩) nd amx) (n:=nd) (gt:=fun i=>o.get (bB O1 i)) (pr:=o.pr) (ps:=[O1+nd<=o.len,∀ i,i < nd->AV.su (o.get (bB O1 i))=true]) (rd:=[k]) g
     (.os pl Ax g1 (by omega) g3) (by grind [Bn,xA]) ⟨p2,fun i hi=>p3 _ (by rw [dc];omega),trivial⟩
    obtain ⟨DY,gw1,gw2⟩:=g.ae9 ho Ax dS Au sr b2 b1 p1 (fun i hi=>W5 (p3 i hi)) rfl
    have Jm:=run_storeCells_at P pl.dD (HS * ie.size) T' news 0 c w ((dS.dD Au).trans (by rw [gY (by omega)])) (by simpa using DY) sr.one
    simp only [Nat.add_zero] at Jm
    have hcl:=sr.cells w rfl
    simp only [Builtin.firstCells] at hcl
    have zC:Nat.min ns nd=nd:=Nat.min_eq_right p0
    have oD:(Builtin.copy_ #[t,t'] ty #[.slice (some ⟨pl.dD,HS * pl.sz,none⟩) nd cap,.slice (some ⟨pl.dD,O1 * pl.sz,none⟩) ns amx]).run P w=.ok (goInt nd) (w.setRow pl.dD (c.toList.take (HS * ie.size) ++ news ++ c.toList.drop (HS * ie.size+news.length)).toArray):=by
     rw [dS.sz,b2] at hcl ⊢
     simp [Builtin.copy_,run_underlying he,Builtin.lenOf,Builtin.firstCells,sizeOf,typeInfo,Of,zC,hcl,Jm]
    rw [Bool.and_self] at gw2
    exact ⟨_,_,S,μ,oD,gw1,gw2,fun _ _ h=>h,.atom _⟩
def KX (P:Program) (σ:eE) (t:TypeId) (s x:AV):Option (List Prop×AV×List Nat×xD) :=
 match qg P t with
 | some e=>match zz P e,Cu P e,xC P e,s with
  | some sz,some _,some _,.os k off m=>match Bn σ sz x,au σ k with
   | some (n,gt,pr,ps,rd),some o=>match Nat.ble 1 sz && Nat.beq o.sz sz && !o.var with
    | true=>some ((0 < n/\bB off m+n<=o.len) :: (∀ i,i < o.len->oZ (o.get i)=true) :: ps,.os k off (m+n),k :: rd,
      [(k,some ⟨false,sz,o.len,o.pr && pr,fun j=>if j < bB off m then o.get j else if j < bB off m+n then gt (j - bB off m) else o.get j⟩)])
    | false=>none
   | _,_=>none
  | _,_,_,_=>none
 | none=>none
theorem ajS (g:Good E σ S μ w) {t ty:TypeId} {s x:AV} {vs vx:Value} (hs:ak w S μ vs s) (hx:ak w S μ vx x) {ps:List Prop} {val:AV} {rd:List Nat} {pU:xD}
  (h:KX P σ t s x=some (ps,val,rd,pU)) (hp:bm ps):Step P E nk σ S μ w (Builtin.append_ #[t,t] ty #[vs,vx]) val pU:=by
 unfold KX at h
 split at h
 case h_2=>cases h
 rename_i e he
 have he:=ni he
 split at h
 case h_2=>cases h
 rename_i sz b z k off m xB hb hz
 obtain ⟨ie,Of,rfl,rfl,hze⟩:=Cv xB hb hz
 split at h
 case h_2=>cases h
 rename_i n gt pr ps' rd' o Bo ho
 split at h
 case h_2=>cases h
 rename_i KO
 simp only [a7,Nat.ble_eq,Bool.not_eq_true'] at KO
 obtain ⟨⟨b1,b2⟩,Jr⟩:=KO
 have b2:=cw b2
 simp only [aL,aG] at h
 obtain ⟨rfl,rfl,rfl,rfl⟩:=h
 obtain ⟨⟨p0,p1⟩,p2,p3⟩:=hp
 obtain ⟨news,sr⟩:=Es (P:=P) g hx Bo p3
 obtain ⟨pl,c,T',Ax,dS⟩:=g.rep.ob k o ho
 cases hs with
 | os mf jl h1 h2 h3 =>
  rename_i cap a
  rw [Ax] at jl;cases jl
  have hol:=dS.len
  have ez:bB off m=off+m:=dc _ _
  have ao4:pl.sz=ie.size:=dS.sz.trans b2
  have ha:=h1 (by omega)
  rw [ao4] at ha
  subst ha
  obtain ⟨DY,gw1,gw2⟩:=g.ae9 ho Ax dS (by omega) sr b2 b1 p1 p2 rfl
  have oD:=YP (P:=P) (w:=w) (ty:=ty) he Of ((dS.dD (by omega)).trans (by rw [gY (by omega)])) sr.len sr.cells sr.one (b:=off * ie.size) (sLen:=m) (sCap:=cap) (by omega) (by rw [<- dn,<- ez];exact DY)
  rw [<- dn,<- ez] at oD
  exact ⟨_,_,S,μ,oD,gw1,gw2,fun _ _ h=>h,ak.os pl Ax (fun _=>by rw [ao4]) (by omega) h3⟩
def KY (P:Program) (nk:Nat) (σ:eE) (t:TypeId) (s x:AV):Option (List Prop×AV×List Nat×xD) :=
 match qg P t with
 | some e=>match zz P e,Cu P e,xC P e,s with
  | some sz,some b,some z,.KG k off m=>match Bn σ sz x,au σ k with
   | some (n,gt,pr,ps,rd),some o=>match Nat.ble 1 sz && Nat.ble 1 b && Nat.beq z.cells.size sz && Nat.beq o.sz sz && !o.var with
    | true=>some ((0 < n/\bB off m=o.len) :: ((m+n) * b<=140737488355328) :: (∀ i,i < o.len->AV.su (o.get i)=true) :: ps,.os nk 0 (m+n),k :: rd,
      [(nk,some ⟨false,sz,m+n,o.pr && pr,fun j=>if j < m then o.get (bB off j) else gt (j - m)⟩)])
    | false=>none
   | _,_=>none
  | _,_,_,_=>none
 | none=>none
theorem ajT (g:Good E σ S μ w) (hk:μ nk=none) (hm:E.m0<=nk) {t ty:TypeId} {s x:AV} {vs vx:Value} (hs:ak w S μ vs s) (hx:ak w S μ vx x) {ps:List Prop} {val:AV} {rd:List Nat} {pU:xD}
  (h:KY P nk σ t s x=some (ps,val,rd,pU)) (hp:bm ps):Step P E nk σ S μ w (Builtin.append_ #[t,t] ty #[vs,vx]) val pU:=by
 unfold KY at h
 split at h
 case h_2=>cases h
 rename_i e he
 have he:=ni he
 split at h
 case h_2=>cases h
 rename_i sz b z k off m xB hb hz
 obtain ⟨ie,Of,rfl,rfl,hze⟩:=Cv xB hb hz
 split at h
 case h_2=>cases h
 rename_i n gt pr ps' rd' o Bo ho
 split at h
 case h_2=>cases h
 rename_i KO
 simp only [a7,Nat.ble_eq,Bool.not_eq_true'] at KO
 obtain ⟨⟨⟨⟨b1,bb⟩,b3⟩,b2⟩,Jr⟩:=KO
 have b2:=cw b2
 have b3:=cw b3
 simp only [aL,aG] at h
 obtain ⟨rfl,rfl,rfl,rfl⟩:=h
 obtain ⟨⟨p0,OG⟩,p1,p2,p3⟩:=hp
 rw [dc] at OG
 obtain ⟨news,sr⟩:=Es (P:=P) g hx Bo p3
 obtain ⟨pl,c,T',Ax,dS⟩:=g.rep.ob k o ho
 cases hs with
 | KG mf jl h1 h2 =>
  rename_i a
  rw [Ax] at jl;cases jl
  obtain ⟨olds,so⟩:=Es (P:=P) (sz:=ie.size) (x:=.os k off m) (v:=.slice a m m) (n:=m) (gt:=fun i=>o.get (bB off i)) (pr:=o.pr) (ps:=[off+m<=o.len,∀ i,i < m->AV.su (o.get (bB off i))=true]) (rd:=[k]) g
   (.os pl Ax h1 (aN _) h2) (by grind [Bn,xA]) ⟨by omega,fun i hi=>p2 _ (by rw [dc];omega),trivial⟩
  have oD:=CA (P:=P) (w:=w) (ty:=ty) he Of hze so.cells sr.len sr.cells (by omega) bb p1
  have DX:=OL w (m+n) m e
  have ug:∀ i,i < m+n->((fun q=>if q < m then o.get (bB off q) else gt (q - m)) i).length=ie.size:=by
   intro i hi
   show (if i < m then o.get (bB off i) else gt (i - m)).length=_
   split
   ·rw [dS.zw (bB off i) (by rw [dc];omega),b2]
   ·exact sr.zw _ (by omega)
  have gg:=g.grow (e:=e) hk hm (sz:=ie.size) (n:=n) (len:=m) (cap:=grownCap w (m+n) m e) (olds:=olds) (news:=news)
   (rest:=Builtin.zeroCells z.cells (grownCap w (m+n) m e - (m+n))) (pr:=o.pr && pr) (get:=fun q=>if q < m then o.get (bB off q) else gt (q - m))
   so.size sr.size (by rw [size_zeroCells,b3]) DX ug (by
    intro i j x u hi hx hu
    have hx:(if i < m then o.get (bB off i) else gt (i - m))[j]?=some x:=hx
    have hj:j < ie.size:=by
     have e1:=(fe.1 hx).1
     have e2:(if i < m then o.get (bB off i) else gt (i - m)).length=ie.size:=ug i hi
     omega
    by_cases RM:i < m
    ·have ss:(i+1) * ie.size<=m * ie.size:=dN _ RM
     rw [dn] at ss
     rw [if_pos RM] at hx
     rw [jj (by rw [so.size];omega)] at hu
     have:=so.rep i j x u RM hx hu
     cases hp:pr
     ·rw [Bool.and_false];exact j6 this
     ·rw [Bool.and_true];exact this
    ·have ss:m * ie.size<=i * ie.size:=dN _ (by omega)
     rw [if_neg RM] at hx
     rw [kU (by rw [so.size];omega),so.size] at hu
     have:=sr.rep (i - m) j x u (by omega) hx (by rw [<- hu,Nat.sub_mul];congr 1;omega)
     cases hp:o.pr
     ·rw [Bool.false_and];exact j6 this
     ·rw [Bool.true_and];exact this) (by omega)
   (g.WB hk _ _ (fun _=>aN _) (uh fun i hi=>by
    have hi:i < m+n:=hi
    show AV.su (if i < m then o.get (bB off i) else gt (i - m))=true
    split
    ·exact p2 _ (by rw [dc];omega)
    ·exact sr.ajz _ (by omega)) (fun b h=>gJ (w:=w.drew) h) (fun _ h=>h) (fun _ h=>.inl h))
  refine ⟨_,_,S,_,oD,gg.1,gg.2,fun k tg hn=>by rw [qG _ tg];exact hn,?_⟩
  exact ak.os ⟨w.heap.size,grownCap w (m+n) m e,ie.size⟩ (by simp [cK]) (by simp) DX (by simp)
def Gs (P:Program) (σ:eE) (t:TypeId) (x:AV):Option (List Prop×AV×List Nat×xD) :=
 match qg P t with
 | some e=>match zz P e,Cu P e,xC P e,x with
  | some sz,some _,some z,.os k off n=>match au σ k with
   | some o=>match Nat.ble 1 sz && Nat.beq o.sz sz && !o.var && Nat.beq z.cells.size sz && z.cells.toList.all (·.oneCell') with
    | true=>some ([0 < n/\off+n<=o.len],.rk,[k],[(k,some ⟨false,sz,off,o.pr,o.get⟩)])
    | false=>none
   | none=>none
  | _,_,_,_=>none
 | none=>none
theorem afa (g:Good E σ S μ w) {t ty:TypeId} {x:AV} {vx:Value} (hx:ak w S μ vx x) {ps:List Prop} {val:AV} {rd:List Nat} {pU:xD}
  (h:Gs P σ t x=some (ps,val,rd,pU)) (hp:bm ps):Step P E nk σ S μ w (Builtin.clear_ #[t] ty #[vx]) val pU:=by
 unfold Gs at h
 split at h
 case h_2=>cases h
 rename_i e he
 have he:=ni he
 split at h
 case h_2=>cases h
 rename_i sz b z k off n xB hb hz
 obtain ⟨ie,Of,rfl,rfl,hze⟩:=Cv xB hb hz
 split at h
 case h_2=>cases h
 rename_i o ho
 split at h
 case h_2=>cases h
 rename_i KO
 simp only [a7,Nat.ble_eq,Bool.not_eq_true'] at KO
 obtain ⟨⟨⟨⟨b1,b2⟩,Jr⟩,b3⟩,b4⟩:=KO
 have b2:=cw b2
 have b3:=cw b3
 simp only [aL,aG] at h
 obtain ⟨rfl,rfl,rfl,rfl⟩:=h
 obtain ⟨⟨p0,p1⟩,_⟩:=hp
 obtain ⟨pl,c,T',Ax,dS⟩:=g.rep.ob k o ho
 cases hx with
 | os mf jl h1 h2 h3 =>
  rename_i cap a
  rw [Ax] at jl;cases jl
  have hol:=dS.len
  have ha:=h1 (by omega)
  subst ha
  have Au:0 < pl.cap:=by omega
  have hzl:(Builtin.zeroCells z.cells n).toList.length=n * ie.size:=by simp [Builtin.zeroCells,b3]
  have RY:∀ u∈(Builtin.zeroCells z.cells n).toList,u.oneCell'=true:=by
   intro u hu
   simp only [Builtin.zeroCells,Array.toList_map,List.mem_map] at hu
   obtain ⟨i,hi,rfl⟩:=hu
   have iQ:i % z.cells.size < z.cells.size:=Nat.mod_lt _ (by omega)
   rw [getElem!_pos z.cells (i % z.cells.size) iQ]
   rw [List.all_eq_true] at b4
   exact b4 _ (Array.mem_toList_iff.2 (Array.getElem_mem iQ))
  have DY:off * ie.size+(Builtin.zeroCells z.cells n).toList.length<=c.size:=by
   have e1:(off+n) * ie.size<=pl.cap * ie.size:=dN _ (by omega)
   have e2:=dS.cap
   rw [b2] at e2
   rw [hzl,<- dn];omega
  have Jm:=run_storeCells_at P pl.dD (off * ie.size) T' (Builtin.zeroCells z.cells n).toList 0 c w ((dS.dD Au).trans (by rw [gY (by omega)])) (by simpa using DY) RY
  simp only [Nat.add_zero] at Jm
  generalize sS:(c.toList.take (off * ie.size) ++ (Builtin.zeroCells z.cells n).toList ++ c.toList.drop (off * ie.size+(Builtin.zeroCells z.cells n).toList.length)).toArray=c' at Jm
  have oD:(Builtin.clear_ #[t] ty #[.slice (some ⟨pl.dD,off * pl.sz,none⟩) n cap]).run P w=.ok (.tuple #[]) (w.setRow pl.dD c'):=by
   rw [dS.sz,b2]
   obtain ⟨m,rfl⟩:∃ m,n=m+1:=⟨n - 1,by omega⟩
   simp [Builtin.clear_,run_underlying he,zeroValue,typeInfo,Of,hze,Jm]
  have Ep:(c.toList.take (off * ie.size)).length=off * ie.size:=by simp;omega
  have T4:c'.size=c.size:=by
   rw [<- sS]
   simp only [List.size_toArray,gI,Ep,xP,Array.length_toList]
   rw [Array.length_toList] at DY
   omega
  have ui:∀ m,m < off * ie.size->c'[m]?=c[m]?:=by
   intro m h1
   rw [<- sS]
   simp only [List.getElem?_toArray]
   rw [jj (by simp;omega),jj (by omega),sR,if_pos h1]
   simp
  have Ct:∀ i x,rowOf ⟨false,ie.size,off,o.pr,o.get⟩ i=some x->rowOf o i=some x/\i < off:=fun i x hx=>by
   obtain ⟨_,q2,q3⟩:=dW hx
   have q2:i < off:=q2
   exact ⟨nh Jr (by omega) q3,q2⟩
  have afb:∀ i,i < off->∀ j,j < ie.size->i * ie.size+j < off * ie.size:=fun i hi j hj=>by
   have ss:(i+1) * ie.size<=off * ie.size:=dN _ hi
   rw [dn] at ss;omega
  have gw:=g.write ho Ax Au dS (by omega) ⟨false,ie.size,off,o.pr,o.get⟩ c' b2.symm T4 (show off<=pl.cap by omega) (fun i hi=>by
   have hi:i < off:=hi
   show (o.get i).length=ie.size
   rw [dS.zw i (by omega),b2]) (by
   intro i j x v hi hx hv
   have hi:i < off:=hi
   have hx:(o.get i)[j]?=some x:=hx
   have hj:j < ie.size:=by
    have e1:=(fe.1 hx).1
    rw [dS.zw i (by omega),b2] at e1;exact e1
   have hv:c'[i * ie.size+j]?=some v:=hv
   rw [ui _ (afb i hi j hj)] at hv
   exact dS.rep i j x v (by omega) hx (by rw [b2];exact hv)) (fun i x hx=>⟨(Ct i x hx).1,by
    rw [b2];exact ui _ (by have:=afb i (Ct i x hx).2 0 (by omega);omega)⟩)
  exact ⟨_,_,S,μ,oD,gw.1,gw.2,fun _ _ h=>h,.rk⟩
def EB (P:Program) (nk:Nat) (σ:eE) (op:Op) (e:Operand->AV) (bz:Option rS):Option R :=
 match ara bz with
 | none=>ft P nk σ op e bz
 | some q=>match op with
  | .load T a=>(Gr P σ T ((e a).strip.1) q.res).map fun (ps,v,rd)=>⟨conds e [a] ++ ps,v,rd,[]⟩
  | .call ⟨.builtin .append,args,SN⟩=>match args.toList,SN.toList with
   | [x,y],[t,t']=>match Nat.beq t t' with
    | true=>(match q.ks,q.res with
     | [],.rk=>KV P σ t ((e x).strip.1) ((e y).strip.1)
     | [],.nil=>KX P σ t ((e x).strip.1) ((e y).strip.1)
     | [],_=>KY P nk σ t ((e x).strip.1) ((e y).strip.1)
     | _,_=>yl P nk σ t ((e x).strip.1) ((e y).strip.1) q).map fun (ps,v,rd,u)=>⟨conds e [x,y] ++ ps,v,rd,u⟩
    | false=>none
   | _,_=>none
  | .call ⟨.builtin .copy,args,SN⟩=>match args.toList,SN.toList with
   | [x,y],[t,_]=>(KW P σ t ((e x).strip.1) ((e y).strip.1)).map fun (ps,v,rd,u)=>⟨conds e [x,y] ++ ps,v,rd,u⟩
   | _,_=>none
  | .call ⟨.builtin .clear,args,SN⟩=>match args.toList,SN.toList with
   | [x],[t]=>(Gs P σ t ((e x).strip.1)).map fun (ps,v,rd,u)=>⟨conds e [x] ++ ps,v,rd,u⟩
   | _,_=>none
  | .slice t x lo hi mx=>match mx with
   | none=>(Bt P σ t ((e x).strip.1) (lo.map fun y=>(e y).strip.1) (hi.map fun y=>(e y).strip.1)).map fun (ps,v,rd)=>⟨conds e (x :: (lo.toList ++ hi.toList)) ++ ps,v,rd,[]⟩
   | some m=>match lo,hi with
    | some l,some h=>(O0 P t ((e x).strip.1) ((e l).strip.1) ((e h).strip.1) ((e m).strip.1)).map fun (ps,v,rd)=>⟨conds e [x,l,h,m] ++ ps,v,rd,[]⟩
    | _,_=>none
  | op=>ft P nk σ op e bz
theorem SS {o:Oper} {a:Act} {e:Operand->AV} {bz:Option rS} {r:R} {next:Act->World->Prop} {Q:Exit->Act->World->Prop}
  (he:∀ x∈o.op.operands.toList,ak w S μ (a.eval x) (e x)) (g:Good E σ S μ w) (HR:∀ j,j < 16->μ (nk+j)=none) (hm:E.m0<=nk)
  (hz:∀ x,bz=some x->x.D1=true->∀ b,¬ E.fp b) (h:EB P nk σ o.op e bz=some r) (hp:bm r.SC) (hK:ae6 E nk σ S μ w r fun v w'=>next (a.put o.dst v) w'):o.wp P a w next Q:=by
 unfold EB at h
 split at h
 ·exact W4 he g HR hm hz h hp hK
 ·have hk:μ nk=none:=HR 0 (by omega)
  have st:∀ (xs:List Operand),bm (conds e xs)->(∀ x∈xs,x∈o.op.operands.toList)->∀ x∈xs,ak w S μ (a.eval x) ((e x).strip.1) :=
   fun xs h1 h2 x hx=>(he x (h2 x hx)).strip (Gq h1 x hx)
  obtain ⟨dst,op,ty,pos,after,guard⟩:=o
  simp only at he h hK st ⊢
  split at h
  ·rename_i T x
   simp only [aW] at h
   obtain ⟨⟨ps,v,rd⟩,h1,rfl⟩:=h
   obtain ⟨p1,p2⟩:=bm.app hp
   obtain ⟨u,r1,r2⟩:=ae7 g (st [x] p1 (by simp [Op.operands]) x (by simp)) h1 p2
   unfold Oper.wp
   have ex:execOp a.eval ⟨dst,.load T x,ty,pos,after,guard⟩=(do pure (.value (<- Instr.loadAt T (a.eval x))):Sem Next):=rfl
   rw [ex]
   simp only [b8,r1,dP,Sem.run_pure]
   exact hK u w S μ (Ext.refl _ _ _) g (fun _ _ h=>h) r2
  ·rename_i args SN
   split at h
   case h_2=>cases h
   rename_i x y t t' ha ht
   split at h
   case h_2=>cases h
   rename_i hb
   have hb:=cw hb
   subst hb
   obtain ⟨rfl⟩:args=#[x,y]:=Array.toList_inj.1 (by rw [ha])
   obtain ⟨rfl⟩:SN=#[t,t]:=Array.toList_inj.1 (by rw [ht])
   simp only [aW] at h
   obtain ⟨⟨ps,v,rd,u⟩,h1,rfl⟩:=h
   obtain ⟨p1,p2⟩:=bm.app hp
   have s:=st [x,y] p1 (by simp [Op.operands,Call.operands])
   have Jm:Step P E nk σ S μ w (Builtin.append_ #[t,t] ty #[a.eval x,a.eval y]) v u:=by
    split at h1
    ·exact ajQ (ty:=ty) g (s x (by simp)) (s y (by simp)) h1 p2
    ·exact ajS (ty:=ty) g (s x (by simp)) (s y (by simp)) h1 p2
    ·exact ajT (ty:=ty) g hk hm (s x (by simp)) (s y (by simp)) h1 p2
    ·exact YX (ty:=ty) g hk hm (s x (by simp)) (s y (by simp)) h1 p2
   obtain ⟨v',w',S',eB,r1,r2,r3,r4,r5⟩:=Jm
   unfold Oper.wp
   have ex:execOp a.eval ⟨dst,.call ⟨.builtin .append,#[x,y],#[t,t]⟩,ty,pos,after,guard⟩=(do pure (.value (<- Builtin.append_ #[t,t] ty #[a.eval x,a.eval y])):Sem Next):=by simp [execOp,resolve,invoke,builtin]
   rw [ex]
   simp only [b8,r1,dP,Sem.run_pure]
   exact hK v' w' S' eB r2 r3 (fun k tg=>r4 k (by omega)) r5
  ·rename_i args SN
   split at h
   case h_2=>cases h
   rename_i x y t t' ha ht
   obtain ⟨rfl⟩:args=#[x,y]:=Array.toList_inj.1 (by rw [ha])
   obtain ⟨rfl⟩:SN=#[t,t']:=Array.toList_inj.1 (by rw [ht])
   simp only [aW] at h
   obtain ⟨⟨ps,v,rd,u⟩,h1,rfl⟩:=h
   obtain ⟨p1,p2⟩:=bm.app hp
   have s:=st [x,y] p1 (by simp [Op.operands,Call.operands])
   obtain ⟨v',w',S',eB,r1,r2,r3,r4,r5⟩:=ajR (nk:=nk) (t':=t') (ty:=ty) g (s x (by simp)) (s y (by simp)) h1 p2
   unfold Oper.wp
   have ex:execOp a.eval ⟨dst,.call ⟨.builtin .copy,#[x,y],#[t,t']⟩,ty,pos,after,guard⟩=(do pure (.value (<- Builtin.copy_ #[t,t'] ty #[a.eval x,a.eval y])):Sem Next):=by simp [execOp,resolve,invoke,builtin]
   rw [ex]
   simp only [b8,r1,dP,Sem.run_pure]
   exact hK v' w' S' eB r2 r3 (fun k tg=>r4 k (by omega)) r5
  ·rename_i args SN
   split at h
   case h_2=>cases h
   rename_i x t ha ht
   obtain ⟨rfl⟩:args=#[x]:=Array.toList_inj.1 (by rw [ha])
   obtain ⟨rfl⟩:SN=#[t]:=Array.toList_inj.1 (by rw [ht])
   simp only [aW] at h
   obtain ⟨⟨ps,v,rd,u⟩,h1,rfl⟩:=h
   obtain ⟨p1,p2⟩:=bm.app hp
   have s:=st [x] p1 (by simp [Op.operands,Call.operands])
   obtain ⟨v',w',S',eB,r1,r2,r3,r4,r5⟩:=afa (nk:=nk) (ty:=ty) g (s x (by simp)) h1 p2
   unfold Oper.wp
   have ex:execOp a.eval ⟨dst,.call ⟨.builtin .clear,#[x],#[t]⟩,ty,pos,after,guard⟩=(do pure (.value (<- Builtin.clear_ #[t] ty #[a.eval x])):Sem Next):=by simp [execOp,resolve,invoke,builtin]
   rw [ex]
   simp only [b8,r1,dP,Sem.run_pure]
   exact hK v' w' S' eB r2 r3 (fun k tg=>r4 k (by omega)) r5
  ·rename_i t x lo hi mx
   have ex:∀ y,execOp a.eval ⟨dst,.slice t x lo hi y,ty,pos,after,guard⟩=(do pure (.value (<- Instr.sliceAt t (a.eval x) (lo.map a.eval) (hi.map a.eval) (y.map a.eval))):Sem Next):=fun y=>rfl
   cases mx with
   | none =>
    simp only [aW] at h
    obtain ⟨⟨ps,v,rd⟩,h1,rfl⟩:=h
    obtain ⟨p1,p2⟩:=bm.app hp
    have s:=st (x :: (lo.toList ++ hi.toList)) p1 (by
     intro y hy
     simp only [lG,List.mem_append,Option.mem_toList] at hy
     simp only [Op.operands]
     rcases hy with rfl | hy | hy
     ·simp
     ·simp [hy]
     ·simp [hy])
    obtain ⟨u,r1,r2⟩:=acY (P:=P) (vlo:=lo.map a.eval) (vhi:=hi.map a.eval) g (s x (by simp)) (by
     refine ⟨by simp,?_⟩
     intro p q wW hq
     simp only [aW] at wW hq
     obtain ⟨y,hy,rfl⟩:=wW
     obtain ⟨z,hz,rfl⟩:=hq
     rw [hy] at hz;cases hz
     exact s y (by simp [hy])) (by
     refine ⟨by simp,?_⟩
     intro p q wW hq
     simp only [aW] at wW hq
     obtain ⟨y,hy,rfl⟩:=wW
     obtain ⟨z,hz,rfl⟩:=hq
     rw [hy] at hz;cases hz
     exact s y (by simp [hy])) h1 p2
    unfold Oper.wp
    rw [ex none]
    simp only [Option.map_none,b8,r1,dP,Sem.run_pure]
    exact hK u w S μ (Ext.refl _ _ _) g (fun _ _ h=>h) r2
   | some m =>
    simp only at h
    split at h
    case h_2=>cases h
    rename_i l hh
    simp only [aW] at h
    obtain ⟨⟨ps,v,rd⟩,h1,rfl⟩:=h
    obtain ⟨p1,p2⟩:=bm.app hp
    have s:=st [x,l,hh,m] p1 (by simp [Op.operands])
    obtain ⟨u,r1,r2⟩:=acX (P:=P) (s x (by simp)) (s l (by simp)) (s hh (by simp)) (s m (by simp)) h1 p2
    unfold Oper.wp
    rw [ex (some m)]
    simp only [Option.map_some,b8,r1,dP,Sem.run_pure]
    exact hK u w S μ (Ext.refl _ _ _) g (fun _ _ h=>h) r2
  ·exact W4 (o:=⟨dst,op,ty,pos,after,guard⟩) he g HR hm hz h hp hK
def SF (μ:Mu) (F:List Nat) (σ:eE) (S:Nat->Prop) (b:Nat):Prop:=S b\/∃ k o pl,k∈F/\au σ k=some o/\μ k=some pl/\0 < pl.cap/\pl.dD=b
theorem Good.freeze (g:Good E σ S μ w) (F:List Nat) (hz:∀ b,¬ E.fp b):Good E (gS σ (Bp true F)) (SF μ F σ S) μ w:=by
 have sg:∀ n o,au (gS σ (Bp true F)) n=some o->au σ n=some o/\n ∉ F:=fun n o h=>by
  rw [pW] at h
  simp_all
 have e:Ext w S μ w (SF μ F σ S) μ:=⟨aN _,fun _ h=>.inl h,fun _ _=>rfl,fun _ _ h=>h⟩
 refine ⟨g.fr,fun b h=>.inl (g.S0 b h),?_,?_,⟨?_,?_⟩,?_,g.Oc,?_⟩
 ·rintro b (h1 | ⟨k1,o1,Ji,hkF,DB,YH,zx,rfl⟩)
  ·exact g.S1 b h1
  ·obtain ⟨mf,c,T,jl,afc⟩:=g.rep.ob k1 o1 DB
   rw [YH] at jl;cases jl
   exact iV (afc.dD zx)
 ·rintro b (h1 | ⟨k1,o1,Ji,hkF,DB,YH,zx,rfl⟩)
  ·exact g.S2 b h1
  ·rcases g.own k1 o1 Ji DB YH zx with h2 | h2
   ·exact (hz _ h2).elim
   ·exact .inr h2
 ·intro k o hko
  obtain ⟨h0,hnF⟩:=sg k o hko
  obtain ⟨pl,c,T,zR,AD⟩:=g.rep.ob k o h0
  refine ⟨pl,c,T,zR,AD.ext e (fun _=>rfl) ?_⟩
  rintro hc (h1 | ⟨k1,o1,Ji,hkF,DB,YH,zx,hb⟩)
  ·exact AD.out hc h1
  ·exact g.rep.ne k1 k o1 o Ji pl (fun h=>hnF (h ▸ hkF)) DB h0 YH zR zx hc hb
 ·intro k k' o o' pl mf gH h1 h2 h3 h4 h5 h6
  exact g.rep.ne k k' o o' pl mf gH (sg _ _ h1).1 (sg _ _ h2).1 h3 h4 h5 h6
 ·exact fun k o pl h1 h2 h3=>g.own k o pl (sg _ _ h1).1 h2 h3
 ·have hrw:∀ k i x v,kr w μ (gS σ (Bp true F)) k i x v->kr w μ σ k i x v:=fun k i x v ⟨o,pl,h1,h2,h3,h4⟩=>⟨o,pl,(sg _ _ h1).1,h2,h3,h4⟩
  refine g.mx.tr (fun k=>k) hrw (fun _ _ _ _ _ _ _ _ _ _ h=>h) (fun _ h=>.inl h) (fun _ _=>rfl) (fun k i x v b _ h hb=>⟨rfl,?_,fun h=>h⟩) (fun k o pl h1 h2 h3=>.inl ⟨k,o,pl,(sg _ _ h1).1,h2,h3,rfl⟩)
  rintro (h1 | ⟨k1,o1,Ji,_,DB,YH,zx,h1⟩)
  ·exact (g.mx.dD h hb).2.1 h1
  ·exact g.mx.obj _ _ _ _ _ h hb k1 o1 Ji DB YH zx h1
def fzS (σ:eE):eE->Option (List Prop)
 | []=>some []
 | (k,o') :: r=>match au σ k,fzS σ r with
  | some o,some ps=>match o.pr with
   | true=>some ((o'.len<=o.len) :: (∀ i,i < o'.len->o'.get i=o.get i) :: ps)
   | false=>none
  | _,_=>none
mutual
def fzA (τ:eE):AV->AV
 | .os k off len=>match off,au τ k with
  | 0,some o=>.sl o.len o.get
  | _,_=>.os k off len
 | .agg cs=>.agg (fzL τ cs)
 | x=>x
def fzL (τ:eE):List AV->List AV
 | []=>[]
 | c :: cs=>fzA τ c :: fzL τ cs
end
mutual
def fzP (τ:eE):AV->List Prop
 | .os k off len=>match off,au τ k with
  | 0,some o=>[len=o.len]
  | _,_=>[]
 | .agg cs=>ajW τ cs
 | _=>[]
def ajW (τ:eE):List AV->List Prop
 | []=>[]
 | c :: cs=>fzP τ c ++ ajW τ cs
end
def fzC (τ:eE) (e:Operand->AV):List Operand->List Prop
 | []=>[]
 | x :: r=>fzP τ (e x) ++ fzC τ e r
theorem aba:∀ {τ:eE} {ps:List Prop},fzS σ τ=some ps->bm ps->∀ {k:Nat} {o':Ob},au τ k=some o'->k∈τ.map (·.1)/\∃ o,au σ k=some o/\o.pr=true/\o'.len<=o.len/\∀ i,i < o'.len->o'.get i=o.get i
 | [],ps,_,_,k,o',h=>by simp [au] at h
 | (k0,o0) :: r,ps,h,hp,k,o',hk=>by
  simp only [fzS] at h
  split at h
  ·rename_i o qs ho hr
   split at h
   ·rename_i YD
    cases h
    obtain ⟨p1,p2,p3⟩:=hp
    simp only [au] at hk
    split at hk
    ·simp_all
    ·obtain ⟨q1,q2⟩:=aba hr p3 hk
     simp_all
   ·cases h
  ·cases h
theorem mL {eB:Mu} {v:Value} {x:AV} {F:List Nat} (h:ak w S eB v x):ak w (SF μ F σ S) eB v x:=h.mono (fun _ h=>.inl h) (fun _ _=>rfl) (fun _ _ h=>h)
theorem ao6 (g:Good E σ S μ w) {τ:eE} {qs:List Prop} (hs:fzS σ τ=some qs) (hq:bm qs) {k off len:Nat} {v:Value} (h:ak w S μ v (.os k off len)) (hp:bm (fzP τ (.os k off len))):ak w (SF μ (τ.map (·.1)) σ S) μ v (fzA τ (.os k off len)):=by
 simp only [fzA,fzP] at hp ⊢
 split at hp
 ·rename_i o' Cq
  obtain ⟨rfl,_⟩:=hp
  obtain ⟨hF,o,ho,YD,p2,p3⟩:=aba hs hq Cq
  obtain ⟨pl,c,T,hm,dS⟩:=g.rep.ob k o ho
  cases h with
  | os mf jl h1 h2 h3 =>
   rename_i cap a
   rw [hm] at jl;cases jl
   refine .sl pl.dD (0 * pl.sz) o.sz (fun i j=>(c[(0+i) * o.sz+j]?).getD undef) ?_ (fun i hi=>by rw [p3 i hi];exact dS.zw _ (by omega)) ?_ ?_ h2
   ·intro hl
    exact ⟨h1 (by omega),.inr ⟨k,o,pl,hF,ho,hm,by omega,rfl⟩⟩
   ·intro i j hi hj
    obtain ⟨v,q1,q2⟩:=dL dS (i:=0+i) (by omega) hj
    simp_all
   ·intro i j c' hi sS
    rw [p3 i hi] at sS
    obtain ⟨v,q1,q2⟩:=dL dS (i:=0+i) (by omega) (by have:=(fe.1 sS).1;rw [dS.zw _ (by omega)] at this;exact this)
    rw [q1]
    have:=dS.rep _ j c' v (by omega) (by simp_all) q1
    grind [mL]
 ·exact mL h
mutual
theorem afd (g:Good E σ S μ w) {τ:eE} {qs:List Prop} (hs:fzS σ τ=some qs) (hq:bm qs):∀ (x:AV) (v:Value),ak w S μ v x->bm (fzP τ x)->ak w (SF μ (τ.map (·.1)) σ S) μ v (fzA τ x)
 | .os _ _ _,_,h,hp=>ao6 g hs hq h hp
 | .agg cs,v,h,hp=>by
  simp only [fzA,fzP] at hp ⊢
  obtain ⟨vs,rfl,h1,h2⟩:=rr h
  obtain ⟨q1,q2⟩:=abb g hs hq cs hp
  refine .agg (h1.trans q1.symm) fun j c v hc hv=>?_
  grind
 | .nil,_,h,_=>mL h
 | .atom _,_,h,_=>mL h
 | .tup _,_,h,_=>mL h
 | .sl _ _,_,h,_=>mL h
 | .rp _ _,_,h,_=>mL h
 | .op _ _ _,_,h,_=>mL h
 | .fn _ _ _,_,h,_=>mL h
 | .when _ _,_,h,_=>mL h
 | .mp _,_,h,_=>mL h
 | .bn _,_,h,_=>mL h
 | .pt _ _,_,h,_=>mL h
 | .ov _ _ _ _ _,_,h,_=>mL h
 | .KG _ _ _,_,h,_=>mL h
 | .nq _ _,_,h,_=>mL h
 | .rk,_,h,_=>mL h
 | .mr _ _ _,_,h,_=>mL h
theorem abb (g:Good E σ S μ w) {τ:eE} {qs:List Prop} (hs:fzS σ τ=some qs) (hq:bm qs):∀ (cs:List AV),bm (ajW τ cs)->(fzL τ cs).length=cs.length /\
  ∀ (j:Nat) c y v,cs[j]?=some c->(fzL τ cs)[j]?=some y->ak w S μ v c->ak w (SF μ (τ.map (·.1)) σ S) μ v y
 | [],_=>⟨rfl,fun j c y v hc=>by simp at hc⟩
 | c :: cs,hp=>by
  simp only [ajW] at hp
  obtain ⟨p1,p2⟩:=bm.app hp
  obtain ⟨q1,q2⟩:=abb g hs hq cs p2
  refine ⟨by simp [fzL,q1],fun j c' y v hc hy h=>?_⟩
  cases j with
  | zero =>
   simp only [fzL,List.getElem?_cons_zero,aL] at hc hy
   subst hc hy
   exact afd g hs hq c v h p1
  | succ j =>
   simp only [fzL,Oa] at hc hy
   exact q2 j c' y v hc hy h
end
def afe (op:Op):Option rS->Option eE
 | none=>none
 | some q=>match q.D1,op with
  | true,.buildSlice _ _ _=>some q.sq
  | true,.build _ _=>some q.sq
  | true,.box _ _=>some q.sq
  | true,.store _ _ _=>some q.sq
  | _,_=>none
theorem YY {c:Call} (bz:Option rS):afe (.defer c) bz=none:=by
 cases bz with
 | none=>rfl
 | some q=>grind [afe]
theorem aff {op:Op} {bz:Option rS} {τ:eE} (h:afe op bz=some τ):∃ x,bz=some x/\x.D1=true:=by
 unfold afe at h
 grind
def Hv (P:Program) (nk:Nat) (σ:eE) (op:Op) (e:Operand->AV) (bz:Option rS):Option R :=
 match afe op bz with
 | none=>EB P nk σ op e bz
 | some τ=>match fzS σ τ,EB P nk (gS σ (Bp true (τ.map (·.1)))) op (fun x=>fzA τ (e x)) bz with
  | some ps,some r=>some ⟨ps ++ (fzC τ e op.operands.toList ++ r.SC),r.val,τ.map (·.1) ++ r.YF,Bp true (τ.map (·.1)) ++ r.pU⟩
  | _,_=>none
theorem abc {τ:eE} {e:Operand->AV}:∀ {xs:List Operand},bm (fzC τ e xs)->∀ x∈xs,bm (fzP τ (e x))
 | [],_,x,hx=>by simp at hx
 | y :: r,h,x,hx=>by
  obtain ⟨h1,h2⟩:=bm.app h
  rcases lG.1 hx with rfl | hx
  ·exact h1
  ·exact abc h2 x hx
theorem acZ {o:Oper} {a:Act} {e:Operand->AV} {bz:Option rS} {r:R} {next:Act->World->Prop} {Q:Exit->Act->World->Prop}
  (he:∀ x∈o.op.operands.toList,ak w S μ (a.eval x) (e x)) (g:Good E σ S μ w) (HR:∀ j,j < 16->μ (nk+j)=none) (hm:E.m0<=nk)
  (hz:∀ x,bz=some x->x.D1=true->∀ b,¬ E.fp b) (h:Hv P nk σ o.op e bz=some r) (hp:bm r.SC) (hK:ae6 E nk σ S μ w r fun v w'=>next (a.put o.dst v) w'):o.wp P a w next Q:=by
 unfold Hv at h
 split at h
 ·grind [SS]
 ·rename_i τ hτ
  split at h
  ·rename_i ps r0 h1 h2
   cases h
   obtain ⟨p1,p23⟩:=bm.app hp
   obtain ⟨p2,p3⟩:=bm.app p23
   obtain ⟨q,O2,cP⟩:=aff hτ
   have g1:=g.freeze (τ.map (·.1)) (hz q O2 cP)
   have e1:Ext w S μ w (SF μ (τ.map (·.1)) σ S) μ:=⟨aN _,fun _ h=>.inl h,fun _ _=>rfl,fun _ _ h=>h⟩
   refine SS (e:=fun x=>fzA τ (e x)) (fun x hx=>afd g h1 p1 _ _ (he x hx) (abc p2 x hx)) g1 HR hm hz h2 p3 ?_
   intro v w' S' eB x1 x2 x3 x4
   exact hK v w' S' eB (e1.trans x1) (by rw [iW];exact x2) x3 x4
  ·cases h
end
end Go.Ab
namespace Go.Ab
structure St where
 tm:List (Nat×AV)
 sq:eE
 nk:Nat
def AE:AV->Bool->Option Bool
 | .atom (.bool b),want=>some (match want with
  | true=>b
  | false=>!b)
 | .when g x,want=>(AE x want).map fun b=>g && b
 | _,_=>none
structure Rec where
 SC:List Prop
 dst:Option Nat
 val:AV
 YF:List Nat
 pU:xD
def JB (σ:eE) (op:Op) (e:Operand->AV) (y:YC):Option R :=
 match op with
 | .call ⟨.value f,args,_⟩=>match (e f).strip.1,au σ y.k with
  | .atom (.func (.yield l) vs ws),some o=>some ⟨(l=y.l/\vs=#[]/\ws=#[]/\args.toList.map (fun x=>(e x).strip.1)=y.as/\o=y.o) :: conds e (f :: args.toList),.atom (.bool true),[y.k],[(y.k,some y.o')]⟩
  | _,_=>none
 | _=>none
def EC (P:Program) (nk:Nat) (σ:eE) (op:Op) (e:Operand->AV) (bz:Option rS):Option R :=
 match aqY bz with
 | some y=>JB σ op e y
 | none=>Hv P nk σ op e bz
def under (g:Bool):List Prop->List Prop
 | []=>[]
 | p :: ps=>[g=true->bm (p :: ps)]
def afg (ops:List Oper) (j:Nat):Option Nat:=(ops[j]?).bind (·.dst)
def alo (nt:Nat):Option Nat->Bool
 | none=>true
 | some d=>Nat.blt d nt
def Hw (P:Program) (nt:Nat) (ops:List Oper) (nk:Nat) (tm:List (Nat×AV)) (σ:eE) (o:Oper) (bz:Option rS):Option Rec :=
 match alo nt o.dst with
 | false=>none
 | true=>match o.guard with
  | none=>(EC P nk σ o.op (Hu tm) bz).map fun r=>⟨r.SC,o.dst,r.val,r.YF,r.pU⟩
  | some (j,want)=>match afg ops j with
   | none=>none
   | some d=>match aqZ bz with
    | 0=>match AE (fz tm d) want,EC P nk σ o.op (Hu tm) bz with
     | some g,some r=>match r.pU with
      | []=>some ⟨under g r.SC,o.dst,.when g r.val,r.YF,[]⟩
      | _ :: _=>none
     | _,_=>none
    | 1=>match AE (fz tm d) want,EC P nk σ o.op (Hu tm) bz with
     | some g,some r=>some ⟨(g=true) :: r.SC,o.dst,r.val,r.YF,r.pU⟩
     | _,_=>none
    | _=>match AE (fz tm d) want with
     | some g=>some ⟨[g=false],o.dst,.when g (aq0 bz),[],[]⟩
     | none=>none
def MQ (tm:List (Nat×AV)) (d:Option Nat) (x:AV):List (Nat×AV) :=
 match d with
 | none=>tm
 | some d=>(d,x) :: tm
def vg:List (Nat×rS)->Nat->Option rS
 | [],_=>none
 | (k,o) :: r,n=>match Nat.beq k n with
  | true=>some o
  | false=>vg r n
def xS (P:Program) (nt:Nat) (ops:List Oper) (nk:Nat) (orcs:List (Nat×rS)):List Oper->Nat->List (Nat×AV)->eE->Option (List Rec)
 | [],_,_,_=>some []
 | o :: r,i,tm,σ=>match Hw P nt ops (nk+16 * i) tm σ o (vg orcs i) with
  | none=>none
  | some x=>(xS P nt ops nk orcs r (i+1) (MQ tm x.dst x.val) (gS σ x.pU)).map fun l=>x :: l
def MR:List Rec->List (Nat×AV)->List (Nat×AV)
 | [],tm=>tm
 | x :: r,tm=>MR r (MQ tm x.dst x.val)
def ED:List Rec->eE->eE
 | [],σ=>σ
 | x :: r,σ=>ED r (gS σ x.pU)
def O3:List Rec->List Prop
 | []=>[]
 | x :: r=>x.SC ++ O3 r
def Rep (E:Env) (st:St) (tm:Array Value) (w:World):Prop :=
 ∃ S μ,Good E st.sq S μ w/\(∀ k,st.nk<=k->μ k=none)/\E.m0<=st.nk/\∀ t,ak w S μ (tm.getD t undef) (fz st.tm t)
theorem tJ {tm:List (Nat×AV)} {d:Option Nat} {x:AV} (t:Nat):fz (MQ tm d x) t=if d=some t then x else fz tm t:=by
 cases d with
 | none=>simp [MQ]
 | some d =>
  simp only [MQ,fz,aL]
  by_cases h:d=t
  ·rw [xA h,if_pos h]
  ·rw [tH h,if_neg h]
theorem abd (a:Act) (d:Option Nat) (v:Value) (t:Nat) (h:∀ n,d=some n->n < a.tmps.size):(a.put d v).tmps.getD t undef=if d=some t then v else a.tmps.getD t undef:=by
 cases d with
 | none=>simp [Act.put]
 | some d =>
  simp only [Act.put,aL]
  have hd:=h d rfl
  by_cases ht:d=t
  ·simp_all
  simp_all
theorem W6 (a:Act) (d:Option Nat) (v:Value):(a.put d v).tmps.size=a.tmps.size:=by cases d<;>simp [Act.put]
theorem MT (a:Act) (d:Option Nat) (v:Value):(a.put d v).defers=a.defers:=by cases d<;>simp [Act.put]
theorem JC {w:World} {S:Nat->Prop} {μ:Mu} {a:Act} {tm:List (Nat×AV)} (h:∀ t,ak w S μ (a.tmps.getD t undef) (fz tm t)) (x:Operand):ak w S μ (a.eval x) (Hu tm x):=by
 cases x with
 | tmp t=>exact h t
 | const v=>exact Sw w S μ v
 | global g=>exact .atom _
 | func f=>exact .fn (by simp) (by simp) (fun j c v hc=>by simp at hc) (fun j c v hc=>by simp at hc)
def O4:Value->Option Bool
 | .bool b=>some b
 | _=>none
theorem W7 {w:World} {S:Nat->Prop} {μ:Mu} {v:Value} {x:AV} (h:ak w S μ v x):∀ {want g:Bool},AE x want=some g->(O4 v == some want)=g:=by
 induction h with
 | atom v =>
  intro want g hg
  cases v with
  | bool b =>
   simp only [AE,aL] at hg
   subst hg
   cases b<;>cases want<;>rfl
  | _=>simp [AE] at hg
 | @when μ b v x h1 hu ih =>
  intro want g hg
  simp only [AE,aW] at hg
  obtain ⟨g',hg',rfl⟩:=hg
  cases b with
  | true=>simpa using ih rfl hg'
  | false =>
   rw [hu rfl]
   simp [undef,O4]
 | _=>grind [AE]
section
variable {P:Program} {E:Env} {σ:eE} {S:Nat->Prop} {μ:Mu} {w:World}
def FW (rd:Option Nat):Fence:={ Fence.wide with round:=rd }
theorem ajX {rd:Option Nat} {o:Oper} {a:Act} {next:Act->World->Prop} {Q:Exit->Act->World->Prop} {r:Result Next} (h:o.upon P a next Q r):o.uponIn (FW rd) 0 P a next Q r:=by
 cases r with
 | ok x w' =>
  cases x with
  | value v=>exact h
  | skip=>exact h
  | defer d=>exact h
  | enter f args=>exact ⟨fun hh=>by simp [FW,Fence.wide] at hh,(callsIn_wide (n:=0)).2 h⟩
  | row row args=>exact ⟨fun hh=>by simp [FW,Fence.wide] at hh,fun c cs _=>let ⟨v,w',q1,q2⟩:=h c cs;⟨v,w',q1,stepsIn_wide.2 q2⟩⟩
  | _=>exact h.elim
 | halt x w' =>
  cases x with
  | panic v=>exact h
  | _=>exact h.elim
def YOK (P:Program) (E:Env) (y:YC):Prop:=∀ (w:World) (S:Nat->Prop) (μ:Mu) (σ:eE) (vs:Array Value),Good E σ S μ w->RL w S μ vs y.as->au σ y.k=some y.o ->
 YieldAt Fence.wide 0 P y.l vs w fun e w'=>e=.returned (.bool true)/\∃ S',Ext w S μ w' S' μ/\Good E (sset σ y.k y.o') S' μ w'
def W8 (P:Program) (E:Env) (bz:Option rS):Prop:=(∀ x,bz=some x->x.D1=true->∀ b,¬ E.fp b)/\∀ x y,bz=some x->x.y=some y->YOK P E y
theorem W9 {rd:Option Nat} {o:Oper} {a:Act} {e:Operand->AV} {y:YC} {r:R} {next:Act->World->Prop} {Q:Exit->Act->World->Prop}
  (he:∀ x∈o.op.operands.toList,ak w S μ (a.eval x) (e x)) (g:Good E σ S μ w) {nk:Nat} (hy:YOK P E y) (h:JB σ o.op e y=some r) (hp:bm r.SC)
  (hK:ae6 E nk σ S μ w r fun v w'=>next (a.put o.dst v) w'):o.wpIn (FW rd) 0 P a w next Q:=by
 obtain ⟨dst,op,ty,pos,after,guard⟩:=o
 unfold JB at h
 simp only at h he
 split at h
 case h_2=>cases h
 rename_i f args SN
 split at h
 case h_2=>cases h
 rename_i l vs ws o1 hfe DB
 simp only [aL] at h
 subst h
 obtain ⟨⟨rfl,rfl,rfl,has,rfl⟩,hc⟩:=hp
 have ao7:=Gq hc
 have mem:∀ x,x∈f :: args.toList->x∈(Op.call ⟨.value f,args,SN⟩).operands.toList:=by
  intro x hx
  simp only [Op.operands,Call.operands] at *
  simpa using hx
 have hs:∀ x,x∈f :: args.toList->ak w S μ (a.eval x) ((e x).strip.1):=fun x hx=>(he x (mem x hx)).strip (ao7 x hx)
 have hf:=hs f (by simp)
 rw [hfe] at hf
 have hf:=dR hf
 have hrl:RL w S μ (args.map a.eval) y.as:=by
  rw [<- has]
  refine ⟨by simp,fun j c v hc hv=>?_⟩
  simp only [List.getElem?_map,aW,Array.getElem?_map] at hc hv
  obtain ⟨x,hx,rfl⟩:=hc
  obtain ⟨x',Dz,rfl⟩:=hv
  rw [<- Array.getElem?_toList,hx] at Dz
  cases Dz
  exact hs x (List.mem_cons_of_mem _ (List.mem_of_getElem? hx))
 obtain ⟨fn,tmps,assign,body,oD,amA⟩:=hy w S μ σ _ g hrl DB
 refine ⟨fun _ _=>trivial,?_⟩
 have ex:(Oper.semAt (FW rd).round a.eval ⟨dst,.call ⟨.value f,args,SN⟩,ty,pos,after,guard⟩).run P w=.ok (.round y.l fn tmps assign body) w:=by
  rw [Oper.semAt_eq _ _ _ (fun c=>by simp)]
  have:execOp a.eval ⟨dst,.call ⟨.value f,args,SN⟩,ty,pos,after,guard⟩=(do let d <- Deferred.ofValue (a.eval f) (args.map a.eval);invoke d.target d.args:Sem Next):=rfl
  rw [this,hf]
  simpa [Deferred.ofValue,invoke] using oD
 rw [ex]
 refine ⟨fun hh=>by simp [FW,Fence.wide] at hh,RoundIn.mono (F:=Fence.wide) amA ?_⟩
 rintro e' w' ⟨rfl,S',hx,hg⟩
 exact hK _ w' S' μ hx (by simpa [gS] using hg) (fun _ _ h=>h) (.atom _)
theorem KZ {rd:Option Nat} {o:Oper} {a:Act} {e:Operand->AV} {bz:Option rS} {r:R} {nk:Nat} {next:Act->World->Prop} {Q:Exit->Act->World->Prop}
  (he:∀ x∈o.op.operands.toList,ak w S μ (a.eval x) (e x)) (g:Good E σ S μ w) (HR:∀ j,j < 16->μ (nk+j)=none) (hm:E.m0<=nk)
  (hz:W8 P E bz) (h:EC P nk σ o.op e bz=some r) (hp:bm r.SC) (hK:ae6 E nk σ S μ w r fun v w'=>next (a.put o.dst v) w'):o.wpIn (FW rd) 0 P a w next Q:=by
 unfold EC at h
 split at h
 ·rename_i y hy
  have:∃ x,bz=some x/\x.y=some y:=by
   cases bz with
   | none=>cases hy
   | some x=>exact ⟨x,rfl,hy⟩
  obtain ⟨x,h1,h2⟩:=this
  exact W9 (nk:=nk) he g (hz.2 x y h1 h2) h hp hK
 ·refine ⟨fun _ _=>trivial,?_⟩
  have hd:∀ c,o.op≠.defer c:=fun c hc=>by grind [Hv,YY,EB,ft]
  rw [Oper.semAt_eq _ _ _ hd]
  exact ajX (acZ he g HR hm hz.1 h hp hK)
theorem SU {rd:Option Nat} {nt nk:Nat} {ops:Array Oper} {i:Nat} {o:Oper} {a:Act} {tm:List (Nat×AV)} {bz:Option rS} {x:Rec} {K:Act->World->Prop} {Q:Exit->Act->World->Prop}
  (hi:ops[i]?=some o) (ht:∀ t,ak w S μ (a.tmps.getD t undef) (fz tm t)) (g:Good E σ S μ w) (hk:∀ j,j < 16->μ (nk+j)=none) (hm:E.m0<=nk)
  (hz:W8 P E bz) (h:Hw P nt ops.toList nk tm σ o bz=some x) (hp:bm x.SC)
  (hK:∀ v w' S' eB,Ext w S μ w' S' eB->Good E (gS σ x.pU) S' eB w'->(∀ k,(k < nk\/nk+16<=k)->μ k=none->eB k=none)->ak w' S' eB v x.val->K (a.put x.dst v) w') :
  wpOpIn (FW rd) 0 P ops Q i K a w:=by
 unfold Hw at h
 split at h
 ·cases h
 ·split at h
  ·rename_i hgd
   simp only [aW] at h
   obtain ⟨r,h1,rfl⟩:=h
   unfold wpOpIn
   rw [hi]
   simp only [Region.wanted,hgd,if_true]
   exact KZ (fun x _=>JC ht x) g hk hm hz h1 hp hK
  ·rename_i j want hgd
   split at h
   ·cases h
   ·rename_i d hd
    have amB:∀ gb,AE (fz tm d) want=some gb->Region.wanted o (yielded ops a.tmps)=gb:=fun gb hg=>by
     have hy:yielded ops a.tmps j=O4 (a.tmps.getD d undef):=by
      unfold yielded
      unfold afg at hd
      have hd':(ops[j]?).bind (·.dst)=some d:=by simpa using hd
      rw [hd']
      simp only [a9,As]
      cases a.tmps[d]? with
      | none=>simp [undef,O4]
      | some v=>cases v<;>simp [O4]
     grind [Region.wanted,W7]
    split at h
    rotate_left
    ·split at h
     ·rename_i gb r hg h1
      cases h
      unfold wpOpIn
      rw [hi]
      have hw:=amB gb hg
      obtain ⟨hg1,Ej⟩:=hp
      subst hg1
      simp only [hw,if_true]
      exact KZ (fun x _=>JC ht x) g hk hm hz h1 Ej hK
     ·cases h
    ·split at h
     ·rename_i gb hg
      cases h
      unfold wpOpIn
      rw [hi]
      have hw:=amB gb hg
      obtain ⟨hg1,-⟩:=hp
      subst hg1
      simp only [hw,Bool.false_eq_true,if_false]
      refine ⟨fun _ _=>trivial,?_⟩
      exact hK undef w S μ (Ext.refl _ _ _) g (fun _ _ h=>h) (.when (fun h=>by cases h) (fun _=>rfl))
     ·cases h
    split at h
    ·rename_i gb r hg h1
     split at h
     ·rename_i hu
      cases h
      unfold wpOpIn
      rw [hi]
      have hw:Region.wanted o (yielded ops a.tmps)=gb:=amB gb hg
      simp only [hw]
      cases gb with
      | true =>
       simp only [if_true]
       have wW:bm r.SC:=by
        cases hr:r.SC with
        | nil=>trivial
        | cons p ps =>
         rw [hr] at hp
         exact hp.1 rfl
       refine KZ (fun x _=>JC ht x) g hk hm hz h1 wW ?_
       intro v w' S' eB q1 q2 q3 q4
       rw [hu] at q2
       exact hK v w' S' eB q1 q2 q3 (.when (fun _=>q4) (fun h=>by cases h))
      | false =>
       simp only [Bool.false_eq_true,if_false]
       refine ⟨fun _ _=>trivial,?_⟩
       exact hK undef w S μ (Ext.refl _ _ _) g (fun _ _ h=>h) (.when (fun h=>by cases h) (fun _=>rfl))
     ·cases h
    ·cases h
theorem SV {nt nk:Nat} {ops:List Oper} {tm:List (Nat×AV)} {o:Oper} {bz:Option rS} {x:Rec} (h:Hw P nt ops nk tm σ o bz=some x):x.dst=o.dst/\∀ n,o.dst=some n->n < nt:=by
 unfold Hw at h
 split at h
 ·cases h
 ·rename_i hd
  have h2:∀ n,o.dst=some n->n < nt:=fun n hn=>by
   rw [hn] at hd;simp only [alo,Nat.blt,Nat.ble_eq] at hd;exact hd
  split at h
  ·simp only [aW] at h
   grind
  grind
theorem SW {rd:Option Nat} {ds:List Deferred} {nt nk:Nat} {ops:Array Oper} {orcs:List (Nat×rS)} (hz:∀ i,W8 P E (vg orcs i)) (hm:E.m0<=nk) {Q:Exit->Act->World->Prop}:∀ (l:List Oper) (i:Nat) (a:Act) (w:World) (tm:List (Nat×AV)) (σ:eE) (S:Nat->Prop) (μ:Mu) (dX:List Rec),
  ops.toList.drop i=l->i+l.length=ops.size->a.tmps.size=nt->a.defers=ds->Good E σ S μ w->(∀ k,nk+16 * i<=k->μ k=none)->(∀ t,ak w S μ (a.tmps.getD t undef) (fz tm t)) ->
  xS P nt ops.toList nk orcs l i tm σ=some dX->bm (O3 dX) ->
  (∀ a' w' S' eB,a'.tmps.size=nt->a'.defers=ds->Good E (ED dX σ) S' eB w'->(∀ k,nk+16 * ops.size<=k->eB k=none)->(∀ t,ak w' S' eB (a'.tmps.getD t undef) (fz (MR dX tm) t))->Q .normal a' w') ->
  wpOpsIn (FW rd) 0 P ops Q (List.range' i l.length) a w
 | [],i,a,w,tm,σ,S,μ,dX,hl,Ww,hs,hdf,g,hk,ht,h,hp,hQ=>by
  simp only [xS,aL] at h
  subst h
  simp only [List.length_nil,List.range'_zero,wpOpsIn]
  refine hQ a w S μ hs hdf g (fun k tg=>hk k (by simp at Ww;omega)) ht
 | o :: r,i,a,w,tm,σ,S,μ,dX,hl,Ww,hs,hdf,g,hk,ht,h,hp,hQ=>by
  simp only [xS] at h
  split at h
  ·cases h
  ·rename_i x hx
   simp only [aW] at h
   obtain ⟨l',h2,rfl⟩:=h
   obtain ⟨p1,p2⟩:=bm.app hp
   have hi:ops[i]?=some o:=by
    have:(ops.toList.drop i)[0]?=some o:=by rw [hl];rfl
    rw [rm] at this
    simpa using this
   have hl2:ops.toList.drop (i+1)=r:=by
    rw [<- List.tail_drop,hl];rfl
   obtain ⟨d1,d2⟩:=SV hx
   simp only [px,List.range'_succ]
   rw [wpOpsIn_cons]
   refine SU hi ht g (fun j hj=>hk _ (by omega)) (by omega) (hz i) hx p1 ?_
   intro v w' S' eB q1 q2 q3 q4
   refine SW hz hm r (i+1) _ w' _ _ S' eB l' hl2 (by simp at Ww;omega) (by rw [W6];exact hs) (by rw [MT];exact hdf) q2 (fun k tg=>q3 k (by omega) (hk k (by omega))) ?_ h2 p2 hQ
   intro t
   rw [abd a x.dst v t (fun n hn=>by rw [hs];exact d2 n (d1 ▸ hn)),tJ]
   split
   ·exact q4
   ·exact (ht t).ext q1
end
end Go.Ab
namespace Go.Ab
def lH (u:xD):List Nat:=u.map (·.1)
section
variable {P:Program} {nk:Nat} {σ gj:eE}
theorem lU {e e':Operand->AV}:∀ {xs:List Operand},(∀ x∈xs,e' x=e x)->conds e' xs=conds e xs
 | [],_=>rfl
 | x :: r,h=>by simp only [conds];rw [h x (by simp),lU fun y hy=>h y (by simp [hy])]
theorem afh {op:Op} {e e':Operand->AV} {bz:Option rS} (he:∀ x∈op.operands.toList,e' x=e x):ft P nk σ op e' bz=ft P nk σ op e bz:=by
 cases op with
 | move x=>grind [ft,Op.operands]
 | assign x=>grind [ft,Op.operands]
 | pick q a b=>grind [ft,Op.operands]
 | alloc T=>rfl
 | box T x=>grind [ft,conds,Op.operands]
 | build t parts =>
  simp only [ft]
  have h1:∀ x∈parts.toList.map (·.2),e' x=e x:=fun x hx=>he x (by grind [Op.operands])
  rw [lU h1]
  congr 2
  apply List.map_congr_left
  grind
 | buildSlice t len parts =>
  simp only [ft]
  have h1:∀ x∈parts.toList.map (·.2),e' x=e x:=fun x hx=>he x (by grind [Op.operands])
  rw [lU h1]
  have h2:(parts.toList.map fun p=>(p.1,(e' p.2).strip.1))=(parts.toList.map fun p=>(p.1,(e p.2).strip.1)):=by
   apply List.map_congr_left
   intro p hp
   grind
  rw [h2]
 | load T x=>grind [ft,conds,Op.operands]
 | store T x y=>grind [ft,conds,Op.operands]
 | nilCheck x=>grind [ft,conds,Op.operands]
 | binOp o t x y yt=>grind [ft,conds,Op.operands]
 | unOp o t x=>grind [ft,conds,Op.operands]
 | convert s d x=>grind [ft,conds,Op.operands]
 | makeMap t r=>cases r<;>simp [ft]
 | lookup t m x ok=>simp_all [ft,conds,Op.operands]
 | mapUpdate t m x y=>simp_all [ft,conds,Op.operands]
 | insert t m x y=>simp_all [ft,conds,Op.operands]
 | makeFunc f first cap =>
  simp only [ft]
  have h1:∀ x∈first.toList ++ cap.toList,e' x=e x:=fun x hx=>he x (by simpa [Op.operands] using hx)
  rw [lU h1]
  congr 3
  ·apply List.map_congr_left;intro x hx;rw [h1 x (by simp only [List.mem_append];exact .inl hx)]
  ·apply List.map_congr_left;intro x hx;rw [h1 x (by simp only [List.mem_append];exact .inr hx)]
 | makeSlice t x y=>grind [ft,conds,Op.operands]
 | slice t x lo hi mx =>
  cases mx with
  | some _=>simp [ft]
  | none =>
   simp only [ft]
   have h1:∀ y∈x :: (lo.toList ++ hi.toList),e' y=e y:=fun y hy=>he y (by
    simp only [lG,List.mem_append,Option.mem_toList] at hy
    simp only [Op.operands]
    simp_all)
   rw [lU h1,h1 x (by simp)]
   have h2:(lo.map fun x=>(e' x).strip.1)=lo.map fun x=>(e x).strip.1:=by
    cases lo with
    | none=>rfl
    | some y=>simp [h1 y (by simp)]
   have h3:(hi.map fun x=>(e' x).strip.1)=hi.map fun x=>(e x).strip.1:=by
    cases hi with
    | none=>rfl
    | some y=>simp [h1 y (by simp)]
   rw [h2,h3]
 | fieldAddr T x f=>grind [ft,conds,Op.operands]
 | field T x f=>grind [ft,conds,Op.operands]
 | indexAddr T x i=>grind [ft,conds,Op.operands]
 | index T x i=>grind [ft,conds,Op.operands]
 | extract x i=>grind [ft,conds,Op.operands]
 | call c =>
  obtain ⟨callee,args,argTypes⟩:=c
  cases callee with
  | invoke=>simp [ft]
  | value f =>
   simp only [ft]
   have h1:∀ x∈f :: args.toList,e' x=e x:=fun x hx=>he x (by simpa [Op.operands,Call.operands] using hx)
   rw [lU h1,h1 f (by simp)]
   have h2:(args.toList.map fun x=>(e' x).strip.1)=args.toList.map fun x=>(e x).strip.1:=by
    apply List.map_congr_left;intro x hx;rw [h1 x (by simp [hx])]
   rw [h2]
  | builtin b =>
   simp only [ft]
   have h1:∀ x∈args.toList,e' x=e x:=fun x hx=>he x (by grind [Op.operands,Call.operands])
   unfold Gp
   split
   ·grind [conds]
   ·grind [conds]
   ·rename_i x r ha
    rw [ha] at h1
    dsimp only
    rw [lU h1,h1 x (by simp)]
    have h2:(r.map fun x=>(e' x).strip.1)=r.map fun x=>(e x).strip.1:=by
     apply List.map_congr_left;intro y hy;rw [h1 y (by simp [hy])]
    rw [h2]
   ·rename_i x r ha
    rw [ha] at h1
    dsimp only
    rw [lU h1,h1 x (by simp)]
    have h2:(r.map fun x=>(e' x).strip.1)=r.map fun x=>(e x).strip.1:=by
     apply List.map_congr_left;intro y hy;rw [h1 y (by simp [hy])]
    rw [h2]
   ·rfl
 | _=>simp [ft]
theorem afi {T:TypeId} {a:AV} {ps:List Prop} {x:AV} {rd:List Nat} (h:Eo P σ T a=some (ps,x,rd)) (hs:∀ k∈rd,au gj k=au σ k):Eo P gj T a=some (ps,x,rd):=by
 unfold Eo at h ⊢
 split at h
 ·split at h
  ·rename_i k i j
   split at h
   ·rename_i o ho
    simp only [aW,aG] at h
    grind
   ·cases h
  ·exact h
  ·grind
  ·cases h
 ·cases h
theorem YZ {T:TypeId} {a x:AV} {ps:List Prop} {u:xD} {rd:List Nat} (h:sy P σ T a x=some (ps,u,rd)) (hs:∀ k∈rd,au gj k=au σ k):sy P gj T a x=some (ps,u,rd):=by
 unfold sy at h ⊢
 grind
theorem ac0 {T:TypeId} {a x:AV} {ps:List Prop} {u:xD} {rd:List Nat} (h:Gf P σ T a x=some (ps,u,rd)) (hs:∀ k∈rd,au gj k=au σ k):Gf P gj T a x=some (ps,u,rd):=by
 unfold Gf at h ⊢
 split at h
 ·grind
 ·exact YZ h hs
theorem R0 {T:TypeId} {x i:AV} {ps:List Prop} {v:AV} {rd:List Nat} (h:tI P σ T x i=some (ps,v,rd)) (hs:∀ k∈rd,au gj k=au σ k):tI P gj T x i=some (ps,v,rd):=by
 unfold tI at h ⊢
 split at h
 ·split at h
  ·grind
  ·cases h
 ·omega
 ·cases h
theorem ac1 {T:TypeId} {x:AV} {lo hi:Option AV} {ps:List Prop} {v:AV} {rd:List Nat} (h:Gg P σ T x lo hi=some (ps,v,rd)) (hs:∀ k∈rd,au gj k=au σ k):Gg P gj T x lo hi=some (ps,v,rd):=by
 unfold Gg at h ⊢
 split at h
 ·exact h
 ·split at h
  ·grind
  ·cases h
 ·cases h
theorem JD {sz:Nat} {x:AV} {n:Nat} {g:Nat->List AV} {pr:Bool} {ps:List Prop} {rd:List Nat} (h:Bn σ sz x=some (n,g,pr,ps,rd)) (hs:∀ k∈rd,au gj k=au σ k):Bn gj sz x=some (n,g,pr,ps,rd):=by
 unfold Bn at h ⊢
 grind
theorem ac2 {src dst:TypeId} {x:AV} {ps:List Prop} {v:AV} {rd:List Nat} (h:Gk P σ src dst x=some (ps,v,rd)) (hs:∀ k∈rd,au gj k=au σ k):Gk P gj src dst x=some (ps,v,rd):=by
 unfold Gk at h ⊢
 split at h
 ·exact h
 ·split at h
  ·rename_i n gt pr qs rd' he Bo
   simp only [aL,aG] at h
   obtain ⟨rfl,rfl,rfl⟩:=h
   rw [JD Bo hs,he]
  ·cases h
 ·cases h
theorem O5 {t:TypeId} {s x:AV} {ps:List Prop} {v:AV} {rd:List Nat} {u:xD} (h:wi P nk σ t s x=some (ps,v,rd,u)) (hs:∀ k∈rd,au gj k=au σ k):wi P nk gj t s x=some (ps,v,rd,u):=by
 unfold wi at h ⊢
 split at h
 ·split at h
  ·rename_i sz b z h1 h2 h3
   split at h
   ·rename_i n g pr ps' rd' hb Bo
    split at h
    ·have hrd:rd=rd':=by simp only [aL,aG] at h;exact h.2.2.1.symm
     rw [JD Bo (fun k hk=>hs k (hrd ▸ hk))]
     simp only [hb]
     exact h
    ·rename_i k len
     split at h
     ·rename_i o ho
      split at h
      ·rename_i Wu
       have hrd:rd=k :: rd':=by simp only [aL,aG] at h;exact h.2.2.1.symm
       rw [JD Bo (fun k hk=>hs k (by rw [hrd];simp [hk]))]
       simp only [hb,hs k (by simp [hrd]),ho,Wu]
       exact h
      ·cases h
     ·cases h
    ·cases h
   ·cases h
  ·cases h
 ·cases h
mutual
theorem afj {ks:List Nat}:∀ (x y:AV) (bs:List Nat) (ps:List Prop),x.iR σ ks=some (y,bs,ps)->(∀ k∈bs,au gj k=au σ k)->x.iR gj ks=some (y,bs,ps)
 | .op k i j,y,bs,ps,h,_=>by simpa [AV.iR] using h
 | .mp k,y,bs,ps,h,_=>by simpa [AV.iR] using h
 | .ov _ _ _ _ _,y,bs,ps,h,_=>by simp [AV.iR] at h
 | .KG _ _ _,y,bs,ps,h,_=>by simp [AV.iR] at h
 | .nq _ _,y,bs,ps,h,_=>by simp [AV.iR] at h
 | .bn _,y,bs,ps,h,_=>by simpa [AV.iR] using h
 | .pt _ _,y,bs,ps,h,_=>by simpa [AV.iR] using h
 | .os k off len,y,bs,ps,h,hs=>by
  simp only [AV.iR] at h ⊢
  split at h
  ·rename_i n hn;exact h
  ·rename_i hn
   split at h
   ·rename_i o ho
    split at h
    ·rename_i hp
     have hb:bs=[k]:=by simp only [aL,aG] at h;exact h.2.1.symm
     simp only [hs k (by simp [hb]),ho,hp]
     exact h
    ·cases h
   ·cases h
 | .agg cs,y,bs,ps,h,hs=>by
  simp only [AV.iR,aW] at h ⊢
  obtain ⟨⟨a,b,c⟩,h,e⟩:=h
  simp only [aG] at e
  obtain ⟨rfl,rfl,rfl⟩:=e
  exact ⟨(a,b,c),ym cs a b c h hs,rfl⟩
 | .tup cs,y,bs,ps,h,hs=>by
  simp only [AV.iR,aW] at h ⊢
  obtain ⟨⟨a,b,c⟩,h,e⟩:=h
  simp only [aG] at e
  obtain ⟨rfl,rfl,rfl⟩:=e
  exact ⟨(a,b,c),ym cs a b c h hs,rfl⟩
 | .fn g x z,y,bs,ps,h,hs=>by
  simp only [AV.iR] at h ⊢
  split at h
  ·rename_i a b c a' b' c' e1 e2
   simp only [aL,aG] at h
   obtain ⟨rfl,rfl,rfl⟩:=h
   rw [ym x a b c e1 (fun k hk=>hs k (by simp [hk])),ym z a' b' c' e2 (fun k hk=>hs k (by simp [hk]))]
  ·cases h
 | .when _ _,y,bs,ps,h,_=>by simp [AV.iR] at h
 | .mr _ _ _,y,bs,ps,h,_=>by simp [AV.iR] at h
 | .atom _,y,bs,ps,h,_=>by simpa [AV.iR] using h
 | .sl _ _,y,bs,ps,h,_=>by simpa [AV.iR] using h
 | .rp _ _,y,bs,ps,h,_=>by simpa [AV.iR] using h
 | .nil,y,bs,ps,h,_=>by simpa [AV.iR] using h
 | .rk,y,bs,ps,h,_=>by simpa [AV.iR] using h
theorem ym {ks:List Nat}:∀ (xs ys:List AV) (bs:List Nat) (ps:List Prop),AV.uW σ ks xs=some (ys,bs,ps)->(∀ k∈bs,au gj k=au σ k)->AV.uW gj ks xs=some (ys,bs,ps)
 | [],ys,bs,ps,h,_=>by simpa [AV.uW] using h
 | c :: cs,ys,bs,ps,h,hs=>by
  simp only [AV.uW] at h ⊢
  split at h
  ·rename_i a b p a' b' p' e1 e2
   simp only [aL,aG] at h
   obtain ⟨rfl,rfl,rfl⟩:=h
   rw [afj c a b p e1 (fun k hk=>hs k (by simp [hk])),ym cs a' b' p' e2 (fun k hk=>hs k (by simp [hk]))]
  ·cases h
end
theorem SX {ks:List Nat}:∀ (l:List Nat) (i:Nat),(∀ k∈l,au gj k=au σ k)->canon gj ks i l=canon σ ks i l
 | [],i,_=>rfl
 | k :: r,i,h=>by simp only [canon];rw [h k (by simp),SX r (i+1) fun k hk=>h k (by simp [hk])]
theorem HT {ks:List Nat} {lone:Bool}:∀ (l:List Nat),(∀ k∈l,au gj k=au σ k)->Ex gj ks lone l=Ex σ ks lone l
 | [],_=>rfl
 | k :: r,h=>by simp only [Ex];rw [h k (by simp),HT r fun k hk=>h k (by simp [hk])]
theorem afk {f:AV} {args:List AV} {bz:rS} {r:R} (h:OT P nk σ f args bz=some r) (hs:∀ k∈r.YF,au gj k=au σ k):OT P nk gj f args bz=some r:=by
 unfold OT Oh at h ⊢
 split at h
 case h_2=>cases h
 rename_i gid first cap
 split at h
 case h_2=>cases h
 rename_i as bs ps Az h1 h2 h3
 split at h
 case h_2=>cases h
 rename_i h4
 have hr:r.YF=bz.ks ++ bs:=by
  split at h
  ·split at h
   ·split at h
    ·cases h;rfl
    ·cases h
   ·split at h
    ·cases h;rfl
    ·cases h
  ·split at h
   ·cases h;rfl
   ·cases h
 rw [hr] at hs
 simp only [h1,ym _ _ _ _ h2 (fun k hk=>hs k (by simp [hk])),SX bz.ks 0 (fun k hk=>hs k (by simp [hk])),HT (ks:=bz.ks) (lone:=bs.isEmpty || bz.D1) bz.ks (fun k hk=>hs k (by simp [hk])),HT (ks:=bz.ks) (lone:=true) bz.ks (fun k hk=>hs k (by simp [hk])),h3,h4]
 exact h
theorem Y0 {t:TypeId} {m x:AV} {ok:Bool} {bz:rS} {ps:List Prop} {v:AV} {rd:List Nat} (h:Br P σ t m x ok bz=some (ps,v,rd)) (hs:∀ k∈rd,au gj k=au σ k):Br P gj t m x ok bz=some (ps,v,rd):=by
 unfold Br at h ⊢
 grind
theorem O6 {t:TypeId} {m x y:AV} {bz:rS} {ps:List Prop} {u:xD} {rd:List Nat} (h:Bs P σ t m x y bz=some (ps,u,rd)) (hs:∀ k∈rd,au gj k=au σ k):Bs P gj t m x y bz=some (ps,u,rd):=by
 unfold Bs at h ⊢
 grind
theorem Xa {op:Op} {e:Operand->AV} {bz:Option rS} {r:R} (h:ft P nk σ op e bz=some r) (hs:∀ k∈r.YF,au gj k=au σ k):ft P nk gj op e bz=some r:=by
 cases op with
 | load T x =>
  simp only [ft,aW] at h ⊢
  obtain ⟨⟨ps,v,rd⟩,h1,rfl⟩:=h
  exact ⟨_,afi h1 hs,rfl⟩
 | store T x y =>
  simp only [ft,aW] at h ⊢
  obtain ⟨⟨ps,v,rd⟩,h1,rfl⟩:=h
  exact ⟨_,ac0 h1 hs,rfl⟩
 | indexAddr T x i =>
  simp only [ft,aW] at h ⊢
  obtain ⟨⟨ps,v,rd⟩,h1,rfl⟩:=h
  exact ⟨_,R0 h1 hs,rfl⟩
 | slice t x lo hi mx =>
  cases mx with
  | some _=>simp [ft] at h
  | none =>
   simp only [ft,aW] at h ⊢
   obtain ⟨⟨ps,v,rd⟩,h1,rfl⟩:=h
   exact ⟨_,ac1 h1 hs,rfl⟩
 | convert src dst x =>
  simp only [ft] at h ⊢
  split at h
  ·omega
  ·rename_i h0
   simp only [aW] at h ⊢
   obtain ⟨⟨ps,v,rd⟩,h1,rfl⟩:=h
   exact ⟨_,ac2 h1 hs,rfl⟩
 | makeMap t r=>cases r with
  | none=>exact h
  | some _=>simp [ft] at h
 | lookup t m x ok =>
  simp only [ft] at h ⊢
  split at h
  ·simp only [aW] at h ⊢
   obtain ⟨⟨ps,v,rd⟩,h1,rfl⟩:=h
   exact ⟨_,Y0 h1 hs,rfl⟩
  ·cases h
 | mapUpdate t m x y =>
  simp only [ft] at h ⊢
  split at h
  ·simp only [aW] at h ⊢
   obtain ⟨⟨ps,u,rd⟩,h1,rfl⟩:=h
   exact ⟨_,O6 h1 hs,rfl⟩
  ·cases h
 | insert t m x y =>
  simp only [ft] at h ⊢
  split at h
  ·simp only [aW] at h ⊢
   obtain ⟨⟨ps,u,rd⟩,h1,rfl⟩:=h
   exact ⟨_,O6 h1 hs,rfl⟩
  ·cases h
 | call c =>
  obtain ⟨callee,args,argTypes⟩:=c
  cases callee with
  | invoke=>simp [ft] at h
  | value f =>
   simp only [ft] at h ⊢
   split at h
   ·simp only [aW] at h ⊢
    obtain ⟨r',h1,rfl⟩:=h
    exact ⟨_,afk h1 hs,rfl⟩
   ·cases h
  | builtin b =>
   simp only [ft] at h ⊢
   unfold Gp at h ⊢
   split at h
   ·exact h
   ·split at h
    ·simp only [aW] at h ⊢
     obtain ⟨⟨ps,v,rd,u⟩,h1,rfl⟩:=h
     exact ⟨_,O5 h1 hs,rfl⟩
    ·cases h
   ·exact h
   ·exact h
   ·cases h
 | _=>exact h
theorem ajY {op:Op} {e e':Operand->AV} {bz:Option rS} (he:∀ x∈op.operands.toList,e' x=e x):EB P nk σ op e' bz=EB P nk σ op e bz:=by
 unfold EB
 split
 ·exact afh he
 ·split
  ·grind [conds,Op.operands]
  ·grind [Op.operands,Call.operands,conds]
  ·grind [Op.operands,Call.operands,conds]
  ·grind [Op.operands,Call.operands,conds]
  ·rename_i t x lo hi mx
   have h1:e' x=e x:=he x (by simp [Op.operands])
   have h2:∀ y∈lo,e' y=e y:=fun y hy=>he y (by cases hy;simp [Op.operands])
   have h3:∀ y∈hi,e' y=e y:=fun y hy=>he y (by cases hy;simp [Op.operands])
   have h4:∀ y∈mx,e' y=e y:=fun y hy=>he y (by cases hy;simp [Op.operands])
   split
   ·have e2:(lo.map fun y=>(e' y).strip.1)=lo.map fun y=>(e y).strip.1:=by
     cases lo with
     | none=>rfl
     | some y=>simp only [Option.map_some];rw [h2 y rfl]
    have e3:(hi.map fun y=>(e' y).strip.1)=hi.map fun y=>(e y).strip.1:=by
     cases hi with
     | none=>rfl
     | some y=>simp only [Option.map_some];rw [h3 y rfl]
    have e4:conds e' (x :: (lo.toList ++ hi.toList))=conds e (x :: (lo.toList ++ hi.toList)):=lU fun y hy=>by
     simp only [lG,List.mem_append,Option.mem_toList] at hy
     rcases hy with rfl | hy | hy
     ·exact h1
     ·exact h2 _ hy
     ·exact h3 _ hy
    rw [h1,e2,e3,e4]
   ·split
    ·rename_i l h
     simp only [conds];rw [h1,h2 l rfl,h3 h rfl,h4 _ rfl]
    ·rfl
  ·exact afh he
theorem ac3 {T:TypeId} {a x:AV} {ps:List Prop} {y:AV} {rd:List Nat} (h:Gr P σ T a x=some (ps,y,rd)) (hs:∀ k∈rd,au gj k=au σ k):Gr P gj T a x=some (ps,y,rd):=by
 unfold Gr at h ⊢
 grind
theorem Uf:∀ (u:xD) (n:Nat),(∀ τ τ':eE,au (gS τ u) n=au (gS τ' u) n)\/∀ τ:eE,au (gS τ u) n=au τ n
 | [],n=>.inr fun _=>rfl
 | (k,some o) :: u,n=>by
  simp only [gS]
  rcases Uf u n with h | h
  ·grind
  ·by_cases hk:k=n
   ·simp_all [bj,if_pos]
   simp_all [bj,if_neg]
 | (k,none) :: u,n=>by
  simp only [gS]
  rcases Uf u n with h | h
  ·grind
  ·by_cases hk:k=n
   ·simp_all [im,if_pos]
   simp_all [im,if_neg]
theorem ajZ {τ τ':eE} {k q i:Nat} (h1:au τ' k=au τ k) (h2:au τ' q=au τ q):Ue τ' k q i=Ue τ k q i:=by
 unfold Ue;rw [h1,h2]
theorem Xb {t:TypeId} {s x:AV} {bz:rS} {ps:List Prop} {v:AV} {rd:List Nat} {u:xD} (h:yl P nk σ t s x bz=some (ps,v,rd,u)) (hs:∀ k∈rd,au gj k=au σ k):yl P nk gj t s x bz=some (ps,v,rd,u):=by
 unfold yl at h ⊢
 split at h
 case h_2=>cases h
 rename_i q p1 v' rd' u1 hq ha
 split at h
 case h_2=>cases h
 rename_i p2 u2 hb hc
 have hrd:rd=q :: rd':=by simp only [aL,aG] at h;exact h.2.2.1.symm
 have O7:=O5 ha (fun k hk=>hs k (by rw [hrd];simp [hk]))
 have hnk:au (gS gj u1) nk=au (gS σ u1) nk:=by
  have hu:∃ o,u1=[(nk,some o)]\/∃ k,u1=[(k,none),(nk,some o)]:=by
   unfold wi at ha
   split at ha
   ·split at ha
    ·grind
    ·cases ha
   ·cases ha
  obtain ⟨o,rfl | ⟨k,rfl⟩⟩:=hu<;>simp only [gS]<;>rw [bj,bj,if_pos rfl,if_pos rfl]
 have hqq:au (gS gj u1) q=au (gS σ u1) q:=by
  rcases Uf u1 q with h1 | h1
  ·exact h1 _ _
  ·simp_all
 grind [ajZ]
theorem Y1 {T:TypeId} {x:AV} {lo hi:Option AV} {ps:List Prop} {v:AV} {rd:List Nat} (h:Bt P σ T x lo hi=some (ps,v,rd)) (hs:∀ k∈rd,au gj k=au σ k):Bt P gj T x lo hi=some (ps,v,rd):=by
 unfold Bt at h ⊢
 split at h
 case h_2=>cases h
 grind
theorem afl {t:TypeId} {s x:AV} {ps:List Prop} {v:AV} {rd:List Nat} {u:xD} (h:KV P σ t s x=some (ps,v,rd,u)) (hs:∀ k∈rd,au gj k=au σ k):KV P gj t s x=some (ps,v,rd,u):=by
 unfold KV at h ⊢
 split at h
 case h_2=>cases h
 grind
theorem afm {t:TypeId} {s x:AV} {ps:List Prop} {v:AV} {rd:List Nat} {u:xD} (h:KW P σ t s x=some (ps,v,rd,u)) (hs:∀ k∈rd,au gj k=au σ k):KW P gj t s x=some (ps,v,rd,u):=by
 unfold KW at h ⊢
 split at h
 case h_2=>cases h
 grind
theorem afn {t:TypeId} {s x:AV} {ps:List Prop} {v:AV} {rd:List Nat} {u:xD} (h:KX P σ t s x=some (ps,v,rd,u)) (hs:∀ k∈rd,au gj k=au σ k):KX P gj t s x=some (ps,v,rd,u):=by
 unfold KX at h ⊢
 split at h
 case h_2=>cases h
 rename_i e he
 split at h
 case h_2=>cases h
 rename_i sz b z k off m xB hb hz
 split at h
 case h_2=>cases h
 rename_i n gt pr ps' rd' o Bo ho
 split at h
 case h_2=>cases h
 rename_i KO
 have hrd:rd=k :: rd':=by simp only [aL,aG] at h;exact h.2.2.1.symm
 rw [JD Bo (fun k hk=>hs k (by rw [hrd];simp [hk]))]
 grind
theorem afo {t:TypeId} {s x:AV} {ps:List Prop} {v:AV} {rd:List Nat} {u:xD} (h:KY P nk σ t s x=some (ps,v,rd,u)) (hs:∀ k∈rd,au gj k=au σ k):KY P nk gj t s x=some (ps,v,rd,u):=by
 unfold KY at h ⊢
 split at h
 case h_2=>cases h
 rename_i e he
 split at h
 case h_2=>cases h
 rename_i sz b z k off m xB hb hz
 split at h
 case h_2=>cases h
 rename_i n gt pr ps' rd' o Bo ho
 split at h
 case h_2=>cases h
 rename_i KO
 have hrd:rd=k :: rd':=by simp only [aL,aG] at h;exact h.2.2.1.symm
 rw [JD Bo (fun k hk=>hs k (by rw [hrd];simp [hk]))]
 grind
theorem ac4 {t:TypeId} {x:AV} {ps:List Prop} {v:AV} {rd:List Nat} {u:xD} (h:Gs P σ t x=some (ps,v,rd,u)) (hs:∀ k∈rd,au gj k=au σ k):Gs P gj t x=some (ps,v,rd,u):=by
 unfold Gs at h ⊢
 split at h
 case h_2=>cases h
 grind
theorem SY {op:Op} {e:Operand->AV} {bz:Option rS} {r:R} (h:EB P nk σ op e bz=some r) (hs:∀ k∈r.YF,au gj k=au σ k):EB P nk gj op e bz=some r:=by
 unfold EB at h ⊢
 split at h
 ·exact Xa h hs
 ·rename_i q h0
  split at h
  ·simp only [aW] at h ⊢
   obtain ⟨⟨ps,v,rd⟩,h1,rfl⟩:=h
   exact ⟨_,ac3 h1 hs,rfl⟩
  ·split at h
   ·rename_i x y t t' ha ht
    split at h
    ·rename_i hb
     simp only [aW] at h
     obtain ⟨⟨ps,v,rd,u⟩,h1,rfl⟩:=h
     simp only [ha,ht,hb,aW]
     refine ⟨⟨ps,v,rd,u⟩,?_,rfl⟩
     split at h1
     ·exact afl h1 hs
     ·exact afn h1 hs
     ·exact afo h1 hs
     ·exact Xb h1 hs
    ·cases h
   ·cases h
  ·split at h
   ·rename_i x y t t' ha ht
    simp only [aW] at h
    obtain ⟨⟨ps,v,rd,u⟩,h1,rfl⟩:=h
    simp only [ha,ht,aW]
    exact ⟨_,afm h1 hs,rfl⟩
   ·cases h
  ·split at h
   ·rename_i x t ha ht
    simp only [aW] at h
    obtain ⟨⟨ps,v,rd,u⟩,h1,rfl⟩:=h
    simp only [ha,ht,aW]
    exact ⟨_,ac4 h1 hs,rfl⟩
   ·cases h
  ·split at h
   ·simp only [aW] at h ⊢
    obtain ⟨⟨ps,v,rd⟩,h1,rfl⟩:=h
    exact ⟨_,Y1 h1 hs,rfl⟩
   ·exact h
  ·exact Xa h hs
theorem SZ {τ:eE} {e e':Operand->AV}:∀ {xs:List Operand},(∀ x∈xs,e' x=e x)->fzC τ e' xs=fzC τ e xs
 | [],_=>rfl
 | x :: r,h=>by simp only [fzC];rw [h x (by simp),SZ fun y hy=>h y (by simp [hy])]
theorem S3:∀ {τ:eE} {ps:List Prop},fzS σ τ=some ps->(∀ k∈τ.map (·.1),au gj k=au σ k)->fzS gj τ=some ps
 | [],ps,h,_=>h
 | (k,o') :: r,ps,h,hs=>by
  simp only [fzS] at h ⊢
  split at h
  ·rename_i o qs ho hr
   rw [hs k (by simp),ho,S3 hr fun k hk=>hs k (by simp_all)]
   exact h
  ·cases h
theorem aj0 {op:Op} {e e':Operand->AV} {bz:Option rS} (he:∀ x∈op.operands.toList,e' x=e x):Hv P nk σ op e' bz=Hv P nk σ op e bz:=by
 simp_all [Hv,ajY,SZ,fzA]
theorem ac5 {op:Op} {e:Operand->AV} {bz:Option rS} {r:R} (h:Hv P nk σ op e bz=some r) (hs:∀ k∈r.YF,au gj k=au σ k):Hv P nk gj op e bz=some r:=by
 unfold Hv at h ⊢
 split at h
 ·exact SY h hs
 ·split at h
  ·rename_i ps r0 h1 h2
   cases h
   rw [S3 h1 fun k hk=>hs k (List.mem_append_left _ hk),SY h2 fun k hk=>by rw [pW,pW,hs k (List.mem_append_right _ hk)]]
  ·cases h
end
end Go.Ab
namespace Go.Ab
def afp (l:List Nat) (k:Nat):Bool:=l.any fun x=>Nat.beq x k
theorem O8 {l:List Nat} {k:Nat}:afp l k=true↔k∈l:=by
 simp only [afp,List.any_eq_true]
 simp
theorem afq {a b:Nat} (h:a < b):Nat.blt a b=true:=by
 simp_all
theorem MU {a b:Nat} (h:¬ a < b):Nat.blt a b=false:=by
 cases hb:Nat.blt a b with
 | false=>rfl
 | true=>simp only [Nat.blt,Nat.ble_eq] at hb;exact (h hb).elim
theorem afr {a b:Nat} (h:Nat.blt a b=true):a < b:=by
 simp_all
def tmpsOf:List Operand->List Nat
 | []=>[]
 | .tmp t :: r=>t :: tmpsOf r
 | _ :: r=>tmpsOf r
def O9 (ops:List Oper) (o:Oper):List Nat :=
 tmpsOf o.op.operands.toList ++ (match o.guard with
  | some (j,_)=>(afg ops j).toList
  | none=>[])
theorem Pa:∀ {l:List Operand} {t:Nat},Operand.tmp t∈l->t∈tmpsOf l
 | [],_,h=>by simp at h
 | x :: r,t,h=>by
  rcases lG.1 h with rfl | h'
  ·simp [tmpsOf]
  ·have:=Pa h'
   cases x<;>simp [tmpsOf,this]
def vQ (o:Oper):List Nat:=(o.after.toList.filter (Region.binds .any ·)).map (·.on)
def S4 (ops:List Oper):Nat->Nat->Nat->Bool
 | 0,_,_=>false
 | n+1,i,j=>match ops[j]? with
  | none=>false
  | some o=>(vQ o).any fun e=>Nat.beq e i || S4 ops n i e
def Ug:Option Nat->Option Nat->Bool
 | some a,some b=>Nat.beq a b
 | _,_=>false
def meets (l m:List Nat):Bool:=l.any fun k=>afp m k
def Pb (ops:List Oper) (o p:Oper) (x y:Rec):Bool :=
 meets x.dst.toList (O9 ops p) || meets y.dst.toList (O9 ops o) || meets (lH x.pU) (y.YF ++ lH y.pU) || meets x.YF (lH y.pU)
def Y2 (ops:List Oper) (dX:List Rec) (i j:Nat):Bool :=
 match ops[i]?,ops[j]?,dX[i]?,dX[j]? with
 | some o,some p,some x,some y=>!Ug x.dst y.dst && (!Pb ops o p x y || S4 ops ops.length i j)
 | _,_,_,_=>false
def Uh (ops:List Oper) (j:Nat):Bool :=
 match ops[j]? with
 | some o=>(vQ o).all fun e=>Nat.blt e j
 | none=>false
def afs (ops:List Oper) (dX:List Rec):Bool :=
 (List.range ops.length).all fun j=>Uh ops j && (List.range j).all fun i=>Y2 ops dX i j
def R1 (L:Nat->Bool):List Rec->Nat->List (Nat×AV)->List (Nat×AV)
 | [],_,tm=>tm
 | x :: r,i,tm=>R1 L r (i+1) (match L i with
  | true=>MQ tm x.dst x.val
  | false=>tm)
def Bu (L:Nat->Bool):List Rec->Nat->eE->eE
 | [],_,σ=>σ
 | x :: r,i,σ=>Bu L r (i+1) (match L i with
  | true=>gS σ x.pU
  | false=>σ)
theorem pX:∀ (u:xD) (σ:eE) (k:Nat),au (gS σ u) k=if k∈lH u then au (gS [] u) k else au σ k
 | [],σ,k=>by simp [lH,gS]
 | (n,some o) :: r,σ,k=>by
  simp only [gS]
  rw [pX r (sset σ n o) k,pX r (sset [] n o) k,bj,bj]
  by_cases h1:k∈lH r
  ·simp [lH] at h1 ⊢;simp [h1]
  ·by_cases h2:n=k
   ·subst h2;simp [lH]
   ·have:¬ k∈lH ((n,some o) :: r):=by simp [lH] at h1 ⊢;exact ⟨fun h=>h2 h.symm,h1⟩
    rw [if_neg h1,if_neg h2,if_neg this]
 | (n,none) :: r,σ,k=>by
  simp only [gS]
  rw [pX r (Bm σ n) k,pX r (Bm [] n) k,im,im]
  by_cases h1:k∈lH r
  ·simp [lH] at h1 ⊢;simp [h1]
  ·by_cases h2:n=k
   ·subst h2;simp [lH]
   ·have:¬ k∈lH ((n,none) :: r):=by simp [lH] at h1 ⊢;exact ⟨fun h=>h2 h.symm,h1⟩
    rw [if_neg h1,if_neg h2,if_neg this]
theorem Pc {L L':Nat->Bool} {t:Nat}:∀ (dX:List Rec) (i:Nat) (tm Y3:List (Nat×AV)),fz tm t=fz Y3 t ->
  (∀ (m:Nat) (x:Rec),dX[m]?=some x->L (i+m)≠L' (i+m)->x.dst≠some t)->fz (R1 L dX i tm) t=fz (R1 L' dX i Y3) t
 | [],_,_,_,h,_=>h
 | x :: r,i,tm,Y3,h,hd=>by
  simp only [R1]
  refine Pc r (i+1) _ _ ?_ (fun m y hy gH=>hd (m+1) y (by simpa using hy) (by grind))
  by_cases he:L i=L' i
  ·grind [tJ]
  ·have:=hd 0 x (by simp) (by simpa using he)
   have e1:fz (MQ tm x.dst x.val) t=fz tm t:=by rw [tJ,if_neg this]
   have e2:fz (MQ Y3 x.dst x.val) t=fz Y3 t:=by rw [tJ,if_neg this]
   grind
theorem K0 {L L':Nat->Bool} {k:Nat}:∀ (dX:List Rec) (i:Nat) (σ gj:eE),au σ k=au gj k ->
  (∀ (m:Nat) (x:Rec),dX[m]?=some x->L (i+m)≠L' (i+m)->k ∉ lH x.pU)->au (Bu L dX i σ) k=au (Bu L' dX i gj) k
 | [],_,_,_,h,_=>h
 | x :: r,i,σ,gj,h,hd=>by
  simp only [Bu]
  refine K0 r (i+1) _ _ ?_ (fun m y hy gH=>hd (m+1) y (by simpa using hy) (by grind))
  by_cases he:L i=L' i
  ·grind [pX]
  ·have:=hd 0 x (by simp) (by simpa using he)
   have e1:au (gS σ x.pU) k=au σ k:=by rw [pX,if_neg this]
   have e2:au (gS gj x.pU) k=au gj k:=by rw [pX,if_neg this]
   grind
theorem abe {L:Nat->Bool} {i0:Nat} {x:Rec} {t:Nat}:∀ (dX:List Rec) (i:Nat) (tm:List (Nat×AV)),i<=i0->dX[i0 - i]?=some x ->
  (∀ (m:Nat) (y:Rec),dX[m]?=some y->i0 < i+m->x.dst=some t->y.dst≠some t) ->
  fz (R1 (fun q=>L q || Nat.beq q i0) dX i tm) t=if x.dst=some t then x.val else fz (R1 L dX i tm) t
 | [],i,tm,_,h,_=>by simp at h
 | y :: r,i,tm,hi,h,hd=>by
  simp only [R1]
  by_cases he:i=i0
  ·subst he
   simp at h;subst h
   rw [xA rfl,Bool.or_true]
   have amC:∀ tm1 tm2:List (Nat×AV),fz tm1 t=fz tm2 t->fz (R1 (fun q=>L q || Nat.beq q i) r (i+1) tm1) t=fz (R1 L r (i+1) tm2) t:=by
    intro tm1 tm2 h12
    refine Pc r (i+1) _ _ h12 ?_
    intro m z hz gH
    exfalso
    apply gH
    rw [tH (by omega),Bool.or_false]
   by_cases hx:y.dst=some t
   ·rw [if_pos hx]
    have Ei:∀ (l:List Rec) (n:Nat) (tm:List (Nat×AV)) (M:Nat->Bool),(∀ (m:Nat) (z:Rec),l[m]?=some z->z.dst≠some t)->fz (R1 M l n tm) t=fz tm t:=by
     intro l
     induction l with
     | nil=>intro n tm M _;rfl
     | cons z l ih =>
      intro n tm M hz
      simp only [R1]
      rw [ih _ _ _ (fun m u hu=>hz (m+1) u (by simpa using hu))]
      split
      ·rw [tJ,if_neg (hz 0 z (by simp))]
      ·rfl
    rw [Ei r _ _ _ (fun m z hz=>hd (m+1) z (by simpa using hz) (by omega) hx),tJ,if_pos hx]
   ·rw [if_neg hx]
    refine amC _ _ ?_
    rw [tJ,if_neg hx]
    split
    ·rw [tJ,if_neg hx]
    ·rfl
  ·rw [tH he,Bool.or_false]
   refine abe r (i+1) _ (by omega) ?_ (fun m z hz iQ=>hd (m+1) z (by simpa using hz) (by omega))
   rw [show i0 - i=(i0 - (i+1))+1 by omega] at h
   simpa using h
theorem Xc {L:Nat->Bool} {i0:Nat} {x:Rec} {k:Nat}:∀ (dX:List Rec) (i:Nat) (σ:eE),i<=i0->dX[i0 - i]?=some x ->
  (∀ (m:Nat) (y:Rec),dX[m]?=some y->i0 < i+m->L (i+m)=true->k∈lH x.pU->k ∉ lH y.pU) ->
  au (Bu (fun q=>L q || Nat.beq q i0) dX i σ) k=if k∈lH x.pU then au (gS [] x.pU) k else au (Bu L dX i σ) k
 | [],i,σ,_,h,_=>by simp at h
 | y :: r,i,σ,hi,h,hd=>by
  simp only [Bu]
  by_cases he:i=i0
  ·subst he
   simp at h;subst h
   rw [xA rfl,Bool.or_true]
   by_cases hx:k∈lH y.pU
   ·rw [if_pos hx]
    have Ei:∀ (l:List Rec) (n:Nat) (σ:eE) (M:Nat->Bool),(∀ (m:Nat) (z:Rec),l[m]?=some z->M (n+m)=true->k ∉ lH z.pU)->au (Bu M l n σ) k=au σ k:=by
     intro l
     induction l with
     | nil=>intro n tm M _;rfl
     | cons z l ih =>
      intro n σ M hz
      simp only [Bu]
      rw [ih _ _ _ (fun m u hu hM=>hz (m+1) u (by simpa using hu) (by grind))]
      split
      ·rename_i hM
       rw [pX,if_neg (hz 0 z (by simp) (by simpa using hM))]
      ·rfl
    rw [Ei r _ _ _ ?_,pX,if_pos hx]
    intro m z hz hM
    rw [tH (by omega),Bool.or_false] at hM
    exact hd (m+1) z (by simpa using hz) (by omega) (by grind) hx
   ·rw [if_neg hx]
    refine K0 r (i+1) _ _ ?_ ?_
    ·rw [pX,if_neg hx]
     split
     ·rw [pX,if_neg hx]
     ·rfl
    ·intro m z hz gH
     exfalso
     apply gH
     rw [tH (by omega),Bool.or_false]
  ·rw [tH he,Bool.or_false]
   refine Xc r (i+1) _ (by omega) ?_ (fun m z hz iQ hL=>hd (m+1) z (by simpa using hz) (by omega) (by grind))
   grind
theorem abf:∀ (dX:List Rec) (i:Nat) (tm:List (Nat×AV)) (L:Nat->Bool),(∀ m,m < dX.length->L (i+m)=true)->R1 L dX i tm=MR dX tm
 | [],_,_,_,_=>rfl
 | x :: r,i,tm,L,h=>by
  simp only [R1,MR]
  have:=h 0 (by simp)
  rw [Nat.add_zero] at this
  rw [this,abf r (i+1) _ L (fun m hm=>by rw [show i+1+m=i+(m+1) by omega];simp_all)]
theorem Xd:∀ (dX:List Rec) (i:Nat) (σ:eE) (L:Nat->Bool),(∀ m,m < dX.length->L (i+m)=true)->Bu L dX i σ=ED dX σ
 | [],_,_,_,_=>rfl
 | x :: r,i,σ,L,h=>by
  simp only [Bu,ED]
  have:=h 0 (by simp)
  rw [Nat.add_zero] at this
  rw [this,Xd r (i+1) _ L (fun m hm=>by rw [show i+1+m=i+(m+1) by omega];simp_all)]
theorem Pd:∀ (dX:List Rec) (i:Nat) (tm:List (Nat×AV)) (L:Nat->Bool),(∀ m,m < dX.length->L (i+m)=false)->R1 L dX i tm=tm
 | [],_,_,_,_=>rfl
 | x :: r,i,tm,L,h=>by
  simp only [R1]
  have:=h 0 (by simp)
  rw [Nat.add_zero] at this
  rw [this,Pd r (i+1) _ L (fun m hm=>by rw [show i+1+m=i+(m+1) by omega];simp_all)]
theorem K3:∀ (dX:List Rec) (i:Nat) (σ:eE) (L:Nat->Bool),(∀ m,m < dX.length->L (i+m)=false)->Bu L dX i σ=σ
 | [],_,_,_,_=>rfl
 | x :: r,i,σ,L,h=>by
  simp only [Bu]
  have:=h 0 (by simp)
  rw [Nat.add_zero] at this
  rw [this,K3 r (i+1) _ L (fun m hm=>by rw [show i+1+m=i+(m+1) by omega];simp_all)]
section
variable {P:Program}
theorem S5 {nt nk:Nat} {ops:List Oper} {orcs:List (Nat×rS)}:∀ (l:List Oper) (i:Nat) (tm:List (Nat×AV)) (σ:eE) (dX:List Rec),xS P nt ops nk orcs l i tm σ=some dX ->
  dX.length=l.length/\∀ (m:Nat) (x:Rec),dX[m]?=some x->∃ o,l[m]?=some o /\
   Hw P nt ops (nk+16 * (i+m)) (R1 (fun q=>Nat.blt q (i+m)) dX i tm) (Bu (fun q=>Nat.blt q (i+m)) dX i σ) o (vg orcs (i+m))=some x
 | [],i,tm,σ,dX,h=>by
  simp only [xS,aL] at h
  simp_all
 | o :: r,i,tm,σ,dX,h=>by
  simp only [xS] at h
  split at h
  ·cases h
  ·rename_i x0 Y4
   simp only [aW] at h
   obtain ⟨l',h2,rfl⟩:=h
   obtain ⟨h3,h4⟩:=S5 r (i+1) _ _ l' h2
   refine ⟨by simp [h3],?_⟩
   intro m x hx
   cases m with
   | zero =>
    simp at hx;subst hx
    refine ⟨o,by simp,?_⟩
    simp only [Nat.add_zero,R1,Bu]
    have hii:Nat.blt i i=false:=MU (by omega)
    rw [hii]
    rw [Pd,K3]
    ·exact Y4
    ·intro m _;exact MU (by omega)
    ·intro m _;exact MU (by omega)
   | succ m =>
    obtain ⟨o',Cq,he⟩:=h4 m x (by simpa using hx)
    refine ⟨o',by simpa using Cq,?_⟩
    have hii:Nat.blt i (i+(m+1))=true:=afq (by omega)
    simp only [R1,Bu]
    rw [hii]
    rw [show i+(m+1)=i+1+m by omega]
    exact he
theorem Ui {nk:Nat} {op:Op} {e e':Operand->AV} {bz:Option rS} {σ:eE} (he:∀ x∈op.operands.toList,e' x=e x):EC P nk σ op e' bz=EC P nk σ op e bz:=by
 unfold EC
 split
 ·unfold JB
  split
  ·rename_i f args SN
   have mem:∀ x,x∈f :: args.toList->e' x=e x:=by
    intro x hx
    refine he x ?_
    simp only [Op.operands,Call.operands] at *
    simpa using hx
   rw [mem f (by simp),lU mem,List.map_congr_left (fun x hx=>by rw [mem x (List.mem_cons_of_mem _ hx)]:∀ x∈args.toList,(e' x).strip.1=(e x).strip.1)]
  ·rfl
 ·exact aj0 he
theorem K4 {nk:Nat} {op:Op} {e:Operand->AV} {bz:Option rS} {σ gj:eE} {r:R} (h:EC P nk σ op e bz=some r) (hs:∀ k∈r.YF,au gj k=au σ k):EC P nk gj op e bz=some r:=by
 unfold EC at h ⊢
 split at h
 ·unfold JB at h ⊢
  grind
 ·exact ac5 h hs
theorem ac6 {nt nk:Nat} {ops:List Oper} {tm Y3:List (Nat×AV)} {σ gj:eE} {o:Oper} {bz:Option rS} {x:Rec} (h:Hw P nt ops nk tm σ o bz=some x)
  (ht:∀ t∈O9 ops o,fz Y3 t=fz tm t) (hs:∀ k∈x.YF,au gj k=au σ k):Hw P nt ops nk Y3 gj o bz=some x:=by
 have he:∀ y∈o.op.operands.toList,Hu Y3 y=Hu tm y:=by
  intro y hy
  cases y with
  | tmp t=>exact ht t (by simp only [O9,List.mem_append];exact .inl (Pa hy))
  | _=>rfl
 unfold Hw at h ⊢
 split at h
 ·cases h
 ·split at h
  ·simp only [aW] at h ⊢
   obtain ⟨r,h1,rfl⟩:=h
   exact ⟨r,by rw [Ui he];exact K4 h1 hs,rfl⟩
  ·rename_i j want hgd
   split at h
   ·cases h
   ·rename_i d hd
    have htd:fz Y3 d=fz tm d:=ht d (by simp [O9,hgd,hd])
    rw [htd]
    split at h
    ·split at h
     ·rename_i g r hg h1
      split at h
      ·rename_i hu
       cases h
       rw [Ui he,K4 h1 hs,hg]
       simp [hu]
      ·cases h
     ·cases h
    ·split at h
     ·rename_i g r hg h1
      cases h
      rw [Ui he,K4 h1 hs,hg]
     ·cases h
    ·split at h
     ·rename_i g hg
      exact h
     ·cases h
theorem HU {ops:List Oper} {L:Nat->Bool} (hd:∀ j,L j=true->∀ o,ops[j]?=some o->∀ e∈vQ o,L e=true):∀ (n i j:Nat),S4 ops n i j=true ->
  (∀ o,ops[j]?=some o->∀ e∈vQ o,L e=true)->L i=true
 | 0,i,j,h,_=>by simp [S4] at h
 | n+1,i,j,h,hj=>by
  simp only [S4] at h
  split at h
  ·cases h
  ·rename_i o ho
   simp only [List.any_eq_true,Bool.or_eq_true] at h
   obtain ⟨e,he,h | h⟩:=h
   ·simp_all
   ·exact HU hd n i e h fun o' Cq e' he'=>hd e (hj o ho e he) o' Cq e' he'
def ac7 (ops:List Oper) (o p:Oper) (x y:Rec):Prop :=
 (∃ d,x.dst=some d/\d∈O9 ops p)\/(∃ d,y.dst=some d/\d∈O9 ops o)\/(∃ k,k∈lH x.pU/\(k∈y.YF\/k∈lH y.pU))\/∃ k,k∈x.YF/\k∈lH y.pU
theorem Gu {l m:List Nat} {k:Nat} (h1:k∈l) (h2:k∈m):meets l m=true:=List.any_eq_true.2 ⟨k,h1,O8.2 h2⟩
theorem ac7.Pb {ops:List Oper} {o p:Oper} {x y:Rec} (h:ac7 ops o p x y):Pb ops o p x y=true:=by
 unfold Ab.Pb
 simp only [Bool.or_eq_true]
 rcases h with ⟨d,h1,h2⟩ | ⟨d,h1,h2⟩ | ⟨k,h1,h2⟩ | ⟨k,h1,h2⟩
 ·simp_all [Gu]
 ·simp_all [Gu]
 ·grind [Gu]
 grind [Gu]
theorem ac7.symm {ops:List Oper} {o p:Oper} {x y:Rec} (h:ac7 ops o p x y):ac7 ops p o y x:=by
 rcases h with h | h | ⟨k,h1,h2 | h2⟩ | ⟨k,h1,h2⟩
 ·exact .inr (.inl h)
 ·exact .inl h
 ·exact .inr (.inr (.inr ⟨k,h2,h1⟩))
 ·exact .inr (.inr (.inl ⟨k,h2,.inr h1⟩))
 ·exact .inr (.inr (.inl ⟨k,h2,.inl h1⟩))
theorem count_set:∀ (l:List Bool) (i:Nat),l[i]?=some false->((l.set i true).filter (· == true)).length=(l.filter (· == true)).length+1
 | [],i,h=>by simp at h
 | b :: l,0,h=>by simp at h;subst h;simp
 | b :: l,i+1,h=>by
  have:=count_set l i (by simpa using h)
  cases b<;>simp_all
theorem Y5 {E:Env} {rd:Option Nat} {ds:List Deferred} {nt nk:Nat} {ops:Array Oper} {orcs:List (Nat×rS)} {tm0:List (Nat×AV)} {σ0:eE} {dX:List Rec} {Q:Exit->Act->World->Prop} (hz:∀ i,W8 P E (vg orcs i)) (hm:E.m0<=nk)
  (htr:xS P nt ops.toList nk orcs ops.toList 0 tm0 σ0=some dX) (hp:bm (O3 dX)) (RO:afs ops.toList dX=true)
  (hQ:∀ a' w' S' eB,a'.tmps.size=nt->a'.defers=ds->Good E (ED dX σ0) S' eB w'->(∀ k,nk+16 * ops.size<=k->eB k=none)->(∀ t,ak w' S' eB (a'.tmps.getD t undef) (fz (MR dX tm0) t))->Q .normal a' w') :
  ∀ (fuel:Nat) (cb:Array Bool) (a:Act) (w:World) (S:Nat->Prop) (μ:Mu),cb.size=ops.size->a.tmps.size=nt->a.defers=ds ->
   (∀ j,cb.getD j false=true->∀ o,ops.toList[j]?=some o->∀ e∈vQ o,cb.getD e false=true)->ops.size<=fuel+(cb.toList.filter (· == true)).length ->
   Good E (Bu (fun j=>cb.getD j false) dX 0 σ0) S μ w->(∀ k,nk<=k->(∀ j,nk+16 * j<=k->k < nk+16 * j+16->cb.getD j false=false)->μ k=none) ->
   (∀ t,ak w S μ (a.tmps.getD t undef) (fz (R1 (fun j=>cb.getD j false) dX 0 tm0) t)) ->
   wpAnyIn (FW rd) 0 P .any ops Q fuel cb a w:=by
 obtain ⟨hlen,ui⟩:=S5 ops.toList 0 tm0 σ0 dX htr
 simp only [Nat.zero_add] at ui
 have CE:∀ j,j < ops.size->Uh ops.toList j=true/\∀ i,i < j->Y2 ops.toList dX i j=true:=by
  intro j hj
  have:=List.all_eq_true.1 RO j (zP.2 (by simpa using hj))
  simp only [a7] at this
  exact ⟨this.1,fun i hi=>List.all_eq_true.1 this.2 i (zP.2 hi)⟩
 have alq:∀ j o,ops.toList[j]?=some o->∀ e∈vQ o,e < j:=by
  intro j o ho e he
  have hj:j < ops.size:=by simpa using (fe.1 ho).1
  have h1:=(CE j hj).1
  unfold Uh at h1
  rw [ho] at h1
  exact afr (List.all_eq_true.1 h1 e he)
 have aft:∀ i j o p x y,i < j->ops.toList[i]?=some o->ops.toList[j]?=some p->dX[i]?=some x->dX[j]?=some y ->
   Ug x.dst y.dst=false/\(Pb ops.toList o p x y=true->S4 ops.toList ops.toList.length i j=true):=by
  intro i j o p x y hij ho wW hx hy
  have hj:j < ops.size:=by simpa using (fe.1 wW).1
  have h1:=(CE j hj).2 i hij
  unfold Y2 at h1
  rw [ho,wW,hx,hy] at h1
  simp only [a7,Bool.not_eq_true',Bool.or_eq_true] at h1
  refine ⟨h1.1,fun hc=>?_⟩
  rcases h1.2 with h2 | h2
  ·rw [hc] at h2;cases h2
  ·exact h2
 -- what is ready
 have Y6:∀ (cb:Array Bool),cb.size=ops.size->∀ i,i∈Region.ready .any ops cb↔(i < ops.size/\cb.getD i false=false/\∀ o,ops.toList[i]?=some o->∀ e∈vQ o,cb.getD e false=true):=by
  intro cb hls i
  unfold Region.ready
  simp only [List.mem_filter,zP,a7,Bool.not_eq_true']
  constructor
  ·rintro ⟨h1,h2,h3⟩
   have hl:i < cb.size:=by omega
   refine ⟨h1,?_,?_⟩
   ·simp only [As,lF hl,Option.getD_some] at h2 ⊢;exact h2
   ·intro o ho e he
    have Cq:ops[i]?=some o:=by simpa using ho
    simp only [Cq,Option.map_some,Option.getD_some,Array.all_eq_true'] at h3
    simp only [vQ,List.mem_map,List.mem_filter] at he
    obtain ⟨ed,⟨hed,hbd⟩,rfl⟩:=he
    have:=h3 ed (by simpa using hed)
    rw [hbd] at this
    simpa only [Bool.not_true,Bool.false_or] using this
  ·rintro ⟨h1,h2,h3⟩
   have hl:i < cb.size:=by omega
   refine ⟨h1,?_,?_⟩
   ·simp only [As,lF hl,Option.getD_some] at h2 ⊢;exact h2
   ·have ho:ops[i]?=some ops[i]:=lF h1
    simp only [ho,Option.map_some,Option.getD_some,Array.all_eq_true']
    intro ed hed
    simp only [Bool.or_eq_true,Bool.not_eq_true']
    cases hb:Region.binds .any ed with
    | false=>exact .inl rfl
    | true =>
     right
     exact h3 ops[i] (by simp) ed.on (by simp only [vQ,List.mem_map,List.mem_filter];exact ⟨ed,⟨by simpa using hed,hb⟩,rfl⟩)
 intro fuel
 -- the end
 have fin:∀ (cb:Array Bool) (a:Act) (w:World) (S:Nat->Prop) (μ:Mu),cb.size=ops.size->a.tmps.size=nt->a.defers=ds->(∀ j,j < ops.size->cb.getD j false=true) ->
   Good E (Bu (fun j=>cb.getD j false) dX 0 σ0) S μ w->(∀ k,nk<=k->(∀ j,nk+16 * j<=k->k < nk+16 * j+16->cb.getD j false=false)->μ k=none) ->
   (∀ t,ak w S μ (a.tmps.getD t undef) (fz (R1 (fun j=>cb.getD j false) dX 0 tm0) t))->Q .normal a w:=by
  intro cb a w S μ hls hs hdf hal g hk ht
  have hL:∀ m,m < dX.length->(fun j=>cb.getD j false) (0+m)=true:=fun m jl=>by
   rw [Nat.zero_add];exact hal m (by rw [hlen] at jl;simpa using jl)
  rw [Xd dX 0 σ0 _ hL] at g
  refine hQ a w S μ hs hdf g (fun k tg=>hk k (by omega) fun j hj hj2=>?_) (fun t=>by rw [<- abf dX 0 tm0 (fun j=>cb.getD j false) hL];exact ht t)
  have:cb.size<=j:=by omega
  simp [As,Array.getElem?_eq_none this]
 have apc:∀ (cb:Array Bool),cb.size=ops.size->(∀ j,cb.getD j false=true->∀ o,ops.toList[j]?=some o->∀ e∈vQ o,cb.getD e false=true)->Region.ready .any ops cb=[]->∀ j,j < ops.size->cb.getD j false=true:=by
  intro cb hls hdc hr j
  induction j using Nat.strongRecOn with
  | _ j ih =>
   intro hj
   cases hb:cb.getD j false with
   | true=>rfl
   | false =>
    have:j∈Region.ready .any ops cb:=(Y6 cb hls j).2 ⟨hj,hb,fun o ho e he=>ih e (alq j o ho e he) (by have:=alq j o ho e he;omega)⟩
    rw [hr] at this;simp at this
 induction fuel with
 | zero =>
  intro cb a w S μ hls hs hdf hdc alr g hk ht
  simp only [wpAnyIn]
  have hal:∀ j,j < ops.size->cb.getD j false=true:=by
   have hle:(cb.toList.filter (· == true)).length=cb.toList.length:=by
    have h1:=List.length_filter_le (· == true) cb.toList
    simp at h1 alr ⊢;omega
   have h2:=List.length_filter_eq_length_iff.1 hle
   intro j hj
   have hl:j < cb.size:=by omega
   have:=h2 cb[j] (by simp)
   simp only [As,lF hl,Option.getD_some]
   simpa using this
  refine ⟨?_,fin cb a w S μ hls hs hdf hal g hk ht⟩
  cases hr:Region.ready .any ops cb with
  | nil=>rfl
  | cons i r =>
   have:=(Y6 cb hls i).1 (by rw [hr];simp)
   rw [hal i this.1] at this
   simp at this
 | succ fuel ih =>
  intro cb a w S μ hls hs hdf hdc alr g hk ht
  simp only [wpAnyIn]
  refine ⟨fun hr=>fin cb a w S μ hls hs hdf (apc cb hls hdc hr) g hk ht,?_⟩
  intro i hi
  obtain ⟨m5,Ww,Of⟩:=(Y6 cb hls i).1 hi
  have apd:i < dX.length:=by rw [hlen];simpa using m5
  have hx:dX[i]?=some dX[i]:=ud apd
  obtain ⟨o,ho,hev⟩:=ui i _ hx
  generalize dX[i]=x at hx hev
  have hpx:bm x.SC:=by
   have:∀ (l:List Rec) (i:Nat),bm (O3 l)->l[i]?=some x->bm x.SC:=by
    intro l
    induction l with
    | nil=>intro i _ h;simp at h
    | cons y l ih =>
     intro i h hi
     obtain ⟨h1,h2⟩:=bm.app h
     cases i with
     | zero=>simp at hi;exact hi ▸ h1
     | succ i=>exact ih i h2 (by simpa using hi)
   exact this dX i hp hx
  -- an operation that meets this one is carried out just if it stands before it
  have order:∀ (j:Nat) (p:Oper) (y:Rec),j≠i->ops.toList[j]?=some p->dX[j]?=some y->ac7 ops.toList o p x y->Nat.blt j i=cb.getD j false:=by
   intro j p y gH hpj hyj hc
   rcases Nat.lt_or_gt_of_ne gH with iQ | hgt
   ·rw [afq iQ]
    exact (HU (L:=fun j=>cb.getD j false) hdc _ j i ((aft j i p o y x iQ hpj ho hyj hx).2 hc.symm.Pb) (fun o' Cq e he=>by rw [ho] at Cq;cases Cq;exact Of o ho e he)).symm
   ·rw [MU (by omega)]
    cases hb:cb.getD j false with
    | false=>rfl
    | true =>
     have:=HU (L:=fun j=>cb.getD j false) hdc _ i j ((aft i j o p x y hgt ho hpj hx hyj).2 hc.Pb) (fun o' Cq e he=>hdc j hb o' Cq e he)
     have:cb.getD i false=true:=this
     rw [Ww] at this;cases this
  have abg:∀ (m:Nat) (y:Rec),dX[m]?=some y->∃ p,ops.toList[m]?=some p:=fun m y hy=>let ⟨p,wW,_⟩:=ui m y hy;⟨p,wW⟩
  have ape:Hw P nt ops.toList (nk+16 * i) (R1 (fun j=>cb.getD j false) dX 0 tm0) (Bu (fun j=>cb.getD j false) dX 0 σ0) o (vg orcs i)=some x:=by
   refine ac6 hev ?_ ?_
   ·intro t htl
    refine Pc dX 0 _ _ rfl ?_
    intro m y hy gH ari
    rw [Nat.zero_add] at gH
    obtain ⟨p,wW⟩:=abg m y hy
    by_cases Jq:m=i
    ·subst Jq;exact gH (by rw [Ww,MU (by omega)])
    ·exact gH (order m p y Jq wW hy (.inr (.inl ⟨t,ari,htl⟩))).symm
   ·intro k hkr
    refine K0 dX 0 _ _ rfl ?_
    intro m y hy gH hku
    rw [Nat.zero_add] at gH
    obtain ⟨p,wW⟩:=abg m y hy
    by_cases Jq:m=i
    ·subst Jq;exact gH (by rw [Ww,MU (by omega)])
    ·exact gH (order m p y Jq wW hy (.inr (.inr (.inr ⟨k,hkr,hku⟩)))).symm
  have amE:i < cb.size:=by omega
  have OY:∀ j,(cb.setIfInBounds i true).getD j false=(cb.getD j false || Nat.beq j i):=by
   intro j
   by_cases hji:j=i
   ·subst hji
    rw [xA rfl,Bool.or_true]
    simp [As,amE]
   ·rw [tH hji,Bool.or_false]
    simp only [As]
    rw [Array.getElem?_setIfInBounds_ne (fun h=>hji h.symm)]
  have apf:(fun j=>(cb.setIfInBounds i true).getD j false)=fun q=>cb.getD q false || Nat.beq q i:=funext OY
  have aa4:∀ q,q < 16->μ (nk+16 * i+q)=none:=fun q hq=>hk _ (by omega) fun j hj hj2=>by
   have hji:j=i:=by omega
   rw [hji];exact Ww
  refine SU (by simpa using ho) ht g aa4 (by omega) (hz i) ape hpx ?_
  intro v w' S' eB q1 q2 q3 q4
  obtain ⟨d1,d2⟩:=SV ape
  refine ih _ _ w' S' eB (by simp [hls]) (by rw [W6];exact hs) (by rw [MT];exact hdf) ?_ ?_ ?_ ?_ ?_
  ·intro j hj o' Cq e he
   rw [OY] at hj ⊢
   rw [Bool.or_eq_true] at hj ⊢
   rcases hj with hj | hj
   ·exact .inl (hdc j hj o' Cq e he)
   ·have:=cw hj
    subst this
    exact .inl (Of o' Cq e he)
  ·have hc:=count_set cb.toList i (by
    rw [Array.getElem?_toList,lF amE]
    simp only [As,lF amE,Option.getD_some] at Ww
    rw [Ww])
   rw [Array.toList_setIfInBounds,hc]
   omega
  ·rw [apf]
   refine q2.congr ?_
   intro k
   rw [Xc dX 0 σ0 (Nat.zero_le _) (by simpa using hx) ?_,pX x.pU (Bu (fun j=>cb.getD j false) dX 0 σ0)]
   intro m y hy iQ hL hku ark
   rw [Nat.zero_add] at iQ hL
   obtain ⟨p,wW⟩:=abg m y hy
   have:=order m p y (by omega) wW hy (.inr (.inr (.inl ⟨k,hku,.inr ark⟩)))
   rw [MU (by omega)] at this
   rw [<- this] at hL;cases hL
  ·intro k tg Ei
   have hki:k < nk+16 * i\/nk+16 * i+16<=k:=by
    rcases Nat.lt_or_ge k (nk+16 * i) with h1 | h1
    ·exact .inl h1
    ·rcases Nat.lt_or_ge k (nk+16 * i+16) with h2 | h2
     ·have:=Ei i h1 h2
      rw [OY,xA rfl,Bool.or_true] at this
      cases this
     ·exact .inr h2
   refine q3 k hki (hk k tg fun j hj hj2=>?_)
   have:=Ei j hj hj2
   rw [OY,Bool.or_eq_false_iff] at this
   exact this.1
  ·intro t
   rw [apf,abe dX 0 tm0 (Nat.zero_le _) (by simpa using hx) ?_,abd a x.dst v t (fun n hn=>by rw [hs];exact d2 n (d1 ▸ hn))]
   ·split
    ·exact q4
    ·exact (ht t).ext q1
   ·intro m y hy iQ hxd hyd
    rw [Nat.zero_add] at iQ
    obtain ⟨p,wW⟩:=abg m y hy
    have:=(aft i m o p x y iQ ho wW hx hy).1
    rw [hxd,hyd] at this
    simp only [Ug] at this
    rw [xA rfl] at this;cases this
end
end Go.Ab
namespace Go.Ab
inductive Wd where
 | af
 | sl (n:Nat) (g:Nat->List AV)
 | lx (n:Nat)
 | sC (k:Nat)
 | pt (b:Bool) (cs:List AV)
 | nq (st:Option Bool) (d:Wd)
 | unq (d:Wd)
 | agg (ds:List Wd)
 | tup (ds:List Wd)
def Uj:List AV->List AV->Prop
 | [],[]=>True
 | a :: as,b :: bs=>(a=b\/(a=.nil/\∃ f,b=.sl 0 f))/\Uj as bs
 | _,_=>False
theorem Uj.len:∀ {as bs:List AV},Uj as bs->bs.length=as.length
 | [],[],_=>rfl
 | _ :: _,_ :: _,h=>congrArg (·+1) (Uj.len h.2)
theorem Uj.get:∀ {as bs:List AV} {j:Nat} {x:AV},Uj as bs->bs[j]?=some x->∃ a,as[j]?=some a/\(a=x\/(a=.nil/\∃ f,x=.sl 0 f))
 | [],[],_,_,_,hx=>by simp at hx
 | a :: _,b :: _,0,x,h,hx=>by
  have:b=x:=by simpa using hx
  subst this
  exact ⟨a,rfl,h.1⟩
 | _ :: as,_ :: bs,j+1,x,h,hx=>by
  have:=Uj.get (as:=as) (bs:=bs) (j:=j) (x:=x) h.2 (by simpa using hx)
  simpa using this
theorem amF {w:World} {S:Nat->Prop} {μ:Mu} {v:Value} {a x:AV} (h:a=x\/(a=.nil/\∃ f,x=.sl 0 f)) (hv:ak w S μ v a):ak w S μ v x:=by
 rcases h with rfl | ⟨rfl,f,rfl⟩
 ·exact hv
 ·cases hv
  exact .sl 0 0 0 (fun _ _=>undef) (fun h=>absurd h (by decide)) (fun i h=>absurd h (fj _)) (fun i j h=>absurd h (fj _)) (fun i j c h=>absurd h (fj _)) (aN _)
inductive Od where
 | af (k:Nat)
 | arr (k:Nat) (n:Nat) (g:Nat->List AV)
 | arz (k:Nat) (n:Nat) (g:Nat->List AV)
 | var (k:Nat) (ds:List Wd)
 | mp (k:Nat) (cs:List AV)
 | Cr (k:Nat) (n:Nat) (l:List (Nat×Nat×Nat)) (b:Nat->List AV)
 | nim (g:Nat->List AV)
 | nil (sz:Nat) (g:Nat->List AV)
def Od.DW:Od->Option Nat
 | .af k | .arr k _ _ | .arz k _ _ | .var k _ | .mp k _ | .Cr k _ _ _=>some k
 | .nil _ _ | .nim _=>none
def an:List (Nat×Nat×Nat)->(Nat->List AV)->Nat->List AV
 | [],b,m=>b m
 | (i,k,n) :: r,b,m=>if m=i then [.os k 0 n] else an r b m
def afw (f:Nat->Option Nat):List (Nat×Nat×Nat)->Option (List (Nat×Nat×Nat))
 | []=>some []
 | (i,k,n) :: r=>match f k,afw f r with
  | some k',some l=>some ((i,k',n) :: l)
  | _,_=>none
theorem Pe {f:Nat->Option Nat} {b:Nat->List AV} {m:Nat} (hb:dT (b m)=true):∀ {l l':List (Nat×Nat×Nat)},afw f l=some l'->AV.Ay f (an l b m)=an l' b m
 | [],l',h=>by simp [afw] at h;subst h;exact SD hb
 | (i,k,n) :: r,l',h=>by
  simp only [afw] at h
  split at h
  ·rename_i k' l2 hk hl
   cases h
   simp only [an]
   split
   ·simp [AV.Ay,AV.mO,hk]
   ·exact Pe hb hl
  ·cases h
abbrev Ek:=List (Nat×Od)
def zT (m0:Nat):Ek->Nat->Option Nat
 | [],k=>match Nat.blt k m0 with
  | true=>some k
  | false=>none
 | (k',d) :: r,k=>match d.DW with
  | some q=>match Nat.beq q k with
   | true=>some k'
   | false=>zT m0 r k
  | none=>zT m0 r k
def zU:Ek->Nat->Option Od
 | [],_=>none
 | (k',d) :: r,k=>match Nat.beq k' k with
  | true=>some d
  | false=>zU r k
mutual
def Pf (σ:eE) (F:List Nat) (f:Nat->Option Nat) (fI:Ek):Wd->AV->Option (List Prop×AV)
 | .af,x=>some ([],x.mO f)
 | .sl n g,.sl n0 g0=>some ([n0=n,∀ i,i < n->g i=g0 i],.sl n g)
 | .sl n g,.os k off len=>match afp F k,au σ k with
  | true,some o=>match o.pr with
   | true=>some ([len=n,off+len<=o.len,∀ i,i < n->g i=o.get (bB off i)],.sl n g)
   | false=>none
  | _,_=>none
 | .sl n g,.nil=>some ([n=0],.sl n g)
 | .lx n,.os k off len=>(f k).map fun k'=>([len=n],.os k' off n)
 | .sC k',.nil=>match zU fI k' with
  | some (.nil _ _)=>some ([],.os k' 0 0)
  | some (.nim _)=>some ([],.os k' 0 0)
  | _=>none
 | .pt b cs,.rp cs0 off=>match off with
  | 0=>some ([b=true,cs=cs0],.pt b cs)
  | _+1=>none
 | .pt b cs,.atom v=>match v with
  | .pointer none=>some ([b=false],.pt b cs)
  | _=>none
 | .pt b cs,.pt b0 cs0=>some ([b=b0,b0=true->cs=cs0],.pt b cs)
 | .nq st d,.nq st0 y=>match y with
  | .nq _ _=>none
  | y=>(Pf σ F f fI d y).map fun (p,z)=>((st0=st) :: p,.nq st z)
 | .nq st d,.nil=>(Pf σ F f fI d .nil).map fun (p,z)=>((st≠some false) :: p,.nq st z)
 | .nq st d,y=>(Pf σ F f fI d y).map fun (p,z)=>((st=none) :: p,.nq st z)
 | .unq d,.nq _ y=>Pf σ F f fI d y
 | .agg ds,.agg cs=>(wkL σ F f fI ds cs).map fun (p,c)=>(p,.agg c)
 | .tup ds,.tup cs=>(wkL σ F f fI ds cs).map fun (p,c)=>(p,.tup c)
 | _,_=>none
def wkL (σ:eE) (F:List Nat) (f:Nat->Option Nat) (fI:Ek):List Wd->List AV->Option (List Prop×List AV)
 | [],[]=>some ([],[])
 | d :: ds,c :: cs=>match Pf σ F f fI d c,wkL σ F f fI ds cs with
  | some (p,x),some (q,xs)=>some (p ++ q,x :: xs)
  | _,_=>none
 | _,_=>none
end
def CG (σ:eE) (F:List Nat) (f:Nat->Option Nat) (fI:Ek):Od->Option (List Prop×Ob)
 | .af k=>(au σ k).map fun o=>([],o.mO f)
 | .arr k n g=>match au σ k with
  | some o=>match o.pr && !o.var && Nat.ble 1 o.sz with
   | true=>some ([o.len=n,∀ i,i < n->g i=o.get i],⟨o.var,o.sz,n,true,g⟩)
   | false=>none
  | none=>none
 | .arz k n g=>match au σ k with
  | some o=>match o.pr && !o.var && Nat.ble 1 o.sz with
   | true=>some ([n<=o.len,∀ i,i < n->Uj (o.get i) (g i)],⟨o.var,o.sz,n,true,g⟩)
   | false=>none
  | none=>none
 | .var k ds=>match au σ k with
  | some o=>match o.var && Nat.beq o.len 1 && Nat.ble 1 o.sz,wkL σ F f fI ds (o.get 0) with
   | true,some (p,cs)=>some (p,⟨true,o.sz,1,AV.oY cs,fun _=>cs⟩)
   | _,_=>none
  | none=>none
 | .mp k cs=>match au σ k with
  | some o=>match Nat.beq o.sz 0 && o.pr && Nat.beq o.len 0 with
   | true=>some ([cs=o.get 0],⟨o.var,o.sz,o.len,true,fun _=>cs⟩)
   | false=>none
  | none=>none
 | .Cr k n l b=>match au σ k,afw f l with
  | some o,some l'=>match !o.var && Nat.ble 1 o.sz with
   | true=>some ([o.len=n,∀ i,i < n->an l b i=o.get i,∀ i,i < n->dT (b i)=true],⟨false,o.sz,n,false,an l' b⟩)
   | false=>none
  | _,_=>none
 | .nim g=>some ([],⟨false,1,0,false,g⟩)
 | .nil sz g=>match Nat.ble 1 sz with
  | true=>some ([],⟨false,sz,0,true,g⟩)
  | false=>none
def Xe (σ:eE) (F:List Nat) (f:Nat->Option Nat) (fI:Ek) (tm:List (Nat×AV)):List (Nat×Wd)->Option (List Prop×List (Nat×AV))
 | []=>some ([],[])
 | (t,d) :: r=>match Pf σ F f fI d (fz tm t),Xe σ F f fI tm r with
  | some (p,x),some (q,l)=>some (p ++ q,(t,x) :: l)
  | _,_=>none
def Xf (σ:eE) (F:List Nat) (f:Nat->Option Nat) (fI:Ek):Ek->Option (List Prop×eE)
 | []=>some ([],[])
 | (k,d) :: r=>match CG σ F f fI d,Xf σ F f fI r with
  | some (p,o),some (q,l)=>some (p ++ q,(k,o) :: l)
  | _,_=>none
def Uk (m0 nk:Nat) (F:List Nat) (fI:Ek):Bool :=
 qq (fI.map (·.1)) && qq (fI.filterMap (·.2.DW)) && (fI.all fun x=>Nat.blt x.1 nk && match x.2.DW with
  | some k=>!afp F k && (match Nat.blt k m0 with
   | true=>Nat.beq x.1 k || Nat.ble m0 x.1
   | false=>Nat.ble m0 x.1)
  | none=>Nat.ble m0 x.1) && Nat.ble m0 nk
def Ni (m0:Nat) (st:St) (F:List Nat) (uX:List (Nat×Wd)) (fI:Ek) (nk:Nat):Option (List Prop×St) :=
 match Uk m0 nk F fI,Xe st.sq F (zT m0 fI) fI st.tm uX,Xf st.sq F (zT m0 fI) fI fI with
 | true,some (p,tm),some (q,σ)=>some (p ++ q,⟨tm,σ,nk⟩)
 | _,_,_=>none
def R3 (m0:Nat) (μ:Mu) (fI:Ek):Mu:=fun k =>
 if k < m0 then μ k else match zU fI k with
  | some (.nil sz _)=>some ⟨0,0,sz⟩
  | some (.nim _)=>some ⟨0,0,1⟩
  | some d=>d.DW.bind μ
  | none=>none
section
variable {P:Program} {E:Env} {σ:eE} {S:Nat->Prop} {μ:Mu} {w:World} {m0 nk:Nat} {F:List Nat} {fI:Ek}
theorem Gw:∀ {fI:Ek} {k:Nat} {d:Od},zU fI k=some d->(k,d)∈fI
 | [],k,d,h=>by simp [zU] at h
 | (k',d') :: r,k,d,h=>by
  simp only [zU] at h
  split at h
  ·simp_all
  ·exact List.mem_cons_of_mem _ (Gw h)
theorem wm:∀ {fI:Ek} {k:Nat} {d:Od},qq (fI.map (·.1))=true->(k,d)∈fI->zU fI k=some d
 | [],k,d,_,h=>by simp at h
 | (k',d') :: r,k,d,hn,h=>by
  simp only [List.map_cons,qq,a7] at hn
  simp only [zU]
  rcases lG.1 h with h | h
  ·cases h;rw [xA rfl]
  ·have gH:¬ k'=k:=by
    rintro rfl
    have aeU:idx (r.map (·.1)) k'=none:=by simpa using hn.1
    obtain ⟨i,hi⟩:=List.getElem?_of_mem (List.mem_map.2 ⟨_,h,rfl⟩:k'∈r.map (·.1))
    exact pV _ _ aeU i hi
   rw [tH gH]
   exact wm hn.2 h
theorem Pg:∀ {fI:Ek} {k k':Nat},zT m0 fI k=some k'->(∃ d,(k',d)∈fI/\d.DW=some k)\/(k < m0/\k'=k)
 | [],k,k',h=>by
  simp only [zT] at h
  split at h
  ·simp_all
  ·cases h
 | (q,d) :: r,k,k',h=>by
  simp only [zT] at h
  have step:zT m0 r k=some k'->(∃ d',(k',d')∈(q,d) :: r/\d'.DW=some k)\/(k < m0/\k'=k):=fun h'=>by
   rcases Pg h' with ⟨d',h1,h2⟩ | h1
   ·grind
   ·exact .inr h1
  split at h
  ·rename_i o ho
   split at h
   ·rename_i hb
    cases h
    exact .inl ⟨d,by simp,by rw [ho,cw hb]⟩
   ·exact step h
  ·exact step h
structure Names (m0 nk:Nat) (F:List Nat) (fI:Ek):Prop where
 nd:qq (fI.map (·.1))=true
 od:qq (fI.filterMap (·.2.DW))=true
 lt:∀ k d,(k,d)∈fI->k < nk
 fr:∀ k d q,(k,d)∈fI->d.DW=some q->q ∉ F
 lo:∀ k d q,(k,d)∈fI->d.DW=some q->q < m0->k=q\/m0<=k
 hi:∀ k d q,(k,d)∈fI->d.DW=some q->m0<=q->m0<=k
 no:∀ k d,(k,d)∈fI->d.DW=none->m0<=k
 m0:m0<=nk
theorem afx (h:Uk m0 nk F fI=true):Names m0 nk F fI:=by
 unfold Uk at h
 simp only [a7,Nat.ble_eq] at h
 obtain ⟨⟨⟨h1,h2⟩,h3⟩,h4⟩:=h
 have h3:=fun k d (hm:(k,d)∈fI)=>List.all_eq_true.1 h3 (k,d) hm
 simp only [a7] at h3
 refine ⟨h1,h2,fun k d hm=>afr (h3 k d hm).1,?_,?_,?_,?_,h4⟩
 ·intro k d q hm hq hF
  have:=(h3 k d hm).2
  rw [hq] at this
  simp only [a7,Bool.not_eq_true'] at this
  grind [O8]
 ·intro k d q hm hq iQ
  have:=(h3 k d hm).2
  simp_all [a7,afq,Bool.or_eq_true_iff,cw,Nat.le_of_ble_eq_true]
 ·intro k d q hm hq hge
  have:=(h3 k d hm).2
  simp_all [a7,MU,Nat.ble_eq]
 ·intro k d hm hq
  have:=(h3 k d hm).2
  rw [hq] at this
  simpa only [Nat.ble_eq] using this
theorem Oi (N:Names m0 nk F fI) {k k':Nat} {pl:Place} (h:zT m0 fI k=some k') (hm:μ k=some pl):R3 m0 μ fI k'=some pl:=by
 rcases Pg h with ⟨d,h1,h2⟩ | ⟨h1,rfl⟩
 ·unfold R3
  by_cases iQ:k < m0
  ·rcases N.lo k' d k h1 h2 iQ with h | h
   ·simp_all
   ·rw [if_neg (by omega),wm N.nd h1]
    grind [Od.DW]
  ·have:=N.hi k' d k h1 h2 (by omega)
   rw [if_neg (by omega),wm N.nd h1]
   grind [Od.DW]
 simp_all [R3,if_pos]
theorem HV (N:Names m0 nk F fI) {k k':Nat} {d:Od} (h:(k',d)∈fI) (ho:d.DW=some k):R3 m0 μ fI k'=μ k:=by
 unfold R3
 by_cases iQ:k < m0
 ·rcases N.lo k' d k h ho iQ with h1 | h1
  ·simp_all
  ·rw [if_neg (by omega),wm N.nd h]
   grind [Od.DW]
 ·have:=N.hi k' d k h ho (by omega)
  rw [if_neg (by omega),wm N.nd h]
  grind [Od.DW]
theorem abh (N:Names m0 nk F fI) {k':Nat} {g:Nat->List AV} (h:(k',Od.nim g)∈fI):R3 m0 μ fI k'=some ⟨0,0,1⟩:=by
 have:=N.no k' _ h rfl
 unfold R3
 rw [if_neg (by omega),wm N.nd h]
theorem abi (N:Names m0 nk F fI) {k' sz:Nat} {g:Nat->List AV} (h:(k',Od.nil sz g)∈fI):R3 m0 μ fI k'=some ⟨0,0,sz⟩:=by
 have:=N.no k' _ h rfl
 unfold R3
 rw [if_neg (by omega),wm N.nd h]
theorem abj (g:Good E σ S μ w) (N:Names m0 nk F fI):∀ (d:Wd) (x:AV) (v:Value) (ps:List Prop) (y:AV),ak w S μ v x->Pf σ F (zT m0 fI) fI d x=some (ps,y)->bm ps ->
  ak w (SF μ F σ S) (R3 m0 μ fI) v y:=by
 have mono:∀ {v:Value} {x:AV} {eB:Mu},ak w S eB v x->ak w (SF μ F σ S) eB v x:=fun h=>h.mono (fun _ h=>.inl h) (fun _ _=>rfl) (fun _ _ h=>h)
 intro d
 induction d using Wd.rec (motive_2:=fun ds=>∀ (cs:List AV) (ps:List Prop) (ys:List AV),wkL σ F (zT m0 fI) fI ds cs=some (ps,ys)->bm ps ->
   cs.length=ys.length/\∀ (j:Nat) c y v,cs[j]?=some c->ys[j]?=some y->ak w S μ v c->ak w (SF μ F σ S) (R3 m0 μ fI) v y) with
 | af =>
  intro x v ps y h hw hp
  simp only [Pf,aL,aG] at hw
  obtain ⟨rfl,rfl⟩:=hw
  exact (mono h).mO fun k k' pl hk hm=>Oi N hk hm
 | sl n gt =>
  intro x v ps y h hw hp
  cases x<;>simp only [Pf] at hw<;>try (cases hw;done)
  case sl n0 g0 =>
   simp only [aL,aG] at hw
   obtain ⟨rfl,rfl⟩:=hw
   obtain ⟨rfl,p2,_⟩:=hp
   cases h with
   | sl b off sz f h1 h2 h3 h4 h5 =>
    exact .sl b off sz f (fun hl=>⟨(h1 hl).1,.inl (h1 hl).2⟩) (fun i hi=>by simp_all) h3 (fun i j c hi hc=>mono (h4 i j c hi (by simp_all))) h5
  case os k off len =>
   split at hw
   ·rename_i o hF ho
    split at hw
    ·rename_i YD
     simp only [aL,aG] at hw
     obtain ⟨rfl,rfl⟩:=hw
     obtain ⟨rfl,p2,p3,_⟩:=hp
     obtain ⟨pl,c,T,hm,dS⟩:=g.rep.ob k o ho
     cases h with
     | os mf jl h1 h2 h3 =>
      rename_i cap a
      rw [hm] at jl;cases jl
      refine .sl pl.dD (off * pl.sz) o.sz (fun i j=>(c[(off+i) * o.sz+j]?).getD undef) ?_ (fun i hi=>by rw [p3 i hi,dc];exact dS.zw _ (by omega)) ?_ ?_ h2
      ·intro hl
       exact ⟨h1 (by omega),.inr ⟨k,o,pl,O8.1 hF,ho,hm,by omega,rfl⟩⟩
      ·intro i j hi hj
       obtain ⟨v,q1,q2⟩:=dL dS (i:=off+i) (by omega) hj
       rw [q1,dS.sz,<- dn,q2];rfl
      ·intro i j c' hi sS
       rw [p3 i hi,dc] at sS
       obtain ⟨v,q1,q2⟩:=dL dS (i:=off+i) (by omega) (by have:=(fe.1 sS).1;rwa [dS.zw _ (by omega)] at this)
       rw [q1]
       have:=dS.rep _ j c' v (by omega) sS q1
       simp_all
    ·cases hw
   ·cases hw
  case nil =>
   simp only [aL,aG] at hw
   obtain ⟨rfl,rfl⟩:=hw
   obtain ⟨rfl,_⟩:=hp
   cases h
   exact .sl 0 0 0 (fun _ _=>undef) (fun h=>absurd h (by omega)) (fun i h=>absurd h (by omega)) (fun i j h=>absurd h (by omega)) (fun i j c h=>absurd h (by omega)) (aN _)
 | lx n =>
  intro x v ps y h hw hp
  cases x<;>simp only [Pf] at hw<;>try (cases hw;done)
  case os k off len =>
   simp only [aW,aG] at hw
   obtain ⟨k',tg,rfl,rfl⟩:=hw
   obtain ⟨rfl,_⟩:=hp
   cases h with
   | os pl hm h1 h2 h3=>exact .os pl (Oi N tg hm) h1 h2 h3
 | sC k' =>
  intro x v ps y h hw hp
  cases x<;>simp only [Pf] at hw<;>try (cases hw;done)
  case nil =>
   split at hw
   ·rename_i sz gt hod
    simp only [aL,aG] at hw
    obtain ⟨rfl,rfl⟩:=hw
    cases h
    exact .os ⟨0,0,sz⟩ (abi N (Gw hod)) (fun h=>absurd h (by omega)) (aN _) (by simp)
   ·rename_i gt hod
    simp only [aL,aG] at hw
    obtain ⟨rfl,rfl⟩:=hw
    cases h
    exact .os ⟨0,0,1⟩ (abh N (Gw hod)) (fun h=>absurd h (by omega)) (aN _) (by simp)
   ·cases hw
 | pt b cs =>
  intro x v ps y h hw hp
  have other:∀ {b:Bool} {cs:List AV} {v:Value},ak w S μ v (.pt b cs)->ak w (SF μ F σ S) (R3 m0 μ fI) v (.pt b cs):=fun h=>(mono h).pure rfl _
  cases x<;>simp only [Pf] at hw<;>try (cases hw;done)
  case rp cs0 off =>
   split at hw
   ·simp only [aL,aG] at hw
    obtain ⟨rfl,rfl⟩:=hw
    obtain ⟨rfl,rfl,_⟩:=hp
    exact other (.pt (fun _=>h) (fun h=>by cases h))
   ·cases hw
  case atom v0 =>
   split at hw
   ·simp only [aL,aG] at hw
    obtain ⟨rfl,rfl⟩:=hw
    obtain ⟨rfl,_⟩:=hp
    exact other (.pt (fun h=>by cases h) (fun _=>dR h))
   ·cases hw
  case pt b0 cs0 =>
   simp only [aL,aG] at hw
   obtain ⟨rfl,rfl⟩:=hw
   obtain ⟨rfl,hcs,_⟩:=hp
   cases h with
   | pt h1 h2=>exact other (.pt (fun hb=>by rw [hcs hb];exact h1 hb) h2)
 | nq st d ih =>
  intro x v ps y h hw hp
  have fin:∀ {x0:AV} {p:List Prop} {z:AV},ak w S μ v x0->Pf σ F (zT m0 fI) fI d x0=some (p,z)->bm p->(st=some true->v=.slice none 0 0)->(st=some false->aes v=false)->ak w (SF μ F σ S) (R3 m0 μ fI) v (.nq st z) :=
   fun h0 h1 h2 h3 h4=>.nq (ih _ _ _ _ h0 h1 h2) h3 h4
  cases x with
  | nq st0 y0 =>
   have hw':∃ p z,Pf σ F (zT m0 fI) fI d y0=some (p,z)/\ps=(st0=st) :: p/\y=.nq st z:=by
    cases y0<;>simp only [Pf,aW,aG] at hw<;>grind
   obtain ⟨p,z,e1,rfl,rfl⟩:=hw'
   obtain ⟨rfl,DZ⟩:=hp
   cases h with
   | nq h0 h1 h2=>exact fin h0 e1 DZ h1 h2
  | nil =>
   simp only [Pf,aW,aG] at hw
   obtain ⟨⟨p,z⟩,e1,rfl,rfl⟩:=hw
   obtain ⟨gH,DZ⟩:=hp
   cases h
   exact fin .nil e1 DZ (fun _=>rfl) (fun e=>absurd e gH)
  | _ =>
   simp only [Pf,aW,aG] at hw
   obtain ⟨⟨p,z⟩,e1,rfl,rfl⟩:=hw
   obtain ⟨rfl,DZ⟩:=hp
   grind
 | unq d ih =>
  intro x v ps y h hw hp
  cases x with
  | nq st0 y0 =>
   simp only [Pf] at hw
   cases h with
   | nq h0 _ _=>exact ih _ _ _ _ h0 hw hp
  | _=>grind [Pf]
 | agg ds ih =>
  intro x v ps y h hw hp
  cases x<;>simp only [Pf] at hw<;>try (cases hw;done)
  case agg cs =>
   simp only [aW,aG] at hw
   obtain ⟨⟨p,c⟩,h1,rfl,rfl⟩:=hw
   obtain ⟨q1,q2⟩:=ih cs p c h1 hp
   cases h with
   | agg h2 h3 =>
    refine .agg (h2.trans q1) fun j y v hy hv=>?_
    have iQ:j < cs.length:=by rw [q1];exact (fe.1 hy).1
    exact q2 j _ y v (ud iQ) hy (h3 j _ v (ud iQ) hv)
 | tup ds ih =>
  intro x v ps y h hw hp
  cases x<;>simp only [Pf] at hw<;>try (cases hw;done)
  case tup cs =>
   simp only [aW,aG] at hw
   obtain ⟨⟨p,c⟩,h1,rfl,rfl⟩:=hw
   obtain ⟨q1,q2⟩:=ih cs p c h1 hp
   cases h with
   | tup h2 h3 =>
    refine .tup (h2.trans q1) fun j y v hy hv=>?_
    have iQ:j < cs.length:=by rw [q1];exact (fe.1 hy).1
    exact q2 j _ y v (ud iQ) hy (h3 j _ v (ud iQ) hv)
 | nil =>
  rename_i cs ps ys h hp
  cases cs with
  | nil=>simp [wkL] at h;obtain ⟨_,rfl⟩:=h;exact ⟨rfl,fun j c y v hc=>by simp at hc⟩
  | cons=>simp [wkL] at h
 | cons d ds ih1 ih2 =>
  rename_i cs ps ys h hp
  cases cs with
  | nil=>simp [wkL] at h
  | cons c cs =>
   simp only [wkL] at h
   split at h
   ·rename_i p x q xs e1 e2
    simp only [aL,aG] at h
    obtain ⟨rfl,rfl⟩:=h
    obtain ⟨Ej,DZ⟩:=bm.app hp
    obtain ⟨r1,r2⟩:=ih2 cs q xs e2 DZ
    refine ⟨by simp [r1],?_⟩
    intro j c' y v hc hy hr
    cases j with
    | zero=>simp at hc hy;subst hc hy;exact ih1 c v p x hr e1 Ej
    | succ j=>exact r2 j c' y v (by simpa using hc) (by simpa using hy) hr
   ·cases h
end
end Go.Ab
