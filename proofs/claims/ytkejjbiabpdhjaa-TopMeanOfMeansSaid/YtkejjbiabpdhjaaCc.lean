/- Abstract values over the heap of the machine, and functions read off its code (part 3). No conditions. -/
import Derived.Test.YtkejjbiabpdhjaaCb
import Derived.OrdersIn
import Derived.RangeFuncSeq
set_option linter.unusedVariables false
set_option linter.unusedSimpArgs false
namespace Go.Ab
def getTm:List (Nat×AV)→Nat→AV
 | [],_=>.unk
 | (k,x) :: r,n=>match Nat.beq k n with
  | true=>x
  | false=>getTm r n
def evOpd (tm:List (Nat×AV)):Operand→AV
 | .tmp t=>getTm tm t
 | .const v=>ofConst v
 | .global g=>.atom (.pointer (some ⟨g,0,none⟩))
 | .func f=>.fn (.func f) [] []
def conds (e:Operand→AV):List Operand→List Prop
 | []=>[]
 | x :: r=>(e x).strip.2 ++ conds e r
def pickP (b:Bool):List Prop→List Prop
 | []=>[]
 | p :: ps=>[b=true→AllP (p :: ps)]
def minmax (mx:Bool) (x y:AV):Option AV :=
 match x,y with
 | .atom (.int k a),.atom (.int k' b)=>match decide (k=k') with
  | true=>some (.atom (.int k (match mx with
   | true=>if b > a then b else a
   | false=>if b < a then b else a)))
  | false=>none
 | _,_=>none
def mmFold (mx:Bool):AV→List AV→Option AV
 | a,[]=>some a
 | a,b :: r=>match minmax mx a b with
  | some v=>mmFold mx v r
  | none=>none
def pure1 (ps:List Prop) (x:Option AV):Option R:=x.map fun v=>⟨ps,v,[],[]⟩
def hasKey (l:List Nat) (k:Nat):Bool:=l.any fun x=>Nat.beq x k
def evBuiltin (P:Program) (nk:Nat) (σ:Sto) (e:Operand→AV) (b:Builtin) (args:List Operand) (tys:List TypeId):Option R :=
 let s:=fun x=>(e x).strip.1
 let c:=fun xs=>conds e xs
 match b,args,tys with
 | .len,[x],[t]=>pure1 (c [x]) (evLen P t (s x))
 | .append,[x,y],[t,t']=>match Nat.beq t t' with
  | true=>(evAppend P nk σ t (s x) (s y)).map fun (ps,v,rd,u)=>⟨c [x,y] ++ ps,v,rd,u⟩
  | false=>none
 | .min,x :: r,_=>pure1 (c (x :: r)) (mmFold false (s x) (r.map s))
 | .max,x :: r,_=>pure1 (c (x :: r)) (mmFold true (s x) (r.map s))
 | _,_,_=>none
def evOp (P:Program) (nk:Nat) (σ:Sto) (op:Op) (e:Operand→AV) (orc:Option Orc):Option R :=
 let s:=fun x=>(e x).strip.1
 let c:=fun xs=>conds e xs
 match op with
 | .move x | .assign x=>some ⟨[],e x,[],[]⟩
 | .pick q a b=>match s q,s a,s b with
  | .atom (.bool qb),.atom (.bool x),.atom (.bool y) =>
   some ⟨(e q).strip.2 ++ (pickP qb (e a).strip.2 ++ pickP (!qb) (e b).strip.2),.atom (.bool (cond qb x y)),[],[]⟩
  | _,_,_=>none
 | .alloc T=>(evAlloc P nk T).map fun (v,u)=>⟨[],v,[],u⟩
 | .box _ x=>(evBox nk (s x)).map fun (v,u)=>⟨c [x],v,[],u⟩
 | .build t parts=>pure1 (c (parts.toList.map (·.2))) (evBuild P t (parts.toList.map fun (i,x)=>(i,s x)))
 | .buildSlice t len parts=>match Nat.beq len 0 && !parts.toList.isEmpty with
  | true=>none
  | false=>(evBuildSlice P nk t len (parts.toList.map fun (i,x)=>(i,s x))).map fun (v,u)=>⟨c (parts.toList.map (·.2)),v,[],u⟩
 | .load T a=>(evLoad P σ T (s a)).map fun (ps,v,rd)=>⟨c [a] ++ ps,v,rd,[]⟩
 | .store T a x=>(evStore P σ T (s a) (s x)).map fun (ps,u,rd)=>⟨c [a,x] ++ ps,.unk,rd,u⟩
 | .nilCheck x=>match s x with
  | .op k i j=>some ⟨c [x],.op k i j,[],[]⟩
  | .rp cs j=>some ⟨c [x],.rp cs j,[],[]⟩
  | .pt b cs=>some ⟨c [x] ++ [b=true],.rp cs 0,[],[]⟩
  | _=>none
 | .binOp o t x y _=>(evBin P o t (s x) (s y)).map fun (ps,v)=>⟨c [x,y] ++ ps,v,[],[]⟩
 | .unOp o _ x=>pure1 (c [x]) (evUn o (s x))
 | .convert src dst x=>match evConv P src dst (s x) with
  | some v=>some ⟨c [x],v,[],[]⟩
  | none=>(evConvM P σ src dst (s x)).map fun (ps,v,rd)=>⟨c [x] ++ ps,v,rd,[]⟩
 | .makeMap _ none=>some ⟨[],.mp nk,[],[(nk,some ⟨false,0,0,true,fun _=>[]⟩)]⟩
 | .lookup t m x ok=>match orc with
  | some o=>(evLookup P σ t (s m) (s x) ok o).map fun (ps,v,rd)=>⟨c [m,x] ++ ps,v,rd,[]⟩
  | none=>none
 | .mapUpdate t m x y | .insert t m x y=>match orc with
  | some o=>(evMapUpd P σ t (s m) (s x) (s y) o).map fun (ps,u,rd)=>⟨c [m,x,y] ++ ps,.unk,rd,u⟩
  | none=>none
 | .makeFunc f first cap=>some ⟨c (first.toList ++ cap.toList),.fn f (first.toList.map s) (cap.toList.map s),[],[]⟩
 | .makeSlice t l m=>(evMake P nk t (s l) (s m)).map fun (ps,v,u)=>⟨c [l,m] ++ ps,v,[],u⟩
 | .slice t x lo hi none=>(evSlice P σ t (s x) (lo.map s) (hi.map s)).map fun (ps,v,rd)=>⟨c (x :: (lo.toList ++ hi.toList)) ++ ps,v,rd,[]⟩
 | .fieldAddr T x f=>pure1 (c [x]) (evFieldAddr P T (s x) f)
 | .field T x f=>pure1 (c [x]) (evField P T (s x) f)
 | .indexAddr T x i=>(evIndexAddr P σ T (s x) (s i)).map fun (ps,v,rd)=>⟨c [x,i] ++ ps,v,rd,[]⟩
 | .index T x i=>(evIndex P T (s x) (s i)).map fun (ps,v)=>⟨c [x,i] ++ ps,v,[],[]⟩
 | .extract x i=>match s x with
  | .tup cs=>pure1 (c [x]) cs[i]?
  | _=>none
 | .call ⟨.value f,args,_⟩=>match orc with
  | some o=>(evCall P nk σ (s f) (args.toList.map s) o).map fun r=>{ r with obl:=r.obl ++ c (f :: args.toList) }
  | none=>none
 | .call ⟨.builtin b,args,tys⟩=>evBuiltin P nk σ e b args.toList tys.toList
 | _=>none
section
variable {P:Program} {E:Env} {nk:Nat} {σ:Sto} {S:Nat→Prop} {μ:Mu} {w:World}
theorem conds_get {e:Operand→AV}:∀ {xs:List Operand},AllP (conds e xs)→∀ x∈xs,AllP (e x).strip.2
 | [],_,x,hx=>by simp at hx
 | y :: r,h,x,hx=>by
  obtain ⟨h1,h2⟩:=AllP.app h
  rcases List.mem_cons.1 hx with rfl | hx
  ·exact h1
  ·exact conds_get h2 x hx
theorem pickP_get {b:Bool} {ps:List Prop} (h:AllP (pickP b ps)) (hb:b=true):AllP ps:=by
 cases ps with
 | nil=>trivial
 | cons p ps=>exact h.1 hb
theorem mm_run {mx:Bool} {ρ:Operand→Value} {e:Operand→AV}:∀ (l:List Operand) (va:Value) (a r:AV),RepX w S μ va a→(∀ x∈l,RepX w S μ (ρ x) ((e x).strip.1)) →
  mmFold mx a (l.map fun x=>(e x).strip.1)=some r→∃ z,((l.map ρ).foldlM (match mx with | true=>Builtin.max2 | false=>Builtin.min2) va:Sem Value).run P w=.ok z w∧RepX w S μ z r
 | [],va,a,r,ha,_,h=>by
  simp only [List.map_nil,mmFold,Option.some.injEq] at h
  simp_all
 | x :: l,va,a,r,ha,hl,h=>by
  simp only [List.map_cons,mmFold] at h
  split at h
  ·rename_i v hv
   have hx:=hl x (by simp)
   obtain ⟨u,h1,h2⟩:∃ u,((match mx with | true=>Builtin.max2 | false=>Builtin.min2) va (ρ x):Sem Value).run P w=.ok u w∧RepX w S μ u v:=by
    unfold minmax at hv
    split at hv
    ·rename_i k p k' q hp hq
     rw [hq] at hx
     have e2:=rep_int hx
     have e1:=rep_int ha
     split at hv
     ·cases hv
      cases mx with
      | true=>exact ⟨_,by simp [e1,e2,Builtin.max2],.atom _⟩
      | false=>exact ⟨_,by simp [e1,e2,Builtin.min2],.atom _⟩
     ·cases hv
    ·cases hv
   obtain ⟨z,h3,h4⟩:=mm_run l u v r h2 (fun y hy=>hl y (by simp [hy])) h
   simp_all
  ·cases h
theorem rep_ptr {v:Value} {b:Bool} {cs:List AV} (h:RepX w S μ v (.pt b cs)) (hb:b=true):RepX w S μ v (.rp cs 0):=by
 cases h with
 | pt h1 _=>exact h1 hb
def Goes (E:Env) (nk:Nat) (σ:Sto) (S:Nat→Prop) (μ:Mu) (w:World) (r:R) (K:Value→World→Prop):Prop :=
 ∀ v w' S' μ',Ext w S μ w' S' μ'→Good E (supd σ r.upd) S' μ' w'→(∀ k,(k < nk∨nk+16≤k)→μ k=none→μ' k=none)→RepX w' S' μ' v r.val→K v w'
theorem parts_rep {ρ:Operand→Value} {e:Operand→AV} {parts:Array (Nat×Operand)} (he:∀ x∈(parts.toList.map (·.2)),RepX w S μ (ρ x) ((e x).strip.1)) :
  (parts.map fun (i,x)=>(i,ρ x)).toList.map (·.1)=(parts.toList.map fun (i,x)=>(i,(e x).strip.1)).map (·.1) ∧
  ∀ (j:Nat) x y,(parts.toList.map fun (i,x)=>(i,(e x).strip.1))[j]?=some x→(parts.map fun (i,x)=>(i,ρ x)).toList[j]?=some y→RepX w S μ y.2 x.2:=by
 refine ⟨by simp,?_⟩
 grind
theorem list_rep {ρ:Operand→Value} {e:Operand→AV} {xs:Array Operand} (he:∀ x∈xs.toList,RepX w S μ (ρ x) ((e x).strip.1)) :
  RL w S μ (xs.map ρ) (xs.toList.map fun x=>(e x).strip.1):=by
 refine ⟨by simp,?_⟩
 grind
theorem op_sound {o:Oper} {a:Act} {e:Operand→AV} {orc:Option Orc} {r:R} {next:Act→World→Prop} {Q:Exit→Act→World→Prop}
  (he:∀ x∈o.op.operands.toList,RepX w S μ (a.eval x) (e x)) (g:Good E σ S μ w) (hk16:∀ j,j < 16→μ (nk+j)=none) (hm:E.m0≤nk)
  (hz:∀ x,orc=some x→x.frz=true→∀ b,¬ E.fp b) (h:evOp P nk σ o.op e orc=some r) (hp:AllP r.obl) (hK:Goes E nk σ S μ w r fun v w'=>next (a.put o.dst v) w'):o.wp P a w next Q:=by
 have hk:μ nk=none:=hk16 0 (by omega)
 -- a value without a change
 have pv:∀ (s:Sem Value),execOp a.eval o=(do pure (.value (← s)):Sem Next)→r.upd=[]→(∃ v,s.run P w=.ok v w∧RepX w S μ v r.val)→o.wp P a w next Q:=by
  rintro s hs hu ⟨v,h1,h2⟩
  unfold Oper.wp
  rw [hs]
  simp only [Sem.run_bind,h1,Result.andThen_ok,Sem.run_pure]
  exact hK v w S μ (Ext.refl _ _ _) (by rw [hu];exact g) (fun _ _ h=>h) h2
 have pv0:∀ (v:Value),execOp a.eval o=pure (.value v)→r.upd=[]→RepX w S μ v r.val→o.wp P a w next Q:=by
  intro v hs hu h2
  unfold Oper.wp
  rw [hs]
  exact hK v w S μ (Ext.refl _ _ _) (by rw [hu];exact g) (fun _ _ h=>h) h2
 have sv:∀ (s:Sem Value),execOp a.eval o=(do pure (.value (← s)):Sem Next)→Step P E nk σ S μ w s r.val r.upd→o.wp P a w next Q:=by
  rintro s hs ⟨v,w',S',μ',h1,h2,h3,h4,h5⟩
  unfold Oper.wp
  rw [hs]
  simp only [Sem.run_bind,h1,Result.andThen_ok,Sem.run_pure]
  exact hK v w' S' μ' h2 h3 (fun k hk'=>h4 k (by omega)) h5
 have st:∀ (xs:List Operand),AllP (conds e xs)→(∀ x∈xs,x∈o.op.operands.toList)→∀ x∈xs,RepX w S μ (a.eval x) ((e x).strip.1) :=
  fun xs h1 h2 x hx=>(he x (h2 x hx)).strip (conds_get h1 x hx)
 obtain ⟨dst,op,ty,pos,after,guard⟩:=o
 simp only at he h hK pv pv0 sv st ⊢
 cases op with
 | move x =>
  simp only [evOp,Option.some.injEq] at h;subst h
  exact pv0 (a.eval x) rfl rfl (he x (by simp [Op.operands]))
 | assign x =>
  simp only [evOp,Option.some.injEq] at h;subst h
  exact pv0 (a.eval x) rfl rfl (he x (by simp [Op.operands]))
 | pick q x y =>
  simp only [evOp] at h
  split at h
  ·rename_i qb xb yb hq hx hy
   cases h
   obtain ⟨p1,p2⟩:=AllP.app hp
   obtain ⟨p2,p3⟩:=AllP.app p2
   have e1:=(he q (by simp [Op.operands])).strip p1
   rw [hq] at e1
   have e1:=rep_int e1
   refine pv (do pure (if ← asBool (a.eval q) then a.eval x else a.eval y)) (by simp [execOp]) rfl ?_
   cases qb with
   | true =>
    have e2:=(he x (by simp [Op.operands])).strip (pickP_get p2 rfl)
    simp_all [asBool]
   | false =>
    have e2:=(he y (by simp [Op.operands])).strip (pickP_get p3 rfl)
    simp_all [asBool]
  ·cases h
 | alloc T =>
  simp only [evOp,Option.map_eq_some_iff] at h
  obtain ⟨⟨v,u⟩,h1,rfl⟩:=h
  exact sv _ rfl (ev_alloc g hk hm h1)
 | box T x =>
  simp only [evOp,Option.map_eq_some_iff] at h
  obtain ⟨⟨v,u⟩,h1,rfl⟩:=h
  exact sv _ rfl (ev_box g hk hm (st [x] hp (by simp [Op.operands]) x (by simp)) h1)
 | build t parts =>
  simp only [evOp,pure1,Option.map_eq_some_iff] at h
  obtain ⟨v,h1,rfl⟩:=h
  have hpr:=parts_rep (st _ hp (by simp [Op.operands]))
  exact pv _ rfl rfl (ev_build hpr.1 hpr.2 h1)
 | buildSlice t len parts =>
  simp only [evOp] at h
  split at h
  ·cases h
  ·rename_i hl0
   simp only [Option.map_eq_some_iff] at h
   obtain ⟨⟨v,u⟩,h1,rfl⟩:=h
   have hpr:=parts_rep (st _ hp (by simp [Op.operands]))
   refine sv _ rfl (ev_buildSlice g hk hm hpr.1 hpr.2 h1 ?_)
   intro hz
   subst hz
   simp only [Bool.and_eq_false_iff] at hl0
   rcases hl0 with h0 | h0
   ·simp at h0
   ·simp only [Bool.not_eq_false',List.isEmpty_iff] at h0
    simp [h0]
 | load T x =>
  simp only [evOp,Option.map_eq_some_iff] at h
  obtain ⟨⟨ps,v,rd⟩,h1,rfl⟩:=h
  obtain ⟨p1,p2⟩:=AllP.app hp
  exact pv _ rfl rfl (ev_load g (st [x] p1 (by simp [Op.operands]) x (by simp)) h1 p2)
 | store T x y =>
  simp only [evOp,Option.map_eq_some_iff] at h
  obtain ⟨⟨ps,u,rd⟩,h1,rfl⟩:=h
  obtain ⟨p1,p2⟩:=AllP.app hp
  have s:=st [x,y] p1 (by simp [Op.operands])
  obtain ⟨w',r1,r2,r3⟩:=ev_store g (s x (by simp)) (s y (by simp)) h1 p2
  unfold Oper.wp
  have ex:execOp a.eval ⟨dst,.store T x y,ty,pos,after,guard⟩=(do Instr.storeAt T (a.eval x) (a.eval y);pure .skip:Sem Next):=rfl
  rw [ex]
  simp only [Sem.run_bind,r1,Result.andThen_ok,Sem.run_pure]
  exact hK undef w' S μ r2 r3 (fun _ _ h=>h) .unk
 | nilCheck x =>
  simp only [evOp] at h
  split at h
  ·rename_i k i j hx
   cases h
   have e1:=st [x] hp (by simp [Op.operands]) x (by simp)
   rw [hx] at e1
   cases hv:a.eval x with
   | pointer q =>
    rw [hv] at e1
    cases q with
    | none=>cases e1
    | some q=>exact pv0 (.pointer (some q)) (by simp [execOp,hv]) rfl e1
   | _=>rw [hv] at e1;cases e1
  ·rename_i cs j hx
   cases h
   have e1:=st [x] hp (by simp [Op.operands]) x (by simp)
   rw [hx] at e1
   cases hv:a.eval x with
   | pointer q =>
    rw [hv] at e1
    cases q with
    | none=>cases e1
    | some q=>exact pv0 (.pointer (some q)) (by simp [execOp,hv]) rfl e1
   | _=>rw [hv] at e1;cases e1
  ·rename_i b cs hx
   cases h
   obtain ⟨hp,hb,_⟩:=AllP.app hp
   have e1:=st [x] hp (by simp [Op.operands]) x (by simp)
   rw [hx] at e1
   have e1:=rep_ptr e1 hb
   cases hv:a.eval x with
   | pointer q =>
    rw [hv] at e1
    cases q with
    | none=>cases e1
    | some q=>exact pv0 (.pointer (some q)) (by simp [execOp,hv]) rfl e1
   | _=>rw [hv] at e1;cases e1
  ·cases h
 | binOp o' t x y yt =>
  simp only [evOp,Option.map_eq_some_iff] at h
  obtain ⟨⟨ps,v⟩,h1,rfl⟩:=h
  obtain ⟨p1,p2⟩:=AllP.app hp
  have s:=st [x,y] p1 (by simp [Op.operands])
  exact pv (do eqGuard o' t x y (a.eval x) (a.eval y);binOp o' t (a.eval x) (a.eval y)) rfl rfl (ev_bin (s x (by simp)) (s y (by simp)) h1 p2)
 | unOp o' t x =>
  simp only [evOp,pure1,Option.map_eq_some_iff] at h
  obtain ⟨v,h1,rfl⟩:=h
  exact pv _ rfl rfl (ev_un (st [x] hp (by simp [Op.operands]) x (by simp)) h1)
 | convert src dt x =>
  simp only [evOp] at h
  split at h
  ·rename_i v h1
   cases h
   exact pv _ rfl rfl (ev_conv (st [x] hp (by simp [Op.operands]) x (by simp)) h1)
  ·simp only [Option.map_eq_some_iff] at h
   obtain ⟨⟨ps,v,rd⟩,h1,rfl⟩:=h
   obtain ⟨p1,p2⟩:=AllP.app hp
   exact sv _ rfl (ev_convM g (st [x] p1 (by simp [Op.operands]) x (by simp)) h1 p2)
 | makeMap t hint =>
  cases hint with
  | some _=>simp [evOp] at h
  | none =>
   simp only [evOp,Option.some.injEq] at h;subst h
   have ga:=g.allocMap hk hm
   refine sv (Instr.makeMap t none) rfl ⟨_,_,_,_,Go.RowKit.run_makeMap t w,ga.1,ga.2,fun k hk' hn=>by rw [muSet_ne _ hk'];exact hn,?_⟩
   exact RepX.mp (μ:=muSet μ nk ⟨w.heap.size,1,0⟩) ⟨w.heap.size,1,0⟩ (by simp [muSet])
 | lookup t m x ok =>
  simp only [evOp] at h
  split at h
  ·simp only [Option.map_eq_some_iff] at h
   obtain ⟨⟨ps,v,rd⟩,h1,rfl⟩:=h
   obtain ⟨p1,p2⟩:=AllP.app hp
   have s:=st [m,x] p1 (by simp [Op.operands])
   exact pv _ rfl rfl (ev_lookup g (s m (by simp)) (s x (by simp)) h1 p2)
  ·cases h
 | mapUpdate t m x y =>
  simp only [evOp] at h
  split at h
  ·simp only [Option.map_eq_some_iff] at h
   obtain ⟨⟨ps,u,rd⟩,h1,rfl⟩:=h
   obtain ⟨p1,p2⟩:=AllP.app hp
   have s:=st [m,x,y] p1 (by simp [Op.operands])
   obtain ⟨w',r1,r2,r3⟩:=ev_mapUpd g (s m (by simp)) (s x (by simp)) (s y (by simp)) h1 p2
   unfold Oper.wp
   have ex:execOp a.eval ⟨dst,.mapUpdate t m x y,ty,pos,after,guard⟩=(do Instr.mapUpdate t (a.eval m) (a.eval x) (a.eval y);pure .skip:Sem Next):=rfl
   rw [ex]
   simp only [Sem.run_bind,r1,Result.andThen_ok,Sem.run_pure]
   exact hK undef w' S μ r2 r3 (fun _ _ h=>h) .unk
  ·cases h
 | insert t m x y =>
  simp only [evOp] at h
  split at h
  ·simp only [Option.map_eq_some_iff] at h
   obtain ⟨⟨ps,u,rd⟩,h1,rfl⟩:=h
   obtain ⟨p1,p2⟩:=AllP.app hp
   have s:=st [m,x,y] p1 (by simp [Op.operands])
   obtain ⟨w',r1,r2,r3⟩:=ev_mapUpd g (s m (by simp)) (s x (by simp)) (s y (by simp)) h1 p2
   unfold Oper.wp
   have ex:execOp a.eval ⟨dst,.insert t m x y,ty,pos,after,guard⟩=(do Instr.mapUpdate t (a.eval m) (a.eval x) (a.eval y);pure .skip:Sem Next):=rfl
   rw [ex]
   simp only [Sem.run_bind,r1,Result.andThen_ok,Sem.run_pure]
   exact hK undef w' S μ r2 r3 (fun _ _ h=>h) .unk
  ·cases h
 | makeFunc f first cap =>
  simp only [evOp,Option.some.injEq] at h;subst h
  have s:=st (first.toList ++ cap.toList) hp (by simp [Op.operands])
  have l1:=list_rep (xs:=first) (fun x hx=>s x (by simp only [List.mem_append];exact .inl hx))
  have l2:=list_rep (xs:=cap) (fun x hx=>s x (by simp only [List.mem_append];exact .inr hx))
  exact pv _ rfl rfl ⟨_,by simp [Instr.makeFunc],.fn l1.1 l2.1 l1.2 l2.2⟩
 | makeSlice t x y =>
  simp only [evOp,Option.map_eq_some_iff] at h
  obtain ⟨⟨ps,v,u⟩,h1,rfl⟩:=h
  obtain ⟨p1,p2⟩:=AllP.app hp
  have s:=st [x,y] p1 (by simp [Op.operands])
  exact sv _ rfl (ev_make g hk hm (s x (by simp)) (s y (by simp)) h1 p2)
 | slice t x lo hi mx =>
  cases mx with
  | some _=>simp [evOp] at h
  | none =>
   simp only [evOp,Option.map_eq_some_iff] at h
   obtain ⟨⟨ps,v,rd⟩,h1,rfl⟩:=h
   obtain ⟨p1,p2⟩:=AllP.app hp
   have s:=st (x :: (lo.toList ++ hi.toList)) p1 (by
    intro y hy
    simp only [List.mem_cons,List.mem_append,Option.mem_toList] at hy
    simp only [Op.operands]
    rcases hy with rfl | hy | hy
    ·simp
    ·simp [hy]
    ·simp [hy])
   refine pv (Instr.sliceAt t (a.eval x) (lo.map a.eval) (hi.map a.eval) none) rfl rfl (ev_slice g (s x (by simp)) ?_ ?_ h1 p2)
   ·refine ⟨by simp,?_⟩
    intro p q hp' hq
    simp only [Option.map_eq_some_iff] at hp' hq
    obtain ⟨y,hy,rfl⟩:=hp'
    obtain ⟨z,hz,rfl⟩:=hq
    rw [hy] at hz;cases hz
    exact s y (by simp [hy])
   ·refine ⟨by simp,?_⟩
    intro p q hp' hq
    simp only [Option.map_eq_some_iff] at hp' hq
    obtain ⟨y,hy,rfl⟩:=hp'
    obtain ⟨z,hz,rfl⟩:=hq
    rw [hy] at hz;cases hz
    exact s y (by simp [hy])
 | fieldAddr T x f =>
  simp only [evOp,pure1,Option.map_eq_some_iff] at h
  obtain ⟨v,h1,rfl⟩:=h
  exact pv _ rfl rfl (ev_fieldAddr (st [x] hp (by simp [Op.operands]) x (by simp)) h1)
 | field T x f =>
  simp only [evOp,pure1,Option.map_eq_some_iff] at h
  obtain ⟨v,h1,rfl⟩:=h
  exact pv _ rfl rfl (ev_field (st [x] hp (by simp [Op.operands]) x (by simp)) h1)
 | indexAddr T x i =>
  simp only [evOp,Option.map_eq_some_iff] at h
  obtain ⟨⟨ps,v,rd⟩,h1,rfl⟩:=h
  obtain ⟨p1,p2⟩:=AllP.app hp
  have s:=st [x,i] p1 (by simp [Op.operands])
  exact pv _ rfl rfl (ev_indexAddr g (s x (by simp)) (s i (by simp)) h1 p2)
 | index T x i =>
  simp only [evOp,Option.map_eq_some_iff] at h
  obtain ⟨⟨ps,v⟩,h1,rfl⟩:=h
  obtain ⟨p1,p2⟩:=AllP.app hp
  have s:=st [x,i] p1 (by simp [Op.operands])
  exact pv _ rfl rfl (ev_index (s x (by simp)) (s i (by simp)) h1 p2)
 | extract x i =>
  simp only [evOp] at h
  split at h
  ·rename_i cs hx
   simp only [pure1,Option.map_eq_some_iff] at h
   obtain ⟨v,h1,rfl⟩:=h
   have e1:=st [x] hp (by simp [Op.operands]) x (by simp)
   rw [hx] at e1
   refine pv _ rfl rfl ?_
   cases hv:a.eval x with
   | tuple vs =>
    rw [hv] at e1
    cases e1 with
    | tup q1 q2 =>
     have hlt:i < vs.size:=by rw [q1];exact (List.getElem?_eq_some_iff.1 h1).1
     exact ⟨vs[i],by simp [Instr.extract,Array.getElem?_eq_getElem hlt],q2 i v _ h1 (Array.getElem?_eq_getElem hlt)⟩
   | _=>rw [hv] at e1;cases e1
  ·cases h
 | call c =>
  obtain ⟨callee,args,argTypes⟩:=c
  cases callee with
  | invoke=>simp [evOp] at h
  | value f =>
   simp only [evOp] at h
   split at h
   ·rename_i o'
    simp only [Option.map_eq_some_iff] at h
    obtain ⟨r',h1,rfl⟩:=h
    obtain ⟨p1,p2⟩:=AllP.app hp
    have s:=st (f :: args.toList) p2 (by simp [Op.operands,Call.operands])
    have l1:=list_rep (xs:=args) (fun x hx=>s x (List.mem_cons_of_mem _ hx))
    obtain ⟨gid,vs,r1,r2⟩:=call_sound g hk16 hm (s f (by simp)) l1 (hz _ rfl) h1 p1
    unfold Oper.wp
    have ex:execOp a.eval ⟨dst,.call ⟨.value f,args,argTypes⟩,ty,pos,after,guard⟩=(do let d ← Deferred.ofValue (a.eval f) (args.map a.eval);invoke d.target d.args:Sem Next):=rfl
    rw [ex,r1]
    simp only [Oper.upon]
    refine r2.mono ?_
    rintro e' w' ⟨v,S',μ',rfl,q1,q2,q3,q4⟩
    exact hK v w' S' μ' q1 q2 q3 q4
   ·cases h
  | builtin b =>
   simp only [evOp] at h
   unfold evBuiltin at h
   split at h
   case h_1 x t ha ht =>
    obtain ⟨rfl⟩:args=#[x]:=Array.toList_inj.1 (by rw [ha])
    obtain ⟨rfl⟩:argTypes=#[t]:=Array.toList_inj.1 (by rw [ht])
    simp only [pure1,Option.map_eq_some_iff] at h
    obtain ⟨v,h1,rfl⟩:=h
    have s:=st [x] hp (by simp [Op.operands,Call.operands])
    exact pv (Builtin.len_ #[t] ty #[a.eval x]) (by simp [execOp,resolve,invoke,builtin]) rfl (ev_len (s x (by simp)) h1 ty)
   case h_2 x y t t' ha ht =>
    obtain ⟨rfl⟩:args=#[x,y]:=Array.toList_inj.1 (by rw [ha])
    obtain ⟨rfl⟩:argTypes=#[t,t']:=Array.toList_inj.1 (by rw [ht])
    split at h
    ·rename_i hb
     have hb:=Nat.eq_of_beq_eq_true hb
     subst hb
     simp only [Option.map_eq_some_iff] at h
     obtain ⟨⟨ps,v,rd,u⟩,h1,rfl⟩:=h
     obtain ⟨p1,p2⟩:=AllP.app hp
     have s:=st [x,y] p1 (by simp [Op.operands,Call.operands])
     exact sv (Builtin.append_ #[t,t] ty #[a.eval x,a.eval y]) (by simp [execOp,resolve,invoke,builtin]) (ev_append g hk hm (s x (by simp)) (s y (by simp)) h1 p2)
    ·cases h
   case h_3 x r ha =>
    simp only [pure1,Option.map_eq_some_iff] at h
    obtain ⟨v,h1,rfl⟩:=h
    have s:=st (x :: r) hp (by intro y hy;simpa [Op.operands,Call.operands,ha] using hy)
    refine pv (Builtin.min_ argTypes ty (args.map a.eval)) (by simp [execOp,resolve,invoke,builtin]) rfl ?_
    obtain ⟨z,h3,h4⟩:=mm_run (P:=P) r (a.eval x) _ v (s x (by simp)) (fun y hy=>s y (by simp [hy])) h1
    refine ⟨z,?_,h4⟩
    unfold Builtin.min_
    rw [Array.toList_map,ha,List.map_cons]
    exact h3
   case h_4 x r ha =>
    simp only [pure1,Option.map_eq_some_iff] at h
    obtain ⟨v,h1,rfl⟩:=h
    have s:=st (x :: r) hp (by intro y hy;simpa [Op.operands,Call.operands,ha] using hy)
    refine pv (Builtin.max_ argTypes ty (args.map a.eval)) (by simp [execOp,resolve,invoke,builtin]) rfl ?_
    obtain ⟨z,h3,h4⟩:=mm_run (P:=P) r (a.eval x) _ v (s x (by simp)) (fun y hy=>s y (by simp [hy])) h1
    refine ⟨z,?_,h4⟩
    unfold Builtin.max_
    rw [Array.toList_map,ha,List.map_cons]
    exact h3
   case h_5=>cases h
 | _=>simp [evOp] at h
def orcM:Option Orc→Option Orc
 | some o=>match o.same with
  | false=>some o
  | true=>none
 | none=>none
def evLoadO (P:Program) (σ:Sto) (T:TypeId) (a x:AV):Option (List Prop×AV×List Nat) :=
 match a,P.underlying T,tSz P T with
 | .op k i j,some d,some n=>match d.isRow,Nat.beq n 1,sget σ k with
  | false,true,some o=>some ([i < o.len,(o.get i)[j]?=some x],x,[k])
  | _,_,_=>none
 | _,_,_=>none
theorem ev_loadO (g:Good E σ S μ w) {T:TypeId} {a x:AV} {va:Value} (ha:RepX w S μ va a) {ps:List Prop} {y:AV} {rd:List Nat} (h:evLoadO P σ T a x=some (ps,y,rd)) (hp:AllP ps) :
  ∃ v,(Instr.loadAt T va).run P w=.ok v w∧RepX w S μ v y:=by
 unfold evLoadO at h
 split at h
 case h_2=>cases h
 rename_i k i j d n hd hn
 split at h
 case h_2=>cases h
 rename_i o h1 h2 ho
 simp only [Option.some.injEq,Prod.mk.injEq] at h
 obtain ⟨rfl,rfl,rfl⟩:=h
 obtain ⟨hi,hx,_⟩:=hp
 have hn1:=Nat.eq_of_beq_eq_true h2
 subst hn1
 refine ev_load (T:=T) g ha (ps:=[i < o.len]) (rd:=[k]) ?_ ⟨hi,trivial⟩
 unfold evLoad
 simp only [hd,hn,ho,h1]
 unfold ldv
 have:Nat.ble (j+1) (o.get i).length=true:=by rw [Nat.ble_eq];exact (List.getElem?_eq_some_iff.1 hx).1
 rw [this]
 simp [hx]
def clsP (σ:Sto) (k q i:Nat):Option (List Prop×Upd) :=
 match sget σ k,sget σ q with
 | some o,some oq=>match !o.var && !oq.var && oq.pr && Nat.ble 1 oq.sz && !Nat.beq k q with
  | true=>some ([i < o.len,o.get i=[.os q 0 oq.len],∀ j,j < oq.len→noMrL (oq.get j)=true],[(q,none),(k,some ⟨false,o.sz,o.len,false,fun m=>if m=i then [.mr oq.sz oq.len oq.get] else o.get m⟩)])
  | false=>none
 | _,_=>none
theorem cls_sound {k q i:Nat} {ps:List Prop} {u:Upd} (h:clsP σ k q i=some (ps,u)) (hp:AllP ps) (g:Good E σ S μ w):Good E (supd σ u) S μ w:=by
 unfold clsP at h
 split at h
 case h_2=>cases h
 rename_i o oq ho hoq
 split at h
 case h_2=>cases h
 rename_i hb
 simp only [Option.some.injEq,Prod.mk.injEq] at h
 obtain ⟨rfl,rfl⟩:=h
 simp only [Bool.and_eq_true,Bool.not_eq_true',Nat.ble_eq] at hb
 obtain ⟨⟨⟨⟨h1,h2⟩,h3⟩,h4⟩,h5⟩:=hb
 obtain ⟨p1,p2,p3,_⟩:=hp
 refine g.cls ho hoq (fun e=>?_) h1 h2 h3 h4 p1 p2 fun j=>?_
 ·simp_all
 ·cases hr:rowOf oq j with
  | none=>rfl
  | some x =>
   obtain ⟨_,r2,r3⟩:=rowOf_some hr
   have:=p3 j r2
   rw [r3] at this;cases this
def appIx:AV→Nat
 | .os _ _ len=>len
 | _=>0
def evAppendC (P:Program) (nk:Nat) (σ:Sto) (t:TypeId) (s x:AV) (orc:Orc):Option (List Prop×AV×List Nat×Upd) :=
 match orc.ks,evAppend P nk σ t s x with
 | [q],some (ps,v,rd,u)=>match hasKey (rd ++ u.map (·.1)) q,clsP (supd σ u) nk q (appIx s) with
  | false,some (ps2,u2)=>some (ps ++ ps2,v,q :: rd,u ++ u2)
  | _,_=>none
 | _,_=>none
theorem ev_appendC (g:Good E σ S μ w) (hk:μ nk=none) (hm:E.m0≤nk) {t ty:TypeId} {s x:AV} {orc:Orc} {vs vx:Value} (hs:RepX w S μ vs s) (hx:RepX w S μ vx x) {ps:List Prop} {val:AV} {rd:List Nat} {upd:Upd}
  (h:evAppendC P nk σ t s x orc=some (ps,val,rd,upd)) (hp:AllP ps):Step P E nk σ S μ w (Builtin.append_ #[t,t] ty #[vs,vx]) val upd:=by
 unfold evAppendC at h
 split at h
 case h_2=>cases h
 rename_i q p1 v rd' u hq ha
 split at h
 case h_2=>cases h
 rename_i p2 u2 _ hc
 simp only [Option.some.injEq,Prod.mk.injEq] at h
 obtain ⟨rfl,rfl,rfl,rfl⟩:=h
 obtain ⟨hp1,hp2⟩:=AllP.app hp
 obtain ⟨v',w',S',μ',h1,h2,h3,h4,h5⟩:=ev_append (ty:=ty) g hk hm hs hx ha hp1
 exact ⟨v',w',S',μ',h1,h2,by grind [supd_append,cls_sound],h4,h5⟩
def evSlice3 (P:Program) (T:TypeId) (x lo hi mx:AV):Option (List Prop×AV×List Nat) :=
 match P.underlying T,x,lo,hi,mx with
 | some (.slice e),.os _ _ len,.atom (.int _ l),.atom (.int _ h),.atom (.int _ m)=>match tSz P e with
  | some _=>some ([0≤l∧l≤h∧h≤m∧m≤len],.unk,[])
  | none=>none
 | _,_,_,_,_=>none
theorem ev_slice3 {T:TypeId} {x lo hi mx:AV} {v vl vh vm:Value} (hx:RepX w S μ v x) (hl:RepX w S μ vl lo) (hh:RepX w S μ vh hi) (hm:RepX w S μ vm mx) {ps:List Prop} {r:AV} {rd:List Nat}
  (h:evSlice3 P T x lo hi mx=some (ps,r,rd)) (hp:AllP ps):∃ u,(Instr.sliceAt T v (some vl) (some vh) (some vm)).run P w=.ok u w∧RepX w S μ u r:=by
 unfold evSlice3 at h
 split at h
 case h_2=>cases h
 rename_i e k off len kl l kh h' km m hu
 split at h
 case h_2=>cases h
 rename_i sz hsz
 simp only [Option.some.injEq,Prod.mk.injEq] at h
 obtain ⟨rfl,rfl,rfl⟩:=h
 obtain ⟨⟨p1,p2,p3,p4⟩,_⟩:=hp
 have e1:=rep_int hl
 have e2:=rep_int hh
 have e3:=rep_int hm
 subst e1 e2 e3
 cases hx with
 | os pl hm' h1 h2 h3 =>
  rename_i cap a
  have q1:0≤m∧m≤(cap:Int):=by omega
  have q2:0≤h'∧h'≤(m.toNat:Int):=by omega
  have q3:0≤l∧l≤(h'.toNat:Int):=by omega
  have hb:(Instr.sliceBounds true len cap (some (.int kl l)) (some (.int kh h')) (some (.int km m))).run P w=.ok (l.toNat,h'.toNat,m.toNat) w:=by
   simp only [Instr.sliceBounds,Instr.sliceBound,asIntOf,Sem.run_bind,Sem.run_pure,Result.andThen_ok,Sem.run_ite,if_pos q1,if_pos q2,if_pos q3]
  exact ⟨.slice (if m.toNat=l.toNat then a else a.map (·.add (l.toNat * sz))) (h'.toNat - l.toNat) (m.toNat - l.toNat),by simp [Instr.sliceAt,Instr.slice,run_underlying hu,hb,run_sizeOf' hsz],.unk⟩
def evSliceC (P:Program) (σ:Sto) (T:TypeId) (x:AV) (lo hi:Option AV):Option (List Prop×AV×List Nat) :=
 match P.underlying T,x with
 | some (.slice e),.os k off len=>match tSz P e,bound 0 lo,bound len hi,sget σ k with
  | some sz,some l,some h,some o=>match Nat.beq o.sz sz with
   | true=>some ((l≤h∧off+h≤o.len) :: (boundP lo ++ boundP hi),.os k (addz off l) (h - l),[k])
   | false=>none
  | _,_,_,_=>none
 | _,_=>none
theorem ev_sliceC (g:Good E σ S μ w) {T:TypeId} {x:AV} {v:Value} (hx:RepX w S μ v x) {lo hi:Option AV} {vlo vhi:Option Value}
  (hlo:(vlo=none↔lo=none)∧∀ a b,lo=some a→vlo=some b→RepX w S μ b a)
  (hhi:(vhi=none↔hi=none)∧∀ a b,hi=some a→vhi=some b→RepX w S μ b a) {ps:List Prop} {r:AV} {rd:List Nat} (h:evSliceC P σ T x lo hi=some (ps,r,rd)) (hp:AllP ps) :
  ∃ u,(Instr.sliceAt T v vlo vhi none).run P w=.ok u w∧RepX w S μ u r:=by
 unfold evSliceC at h
 split at h
 case h_2=>cases h
 rename_i e k off len hu
 split at h
 case h_2=>cases h
 rename_i sz l hh o hsz hl hh' ho
 split at h
 case h_2=>cases h
 rename_i hb
 have hb:=Nat.eq_of_beq_eq_true hb
 simp only [Option.some.injEq,Prod.mk.injEq] at h
 obtain ⟨rfl,rfl,rfl⟩:=h
 obtain ⟨⟨p1,p2⟩,p3⟩:=hp
 obtain ⟨pl,c,T',hm,hob⟩:=g.rep.ob k o ho
 cases hx with
 | os pl' hm' h1 h2 h3 =>
  rename_i cap a
  rw [hm] at hm';cases hm'
  have hc:hh≤cap:=by have:=hob.len;omega
  have hbd:=run_bounds (P:=P) (w:=w) true (cap:=cap) hlo hhi hl hh' p1 hc p3
  refine ⟨.slice (if cap=l then a else a.map (·.add (l * sz))) (hh - l) (cap - l),?_,?_⟩
  ·simp [Instr.sliceAt,Instr.slice,run_underlying hu,hbd,run_sizeOf' hsz]
  ·refine .os pl hm ?_ (by omega) (by rw [addz_eq];omega)
   intro hc
   have:=h1 (by omega)
   subst this
   rw [if_neg (by omega)]
   simp only [Option.map_some,Addr.add_mid]
   rw [addz_eq,hob.sz,hb,Nat.add_mul]
def evAppI (P:Program) (σ:Sto) (t:TypeId) (s x:AV):Option (List Prop×AV×List Nat×Upd) :=
 match sliceElem P t with
 | some e=>match tSz P e,tBytes P e,tZero P e,s,x with
  | some sz,some _,some _,.os k 0 len,.os k' off n=>match Nat.beq k k',sget σ k with
   | true,some o=>match Nat.ble 1 sz && Nat.beq o.sz sz && !o.var with
    | true=>some ([0 < o.len∧len+n≤o.len,off+n≤o.len,∀ i,i < o.len→AV.oneL (o.get i)=true],.os k 0 (len+n),[k],
      [(k,some ⟨false,sz,o.len,o.pr,fun m=>if m < len then o.get m else if m < len+n then o.get (addz off (m - len)) else o.get m⟩)])
    | false=>none
   | _,_=>none
  | _,_,_,_,_=>none
 | none=>none
theorem noRow_one {o:Ob} (h:∀ i,i < o.len→AV.oneL (o.get i)=true) (i:Nat):rowOf o i=none:=by
 cases hr:rowOf o i with
 | none=>rfl
 | some x =>
  obtain ⟨_,r2,r3⟩:=rowOf_some hr
  have:=h i r2
  rw [r3] at this;cases this
theorem ev_appI (g:Good E σ S μ w) {t ty:TypeId} {s x:AV} {vs vx:Value} (hs:RepX w S μ vs s) (hx:RepX w S μ vx x) {ps:List Prop} {val:AV} {rd:List Nat} {upd:Upd}
  (h:evAppI P σ t s x=some (ps,val,rd,upd)) (hp:AllP ps):Step P E nk σ S μ w (Builtin.append_ #[t,t] ty #[vs,vx]) val upd:=by
 unfold evAppI at h
 split at h
 case h_2=>cases h
 rename_i e he
 have he:=sliceElem_eq he
 split at h
 case h_2=>cases h
 rename_i sz b z k len k' off n hsz hb hz
 obtain ⟨ie,hie,rfl,rfl,hze⟩:=info_of hsz hb hz
 split at h
 case h_2=>cases h
 rename_i o hkk ho
 have hkk:=Nat.eq_of_beq_eq_true hkk
 subst hkk
 split at h
 case h_2=>cases h
 rename_i hbb
 simp only [Bool.and_eq_true,Nat.ble_eq,Bool.not_eq_true'] at hbb
 obtain ⟨⟨b1,b2⟩,hvar⟩:=hbb
 have b2:=Nat.eq_of_beq_eq_true b2
 simp only [Option.some.injEq,Prod.mk.injEq] at h
 obtain ⟨rfl,rfl,rfl,rfl⟩:=h
 obtain ⟨⟨p0,p1⟩,p2,p3,_⟩:=hp
 obtain ⟨news,sr⟩:=ev_src (P:=P) (sz:=ie.size) (n:=n) (gt:=fun i=>o.get (addz off i)) (pr:=o.pr) (ps:=[off+n≤o.len,∀ i,i < n→AV.oneL (o.get (addz off i))=true]) (rd:=[k]) g hx
  (by unfold srcOf;simp only [ho,beq_t b2]) ⟨p2,fun i hi=>p3 _ (by rw [addz_eq];omega),trivial⟩
 obtain ⟨pl,c,T',hmk,hob⟩:=g.rep.ob k o ho
 cases hs with
 | os pl' hm' h1 h2 h3 =>
  rename_i cap a
  rw [hmk] at hm';cases hm'
  have hol:=hob.len
  have ha:=h1 (by omega)
  simp only [Nat.zero_mul] at ha
  subst ha
  have hcp:0 < pl.cap:=by omega
  have hroom:len+n≤cap:=by omega
  have hfit:len * ie.size+news.length≤c.size:=by
   have e1:(len+n) * ie.size≤pl.cap * ie.size:=Nat.mul_le_mul_right _ (by omega)
   have e2:=hob.cap
   rw [b2] at e2
   rw [sr.size,← Nat.add_mul];omega
  have hrun:=run_app_in (P:=P) (w:=w) (ty:=ty) he hie ((hob.blk hcp).trans (by rw [blkObj_row (by omega)])) sr.len sr.cells sr.one hroom hfit
  generalize hc':(c.toList.take (len * ie.size) ++ news ++ c.toList.drop (len * ie.size+news.length)).toArray=c' at hrun
  have hlen':(c.toList.take (len * ie.size)).length=len * ie.size:=by simp;omega
  have hsz':c'.size=c.size:=by
   rw [← hc']
   simp;omega
  have hget:∀ m,c'[m]?=if m < len * ie.size then c[m]? else if m < len * ie.size+news.length then news[m - len * ie.size]? else c[m]?:=by
   intro m
   rw [← hc']
   simp only [List.getElem?_toArray]
   by_cases h1:m < len * ie.size
   ·rw [List.getElem?_append_left (by simp;omega),List.getElem?_append_left (by omega),List.getElem?_take,if_pos h1,if_pos h1]
    simp
   ·rw [if_neg h1]
    by_cases h2:m < len * ie.size+news.length
    ·rw [List.getElem?_append_left (by simp;omega),List.getElem?_append_right (by omega),hlen',if_pos h2]
    ·rw [if_neg h2,List.getElem?_append_right (by simp;omega)]
     simp only [List.length_append,hlen',List.getElem?_drop]
     rw [show len * ie.size+news.length+(m - (len * ie.size+news.length))=m by omega]
     simp
  have hels:∀ i,i < o.len→(if i < len then o.get i else if i < len+n then o.get (addz off (i - len)) else o.get i).length=ie.size:=by
   intro i hi
   split
   ·rw [hob.els i hi,b2]
   ·split
    ·rw [hob.els _ (by rw [addz_eq];omega),b2]
    ·rw [hob.els i hi,b2]
  have hno:=noRow_one p3
  have gw:=g.write ho hmk hcp hob (by omega) ⟨false,ie.size,o.len,o.pr,fun m=>if m < len then o.get m else if m < len+n then o.get (addz off (m - len)) else o.get m⟩ c' b2.symm hsz' hob.len hels (by
   intro i j x v hi hx hv
   have hi:i < o.len:=hi
   have hx:(if i < len then o.get i else if i < len+n then o.get (addz off (i - len)) else o.get i)[j]?=some x:=hx
   have hj:j < ie.size:=by
    have e1:=(List.getElem?_eq_some_iff.1 hx).1
    have e2:=hels i hi
    omega
   have hv:c'[i * ie.size+j]?=some v:=hv
   rw [hget] at hv
   by_cases hio:i < len
   ·have hb2:(i+1) * ie.size≤len * ie.size:=Nat.mul_le_mul_right _ hio
    rw [Nat.add_mul] at hb2
    rw [if_pos (by omega)] at hv
    rw [if_pos hio] at hx
    exact hob.rep i j x v hi hx (by rw [b2];exact hv)
   ·have hb2:len * ie.size≤i * ie.size:=Nat.mul_le_mul_right _ (by omega)
    rw [if_neg (by omega),sr.size] at hv
    rw [if_neg hio] at hx
    by_cases hin:i < len+n
    ·have hb3:(i+1) * ie.size≤(len+n) * ie.size:=Nat.mul_le_mul_right _ hin
     rw [Nat.add_mul,Nat.add_mul] at hb3
     rw [if_pos (by omega)] at hv
     rw [if_pos hin] at hx
     refine sr.rep (i - len) j x v (by omega) hx ?_
     rw [← hv,Nat.sub_mul];congr 1;omega
    ·have hb3:(len+n) * ie.size≤i * ie.size:=Nat.mul_le_mul_right _ (by omega)
     rw [Nat.add_mul] at hb3
     rw [if_neg (by omega)] at hv
     rw [if_neg hin] at hx
     exact hob.rep i j x v hi hx (by rw [b2];exact hv))
   (fun i x hx=>absurd hx (by
    rw [noRow_one (o:=⟨false,ie.size,o.len,o.pr,fun m=>if m < len then o.get m else if m < len+n then o.get (addz off (m - len)) else o.get m⟩) (fun i hi=>by
     show AV.oneL (if i < len then o.get i else if i < len+n then o.get (addz off (i - len)) else o.get i)=true
     have hi:i < o.len:=hi
     split
     ·exact p3 i hi
     ·split
      ·exact p3 _ (by rw [addz_eq];omega)
      ·exact p3 i hi)]
    intro h;cases h))
  exact ⟨_,_,S,μ,hrun,gw.1,gw.2,fun _ _ h=>h,RepX.os pl hmk (by simp) hroom h3⟩
theorem noMr_row {o:Ob} (h:∀ i,i < o.len→noMrL (o.get i)=true) (i:Nat):rowOf o i=none:=by
 cases hr:rowOf o i with
 | none=>rfl
 | some x =>
  obtain ⟨_,r2,r3⟩:=rowOf_some hr
  have:=h i r2
  rw [r3] at this;cases this
theorem one_noMr {l:List AV} (h:AV.oneL l=true):noMrL l=true:=by
 induction l with
 | nil=>rfl
 | cons x l ih =>
  simp only [AV.oneL,Bool.and_eq_true] at h
  simp only [noMrL,Bool.and_eq_true]
  refine ⟨?_,ih h.2⟩
  cases x<;>first | rfl | cases h.1
theorem Good.putRun (g:Good E σ S μ w) {k:Nat} {o:Ob} (ho:sget σ k=some o) {pl:Place} {c:Array Value} {T':TypeId} (hmk:μ k=some pl) (hob:ObRep w S μ o pl c T') (hcp:0 < pl.cap) {sz p n:Nat}
  {gt:Nat→List AV} {pr:Bool} {v:Value} {news:List Value} (sr:Src P w S μ sz v n gt pr news) (b2:o.sz=sz) (b1:1≤sz) (hle:p+n≤o.len) (hno:∀ i,i < o.len→noMrL (o.get i)=true) {c':Array Value}
  (hc':(c.toList.take (p * sz) ++ news ++ c.toList.drop (p * sz+news.length)).toArray=c'):p * sz+news.length≤c.size ∧
  Ext w S μ (w.setRow pl.blk c') S μ∧Good E (sset σ k ⟨false,sz,o.len,o.pr && pr,fun m=>if m < p then o.get m else if m < p+n then gt (m - p) else o.get m⟩) S μ (w.setRow pl.blk c'):=by
 have hol:=hob.len
 have hfit:p * sz+news.length≤c.size:=by
  have e1:(p+n) * sz≤pl.cap * sz:=Nat.mul_le_mul_right _ (by omega)
  have e2:=hob.cap
  rw [b2] at e2
  rw [sr.size,← Nat.add_mul];omega
 have hlen':(c.toList.take (p * sz)).length=p * sz:=by simp;omega
 have hsz':c'.size=c.size:=by
  rw [← hc']
  simp;omega
 have hget:∀ m,c'[m]?=if m < p * sz then c[m]? else if m < p * sz+news.length then news[m - p * sz]? else c[m]?:=by
  intro m
  rw [← hc']
  simp only [List.getElem?_toArray]
  by_cases h1:m < p * sz
  ·rw [List.getElem?_append_left (by simp;omega),List.getElem?_append_left (by omega),List.getElem?_take,if_pos h1,if_pos h1]
   simp
  ·rw [if_neg h1]
   by_cases h2:m < p * sz+news.length
   ·rw [List.getElem?_append_left (by simp;omega),List.getElem?_append_right (by omega),hlen',if_pos h2]
   ·rw [if_neg h2,List.getElem?_append_right (by simp;omega)]
    simp only [List.length_append,hlen',List.getElem?_drop]
    rw [show p * sz+news.length+(m - (p * sz+news.length))=m by omega]
    simp
 have hels:∀ i,i < o.len→(if i < p then o.get i else if i < p+n then gt (i - p) else o.get i).length=sz:=by
  intro i hi
  split
  ·rw [hob.els i hi,b2]
  ·split
   ·exact sr.els _ (by omega)
   ·rw [hob.els i hi,b2]
 have prw:∀ {u:Value} {x:AV},RepX w S (if o.pr then noMu else μ) u x→RepX w S (if (o.pr && pr)=true then noMu else μ) u x:=by
  intro u x hh
  cases hp:pr
  ·rw [Bool.and_false];exact noMu_mono hh
  ·rw [Bool.and_true];exact hh
 have prw2:∀ {u:Value} {x:AV},RepX w S (if pr then noMu else μ) u x→RepX w S (if (o.pr && pr)=true then noMu else μ) u x:=by
  intro u x hh
  cases hp:o.pr
  ·rw [Bool.false_and];exact noMu_mono hh
  ·rw [Bool.true_and];exact hh
 refine ⟨hfit,g.write ho hmk hcp hob (by omega) ⟨false,sz,o.len,o.pr && pr,fun m=>if m < p then o.get m else if m < p+n then gt (m - p) else o.get m⟩ c' b2.symm hsz' hob.len hels (by
   intro i j x v hi hx hv
   have hi:i < o.len:=hi
   have hx:(if i < p then o.get i else if i < p+n then gt (i - p) else o.get i)[j]?=some x:=hx
   have hj:j < sz:=by
    have e1:=(List.getElem?_eq_some_iff.1 hx).1
    have e2:=hels i hi
    omega
   have hv:c'[i * sz+j]?=some v:=hv
   rw [hget] at hv
   by_cases hio:i < p
   ·have hb2:(i+1) * sz≤p * sz:=Nat.mul_le_mul_right _ hio
    rw [Nat.add_mul] at hb2
    rw [if_pos (by omega)] at hv
    rw [if_pos hio] at hx
    exact prw (hob.rep i j x v hi hx (by rw [b2];exact hv))
   ·have hb2:p * sz≤i * sz:=Nat.mul_le_mul_right _ (by omega)
    rw [if_neg (by omega),sr.size] at hv
    rw [if_neg hio] at hx
    by_cases hin:i < p+n
    ·have hb3:(i+1) * sz≤(p+n) * sz:=Nat.mul_le_mul_right _ hin
     rw [Nat.add_mul,Nat.add_mul] at hb3
     rw [if_pos (by omega)] at hv
     rw [if_pos hin] at hx
     refine prw2 (sr.rep (i - p) j x v (by omega) hx ?_)
     rw [← hv,Nat.sub_mul];congr 1;omega
    ·have hb3:(p+n) * sz≤i * sz:=Nat.mul_le_mul_right _ (by omega)
     rw [Nat.add_mul] at hb3
     rw [if_neg (by omega)] at hv
     rw [if_neg hin] at hx
     exact prw (hob.rep i j x v hi hx (by rw [b2];exact hv)))
   (fun i x hx=>absurd hx (by
    rw [noMr_row (o:=⟨false,sz,o.len,o.pr && pr,fun m=>if m < p then o.get m else if m < p+n then gt (m - p) else o.get m⟩) (fun i hi=>by
     show noMrL (if i < p then o.get i else if i < p+n then gt (i - p) else o.get i)=true
     have hi:i < o.len:=hi
     split
     ·exact hno i hi
     ·split
      ·exact one_noMr (sr.one2 _ (by omega))
      ·exact hno i hi)]
    intro h;cases h))⟩
def evCopy (P:Program) (σ:Sto) (t:TypeId) (s x:AV):Option (List Prop×AV×List Nat×Upd) :=
 match sliceElem P t with
 | some e=>match tSz P e,s,x with
  | some sz,.os k offd nd,.os k' offs ns=>match Nat.beq k k',sget σ k with
   | true,some o=>match Nat.ble 1 sz && Nat.beq o.sz sz && !o.var with
    | true=>some ([nd≤ns,offd+nd≤o.len,offs+nd≤o.len,∀ i,i < o.len→AV.oneL (o.get i)=true],.atom (.int .i64 nd),[k],
      [(k,some ⟨false,sz,o.len,o.pr,fun m=>if m < offd then o.get m else if m < offd+nd then o.get (addz offs (m - offd)) else o.get m⟩)])
    | false=>none
   | _,_=>none
  | _,_,_=>none
 | none=>none
theorem ev_copy (g:Good E σ S μ w) {t t' ty:TypeId} {s x:AV} {vs vx:Value} (hs:RepX w S μ vs s) (hx:RepX w S μ vx x) {ps:List Prop} {val:AV} {rd:List Nat} {upd:Upd}
  (h:evCopy P σ t s x=some (ps,val,rd,upd)) (hp:AllP ps):Step P E nk σ S μ w (Builtin.copy_ #[t,t'] ty #[vs,vx]) val upd:=by
 unfold evCopy at h
 split at h
 case h_2=>cases h
 rename_i e he
 have he:=sliceElem_eq he
 split at h
 case h_2=>cases h
 rename_i sz k offd nd k' offs ns hsz
 obtain ⟨ie,hie,rfl⟩:∃ ie,P.info? e=some ie∧ie.size=sz:=by
  unfold tSz at hsz
  simp_all
 split at h
 case h_2=>cases h
 rename_i o hkk ho
 have hkk:=Nat.eq_of_beq_eq_true hkk
 subst hkk
 split at h
 case h_2=>cases h
 rename_i hbb
 simp only [Bool.and_eq_true,Nat.ble_eq,Bool.not_eq_true'] at hbb
 obtain ⟨⟨b1,b2⟩,hvar⟩:=hbb
 have b2:=Nat.eq_of_beq_eq_true b2
 simp only [Option.some.injEq,Prod.mk.injEq] at h
 obtain ⟨rfl,rfl,rfl,rfl⟩:=h
 obtain ⟨p0,p1,p2,p3,_⟩:=hp
 obtain ⟨pl,c,T',hmk,hob⟩:=g.rep.ob k o ho
 cases hs with
 | os pl' hm' h1 h2 h3 =>
  rename_i cap a
  rw [hmk] at hm';cases hm'
  cases hx with
  | os pl2 hm2 g1 g2 g3 =>
   rename_i cap2 a2
   rw [hmk] at hm2;cases hm2
   rcases Nat.eq_zero_or_pos nd with h0 | h0
   ·subst h0
    have hrun:(Builtin.copy_ #[t,t'] ty #[.slice a 0 cap,.slice a2 ns cap2]).run P w=.ok (goInt 0) w:=by
     have e0:Nat.min ns 0=0:=by simp
     cases a<;>cases a2<;>simp [Builtin.copy_,run_underlying he,Builtin.lenOf,Builtin.firstCells,sizeOf,typeInfo,hie,storeCells,loadCells,loadCellsFrom]
    have eo:(⟨false,ie.size,o.len,o.pr,fun m=>if m < offd then o.get m else if m < offd+0 then o.get (addz offs (m - offd)) else o.get m⟩:Ob)=o:=by
     have:(fun m=>if m < offd then o.get m else if m < offd+0 then o.get (addz offs (m - offd)) else o.get m)=o.get:=by
      funext m
      split
      ·rfl
      ·split
       ·omega
       ·rfl
     rw [this,← b2,← hvar]
    refine ⟨_,w,S,μ,hrun,Ext.refl _ _ _,g.congr fun n=>?_,fun _ _ h=>h,.atom _⟩
    show sget (sset σ k _) n=_
    grind [sget_sset]
   ·have ha:=h1 (by omega)
    have ha2:=g1 (by omega)
    subst ha ha2
    have hcp:0 < pl.cap:=by have:=hob.len;omega
    obtain ⟨news,sr⟩:=ev_src (P:=P) (sz:=ie.size) (x:=.os k offs nd) (v:=.slice (some ⟨pl.blk,offs * pl.sz,none⟩) nd cap2) (n:=nd) (gt:=fun i=>o.get (addz offs i)) (pr:=o.pr) (ps:=[offs+nd≤o.len,∀ i,i < nd→AV.oneL (o.get (addz offs i))=true]) (rd:=[k]) g
     (.os pl hmk g1 (by omega) g3) (by grind [srcOf,beq_t]) ⟨p2,fun i hi=>p3 _ (by rw [addz_eq];omega),trivial⟩
    obtain ⟨hfit,gw1,gw2⟩:=g.putRun ho hmk hob hcp sr b2 b1 p1 (fun i hi=>one_noMr (p3 i hi)) rfl
    have hst:=run_storeCells_at P pl.blk (offd * ie.size) T' news 0 c w ((hob.blk hcp).trans (by rw [blkObj_row (by omega)])) (by simpa using hfit) sr.one
    simp only [Nat.add_zero] at hst
    have hcl:=sr.cells w rfl
    simp only [Builtin.firstCells] at hcl
    have hmin:Nat.min ns nd=nd:=Nat.min_eq_right p0
    have hrun:(Builtin.copy_ #[t,t'] ty #[.slice (some ⟨pl.blk,offd * pl.sz,none⟩) nd cap,.slice (some ⟨pl.blk,offs * pl.sz,none⟩) ns cap2]).run P w=.ok (goInt nd) (w.setRow pl.blk (c.toList.take (offd * ie.size) ++ news ++ c.toList.drop (offd * ie.size+news.length)).toArray):=by
     rw [hob.sz,b2] at hcl ⊢
     simp [Builtin.copy_,run_underlying he,Builtin.lenOf,Builtin.firstCells,sizeOf,typeInfo,hie,hmin,hcl,hst]
    rw [Bool.and_self] at gw2
    exact ⟨_,_,S,μ,hrun,gw1,gw2,fun _ _ h=>h,.atom _⟩
def evAppR (P:Program) (σ:Sto) (t:TypeId) (s x:AV):Option (List Prop×AV×List Nat×Upd) :=
 match sliceElem P t with
 | some e=>match tSz P e,tBytes P e,tZero P e,s with
  | some sz,some _,some _,.os k off m=>match srcOf σ sz x,sget σ k with
   | some (n,gt,pr,ps,rd),some o=>match Nat.ble 1 sz && Nat.beq o.sz sz && !o.var with
    | true=>some ((0 < n∧addz off m+n≤o.len) :: (∀ i,i < o.len→noMrL (o.get i)=true) :: ps,.os k off (m+n),k :: rd,
      [(k,some ⟨false,sz,o.len,o.pr && pr,fun j=>if j < addz off m then o.get j else if j < addz off m+n then gt (j - addz off m) else o.get j⟩)])
    | false=>none
   | _,_=>none
  | _,_,_,_=>none
 | none=>none
theorem ev_appR (g:Good E σ S μ w) {t ty:TypeId} {s x:AV} {vs vx:Value} (hs:RepX w S μ vs s) (hx:RepX w S μ vx x) {ps:List Prop} {val:AV} {rd:List Nat} {upd:Upd}
  (h:evAppR P σ t s x=some (ps,val,rd,upd)) (hp:AllP ps):Step P E nk σ S μ w (Builtin.append_ #[t,t] ty #[vs,vx]) val upd:=by
 unfold evAppR at h
 split at h
 case h_2=>cases h
 rename_i e he
 have he:=sliceElem_eq he
 split at h
 case h_2=>cases h
 rename_i sz b z k off m hsz hb hz
 obtain ⟨ie,hie,rfl,rfl,hze⟩:=info_of hsz hb hz
 split at h
 case h_2=>cases h
 rename_i n gt pr ps' rd' o hsrc ho
 split at h
 case h_2=>cases h
 rename_i hbb
 simp only [Bool.and_eq_true,Nat.ble_eq,Bool.not_eq_true'] at hbb
 obtain ⟨⟨b1,b2⟩,hvar⟩:=hbb
 have b2:=Nat.eq_of_beq_eq_true b2
 simp only [Option.some.injEq,Prod.mk.injEq] at h
 obtain ⟨rfl,rfl,rfl,rfl⟩:=h
 obtain ⟨⟨p0,p1⟩,p2,p3⟩:=hp
 obtain ⟨news,sr⟩:=ev_src (P:=P) g hx hsrc p3
 obtain ⟨pl,c,T',hmk,hob⟩:=g.rep.ob k o ho
 cases hs with
 | os pl' hm' h1 h2 h3 =>
  rename_i cap a
  rw [hmk] at hm';cases hm'
  have hol:=hob.len
  have ez:addz off m=off+m:=addz_eq _ _
  have hsz2:pl.sz=ie.size:=hob.sz.trans b2
  have ha:=h1 (by omega)
  rw [hsz2] at ha
  subst ha
  obtain ⟨hfit,gw1,gw2⟩:=g.putRun ho hmk hob (by omega) sr b2 b1 p1 p2 rfl
  have hrun:=run_app_at (P:=P) (w:=w) (ty:=ty) he hie ((hob.blk (by omega)).trans (by rw [blkObj_row (by omega)])) sr.len sr.cells sr.one (b:=off * ie.size) (sLen:=m) (sCap:=cap) (by omega) (by rw [← Nat.add_mul,← ez];exact hfit)
  rw [← Nat.add_mul,← ez] at hrun
  exact ⟨_,_,S,μ,hrun,gw1,gw2,fun _ _ h=>h,RepX.os pl hmk (fun _=>by rw [hsz2]) (by omega) h3⟩
def evAppF (P:Program) (nk:Nat) (σ:Sto) (t:TypeId) (s x:AV):Option (List Prop×AV×List Nat×Upd) :=
 match sliceElem P t with
 | some e=>match tSz P e,tBytes P e,tZero P e,s with
  | some sz,some b,some z,.osf k off m=>match srcOf σ sz x,sget σ k with
   | some (n,gt,pr,ps,rd),some o=>match Nat.ble 1 sz && Nat.ble 1 b && Nat.beq z.cells.size sz && Nat.beq o.sz sz && !o.var with
    | true=>some ((0 < n∧addz off m=o.len) :: ((m+n) * b≤140737488355328) :: (∀ i,i < o.len→AV.oneL (o.get i)=true) :: ps,.os nk 0 (m+n),k :: rd,
      [(nk,some ⟨false,sz,m+n,o.pr && pr,fun j=>if j < m then o.get (addz off j) else gt (j - m)⟩)])
    | false=>none
   | _,_=>none
  | _,_,_,_=>none
 | none=>none
theorem ev_appF (g:Good E σ S μ w) (hk:μ nk=none) (hm:E.m0≤nk) {t ty:TypeId} {s x:AV} {vs vx:Value} (hs:RepX w S μ vs s) (hx:RepX w S μ vx x) {ps:List Prop} {val:AV} {rd:List Nat} {upd:Upd}
  (h:evAppF P nk σ t s x=some (ps,val,rd,upd)) (hp:AllP ps):Step P E nk σ S μ w (Builtin.append_ #[t,t] ty #[vs,vx]) val upd:=by
 unfold evAppF at h
 split at h
 case h_2=>cases h
 rename_i e he
 have he:=sliceElem_eq he
 split at h
 case h_2=>cases h
 rename_i sz b z k off m hsz hb hz
 obtain ⟨ie,hie,rfl,rfl,hze⟩:=info_of hsz hb hz
 split at h
 case h_2=>cases h
 rename_i n gt pr ps' rd' o hsrc ho
 split at h
 case h_2=>cases h
 rename_i hbb
 simp only [Bool.and_eq_true,Nat.ble_eq,Bool.not_eq_true'] at hbb
 obtain ⟨⟨⟨⟨b1,bb⟩,b3⟩,b2⟩,hvar⟩:=hbb
 have b2:=Nat.eq_of_beq_eq_true b2
 have b3:=Nat.eq_of_beq_eq_true b3
 simp only [Option.some.injEq,Prod.mk.injEq] at h
 obtain ⟨rfl,rfl,rfl,rfl⟩:=h
 obtain ⟨⟨p0,hm2⟩,p1,p2,p3⟩:=hp
 rw [addz_eq] at hm2
 obtain ⟨news,sr⟩:=ev_src (P:=P) g hx hsrc p3
 obtain ⟨pl,c,T',hmk,hob⟩:=g.rep.ob k o ho
 cases hs with
 | osf pl' hm' h1 h2 =>
  rename_i a
  rw [hmk] at hm';cases hm'
  obtain ⟨olds,so⟩:=ev_src (P:=P) (sz:=ie.size) (x:=.os k off m) (v:=.slice a m m) (n:=m) (gt:=fun i=>o.get (addz off i)) (pr:=o.pr) (ps:=[off+m≤o.len,∀ i,i < m→AV.oneL (o.get (addz off i))=true]) (rd:=[k]) g
   (.os pl hmk h1 (Nat.le_refl _) h2) (by grind [srcOf,beq_t]) ⟨by omega,fun i hi=>p2 _ (by rw [addz_eq];omega),trivial⟩
  have hrun:=run_app_grow (P:=P) (w:=w) (ty:=ty) he hie hze so.cells sr.len sr.cells (by omega) bb p1
  have hcap:=grown_ge w (m+n) m e
  have hels:∀ i,i < m+n→((fun q=>if q < m then o.get (addz off q) else gt (q - m)) i).length=ie.size:=by
   intro i hi
   show (if i < m then o.get (addz off i) else gt (i - m)).length=_
   split
   ·rw [hob.els (addz off i) (by rw [addz_eq];omega),b2]
   ·exact sr.els _ (by omega)
  have gg:=g.grow (e:=e) hk hm (sz:=ie.size) (n:=n) (len:=m) (cap:=grownCap w (m+n) m e) (olds:=olds) (news:=news)
   (rest:=Builtin.zeroCells z.cells (grownCap w (m+n) m e - (m+n))) (pr:=o.pr && pr) (get:=fun q=>if q < m then o.get (addz off q) else gt (q - m))
   so.size sr.size (by rw [size_zeroCells,b3]) hcap hels (by
    intro i j x u hi hx hu
    have hx:(if i < m then o.get (addz off i) else gt (i - m))[j]?=some x:=hx
    have hj:j < ie.size:=by
     have e1:=(List.getElem?_eq_some_iff.1 hx).1
     have e2:(if i < m then o.get (addz off i) else gt (i - m)).length=ie.size:=hels i hi
     omega
    by_cases hio:i < m
    ·have hb2:(i+1) * ie.size≤m * ie.size:=Nat.mul_le_mul_right _ hio
     rw [Nat.add_mul] at hb2
     rw [if_pos hio] at hx
     rw [List.getElem?_append_left (by rw [so.size];omega)] at hu
     have:=so.rep i j x u hio hx hu
     cases hp:pr
     ·rw [Bool.and_false];exact noMu_mono this
     ·rw [Bool.and_true];exact this
    ·have hb2:m * ie.size≤i * ie.size:=Nat.mul_le_mul_right _ (by omega)
     rw [if_neg hio] at hx
     rw [List.getElem?_append_right (by rw [so.size];omega),so.size] at hu
     have:=sr.rep (i - m) j x u (by omega) hx (by rw [← hu,Nat.sub_mul];congr 1;omega)
     cases hp:o.pr
     ·rw [Bool.false_and];exact noMu_mono this
     ·rw [Bool.true_and];exact this) (by omega)
   (g.mxNew hk _ _ (fun _=>Nat.le_refl _) (rowOf_none_one fun i hi=>by
    have hi:i < m+n:=hi
    show AV.oneL (if i < m then o.get (addz off i) else gt (i - m))=true
    split
    ·exact p2 _ (by rw [addz_eq];omega)
    ·exact sr.one2 _ (by omega)) (fun b h=>heap_push_lt (w:=w.drew) h) (fun _ h=>h) (fun _ h=>.inl h))
  refine ⟨_,_,S,_,hrun,gg.1,gg.2,fun k hk' hn=>by rw [muSet_ne _ hk'];exact hn,?_⟩
  exact RepX.os ⟨w.heap.size,grownCap w (m+n) m e,ie.size⟩ (by simp [muSet]) (by simp) hcap (by simp)
def evClear (P:Program) (σ:Sto) (t:TypeId) (x:AV):Option (List Prop×AV×List Nat×Upd) :=
 match sliceElem P t with
 | some e=>match tSz P e,tBytes P e,tZero P e,x with
  | some sz,some _,some z,.os k off n=>match sget σ k with
   | some o=>match Nat.ble 1 sz && Nat.beq o.sz sz && !o.var && Nat.beq z.cells.size sz && z.cells.toList.all (·.oneCell') with
    | true=>some ([0 < n∧off+n≤o.len],.unk,[k],[(k,some ⟨false,sz,off,o.pr,o.get⟩)])
    | false=>none
   | none=>none
  | _,_,_,_=>none
 | none=>none
theorem ev_clear (g:Good E σ S μ w) {t ty:TypeId} {x:AV} {vx:Value} (hx:RepX w S μ vx x) {ps:List Prop} {val:AV} {rd:List Nat} {upd:Upd}
  (h:evClear P σ t x=some (ps,val,rd,upd)) (hp:AllP ps):Step P E nk σ S μ w (Builtin.clear_ #[t] ty #[vx]) val upd:=by
 unfold evClear at h
 split at h
 case h_2=>cases h
 rename_i e he
 have he:=sliceElem_eq he
 split at h
 case h_2=>cases h
 rename_i sz b z k off n hsz hb hz
 obtain ⟨ie,hie,rfl,rfl,hze⟩:=info_of hsz hb hz
 split at h
 case h_2=>cases h
 rename_i o ho
 split at h
 case h_2=>cases h
 rename_i hbb
 simp only [Bool.and_eq_true,Nat.ble_eq,Bool.not_eq_true'] at hbb
 obtain ⟨⟨⟨⟨b1,b2⟩,hvar⟩,b3⟩,b4⟩:=hbb
 have b2:=Nat.eq_of_beq_eq_true b2
 have b3:=Nat.eq_of_beq_eq_true b3
 simp only [Option.some.injEq,Prod.mk.injEq] at h
 obtain ⟨rfl,rfl,rfl,rfl⟩:=h
 obtain ⟨⟨p0,p1⟩,_⟩:=hp
 obtain ⟨pl,c,T',hmk,hob⟩:=g.rep.ob k o ho
 cases hx with
 | os pl' hm' h1 h2 h3 =>
  rename_i cap a
  rw [hmk] at hm';cases hm'
  have hol:=hob.len
  have ha:=h1 (by omega)
  subst ha
  have hcp:0 < pl.cap:=by omega
  have hzl:(Builtin.zeroCells z.cells n).toList.length=n * ie.size:=by simp [Builtin.zeroCells,b3]
  have hone:∀ u∈(Builtin.zeroCells z.cells n).toList,u.oneCell'=true:=by
   intro u hu
   simp only [Builtin.zeroCells,Array.toList_map,List.mem_map] at hu
   obtain ⟨i,hi,rfl⟩:=hu
   have hlt:i % z.cells.size < z.cells.size:=Nat.mod_lt _ (by omega)
   rw [getElem!_pos z.cells (i % z.cells.size) hlt]
   rw [List.all_eq_true] at b4
   exact b4 _ (Array.mem_toList_iff.2 (Array.getElem_mem hlt))
  have hfit:off * ie.size+(Builtin.zeroCells z.cells n).toList.length≤c.size:=by
   have e1:(off+n) * ie.size≤pl.cap * ie.size:=Nat.mul_le_mul_right _ (by omega)
   have e2:=hob.cap
   rw [b2] at e2
   rw [hzl,← Nat.add_mul];omega
  have hst:=run_storeCells_at P pl.blk (off * ie.size) T' (Builtin.zeroCells z.cells n).toList 0 c w ((hob.blk hcp).trans (by rw [blkObj_row (by omega)])) (by simpa using hfit) hone
  simp only [Nat.add_zero] at hst
  generalize hc':(c.toList.take (off * ie.size) ++ (Builtin.zeroCells z.cells n).toList ++ c.toList.drop (off * ie.size+(Builtin.zeroCells z.cells n).toList.length)).toArray=c' at hst
  have hrun:(Builtin.clear_ #[t] ty #[.slice (some ⟨pl.blk,off * pl.sz,none⟩) n cap]).run P w=.ok (.tuple #[]) (w.setRow pl.blk c'):=by
   rw [hob.sz,b2]
   obtain ⟨m,rfl⟩:∃ m,n=m+1:=⟨n - 1,by omega⟩
   simp [Builtin.clear_,run_underlying he,zeroValue,typeInfo,hie,hze,hst]
  have hlen':(c.toList.take (off * ie.size)).length=off * ie.size:=by simp;omega
  have hsz':c'.size=c.size:=by
   rw [← hc']
   simp only [List.size_toArray,List.length_append,hlen',List.length_drop,Array.length_toList]
   rw [Array.length_toList] at hfit
   omega
  have hget:∀ m,m < off * ie.size→c'[m]?=c[m]?:=by
   intro m h1
   rw [← hc']
   simp only [List.getElem?_toArray]
   rw [List.getElem?_append_left (by simp;omega),List.getElem?_append_left (by omega),List.getElem?_take,if_pos h1]
   simp
  have hrow:∀ i x,rowOf ⟨false,ie.size,off,o.pr,o.get⟩ i=some x→rowOf o i=some x∧i < off:=fun i x hx=>by
   obtain ⟨_,q2,q3⟩:=rowOf_some hx
   have q2:i < off:=q2
   exact ⟨rowOf_mk hvar (by omega) q3,q2⟩
  have hrowlt:∀ i,i < off→∀ j,j < ie.size→i * ie.size+j < off * ie.size:=fun i hi j hj=>by
   have hb2:(i+1) * ie.size≤off * ie.size:=Nat.mul_le_mul_right _ hi
   rw [Nat.add_mul] at hb2;omega
  have gw:=g.write ho hmk hcp hob (by omega) ⟨false,ie.size,off,o.pr,o.get⟩ c' b2.symm hsz' (show off≤pl.cap by omega) (fun i hi=>by
   have hi:i < off:=hi
   show (o.get i).length=ie.size
   rw [hob.els i (by omega),b2]) (by
   intro i j x v hi hx hv
   have hi:i < off:=hi
   have hx:(o.get i)[j]?=some x:=hx
   have hj:j < ie.size:=by
    have e1:=(List.getElem?_eq_some_iff.1 hx).1
    rw [hob.els i (by omega),b2] at e1;exact e1
   have hv:c'[i * ie.size+j]?=some v:=hv
   rw [hget _ (hrowlt i hi j hj)] at hv
   exact hob.rep i j x v (by omega) hx (by rw [b2];exact hv)) (fun i x hx=>⟨(hrow i x hx).1,by
    rw [b2];exact hget _ (by have:=hrowlt i (hrow i x hx).2 0 (by omega);omega)⟩)
  exact ⟨_,_,S,μ,hrun,gw.1,gw.2,fun _ _ h=>h,.unk⟩
def evOpM (P:Program) (nk:Nat) (σ:Sto) (op:Op) (e:Operand→AV) (orc:Option Orc):Option R :=
 match orcM orc with
 | none=>evOp P nk σ op e orc
 | some q=>match op with
  | .load T a=>(evLoadO P σ T ((e a).strip.1) q.res).map fun (ps,v,rd)=>⟨conds e [a] ++ ps,v,rd,[]⟩
  | .call ⟨.builtin .append,args,tys⟩=>match args.toList,tys.toList with
   | [x,y],[t,t']=>match Nat.beq t t' with
    | true=>(match q.ks,q.res with
     | [],.unk=>evAppI P σ t ((e x).strip.1) ((e y).strip.1)
     | [],.nil=>evAppR P σ t ((e x).strip.1) ((e y).strip.1)
     | [],_=>evAppF P nk σ t ((e x).strip.1) ((e y).strip.1)
     | _,_=>evAppendC P nk σ t ((e x).strip.1) ((e y).strip.1) q).map fun (ps,v,rd,u)=>⟨conds e [x,y] ++ ps,v,rd,u⟩
    | false=>none
   | _,_=>none
  | .call ⟨.builtin .copy,args,tys⟩=>match args.toList,tys.toList with
   | [x,y],[t,_]=>(evCopy P σ t ((e x).strip.1) ((e y).strip.1)).map fun (ps,v,rd,u)=>⟨conds e [x,y] ++ ps,v,rd,u⟩
   | _,_=>none
  | .call ⟨.builtin .clear,args,tys⟩=>match args.toList,tys.toList with
   | [x],[t]=>(evClear P σ t ((e x).strip.1)).map fun (ps,v,rd,u)=>⟨conds e [x] ++ ps,v,rd,u⟩
   | _,_=>none
  | .slice t x lo hi mx=>match mx with
   | none=>(evSliceC P σ t ((e x).strip.1) (lo.map fun y=>(e y).strip.1) (hi.map fun y=>(e y).strip.1)).map fun (ps,v,rd)=>⟨conds e (x :: (lo.toList ++ hi.toList)) ++ ps,v,rd,[]⟩
   | some m=>match lo,hi with
    | some l,some h=>(evSlice3 P t ((e x).strip.1) ((e l).strip.1) ((e h).strip.1) ((e m).strip.1)).map fun (ps,v,rd)=>⟨conds e [x,l,h,m] ++ ps,v,rd,[]⟩
    | _,_=>none
  | op=>evOp P nk σ op e orc
theorem op_soundM {o:Oper} {a:Act} {e:Operand→AV} {orc:Option Orc} {r:R} {next:Act→World→Prop} {Q:Exit→Act→World→Prop}
  (he:∀ x∈o.op.operands.toList,RepX w S μ (a.eval x) (e x)) (g:Good E σ S μ w) (hk16:∀ j,j < 16→μ (nk+j)=none) (hm:E.m0≤nk)
  (hz:∀ x,orc=some x→x.frz=true→∀ b,¬ E.fp b) (h:evOpM P nk σ o.op e orc=some r) (hp:AllP r.obl) (hK:Goes E nk σ S μ w r fun v w'=>next (a.put o.dst v) w'):o.wp P a w next Q:=by
 unfold evOpM at h
 split at h
 ·exact op_sound he g hk16 hm hz h hp hK
 ·have hk:μ nk=none:=hk16 0 (by omega)
  have st:∀ (xs:List Operand),AllP (conds e xs)→(∀ x∈xs,x∈o.op.operands.toList)→∀ x∈xs,RepX w S μ (a.eval x) ((e x).strip.1) :=
   fun xs h1 h2 x hx=>(he x (h2 x hx)).strip (conds_get h1 x hx)
  obtain ⟨dst,op,ty,pos,after,guard⟩:=o
  simp only at he h hK st ⊢
  split at h
  ·rename_i T x
   simp only [Option.map_eq_some_iff] at h
   obtain ⟨⟨ps,v,rd⟩,h1,rfl⟩:=h
   obtain ⟨p1,p2⟩:=AllP.app hp
   obtain ⟨u,r1,r2⟩:=ev_loadO g (st [x] p1 (by simp [Op.operands]) x (by simp)) h1 p2
   unfold Oper.wp
   have ex:execOp a.eval ⟨dst,.load T x,ty,pos,after,guard⟩=(do pure (.value (← Instr.loadAt T (a.eval x))):Sem Next):=rfl
   rw [ex]
   simp only [Sem.run_bind,r1,Result.andThen_ok,Sem.run_pure]
   exact hK u w S μ (Ext.refl _ _ _) g (fun _ _ h=>h) r2
  ·rename_i args tys
   split at h
   case h_2=>cases h
   rename_i x y t t' ha ht
   split at h
   case h_2=>cases h
   rename_i hb
   have hb:=Nat.eq_of_beq_eq_true hb
   subst hb
   obtain ⟨rfl⟩:args=#[x,y]:=Array.toList_inj.1 (by rw [ha])
   obtain ⟨rfl⟩:tys=#[t,t]:=Array.toList_inj.1 (by rw [ht])
   simp only [Option.map_eq_some_iff] at h
   obtain ⟨⟨ps,v,rd,u⟩,h1,rfl⟩:=h
   obtain ⟨p1,p2⟩:=AllP.app hp
   have s:=st [x,y] p1 (by simp [Op.operands,Call.operands])
   have hst:Step P E nk σ S μ w (Builtin.append_ #[t,t] ty #[a.eval x,a.eval y]) v u:=by
    split at h1
    ·exact ev_appI (ty:=ty) g (s x (by simp)) (s y (by simp)) h1 p2
    ·exact ev_appR (ty:=ty) g (s x (by simp)) (s y (by simp)) h1 p2
    ·exact ev_appF (ty:=ty) g hk hm (s x (by simp)) (s y (by simp)) h1 p2
    ·exact ev_appendC (ty:=ty) g hk hm (s x (by simp)) (s y (by simp)) h1 p2
   obtain ⟨v',w',S',μ',r1,r2,r3,r4,r5⟩:=hst
   unfold Oper.wp
   have ex:execOp a.eval ⟨dst,.call ⟨.builtin .append,#[x,y],#[t,t]⟩,ty,pos,after,guard⟩=(do pure (.value (← Builtin.append_ #[t,t] ty #[a.eval x,a.eval y])):Sem Next):=by simp [execOp,resolve,invoke,builtin]
   rw [ex]
   simp only [Sem.run_bind,r1,Result.andThen_ok,Sem.run_pure]
   exact hK v' w' S' μ' r2 r3 (fun k hk'=>r4 k (by omega)) r5
  ·rename_i args tys
   split at h
   case h_2=>cases h
   rename_i x y t t' ha ht
   obtain ⟨rfl⟩:args=#[x,y]:=Array.toList_inj.1 (by rw [ha])
   obtain ⟨rfl⟩:tys=#[t,t']:=Array.toList_inj.1 (by rw [ht])
   simp only [Option.map_eq_some_iff] at h
   obtain ⟨⟨ps,v,rd,u⟩,h1,rfl⟩:=h
   obtain ⟨p1,p2⟩:=AllP.app hp
   have s:=st [x,y] p1 (by simp [Op.operands,Call.operands])
   obtain ⟨v',w',S',μ',r1,r2,r3,r4,r5⟩:=ev_copy (nk:=nk) (t':=t') (ty:=ty) g (s x (by simp)) (s y (by simp)) h1 p2
   unfold Oper.wp
   have ex:execOp a.eval ⟨dst,.call ⟨.builtin .copy,#[x,y],#[t,t']⟩,ty,pos,after,guard⟩=(do pure (.value (← Builtin.copy_ #[t,t'] ty #[a.eval x,a.eval y])):Sem Next):=by simp [execOp,resolve,invoke,builtin]
   rw [ex]
   simp only [Sem.run_bind,r1,Result.andThen_ok,Sem.run_pure]
   exact hK v' w' S' μ' r2 r3 (fun k hk'=>r4 k (by omega)) r5
  ·rename_i args tys
   split at h
   case h_2=>cases h
   rename_i x t ha ht
   obtain ⟨rfl⟩:args=#[x]:=Array.toList_inj.1 (by rw [ha])
   obtain ⟨rfl⟩:tys=#[t]:=Array.toList_inj.1 (by rw [ht])
   simp only [Option.map_eq_some_iff] at h
   obtain ⟨⟨ps,v,rd,u⟩,h1,rfl⟩:=h
   obtain ⟨p1,p2⟩:=AllP.app hp
   have s:=st [x] p1 (by simp [Op.operands,Call.operands])
   obtain ⟨v',w',S',μ',r1,r2,r3,r4,r5⟩:=ev_clear (nk:=nk) (ty:=ty) g (s x (by simp)) h1 p2
   unfold Oper.wp
   have ex:execOp a.eval ⟨dst,.call ⟨.builtin .clear,#[x],#[t]⟩,ty,pos,after,guard⟩=(do pure (.value (← Builtin.clear_ #[t] ty #[a.eval x])):Sem Next):=by simp [execOp,resolve,invoke,builtin]
   rw [ex]
   simp only [Sem.run_bind,r1,Result.andThen_ok,Sem.run_pure]
   exact hK v' w' S' μ' r2 r3 (fun k hk'=>r4 k (by omega)) r5
  ·rename_i t x lo hi mx
   have ex:∀ y,execOp a.eval ⟨dst,.slice t x lo hi y,ty,pos,after,guard⟩=(do pure (.value (← Instr.sliceAt t (a.eval x) (lo.map a.eval) (hi.map a.eval) (y.map a.eval))):Sem Next):=fun y=>rfl
   cases mx with
   | none =>
    simp only [Option.map_eq_some_iff] at h
    obtain ⟨⟨ps,v,rd⟩,h1,rfl⟩:=h
    obtain ⟨p1,p2⟩:=AllP.app hp
    have s:=st (x :: (lo.toList ++ hi.toList)) p1 (by
     intro y hy
     simp only [List.mem_cons,List.mem_append,Option.mem_toList] at hy
     simp only [Op.operands]
     rcases hy with rfl | hy | hy
     ·simp
     ·simp [hy]
     ·simp [hy])
    obtain ⟨u,r1,r2⟩:=ev_sliceC (P:=P) (vlo:=lo.map a.eval) (vhi:=hi.map a.eval) g (s x (by simp)) (by
     refine ⟨by simp,?_⟩
     intro p q hp' hq
     simp only [Option.map_eq_some_iff] at hp' hq
     obtain ⟨y,hy,rfl⟩:=hp'
     obtain ⟨z,hz,rfl⟩:=hq
     rw [hy] at hz;cases hz
     exact s y (by simp [hy])) (by
     refine ⟨by simp,?_⟩
     intro p q hp' hq
     simp only [Option.map_eq_some_iff] at hp' hq
     obtain ⟨y,hy,rfl⟩:=hp'
     obtain ⟨z,hz,rfl⟩:=hq
     rw [hy] at hz;cases hz
     exact s y (by simp [hy])) h1 p2
    unfold Oper.wp
    rw [ex none]
    simp only [Option.map_none,Sem.run_bind,r1,Result.andThen_ok,Sem.run_pure]
    exact hK u w S μ (Ext.refl _ _ _) g (fun _ _ h=>h) r2
   | some m =>
    simp only at h
    split at h
    case h_2=>cases h
    rename_i l hh
    simp only [Option.map_eq_some_iff] at h
    obtain ⟨⟨ps,v,rd⟩,h1,rfl⟩:=h
    obtain ⟨p1,p2⟩:=AllP.app hp
    have s:=st [x,l,hh,m] p1 (by simp [Op.operands])
    obtain ⟨u,r1,r2⟩:=ev_slice3 (P:=P) (s x (by simp)) (s l (by simp)) (s hh (by simp)) (s m (by simp)) h1 p2
    unfold Oper.wp
    rw [ex (some m)]
    simp only [Option.map_some,Sem.run_bind,r1,Result.andThen_ok,Sem.run_pure]
    exact hK u w S μ (Ext.refl _ _ _) g (fun _ _ h=>h) r2
  ·exact op_sound (o:=⟨dst,op,ty,pos,after,guard⟩) he g hk16 hm hz h hp hK
def SF (μ:Mu) (F:List Nat) (σ:Sto) (S:Nat→Prop) (b:Nat):Prop:=S b∨∃ k o pl,k∈F∧sget σ k=some o∧μ k=some pl∧0 < pl.cap∧pl.blk=b
theorem Good.freeze (g:Good E σ S μ w) (F:List Nat) (hz:∀ b,¬ E.fp b):Good E (supd σ (frzU true F)) (SF μ F σ S) μ w:=by
 have sg:∀ n o,sget (supd σ (frzU true F)) n=some o→sget σ n=some o∧n ∉ F:=fun n o h=>by
  rw [frzU_get] at h
  simp_all
 have e:Ext w S μ w (SF μ F σ S) μ:=⟨Nat.le_refl _,fun _ h=>.inl h,fun _ _=>rfl,fun _ _ h=>h⟩
 refine ⟨g.fr,fun b h=>.inl (g.S0 b h),?_,?_,⟨?_,?_⟩,?_,g.mu0,?_⟩
 ·rintro b (h1 | ⟨k1,o1,pl1,hkF,ho1,hm1,hc1,rfl⟩)
  ·exact g.S1 b h1
  ·obtain ⟨pl',c,T,hm',hob'⟩:=g.rep.ob k1 o1 ho1
   rw [hm1] at hm';cases hm'
   exact lt_of_blk (hob'.blk hc1)
 ·rintro b (h1 | ⟨k1,o1,pl1,hkF,ho1,hm1,hc1,rfl⟩)
  ·exact g.S2 b h1
  ·rcases g.own k1 o1 pl1 ho1 hm1 hc1 with h2 | h2
   ·exact (hz _ h2).elim
   ·exact .inr h2
 ·intro k o hko
  obtain ⟨h0,hnF⟩:=sg k o hko
  obtain ⟨pl,c,T,hm0,hob0⟩:=g.rep.ob k o h0
  refine ⟨pl,c,T,hm0,hob0.ext e (fun _=>rfl) ?_⟩
  rintro hc (h1 | ⟨k1,o1,pl1,hkF,ho1,hm1,hc1,hb⟩)
  ·exact hob0.out hc h1
  ·exact g.rep.ne k1 k o1 o pl1 pl (fun h=>hnF (h ▸ hkF)) ho1 h0 hm1 hm0 hc1 hc hb
 ·intro k k' o o' pl pl' hne h1 h2 h3 h4 h5 h6
  exact g.rep.ne k k' o o' pl pl' hne (sg _ _ h1).1 (sg _ _ h2).1 h3 h4 h5 h6
 ·exact fun k o pl h1 h2 h3=>g.own k o pl (sg _ _ h1).1 h2 h3
 ·have hrw:∀ k i x v,RowV w μ (supd σ (frzU true F)) k i x v→RowV w μ σ k i x v:=fun k i x v ⟨o,pl,h1,h2,h3,h4⟩=>⟨o,pl,(sg _ _ h1).1,h2,h3,h4⟩
  refine g.mx.tr (fun k=>k) hrw (fun _ _ _ _ _ _ _ _ _ _ h=>h) (fun _ h=>.inl h) (fun _ _=>rfl) (fun k i x v b _ h hb=>⟨rfl,?_,fun h=>h⟩) (fun k o pl h1 h2 h3=>.inl ⟨k,o,pl,(sg _ _ h1).1,h2,h3,rfl⟩)
  rintro (h1 | ⟨k1,o1,pl1,_,ho1,hm1,hc1,h1⟩)
  ·exact (g.mx.blk h hb).2.1 h1
  ·exact g.mx.obj _ _ _ _ _ h hb k1 o1 pl1 ho1 hm1 hc1 h1
def fzS (σ:Sto):Sto→Option (List Prop)
 | []=>some []
 | (k,o') :: r=>match sget σ k,fzS σ r with
  | some o,some ps=>match o.pr with
   | true=>some ((o'.len≤o.len) :: (∀ i,i < o'.len→o'.get i=o.get i) :: ps)
   | false=>none
  | _,_=>none
mutual
def fzA (τ:Sto):AV→AV
 | .os k off len=>match off,sget τ k with
  | 0,some o=>.sl o.len o.get
  | _,_=>.os k off len
 | .agg cs=>.agg (fzL τ cs)
 | x=>x
def fzL (τ:Sto):List AV→List AV
 | []=>[]
 | c :: cs=>fzA τ c :: fzL τ cs
end
mutual
def fzP (τ:Sto):AV→List Prop
 | .os k off len=>match off,sget τ k with
  | 0,some o=>[len=o.len]
  | _,_=>[]
 | .agg cs=>fzPL τ cs
 | _=>[]
def fzPL (τ:Sto):List AV→List Prop
 | []=>[]
 | c :: cs=>fzP τ c ++ fzPL τ cs
end
def fzC (τ:Sto) (e:Operand→AV):List Operand→List Prop
 | []=>[]
 | x :: r=>fzP τ (e x) ++ fzC τ e r
theorem fzS_get:∀ {τ:Sto} {ps:List Prop},fzS σ τ=some ps→AllP ps→∀ {k:Nat} {o':Ob},sget τ k=some o'→k∈τ.map (·.1)∧∃ o,sget σ k=some o∧o.pr=true∧o'.len≤o.len∧∀ i,i < o'.len→o'.get i=o.get i
 | [],ps,_,_,k,o',h=>by simp [sget] at h
 | (k0,o0) :: r,ps,h,hp,k,o',hk=>by
  simp only [fzS] at h
  split at h
  ·rename_i o qs ho hr
   split at h
   ·rename_i hpr
    cases h
    obtain ⟨p1,p2,p3⟩:=hp
    simp only [sget] at hk
    split at hk
    ·simp_all
    ·obtain ⟨q1,q2⟩:=fzS_get hr p3 hk
     simp_all
   ·cases h
  ·cases h
theorem fz_mono {μ':Mu} {v:Value} {x:AV} {F:List Nat} (h:RepX w S μ' v x):RepX w (SF μ F σ S) μ' v x:=h.mono (fun _ h=>.inl h) (fun _ _=>rfl) (fun _ _ h=>h)
theorem fz_os (g:Good E σ S μ w) {τ:Sto} {qs:List Prop} (hs:fzS σ τ=some qs) (hq:AllP qs) {k off len:Nat} {v:Value} (h:RepX w S μ v (.os k off len)) (hp:AllP (fzP τ (.os k off len))):RepX w (SF μ (τ.map (·.1)) σ S) μ v (fzA τ (.os k off len)):=by
 simp only [fzA,fzP] at hp ⊢
 split at hp
 ·rename_i o' ho'
  obtain ⟨rfl,_⟩:=hp
  obtain ⟨hF,o,ho,hpr,p2,p3⟩:=fzS_get hs hq ho'
  obtain ⟨pl,c,T,hm,hob⟩:=g.rep.ob k o ho
  cases h with
  | os pl' hm' h1 h2 h3 =>
   rename_i cap a
   rw [hm] at hm';cases hm'
   refine .sl pl.blk (0 * pl.sz) o.sz (fun i j=>(c[(0+i) * o.sz+j]?).getD undef) ?_ (fun i hi=>by rw [p3 i hi];exact hob.els _ (by omega)) ?_ ?_ h2
   ·intro hl
    exact ⟨h1 (by omega),.inr ⟨k,o,pl,hF,ho,hm,by omega,rfl⟩⟩
   ·intro i j hi hj
    obtain ⟨v,q1,q2⟩:=cell_of_obrep hob (i:=0+i) (by omega) hj
    simp_all
   ·intro i j c' hi hc'
    rw [p3 i hi] at hc'
    obtain ⟨v,q1,q2⟩:=cell_of_obrep hob (i:=0+i) (by omega) (by have:=(List.getElem?_eq_some_iff.1 hc').1;rw [hob.els _ (by omega)] at this;exact this)
    rw [q1]
    have:=hob.rep _ j c' v (by omega) (by simp_all) q1
    grind [fz_mono]
 ·exact fz_mono h
mutual
theorem fz_rep (g:Good E σ S μ w) {τ:Sto} {qs:List Prop} (hs:fzS σ τ=some qs) (hq:AllP qs):∀ (x:AV) (v:Value),RepX w S μ v x→AllP (fzP τ x)→RepX w (SF μ (τ.map (·.1)) σ S) μ v (fzA τ x)
 | .os _ _ _,_,h,hp=>fz_os g hs hq h hp
 | .agg cs,v,h,hp=>by
  simp only [fzA,fzP] at hp ⊢
  obtain ⟨vs,rfl,h1,h2⟩:=rep_agg h
  obtain ⟨q1,q2⟩:=fzL_rep g hs hq cs hp
  refine .agg (h1.trans q1.symm) fun j c v hc hv=>?_
  grind
 | .nil,_,h,_=>fz_mono h
 | .atom _,_,h,_=>fz_mono h
 | .tup _,_,h,_=>fz_mono h
 | .sl _ _,_,h,_=>fz_mono h
 | .rp _ _,_,h,_=>fz_mono h
 | .op _ _ _,_,h,_=>fz_mono h
 | .fn _ _ _,_,h,_=>fz_mono h
 | .when _ _,_,h,_=>fz_mono h
 | .mp _,_,h,_=>fz_mono h
 | .bn _,_,h,_=>fz_mono h
 | .pt _ _,_,h,_=>fz_mono h
 | .ov _ _ _ _ _,_,h,_=>fz_mono h
 | .osf _ _ _,_,h,_=>fz_mono h
 | .nq _ _,_,h,_=>fz_mono h
 | .unk,_,h,_=>fz_mono h
 | .mr _ _ _,_,h,_=>fz_mono h
theorem fzL_rep (g:Good E σ S μ w) {τ:Sto} {qs:List Prop} (hs:fzS σ τ=some qs) (hq:AllP qs):∀ (cs:List AV),AllP (fzPL τ cs)→(fzL τ cs).length=cs.length ∧
  ∀ (j:Nat) c y v,cs[j]?=some c→(fzL τ cs)[j]?=some y→RepX w S μ v c→RepX w (SF μ (τ.map (·.1)) σ S) μ v y
 | [],_=>⟨rfl,fun j c y v hc=>by simp at hc⟩
 | c :: cs,hp=>by
  simp only [fzPL] at hp
  obtain ⟨p1,p2⟩:=AllP.app hp
  obtain ⟨q1,q2⟩:=fzL_rep g hs hq cs p2
  refine ⟨by simp [fzL,q1],fun j c' y v hc hy h=>?_⟩
  cases j with
  | zero =>
   simp only [fzL,List.getElem?_cons_zero,Option.some.injEq] at hc hy
   subst hc hy
   exact fz_rep g hs hq c v h p1
  | succ j =>
   simp only [fzL,List.getElem?_cons_succ] at hc hy
   exact q2 j c' y v hc hy h
end
def orcF (op:Op):Option Orc→Option Sto
 | none=>none
 | some q=>match q.frz,op with
  | true,.buildSlice _ _ _=>some q.sto
  | true,.build _ _=>some q.sto
  | true,.box _ _=>some q.sto
  | true,.store _ _ _=>some q.sto
  | _,_=>none
theorem orcF_defer {c:Call} (orc:Option Orc):orcF (.defer c) orc=none:=by
 cases orc with
 | none=>rfl
 | some q=>grind [orcF]
theorem orcF_frz {op:Op} {orc:Option Orc} {τ:Sto} (h:orcF op orc=some τ):∃ x,orc=some x∧x.frz=true:=by
 unfold orcF at h
 grind
def evOpF (P:Program) (nk:Nat) (σ:Sto) (op:Op) (e:Operand→AV) (orc:Option Orc):Option R :=
 match orcF op orc with
 | none=>evOpM P nk σ op e orc
 | some τ=>match fzS σ τ,evOpM P nk (supd σ (frzU true (τ.map (·.1)))) op (fun x=>fzA τ (e x)) orc with
  | some ps,some r=>some ⟨ps ++ (fzC τ e op.operands.toList ++ r.obl),r.val,τ.map (·.1) ++ r.rds,frzU true (τ.map (·.1)) ++ r.upd⟩
  | _,_=>none
theorem fzC_get {τ:Sto} {e:Operand→AV}:∀ {xs:List Operand},AllP (fzC τ e xs)→∀ x∈xs,AllP (fzP τ (e x))
 | [],_,x,hx=>by simp at hx
 | y :: r,h,x,hx=>by
  obtain ⟨h1,h2⟩:=AllP.app h
  rcases List.mem_cons.1 hx with rfl | hx
  ·exact h1
  ·exact fzC_get h2 x hx
theorem op_soundF {o:Oper} {a:Act} {e:Operand→AV} {orc:Option Orc} {r:R} {next:Act→World→Prop} {Q:Exit→Act→World→Prop}
  (he:∀ x∈o.op.operands.toList,RepX w S μ (a.eval x) (e x)) (g:Good E σ S μ w) (hk16:∀ j,j < 16→μ (nk+j)=none) (hm:E.m0≤nk)
  (hz:∀ x,orc=some x→x.frz=true→∀ b,¬ E.fp b) (h:evOpF P nk σ o.op e orc=some r) (hp:AllP r.obl) (hK:Goes E nk σ S μ w r fun v w'=>next (a.put o.dst v) w'):o.wp P a w next Q:=by
 unfold evOpF at h
 split at h
 ·grind [op_soundM]
 ·rename_i τ hτ
  split at h
  ·rename_i ps r0 h1 h2
   cases h
   obtain ⟨p1,p23⟩:=AllP.app hp
   obtain ⟨p2,p3⟩:=AllP.app p23
   obtain ⟨q,hq1,hq2⟩:=orcF_frz hτ
   have g1:=g.freeze (τ.map (·.1)) (hz q hq1 hq2)
   have e1:Ext w S μ w (SF μ (τ.map (·.1)) σ S) μ:=⟨Nat.le_refl _,fun _ h=>.inl h,fun _ _=>rfl,fun _ _ h=>h⟩
   refine op_soundM (e:=fun x=>fzA τ (e x)) (fun x hx=>fz_rep g h1 p1 _ _ (he x hx) (fzC_get p2 x hx)) g1 hk16 hm hz h2 p3 ?_
   intro v w' S' μ' x1 x2 x3 x4
   exact hK v w' S' μ' (e1.trans x1) (by rw [supd_append];exact x2) x3 x4
  ·cases h
end
end Go.Ab
namespace Go.Ab
structure St where
 tm:List (Nat×AV)
 sto:Sto
 nk:Nat
def guardB:AV→Bool→Option Bool
 | .atom (.bool b),want=>some (match want with
  | true=>b
  | false=>!b)
 | .when g x,want=>(guardB x want).map fun b=>g && b
 | _,_=>none
structure Rec where
 obl:List Prop
 dst:Option Nat
 val:AV
 rds:List Nat
 upd:Upd
def evYield (σ:Sto) (op:Op) (e:Operand→AV) (y:YC):Option R :=
 match op with
 | .call ⟨.value f,args,_⟩=>match (e f).strip.1,sget σ y.k with
  | .atom (.func (.yield l) vs ws),some o=>some ⟨(l=y.l∧vs=#[]∧ws=#[]∧args.toList.map (fun x=>(e x).strip.1)=y.as∧o=y.o) :: conds e (f :: args.toList),.atom (.bool true),[y.k],[(y.k,some y.o')]⟩
  | _,_=>none
 | _=>none
def evOpY (P:Program) (nk:Nat) (σ:Sto) (op:Op) (e:Operand→AV) (orc:Option Orc):Option R :=
 match orcY orc with
 | some y=>evYield σ op e y
 | none=>evOpF P nk σ op e orc
def under (g:Bool):List Prop→List Prop
 | []=>[]
 | p :: ps=>[g=true→AllP (p :: ps)]
def dstOf (ops:List Oper) (j:Nat):Option Nat:=(ops[j]?).bind (·.dst)
def dstOk (nt:Nat):Option Nat→Bool
 | none=>true
 | some d=>Nat.blt d nt
def evOne (P:Program) (nt:Nat) (ops:List Oper) (nk:Nat) (tm:List (Nat×AV)) (σ:Sto) (o:Oper) (orc:Option Orc):Option Rec :=
 match dstOk nt o.dst with
 | false=>none
 | true=>match o.guard with
  | none=>(evOpY P nk σ o.op (evOpd tm) orc).map fun r=>⟨r.obl,o.dst,r.val,r.rds,r.upd⟩
  | some (j,want)=>match dstOf ops j with
   | none=>none
   | some d=>match decO orc with
    | 0=>match guardB (getTm tm d) want,evOpY P nk σ o.op (evOpd tm) orc with
     | some g,some r=>match r.upd with
      | []=>some ⟨under g r.obl,o.dst,.when g r.val,r.rds,[]⟩
      | _ :: _=>none
     | _,_=>none
    | 1=>match guardB (getTm tm d) want,evOpY P nk σ o.op (evOpd tm) orc with
     | some g,some r=>some ⟨(g=true) :: r.obl,o.dst,r.val,r.rds,r.upd⟩
     | _,_=>none
    | _=>match guardB (getTm tm d) want with
     | some g=>some ⟨[g=false],o.dst,.when g (resO orc),[],[]⟩
     | none=>none
def putTm (tm:List (Nat×AV)) (d:Option Nat) (x:AV):List (Nat×AV) :=
 match d with
 | none=>tm
 | some d=>(d,x) :: tm
def getOrc:List (Nat×Orc)→Nat→Option Orc
 | [],_=>none
 | (k,o) :: r,n=>match Nat.beq k n with
  | true=>some o
  | false=>getOrc r n
def evTrace (P:Program) (nt:Nat) (ops:List Oper) (nk:Nat) (orcs:List (Nat×Orc)):List Oper→Nat→List (Nat×AV)→Sto→Option (List Rec)
 | [],_,_,_=>some []
 | o :: r,i,tm,σ=>match evOne P nt ops (nk+16 * i) tm σ o (getOrc orcs i) with
  | none=>none
  | some x=>(evTrace P nt ops nk orcs r (i+1) (putTm tm x.dst x.val) (supd σ x.upd)).map fun l=>x :: l
def tmAll:List Rec→List (Nat×AV)→List (Nat×AV)
 | [],tm=>tm
 | x :: r,tm=>tmAll r (putTm tm x.dst x.val)
def stoAll:List Rec→Sto→Sto
 | [],σ=>σ
 | x :: r,σ=>stoAll r (supd σ x.upd)
def oblAll:List Rec→List Prop
 | []=>[]
 | x :: r=>x.obl ++ oblAll r
def Rep (E:Env) (st:St) (tm:Array Value) (w:World):Prop :=
 ∃ S μ,Good E st.sto S μ w∧(∀ k,st.nk≤k→μ k=none)∧E.m0≤st.nk∧∀ t,RepX w S μ (tm.getD t undef) (getTm st.tm t)
theorem getTm_put {tm:List (Nat×AV)} {d:Option Nat} {x:AV} (t:Nat):getTm (putTm tm d x) t=if d=some t then x else getTm tm t:=by
 cases d with
 | none=>simp [putTm]
 | some d =>
  simp only [putTm,getTm,Option.some.injEq]
  by_cases h:d=t
  ·rw [beq_t h,if_pos h]
  ·rw [beq_f h,if_neg h]
theorem put_get (a:Act) (d:Option Nat) (v:Value) (t:Nat) (h:∀ n,d=some n→n < a.tmps.size):(a.put d v).tmps.getD t undef=if d=some t then v else a.tmps.getD t undef:=by
 cases d with
 | none=>simp [Act.put]
 | some d =>
  simp only [Act.put,Option.some.injEq]
  have hd:=h d rfl
  by_cases ht:d=t
  ·simp_all
  simp_all
theorem put_size (a:Act) (d:Option Nat) (v:Value):(a.put d v).tmps.size=a.tmps.size:=by cases d<;>simp [Act.put]
theorem put_defers' (a:Act) (d:Option Nat) (v:Value):(a.put d v).defers=a.defers:=by cases d<;>simp [Act.put]
theorem opd_rep {w:World} {S:Nat→Prop} {μ:Mu} {a:Act} {tm:List (Nat×AV)} (h:∀ t,RepX w S μ (a.tmps.getD t undef) (getTm tm t)) (x:Operand):RepX w S μ (a.eval x) (evOpd tm x):=by
 cases x with
 | tmp t=>exact h t
 | const v=>exact rep_const w S μ v
 | global g=>exact .atom _
 | func f=>exact .fn (by simp) (by simp) (fun j c v hc=>by simp at hc) (fun j c v hc=>by simp at hc)
def boolOf:Value→Option Bool
 | .bool b=>some b
 | _=>none
theorem guardB_spec {w:World} {S:Nat→Prop} {μ:Mu} {v:Value} {x:AV} (h:RepX w S μ v x):∀ {want g:Bool},guardB x want=some g→(boolOf v == some want)=g:=by
 induction h with
 | atom v =>
  intro want g hg
  cases v with
  | bool b =>
   simp only [guardB,Option.some.injEq] at hg
   subst hg
   cases b<;>cases want<;>rfl
  | _=>simp [guardB] at hg
 | @when μ b v x h1 hu ih =>
  intro want g hg
  simp only [guardB,Option.map_eq_some_iff] at hg
  obtain ⟨g',hg',rfl⟩:=hg
  cases b with
  | true=>simpa using ih rfl hg'
  | false =>
   rw [hu rfl]
   simp [undef,boolOf]
 | _=>grind [guardB]
section
variable {P:Program} {E:Env} {σ:Sto} {S:Nat→Prop} {μ:Mu} {w:World}
def FW (rd:Option Nat):Fence:={ Fence.wide with round:=rd }
theorem upon_in {rd:Option Nat} {o:Oper} {a:Act} {next:Act→World→Prop} {Q:Exit→Act→World→Prop} {r:Result Next} (h:o.upon P a next Q r):o.uponIn (FW rd) 0 P a next Q r:=by
 cases r with
 | ok x w' =>
  cases x with
  | value v=>exact h
  | skip=>exact h
  | defer d=>exact h
  | enter f args=>exact ⟨fun hh=>by simp [FW,Fence.wide] at hh,(callsIn_wide (n:=0)).2 h⟩
  | row row args=>exact ⟨fun hh=>by simp [FW,Fence.wide] at hh,fun c cs _=>let ⟨v,w',q1,q2⟩:=h c cs;⟨v,w',q1,stepsIn_wide.2 q2⟩⟩
  | _=>exact h.elim
 | halt x w' =>
  cases x with
  | panic v=>exact h
  | _=>exact h.elim
def YOK (P:Program) (E:Env) (y:YC):Prop:=∀ (w:World) (S:Nat→Prop) (μ:Mu) (σ:Sto) (vs:Array Value),Good E σ S μ w→RL w S μ vs y.as→sget σ y.k=some y.o →
 YieldAt Fence.wide 0 P y.l vs w fun e w'=>e=.returned (.bool true)∧∃ S',Ext w S μ w' S' μ∧Good E (sset σ y.k y.o') S' μ w'
def OrcOk (P:Program) (E:Env) (orc:Option Orc):Prop:=(∀ x,orc=some x→x.frz=true→∀ b,¬ E.fp b)∧∀ x y,orc=some x→x.y=some y→YOK P E y
theorem yield_sound {rd:Option Nat} {o:Oper} {a:Act} {e:Operand→AV} {y:YC} {r:R} {next:Act→World→Prop} {Q:Exit→Act→World→Prop}
  (he:∀ x∈o.op.operands.toList,RepX w S μ (a.eval x) (e x)) (g:Good E σ S μ w) {nk:Nat} (hy:YOK P E y) (h:evYield σ o.op e y=some r) (hp:AllP r.obl)
  (hK:Goes E nk σ S μ w r fun v w'=>next (a.put o.dst v) w'):o.wpIn (FW rd) 0 P a w next Q:=by
 obtain ⟨dst,op,ty,pos,after,guard⟩:=o
 unfold evYield at h
 simp only at h he
 split at h
 case h_2=>cases h
 rename_i f args tys
 split at h
 case h_2=>cases h
 rename_i l vs ws o1 hfe ho1
 simp only [Option.some.injEq] at h
 subst h
 obtain ⟨⟨rfl,rfl,rfl,has,rfl⟩,hc⟩:=hp
 have hcond:=conds_get hc
 have mem:∀ x,x∈f :: args.toList→x∈(Op.call ⟨.value f,args,tys⟩).operands.toList:=by
  intro x hx
  simp only [Op.operands,Call.operands] at *
  simpa using hx
 have hs:∀ x,x∈f :: args.toList→RepX w S μ (a.eval x) ((e x).strip.1):=fun x hx=>(he x (mem x hx)).strip (hcond x hx)
 have hf:=hs f (by simp)
 rw [hfe] at hf
 have hf:=rep_int hf
 have hrl:RL w S μ (args.map a.eval) y.as:=by
  rw [← has]
  refine ⟨by simp,fun j c v hc hv=>?_⟩
  simp only [List.getElem?_map,Option.map_eq_some_iff,Array.getElem?_map] at hc hv
  obtain ⟨x,hx,rfl⟩:=hc
  obtain ⟨x',hx',rfl⟩:=hv
  rw [← Array.getElem?_toList,hx] at hx'
  cases hx'
  exact hs x (List.mem_cons_of_mem _ (List.mem_of_getElem? hx))
 obtain ⟨fn,tmps,assign,body,hrun,hround⟩:=hy w S μ σ _ g hrl ho1
 refine ⟨fun _ _=>trivial,?_⟩
 have ex:(Oper.semAt (FW rd).round a.eval ⟨dst,.call ⟨.value f,args,tys⟩,ty,pos,after,guard⟩).run P w=.ok (.round y.l fn tmps assign body) w:=by
  rw [Oper.semAt_eq _ _ _ (fun c=>by simp)]
  have:execOp a.eval ⟨dst,.call ⟨.value f,args,tys⟩,ty,pos,after,guard⟩=(do let d ← Deferred.ofValue (a.eval f) (args.map a.eval);invoke d.target d.args:Sem Next):=rfl
  rw [this,hf]
  simpa [Deferred.ofValue,invoke] using hrun
 rw [ex]
 refine ⟨fun hh=>by simp [FW,Fence.wide] at hh,RoundIn.mono (F:=Fence.wide) hround ?_⟩
 rintro e' w' ⟨rfl,S',hx,hg⟩
 exact hK _ w' S' μ hx (by simpa [supd] using hg) (fun _ _ h=>h) (.atom _)
theorem op_soundY {rd:Option Nat} {o:Oper} {a:Act} {e:Operand→AV} {orc:Option Orc} {r:R} {nk:Nat} {next:Act→World→Prop} {Q:Exit→Act→World→Prop}
  (he:∀ x∈o.op.operands.toList,RepX w S μ (a.eval x) (e x)) (g:Good E σ S μ w) (hk16:∀ j,j < 16→μ (nk+j)=none) (hm:E.m0≤nk)
  (hz:OrcOk P E orc) (h:evOpY P nk σ o.op e orc=some r) (hp:AllP r.obl) (hK:Goes E nk σ S μ w r fun v w'=>next (a.put o.dst v) w'):o.wpIn (FW rd) 0 P a w next Q:=by
 unfold evOpY at h
 split at h
 ·rename_i y hy
  have:∃ x,orc=some x∧x.y=some y:=by
   cases orc with
   | none=>cases hy
   | some x=>exact ⟨x,rfl,hy⟩
  obtain ⟨x,h1,h2⟩:=this
  exact yield_sound (nk:=nk) he g (hz.2 x y h1 h2) h hp hK
 ·refine ⟨fun _ _=>trivial,?_⟩
  have hd:∀ c,o.op≠.defer c:=fun c hc=>by grind [evOpF,orcF_defer,evOpM,evOp]
  rw [Oper.semAt_eq _ _ _ hd]
  exact upon_in (op_soundF he g hk16 hm hz.1 h hp hK)
theorem one_sound {rd:Option Nat} {nt nk:Nat} {ops:Array Oper} {i:Nat} {o:Oper} {a:Act} {tm:List (Nat×AV)} {orc:Option Orc} {x:Rec} {K:Act→World→Prop} {Q:Exit→Act→World→Prop}
  (hi:ops[i]?=some o) (ht:∀ t,RepX w S μ (a.tmps.getD t undef) (getTm tm t)) (g:Good E σ S μ w) (hk:∀ j,j < 16→μ (nk+j)=none) (hm:E.m0≤nk)
  (hz:OrcOk P E orc) (h:evOne P nt ops.toList nk tm σ o orc=some x) (hp:AllP x.obl)
  (hK:∀ v w' S' μ',Ext w S μ w' S' μ'→Good E (supd σ x.upd) S' μ' w'→(∀ k,(k < nk∨nk+16≤k)→μ k=none→μ' k=none)→RepX w' S' μ' v x.val→K (a.put x.dst v) w') :
  wpOpIn (FW rd) 0 P ops Q i K a w:=by
 unfold evOne at h
 split at h
 ·cases h
 ·split at h
  ·rename_i hgd
   simp only [Option.map_eq_some_iff] at h
   obtain ⟨r,h1,rfl⟩:=h
   unfold wpOpIn
   rw [hi]
   simp only [Region.wanted,hgd,if_true]
   exact op_soundY (fun x _=>opd_rep ht x) g hk hm hz h1 hp hK
  ·rename_i j want hgd
   split at h
   ·cases h
   ·rename_i d hd
    have hwan:∀ gb,guardB (getTm tm d) want=some gb→Region.wanted o (yielded ops a.tmps)=gb:=fun gb hg=>by
     have hy:yielded ops a.tmps j=boolOf (a.tmps.getD d undef):=by
      unfold yielded
      unfold dstOf at hd
      have hd':(ops[j]?).bind (·.dst)=some d:=by simpa using hd
      rw [hd']
      simp only [Option.bind_some,Array.getD_eq_getD_getElem?]
      cases a.tmps[d]? with
      | none=>simp [undef,boolOf]
      | some v=>cases v<;>simp [boolOf]
     grind [Region.wanted,guardB_spec]
    split at h
    rotate_left
    ·split at h
     ·rename_i gb r hg h1
      cases h
      unfold wpOpIn
      rw [hi]
      have hw:=hwan gb hg
      obtain ⟨hg1,hp1⟩:=hp
      subst hg1
      simp only [hw,if_true]
      exact op_soundY (fun x _=>opd_rep ht x) g hk hm hz h1 hp1 hK
     ·cases h
    ·split at h
     ·rename_i gb hg
      cases h
      unfold wpOpIn
      rw [hi]
      have hw:=hwan gb hg
      obtain ⟨hg1,-⟩:=hp
      subst hg1
      simp only [hw,Bool.false_eq_true,if_false]
      refine ⟨fun _ _=>trivial,?_⟩
      exact hK undef w S μ (Ext.refl _ _ _) g (fun _ _ h=>h) (.when (fun h=>by cases h) (fun _=>rfl))
     ·cases h
    split at h
    ·rename_i gb r hg h1
     split at h
     ·rename_i hu
      cases h
      unfold wpOpIn
      rw [hi]
      have hw:Region.wanted o (yielded ops a.tmps)=gb:=hwan gb hg
      simp only [hw]
      cases gb with
      | true =>
       simp only [if_true]
       have hp':AllP r.obl:=by
        cases hr:r.obl with
        | nil=>trivial
        | cons p ps =>
         rw [hr] at hp
         exact hp.1 rfl
       refine op_soundY (fun x _=>opd_rep ht x) g hk hm hz h1 hp' ?_
       intro v w' S' μ' q1 q2 q3 q4
       rw [hu] at q2
       exact hK v w' S' μ' q1 q2 q3 (.when (fun _=>q4) (fun h=>by cases h))
      | false =>
       simp only [Bool.false_eq_true,if_false]
       refine ⟨fun _ _=>trivial,?_⟩
       exact hK undef w S μ (Ext.refl _ _ _) g (fun _ _ h=>h) (.when (fun h=>by cases h) (fun _=>rfl))
     ·cases h
    ·cases h
theorem evOne_dst {nt nk:Nat} {ops:List Oper} {tm:List (Nat×AV)} {o:Oper} {orc:Option Orc} {x:Rec} (h:evOne P nt ops nk tm σ o orc=some x):x.dst=o.dst∧∀ n,o.dst=some n→n < nt:=by
 unfold evOne at h
 split at h
 ·cases h
 ·rename_i hd
  have h2:∀ n,o.dst=some n→n < nt:=fun n hn=>by
   rw [hn] at hd;simp only [dstOk,Nat.blt,Nat.ble_eq] at hd;exact hd
  split at h
  ·simp only [Option.map_eq_some_iff] at h
   grind
  grind
theorem seq_sound {rd:Option Nat} {ds:List Deferred} {nt nk:Nat} {ops:Array Oper} {orcs:List (Nat×Orc)} (hz:∀ i,OrcOk P E (getOrc orcs i)) (hm:E.m0≤nk) {Q:Exit→Act→World→Prop}:∀ (l:List Oper) (i:Nat) (a:Act) (w:World) (tm:List (Nat×AV)) (σ:Sto) (S:Nat→Prop) (μ:Mu) (recs:List Rec),
  ops.toList.drop i=l→i+l.length=ops.size→a.tmps.size=nt→a.defers=ds→Good E σ S μ w→(∀ k,nk+16 * i≤k→μ k=none)→(∀ t,RepX w S μ (a.tmps.getD t undef) (getTm tm t)) →
  evTrace P nt ops.toList nk orcs l i tm σ=some recs→AllP (oblAll recs) →
  (∀ a' w' S' μ',a'.tmps.size=nt→a'.defers=ds→Good E (stoAll recs σ) S' μ' w'→(∀ k,nk+16 * ops.size≤k→μ' k=none)→(∀ t,RepX w' S' μ' (a'.tmps.getD t undef) (getTm (tmAll recs tm) t))→Q .normal a' w') →
  wpOpsIn (FW rd) 0 P ops Q (List.range' i l.length) a w
 | [],i,a,w,tm,σ,S,μ,recs,hl,hil,hs,hdf,g,hk,ht,h,hp,hQ=>by
  simp only [evTrace,Option.some.injEq] at h
  subst h
  simp only [List.length_nil,List.range'_zero,wpOpsIn]
  refine hQ a w S μ hs hdf g (fun k hk'=>hk k (by simp at hil;omega)) ht
 | o :: r,i,a,w,tm,σ,S,μ,recs,hl,hil,hs,hdf,g,hk,ht,h,hp,hQ=>by
  simp only [evTrace] at h
  split at h
  ·cases h
  ·rename_i x hx
   simp only [Option.map_eq_some_iff] at h
   obtain ⟨l',h2,rfl⟩:=h
   obtain ⟨p1,p2⟩:=AllP.app hp
   have hi:ops[i]?=some o:=by
    have:(ops.toList.drop i)[0]?=some o:=by rw [hl];rfl
    rw [List.getElem?_drop] at this
    simpa using this
   have hl2:ops.toList.drop (i+1)=r:=by
    rw [← List.tail_drop,hl];rfl
   obtain ⟨d1,d2⟩:=evOne_dst hx
   simp only [List.length_cons,List.range'_succ]
   rw [wpOpsIn_cons]
   refine one_sound hi ht g (fun j hj=>hk _ (by omega)) (by omega) (hz i) hx p1 ?_
   intro v w' S' μ' q1 q2 q3 q4
   refine seq_sound hz hm r (i+1) _ w' _ _ S' μ' l' hl2 (by simp at hil;omega) (by rw [put_size];exact hs) (by rw [put_defers'];exact hdf) q2 (fun k hk'=>q3 k (by omega) (hk k (by omega))) ?_ h2 p2 hQ
   intro t
   rw [put_get a x.dst v t (fun n hn=>by rw [hs];exact d2 n (d1 ▸ hn)),getTm_put]
   split
   ·exact q4
   ·exact (ht t).ext q1
end
end Go.Ab
namespace Go.Ab
def keysOf (u:Upd):List Nat:=u.map (·.1)
section
variable {P:Program} {nk:Nat} {σ σ':Sto}
theorem conds_congr {e e':Operand→AV}:∀ {xs:List Operand},(∀ x∈xs,e' x=e x)→conds e' xs=conds e xs
 | [],_=>rfl
 | x :: r,h=>by simp only [conds];rw [h x (by simp),conds_congr fun y hy=>h y (by simp [hy])]
theorem evOp_e {op:Op} {e e':Operand→AV} {orc:Option Orc} (he:∀ x∈op.operands.toList,e' x=e x):evOp P nk σ op e' orc=evOp P nk σ op e orc:=by
 cases op with
 | move x=>grind [evOp,Op.operands]
 | assign x=>grind [evOp,Op.operands]
 | pick q a b=>grind [evOp,Op.operands]
 | alloc T=>rfl
 | box T x=>grind [evOp,conds,Op.operands]
 | build t parts =>
  simp only [evOp]
  have h1:∀ x∈parts.toList.map (·.2),e' x=e x:=fun x hx=>he x (by grind [Op.operands])
  rw [conds_congr h1]
  congr 2
  apply List.map_congr_left
  grind
 | buildSlice t len parts =>
  simp only [evOp]
  have h1:∀ x∈parts.toList.map (·.2),e' x=e x:=fun x hx=>he x (by grind [Op.operands])
  rw [conds_congr h1]
  have h2:(parts.toList.map fun p=>(p.1,(e' p.2).strip.1))=(parts.toList.map fun p=>(p.1,(e p.2).strip.1)):=by
   apply List.map_congr_left
   intro p hp
   grind
  rw [h2]
 | load T x=>grind [evOp,conds,Op.operands]
 | store T x y=>grind [evOp,conds,Op.operands]
 | nilCheck x=>grind [evOp,conds,Op.operands]
 | binOp o t x y yt=>grind [evOp,conds,Op.operands]
 | unOp o t x=>grind [evOp,conds,Op.operands]
 | convert s d x=>grind [evOp,conds,Op.operands]
 | makeMap t r=>cases r<;>simp [evOp]
 | lookup t m x ok=>simp_all [evOp,conds,Op.operands]
 | mapUpdate t m x y=>simp_all [evOp,conds,Op.operands]
 | insert t m x y=>simp_all [evOp,conds,Op.operands]
 | makeFunc f first cap =>
  simp only [evOp]
  have h1:∀ x∈first.toList ++ cap.toList,e' x=e x:=fun x hx=>he x (by simpa [Op.operands] using hx)
  rw [conds_congr h1]
  congr 3
  ·apply List.map_congr_left;intro x hx;rw [h1 x (by simp only [List.mem_append];exact .inl hx)]
  ·apply List.map_congr_left;intro x hx;rw [h1 x (by simp only [List.mem_append];exact .inr hx)]
 | makeSlice t x y=>grind [evOp,conds,Op.operands]
 | slice t x lo hi mx =>
  cases mx with
  | some _=>simp [evOp]
  | none =>
   simp only [evOp]
   have h1:∀ y∈x :: (lo.toList ++ hi.toList),e' y=e y:=fun y hy=>he y (by
    simp only [List.mem_cons,List.mem_append,Option.mem_toList] at hy
    simp only [Op.operands]
    simp_all)
   rw [conds_congr h1,h1 x (by simp)]
   have h2:(lo.map fun x=>(e' x).strip.1)=lo.map fun x=>(e x).strip.1:=by
    cases lo with
    | none=>rfl
    | some y=>simp [h1 y (by simp)]
   have h3:(hi.map fun x=>(e' x).strip.1)=hi.map fun x=>(e x).strip.1:=by
    cases hi with
    | none=>rfl
    | some y=>simp [h1 y (by simp)]
   rw [h2,h3]
 | fieldAddr T x f=>grind [evOp,conds,Op.operands]
 | field T x f=>grind [evOp,conds,Op.operands]
 | indexAddr T x i=>grind [evOp,conds,Op.operands]
 | index T x i=>grind [evOp,conds,Op.operands]
 | extract x i=>grind [evOp,conds,Op.operands]
 | call c =>
  obtain ⟨callee,args,argTypes⟩:=c
  cases callee with
  | invoke=>simp [evOp]
  | value f =>
   simp only [evOp]
   have h1:∀ x∈f :: args.toList,e' x=e x:=fun x hx=>he x (by simpa [Op.operands,Call.operands] using hx)
   rw [conds_congr h1,h1 f (by simp)]
   have h2:(args.toList.map fun x=>(e' x).strip.1)=args.toList.map fun x=>(e x).strip.1:=by
    apply List.map_congr_left;intro x hx;rw [h1 x (by simp [hx])]
   rw [h2]
  | builtin b =>
   simp only [evOp]
   have h1:∀ x∈args.toList,e' x=e x:=fun x hx=>he x (by grind [Op.operands,Call.operands])
   unfold evBuiltin
   split
   ·grind [conds]
   ·grind [conds]
   ·rename_i x r ha
    rw [ha] at h1
    dsimp only
    rw [conds_congr h1,h1 x (by simp)]
    have h2:(r.map fun x=>(e' x).strip.1)=r.map fun x=>(e x).strip.1:=by
     apply List.map_congr_left;intro y hy;rw [h1 y (by simp [hy])]
    rw [h2]
   ·rename_i x r ha
    rw [ha] at h1
    dsimp only
    rw [conds_congr h1,h1 x (by simp)]
    have h2:(r.map fun x=>(e' x).strip.1)=r.map fun x=>(e x).strip.1:=by
     apply List.map_congr_left;intro y hy;rw [h1 y (by simp [hy])]
    rw [h2]
   ·rfl
 | _=>simp [evOp]
theorem load_loc {T:TypeId} {a:AV} {ps:List Prop} {x:AV} {rd:List Nat} (h:evLoad P σ T a=some (ps,x,rd)) (hs:∀ k∈rd,sget σ' k=sget σ k):evLoad P σ' T a=some (ps,x,rd):=by
 unfold evLoad at h ⊢
 split at h
 ·split at h
  ·rename_i k i j
   split at h
   ·rename_i o ho
    simp only [Option.map_eq_some_iff,Prod.mk.injEq] at h
    grind
   ·cases h
  ·exact h
  ·grind
  ·cases h
 ·cases h
theorem store_loc0 {T:TypeId} {a x:AV} {ps:List Prop} {u:Upd} {rd:List Nat} (h:evStore0 P σ T a x=some (ps,u,rd)) (hs:∀ k∈rd,sget σ' k=sget σ k):evStore0 P σ' T a x=some (ps,u,rd):=by
 unfold evStore0 at h ⊢
 grind
theorem store_loc {T:TypeId} {a x:AV} {ps:List Prop} {u:Upd} {rd:List Nat} (h:evStore P σ T a x=some (ps,u,rd)) (hs:∀ k∈rd,sget σ' k=sget σ k):evStore P σ' T a x=some (ps,u,rd):=by
 unfold evStore at h ⊢
 split at h
 ·grind
 ·exact store_loc0 h hs
theorem indexAddr_loc {T:TypeId} {x i:AV} {ps:List Prop} {v:AV} {rd:List Nat} (h:evIndexAddr P σ T x i=some (ps,v,rd)) (hs:∀ k∈rd,sget σ' k=sget σ k):evIndexAddr P σ' T x i=some (ps,v,rd):=by
 unfold evIndexAddr at h ⊢
 split at h
 ·split at h
  ·grind
  ·cases h
 ·omega
 ·cases h
theorem slice_loc {T:TypeId} {x:AV} {lo hi:Option AV} {ps:List Prop} {v:AV} {rd:List Nat} (h:evSlice P σ T x lo hi=some (ps,v,rd)) (hs:∀ k∈rd,sget σ' k=sget σ k):evSlice P σ' T x lo hi=some (ps,v,rd):=by
 unfold evSlice at h ⊢
 split at h
 ·exact h
 ·split at h
  ·grind
  ·cases h
 ·cases h
theorem src_loc {sz:Nat} {x:AV} {n:Nat} {g:Nat→List AV} {pr:Bool} {ps:List Prop} {rd:List Nat} (h:srcOf σ sz x=some (n,g,pr,ps,rd)) (hs:∀ k∈rd,sget σ' k=sget σ k):srcOf σ' sz x=some (n,g,pr,ps,rd):=by
 unfold srcOf at h ⊢
 grind
theorem convM_loc {src dst:TypeId} {x:AV} {ps:List Prop} {v:AV} {rd:List Nat} (h:evConvM P σ src dst x=some (ps,v,rd)) (hs:∀ k∈rd,sget σ' k=sget σ k):evConvM P σ' src dst x=some (ps,v,rd):=by
 unfold evConvM at h ⊢
 split at h
 ·exact h
 ·split at h
  ·rename_i n gt pr qs rd' he hsrc
   simp only [Option.some.injEq,Prod.mk.injEq] at h
   obtain ⟨rfl,rfl,rfl⟩:=h
   rw [src_loc hsrc hs,he]
  ·cases h
 ·cases h
theorem append_loc {t:TypeId} {s x:AV} {ps:List Prop} {v:AV} {rd:List Nat} {u:Upd} (h:evAppend P nk σ t s x=some (ps,v,rd,u)) (hs:∀ k∈rd,sget σ' k=sget σ k):evAppend P nk σ' t s x=some (ps,v,rd,u):=by
 unfold evAppend at h ⊢
 split at h
 ·split at h
  ·rename_i sz b z h1 h2 h3
   split at h
   ·rename_i n g pr ps' rd' hb hsrc
    split at h
    ·have hrd:rd=rd':=by simp only [Option.some.injEq,Prod.mk.injEq] at h;exact h.2.2.1.symm
     rw [src_loc hsrc (fun k hk=>hs k (hrd ▸ hk))]
     simp only [hb]
     exact h
    ·rename_i k len
     split at h
     ·rename_i o ho
      split at h
      ·rename_i hos
       have hrd:rd=k :: rd':=by simp only [Option.some.injEq,Prod.mk.injEq] at h;exact h.2.2.1.symm
       rw [src_loc hsrc (fun k hk=>hs k (by rw [hrd];simp [hk]))]
       simp only [hb,hs k (by simp [hrd]),ho,hos]
       exact h
      ·cases h
     ·cases h
    ·cases h
   ·cases h
  ·cases h
 ·cases h
mutual
theorem lend_loc {ks:List Nat}:∀ (x y:AV) (bs:List Nat) (ps:List Prop),x.lend σ ks=some (y,bs,ps)→(∀ k∈bs,sget σ' k=sget σ k)→x.lend σ' ks=some (y,bs,ps)
 | .op k i j,y,bs,ps,h,_=>by simpa [AV.lend] using h
 | .mp k,y,bs,ps,h,_=>by simpa [AV.lend] using h
 | .ov _ _ _ _ _,y,bs,ps,h,_=>by simp [AV.lend] at h
 | .osf _ _ _,y,bs,ps,h,_=>by simp [AV.lend] at h
 | .nq _ _,y,bs,ps,h,_=>by simp [AV.lend] at h
 | .bn _,y,bs,ps,h,_=>by simpa [AV.lend] using h
 | .pt _ _,y,bs,ps,h,_=>by simpa [AV.lend] using h
 | .os k off len,y,bs,ps,h,hs=>by
  simp only [AV.lend] at h ⊢
  split at h
  ·rename_i n hn;exact h
  ·rename_i hn
   split at h
   ·rename_i o ho
    split at h
    ·rename_i hp
     have hb:bs=[k]:=by simp only [Option.some.injEq,Prod.mk.injEq] at h;exact h.2.1.symm
     simp only [hs k (by simp [hb]),ho,hp]
     exact h
    ·cases h
   ·cases h
 | .agg cs,y,bs,ps,h,hs=>by
  simp only [AV.lend,Option.map_eq_some_iff] at h ⊢
  obtain ⟨⟨a,b,c⟩,h,e⟩:=h
  simp only [Prod.mk.injEq] at e
  obtain ⟨rfl,rfl,rfl⟩:=e
  exact ⟨(a,b,c),lendL_loc cs a b c h hs,rfl⟩
 | .tup cs,y,bs,ps,h,hs=>by
  simp only [AV.lend,Option.map_eq_some_iff] at h ⊢
  obtain ⟨⟨a,b,c⟩,h,e⟩:=h
  simp only [Prod.mk.injEq] at e
  obtain ⟨rfl,rfl,rfl⟩:=e
  exact ⟨(a,b,c),lendL_loc cs a b c h hs,rfl⟩
 | .fn g x z,y,bs,ps,h,hs=>by
  simp only [AV.lend] at h ⊢
  split at h
  ·rename_i a b c a' b' c' e1 e2
   simp only [Option.some.injEq,Prod.mk.injEq] at h
   obtain ⟨rfl,rfl,rfl⟩:=h
   rw [lendL_loc x a b c e1 (fun k hk=>hs k (by simp [hk])),lendL_loc z a' b' c' e2 (fun k hk=>hs k (by simp [hk]))]
  ·cases h
 | .when _ _,y,bs,ps,h,_=>by simp [AV.lend] at h
 | .mr _ _ _,y,bs,ps,h,_=>by simp [AV.lend] at h
 | .atom _,y,bs,ps,h,_=>by simpa [AV.lend] using h
 | .sl _ _,y,bs,ps,h,_=>by simpa [AV.lend] using h
 | .rp _ _,y,bs,ps,h,_=>by simpa [AV.lend] using h
 | .nil,y,bs,ps,h,_=>by simpa [AV.lend] using h
 | .unk,y,bs,ps,h,_=>by simpa [AV.lend] using h
theorem lendL_loc {ks:List Nat}:∀ (xs ys:List AV) (bs:List Nat) (ps:List Prop),AV.lendL σ ks xs=some (ys,bs,ps)→(∀ k∈bs,sget σ' k=sget σ k)→AV.lendL σ' ks xs=some (ys,bs,ps)
 | [],ys,bs,ps,h,_=>by simpa [AV.lendL] using h
 | c :: cs,ys,bs,ps,h,hs=>by
  simp only [AV.lendL] at h ⊢
  split at h
  ·rename_i a b p a' b' p' e1 e2
   simp only [Option.some.injEq,Prod.mk.injEq] at h
   obtain ⟨rfl,rfl,rfl⟩:=h
   rw [lend_loc c a b p e1 (fun k hk=>hs k (by simp [hk])),lendL_loc cs a' b' p' e2 (fun k hk=>hs k (by simp [hk]))]
  ·cases h
end
theorem canon_loc {ks:List Nat}:∀ (l:List Nat) (i:Nat),(∀ k∈l,sget σ' k=sget σ k)→canon σ' ks i l=canon σ ks i l
 | [],i,_=>rfl
 | k :: r,i,h=>by simp only [canon];rw [h k (by simp),canon_loc r (i+1) fun k hk=>h k (by simp [hk])]
theorem sameOk_loc {ks:List Nat} {lone:Bool}:∀ (l:List Nat),(∀ k∈l,sget σ' k=sget σ k)→sameOk σ' ks lone l=sameOk σ ks lone l
 | [],_=>rfl
 | k :: r,h=>by simp only [sameOk];rw [h k (by simp),sameOk_loc r fun k hk=>h k (by simp [hk])]
theorem call_loc {f:AV} {args:List AV} {orc:Orc} {r:R} (h:evCall P nk σ f args orc=some r) (hs:∀ k∈r.rds,sget σ' k=sget σ k):evCall P nk σ' f args orc=some r:=by
 unfold evCall evCallG at h ⊢
 split at h
 case h_2=>cases h
 rename_i gid first cap
 split at h
 case h_2=>cases h
 rename_i as bs ps σc h1 h2 h3
 split at h
 case h_2=>cases h
 rename_i h4
 have hr:r.rds=orc.ks ++ bs:=by
  split at h
  ·split at h
   ·split at h
    ·cases h;rfl
    ·cases h
   ·split at h
    ·cases h;rfl
    ·cases h
  ·split at h
   ·cases h;rfl
   ·cases h
 rw [hr] at hs
 simp only [h1,lendL_loc _ _ _ _ h2 (fun k hk=>hs k (by simp [hk])),canon_loc orc.ks 0 (fun k hk=>hs k (by simp [hk])),sameOk_loc (ks:=orc.ks) (lone:=bs.isEmpty || orc.frz) orc.ks (fun k hk=>hs k (by simp [hk])),sameOk_loc (ks:=orc.ks) (lone:=true) orc.ks (fun k hk=>hs k (by simp [hk])),h3,h4]
 exact h
theorem lookup_loc {t:TypeId} {m x:AV} {ok:Bool} {orc:Orc} {ps:List Prop} {v:AV} {rd:List Nat} (h:evLookup P σ t m x ok orc=some (ps,v,rd)) (hs:∀ k∈rd,sget σ' k=sget σ k):evLookup P σ' t m x ok orc=some (ps,v,rd):=by
 unfold evLookup at h ⊢
 grind
theorem mapUpd_loc {t:TypeId} {m x y:AV} {orc:Orc} {ps:List Prop} {u:Upd} {rd:List Nat} (h:evMapUpd P σ t m x y orc=some (ps,u,rd)) (hs:∀ k∈rd,sget σ' k=sget σ k):evMapUpd P σ' t m x y orc=some (ps,u,rd):=by
 unfold evMapUpd at h ⊢
 grind
theorem evOp_loc {op:Op} {e:Operand→AV} {orc:Option Orc} {r:R} (h:evOp P nk σ op e orc=some r) (hs:∀ k∈r.rds,sget σ' k=sget σ k):evOp P nk σ' op e orc=some r:=by
 cases op with
 | load T x =>
  simp only [evOp,Option.map_eq_some_iff] at h ⊢
  obtain ⟨⟨ps,v,rd⟩,h1,rfl⟩:=h
  exact ⟨_,load_loc h1 hs,rfl⟩
 | store T x y =>
  simp only [evOp,Option.map_eq_some_iff] at h ⊢
  obtain ⟨⟨ps,v,rd⟩,h1,rfl⟩:=h
  exact ⟨_,store_loc h1 hs,rfl⟩
 | indexAddr T x i =>
  simp only [evOp,Option.map_eq_some_iff] at h ⊢
  obtain ⟨⟨ps,v,rd⟩,h1,rfl⟩:=h
  exact ⟨_,indexAddr_loc h1 hs,rfl⟩
 | slice t x lo hi mx =>
  cases mx with
  | some _=>simp [evOp] at h
  | none =>
   simp only [evOp,Option.map_eq_some_iff] at h ⊢
   obtain ⟨⟨ps,v,rd⟩,h1,rfl⟩:=h
   exact ⟨_,slice_loc h1 hs,rfl⟩
 | convert src dst x =>
  simp only [evOp] at h ⊢
  split at h
  ·omega
  ·rename_i h0
   simp only [Option.map_eq_some_iff] at h ⊢
   obtain ⟨⟨ps,v,rd⟩,h1,rfl⟩:=h
   exact ⟨_,convM_loc h1 hs,rfl⟩
 | makeMap t r=>cases r with
  | none=>exact h
  | some _=>simp [evOp] at h
 | lookup t m x ok =>
  simp only [evOp] at h ⊢
  split at h
  ·simp only [Option.map_eq_some_iff] at h ⊢
   obtain ⟨⟨ps,v,rd⟩,h1,rfl⟩:=h
   exact ⟨_,lookup_loc h1 hs,rfl⟩
  ·cases h
 | mapUpdate t m x y =>
  simp only [evOp] at h ⊢
  split at h
  ·simp only [Option.map_eq_some_iff] at h ⊢
   obtain ⟨⟨ps,u,rd⟩,h1,rfl⟩:=h
   exact ⟨_,mapUpd_loc h1 hs,rfl⟩
  ·cases h
 | insert t m x y =>
  simp only [evOp] at h ⊢
  split at h
  ·simp only [Option.map_eq_some_iff] at h ⊢
   obtain ⟨⟨ps,u,rd⟩,h1,rfl⟩:=h
   exact ⟨_,mapUpd_loc h1 hs,rfl⟩
  ·cases h
 | call c =>
  obtain ⟨callee,args,argTypes⟩:=c
  cases callee with
  | invoke=>simp [evOp] at h
  | value f =>
   simp only [evOp] at h ⊢
   split at h
   ·simp only [Option.map_eq_some_iff] at h ⊢
    obtain ⟨r',h1,rfl⟩:=h
    exact ⟨_,call_loc h1 hs,rfl⟩
   ·cases h
  | builtin b =>
   simp only [evOp] at h ⊢
   unfold evBuiltin at h ⊢
   split at h
   ·exact h
   ·split at h
    ·simp only [Option.map_eq_some_iff] at h ⊢
     obtain ⟨⟨ps,v,rd,u⟩,h1,rfl⟩:=h
     exact ⟨_,append_loc h1 hs,rfl⟩
    ·cases h
   ·exact h
   ·exact h
   ·cases h
 | _=>exact h
theorem evOpM_e {op:Op} {e e':Operand→AV} {orc:Option Orc} (he:∀ x∈op.operands.toList,e' x=e x):evOpM P nk σ op e' orc=evOpM P nk σ op e orc:=by
 unfold evOpM
 split
 ·exact evOp_e he
 ·split
  ·grind [conds,Op.operands]
  ·grind [Op.operands,Call.operands,conds]
  ·grind [Op.operands,Call.operands,conds]
  ·grind [Op.operands,Call.operands,conds]
  ·rename_i t x lo hi mx
   have h1:e' x=e x:=he x (by simp [Op.operands])
   have h2:∀ y∈lo,e' y=e y:=fun y hy=>he y (by cases hy;simp [Op.operands])
   have h3:∀ y∈hi,e' y=e y:=fun y hy=>he y (by cases hy;simp [Op.operands])
   have h4:∀ y∈mx,e' y=e y:=fun y hy=>he y (by cases hy;simp [Op.operands])
   split
   ·have e2:(lo.map fun y=>(e' y).strip.1)=lo.map fun y=>(e y).strip.1:=by
     cases lo with
     | none=>rfl
     | some y=>simp only [Option.map_some];rw [h2 y rfl]
    have e3:(hi.map fun y=>(e' y).strip.1)=hi.map fun y=>(e y).strip.1:=by
     cases hi with
     | none=>rfl
     | some y=>simp only [Option.map_some];rw [h3 y rfl]
    have e4:conds e' (x :: (lo.toList ++ hi.toList))=conds e (x :: (lo.toList ++ hi.toList)):=conds_congr fun y hy=>by
     simp only [List.mem_cons,List.mem_append,Option.mem_toList] at hy
     rcases hy with rfl | hy | hy
     ·exact h1
     ·exact h2 _ hy
     ·exact h3 _ hy
    rw [h1,e2,e3,e4]
   ·split
    ·rename_i l h
     simp only [conds];rw [h1,h2 l rfl,h3 h rfl,h4 _ rfl]
    ·rfl
  ·exact evOp_e he
theorem loadO_loc {T:TypeId} {a x:AV} {ps:List Prop} {y:AV} {rd:List Nat} (h:evLoadO P σ T a x=some (ps,y,rd)) (hs:∀ k∈rd,sget σ' k=sget σ k):evLoadO P σ' T a x=some (ps,y,rd):=by
 unfold evLoadO at h ⊢
 grind
theorem supd_at:∀ (u:Upd) (n:Nat),(∀ τ τ':Sto,sget (supd τ u) n=sget (supd τ' u) n)∨∀ τ:Sto,sget (supd τ u) n=sget τ n
 | [],n=>.inr fun _=>rfl
 | (k,some o) :: u,n=>by
  simp only [supd]
  rcases supd_at u n with h | h
  ·grind
  ·by_cases hk:k=n
   ·simp_all [sget_sset,if_pos]
   simp_all [sget_sset,if_neg]
 | (k,none) :: u,n=>by
  simp only [supd]
  rcases supd_at u n with h | h
  ·grind
  ·by_cases hk:k=n
   ·simp_all [sget_sdel,if_pos]
   simp_all [sget_sdel,if_neg]
theorem cls_loc {τ τ':Sto} {k q i:Nat} (h1:sget τ' k=sget τ k) (h2:sget τ' q=sget τ q):clsP τ' k q i=clsP τ k q i:=by
 unfold clsP;rw [h1,h2]
theorem appendC_loc {t:TypeId} {s x:AV} {orc:Orc} {ps:List Prop} {v:AV} {rd:List Nat} {u:Upd} (h:evAppendC P nk σ t s x orc=some (ps,v,rd,u)) (hs:∀ k∈rd,sget σ' k=sget σ k):evAppendC P nk σ' t s x orc=some (ps,v,rd,u):=by
 unfold evAppendC at h ⊢
 split at h
 case h_2=>cases h
 rename_i q p1 v' rd' u1 hq ha
 split at h
 case h_2=>cases h
 rename_i p2 u2 hb hc
 have hrd:rd=q :: rd':=by simp only [Option.some.injEq,Prod.mk.injEq] at h;exact h.2.2.1.symm
 have ha':=append_loc ha (fun k hk=>hs k (by rw [hrd];simp [hk]))
 have hnk:sget (supd σ' u1) nk=sget (supd σ u1) nk:=by
  have hu:∃ o,u1=[(nk,some o)]∨∃ k,u1=[(k,none),(nk,some o)]:=by
   unfold evAppend at ha
   split at ha
   ·split at ha
    ·grind
    ·cases ha
   ·cases ha
  obtain ⟨o,rfl | ⟨k,rfl⟩⟩:=hu<;>simp only [supd]<;>rw [sget_sset,sget_sset,if_pos rfl,if_pos rfl]
 have hqq:sget (supd σ' u1) q=sget (supd σ u1) q:=by
  rcases supd_at u1 q with h1 | h1
  ·exact h1 _ _
  ·simp_all
 grind [cls_loc]
theorem sliceC_loc {T:TypeId} {x:AV} {lo hi:Option AV} {ps:List Prop} {v:AV} {rd:List Nat} (h:evSliceC P σ T x lo hi=some (ps,v,rd)) (hs:∀ k∈rd,sget σ' k=sget σ k):evSliceC P σ' T x lo hi=some (ps,v,rd):=by
 unfold evSliceC at h ⊢
 split at h
 case h_2=>cases h
 grind
theorem appI_loc {t:TypeId} {s x:AV} {ps:List Prop} {v:AV} {rd:List Nat} {u:Upd} (h:evAppI P σ t s x=some (ps,v,rd,u)) (hs:∀ k∈rd,sget σ' k=sget σ k):evAppI P σ' t s x=some (ps,v,rd,u):=by
 unfold evAppI at h ⊢
 split at h
 case h_2=>cases h
 grind
theorem copy_loc {t:TypeId} {s x:AV} {ps:List Prop} {v:AV} {rd:List Nat} {u:Upd} (h:evCopy P σ t s x=some (ps,v,rd,u)) (hs:∀ k∈rd,sget σ' k=sget σ k):evCopy P σ' t s x=some (ps,v,rd,u):=by
 unfold evCopy at h ⊢
 split at h
 case h_2=>cases h
 grind
theorem appR_loc {t:TypeId} {s x:AV} {ps:List Prop} {v:AV} {rd:List Nat} {u:Upd} (h:evAppR P σ t s x=some (ps,v,rd,u)) (hs:∀ k∈rd,sget σ' k=sget σ k):evAppR P σ' t s x=some (ps,v,rd,u):=by
 unfold evAppR at h ⊢
 split at h
 case h_2=>cases h
 rename_i e he
 split at h
 case h_2=>cases h
 rename_i sz b z k off m hsz hb hz
 split at h
 case h_2=>cases h
 rename_i n gt pr ps' rd' o hsrc ho
 split at h
 case h_2=>cases h
 rename_i hbb
 have hrd:rd=k :: rd':=by simp only [Option.some.injEq,Prod.mk.injEq] at h;exact h.2.2.1.symm
 rw [src_loc hsrc (fun k hk=>hs k (by rw [hrd];simp [hk]))]
 grind
theorem appF_loc {t:TypeId} {s x:AV} {ps:List Prop} {v:AV} {rd:List Nat} {u:Upd} (h:evAppF P nk σ t s x=some (ps,v,rd,u)) (hs:∀ k∈rd,sget σ' k=sget σ k):evAppF P nk σ' t s x=some (ps,v,rd,u):=by
 unfold evAppF at h ⊢
 split at h
 case h_2=>cases h
 rename_i e he
 split at h
 case h_2=>cases h
 rename_i sz b z k off m hsz hb hz
 split at h
 case h_2=>cases h
 rename_i n gt pr ps' rd' o hsrc ho
 split at h
 case h_2=>cases h
 rename_i hbb
 have hrd:rd=k :: rd':=by simp only [Option.some.injEq,Prod.mk.injEq] at h;exact h.2.2.1.symm
 rw [src_loc hsrc (fun k hk=>hs k (by rw [hrd];simp [hk]))]
 grind
theorem clear_loc {t:TypeId} {x:AV} {ps:List Prop} {v:AV} {rd:List Nat} {u:Upd} (h:evClear P σ t x=some (ps,v,rd,u)) (hs:∀ k∈rd,sget σ' k=sget σ k):evClear P σ' t x=some (ps,v,rd,u):=by
 unfold evClear at h ⊢
 split at h
 case h_2=>cases h
 grind
theorem evOpM_loc {op:Op} {e:Operand→AV} {orc:Option Orc} {r:R} (h:evOpM P nk σ op e orc=some r) (hs:∀ k∈r.rds,sget σ' k=sget σ k):evOpM P nk σ' op e orc=some r:=by
 unfold evOpM at h ⊢
 split at h
 ·exact evOp_loc h hs
 ·rename_i q h0
  split at h
  ·simp only [Option.map_eq_some_iff] at h ⊢
   obtain ⟨⟨ps,v,rd⟩,h1,rfl⟩:=h
   exact ⟨_,loadO_loc h1 hs,rfl⟩
  ·split at h
   ·rename_i x y t t' ha ht
    split at h
    ·rename_i hb
     simp only [Option.map_eq_some_iff] at h
     obtain ⟨⟨ps,v,rd,u⟩,h1,rfl⟩:=h
     simp only [ha,ht,hb,Option.map_eq_some_iff]
     refine ⟨⟨ps,v,rd,u⟩,?_,rfl⟩
     split at h1
     ·exact appI_loc h1 hs
     ·exact appR_loc h1 hs
     ·exact appF_loc h1 hs
     ·exact appendC_loc h1 hs
    ·cases h
   ·cases h
  ·split at h
   ·rename_i x y t t' ha ht
    simp only [Option.map_eq_some_iff] at h
    obtain ⟨⟨ps,v,rd,u⟩,h1,rfl⟩:=h
    simp only [ha,ht,Option.map_eq_some_iff]
    exact ⟨_,copy_loc h1 hs,rfl⟩
   ·cases h
  ·split at h
   ·rename_i x t ha ht
    simp only [Option.map_eq_some_iff] at h
    obtain ⟨⟨ps,v,rd,u⟩,h1,rfl⟩:=h
    simp only [ha,ht,Option.map_eq_some_iff]
    exact ⟨_,clear_loc h1 hs,rfl⟩
   ·cases h
  ·split at h
   ·simp only [Option.map_eq_some_iff] at h ⊢
    obtain ⟨⟨ps,v,rd⟩,h1,rfl⟩:=h
    exact ⟨_,sliceC_loc h1 hs,rfl⟩
   ·exact h
  ·exact evOp_loc h hs
theorem fzC_congr {τ:Sto} {e e':Operand→AV}:∀ {xs:List Operand},(∀ x∈xs,e' x=e x)→fzC τ e' xs=fzC τ e xs
 | [],_=>rfl
 | x :: r,h=>by simp only [fzC];rw [h x (by simp),fzC_congr fun y hy=>h y (by simp [hy])]
theorem fzS_congr:∀ {τ:Sto} {ps:List Prop},fzS σ τ=some ps→(∀ k∈τ.map (·.1),sget σ' k=sget σ k)→fzS σ' τ=some ps
 | [],ps,h,_=>h
 | (k,o') :: r,ps,h,hs=>by
  simp only [fzS] at h ⊢
  split at h
  ·rename_i o qs ho hr
   rw [hs k (by simp),ho,fzS_congr hr fun k hk=>hs k (by simp_all)]
   exact h
  ·cases h
theorem evOpF_e {op:Op} {e e':Operand→AV} {orc:Option Orc} (he:∀ x∈op.operands.toList,e' x=e x):evOpF P nk σ op e' orc=evOpF P nk σ op e orc:=by
 simp_all [evOpF,evOpM_e,fzC_congr,fzA]
theorem evOpF_loc {op:Op} {e:Operand→AV} {orc:Option Orc} {r:R} (h:evOpF P nk σ op e orc=some r) (hs:∀ k∈r.rds,sget σ' k=sget σ k):evOpF P nk σ' op e orc=some r:=by
 unfold evOpF at h ⊢
 split at h
 ·exact evOpM_loc h hs
 ·split at h
  ·rename_i ps r0 h1 h2
   cases h
   rw [fzS_congr h1 fun k hk=>hs k (List.mem_append_left _ hk),evOpM_loc h2 fun k hk=>by rw [frzU_get,frzU_get,hs k (List.mem_append_right _ hk)]]
  ·cases h
end
end Go.Ab
namespace Go.Ab
def hasK (l:List Nat) (k:Nat):Bool:=l.any fun x=>Nat.beq x k
theorem hasK_iff {l:List Nat} {k:Nat}:hasK l k=true↔k∈l:=by
 simp only [hasK,List.any_eq_true]
 simp
theorem blt_t {a b:Nat} (h:a < b):Nat.blt a b=true:=by
 simp_all
theorem blt_f {a b:Nat} (h:¬ a < b):Nat.blt a b=false:=by
 cases hb:Nat.blt a b with
 | false=>rfl
 | true=>simp only [Nat.blt,Nat.ble_eq] at hb;exact (h hb).elim
theorem blt_lt {a b:Nat} (h:Nat.blt a b=true):a < b:=by
 simp_all
def tmpsOf:List Operand→List Nat
 | []=>[]
 | .tmp t :: r=>t :: tmpsOf r
 | _ :: r=>tmpsOf r
def looks (ops:List Oper) (o:Oper):List Nat :=
 tmpsOf o.op.operands.toList ++ (match o.guard with
  | some (j,_)=>(dstOf ops j).toList
  | none=>[])
theorem mem_tmpsOf:∀ {l:List Operand} {t:Nat},Operand.tmp t∈l→t∈tmpsOf l
 | [],_,h=>by simp at h
 | x :: r,t,h=>by
  rcases List.mem_cons.1 h with rfl | h'
  ·simp [tmpsOf]
  ·have:=mem_tmpsOf h'
   cases x<;>simp [tmpsOf,this]
def edgesOf (o:Oper):List Nat:=(o.after.toList.filter (Region.binds .any ·)).map (·.on)
def isAnc (ops:List Oper):Nat→Nat→Nat→Bool
 | 0,_,_=>false
 | n+1,i,j=>match ops[j]? with
  | none=>false
  | some o=>(edgesOf o).any fun e=>Nat.beq e i || isAnc ops n i e
def sameDst:Option Nat→Option Nat→Bool
 | some a,some b=>Nat.beq a b
 | _,_=>false
def meets (l m:List Nat):Bool:=l.any fun k=>hasK m k
def clash (ops:List Oper) (o p:Oper) (x y:Rec):Bool :=
 meets x.dst.toList (looks ops p) || meets y.dst.toList (looks ops o) || meets (keysOf x.upd) (y.rds ++ keysOf y.upd) || meets x.rds (keysOf y.upd)
def pairOk (ops:List Oper) (recs:List Rec) (i j:Nat):Bool :=
 match ops[i]?,ops[j]?,recs[i]?,recs[j]? with
 | some o,some p,some x,some y=>!sameDst x.dst y.dst && (!clash ops o p x y || isAnc ops ops.length i j)
 | _,_,_,_=>false
def edgesOk (ops:List Oper) (j:Nat):Bool :=
 match ops[j]? with
 | some o=>(edgesOf o).all fun e=>Nat.blt e j
 | none=>false
def drawOk (ops:List Oper) (recs:List Rec):Bool :=
 (List.range ops.length).all fun j=>edgesOk ops j && (List.range j).all fun i=>pairOk ops recs i j
def tmL (L:Nat→Bool):List Rec→Nat→List (Nat×AV)→List (Nat×AV)
 | [],_,tm=>tm
 | x :: r,i,tm=>tmL L r (i+1) (match L i with
  | true=>putTm tm x.dst x.val
  | false=>tm)
def stoL (L:Nat→Bool):List Rec→Nat→Sto→Sto
 | [],_,σ=>σ
 | x :: r,i,σ=>stoL L r (i+1) (match L i with
  | true=>supd σ x.upd
  | false=>σ)
theorem supd_get:∀ (u:Upd) (σ:Sto) (k:Nat),sget (supd σ u) k=if k∈keysOf u then sget (supd [] u) k else sget σ k
 | [],σ,k=>by simp [keysOf,supd]
 | (n,some o) :: r,σ,k=>by
  simp only [supd]
  rw [supd_get r (sset σ n o) k,supd_get r (sset [] n o) k,sget_sset,sget_sset]
  by_cases h1:k∈keysOf r
  ·simp [keysOf] at h1 ⊢;simp [h1]
  ·by_cases h2:n=k
   ·subst h2;simp [keysOf]
   ·have:¬ k∈keysOf ((n,some o) :: r):=by simp [keysOf] at h1 ⊢;exact ⟨fun h=>h2 h.symm,h1⟩
    rw [if_neg h1,if_neg h2,if_neg this]
 | (n,none) :: r,σ,k=>by
  simp only [supd]
  rw [supd_get r (sdel σ n) k,supd_get r (sdel [] n) k,sget_sdel,sget_sdel]
  by_cases h1:k∈keysOf r
  ·simp [keysOf] at h1 ⊢;simp [h1]
  ·by_cases h2:n=k
   ·subst h2;simp [keysOf]
   ·have:¬ k∈keysOf ((n,none) :: r):=by simp [keysOf] at h1 ⊢;exact ⟨fun h=>h2 h.symm,h1⟩
    rw [if_neg h1,if_neg h2,if_neg this]
theorem tm_agree {L L':Nat→Bool} {t:Nat}:∀ (recs:List Rec) (i:Nat) (tm tm':List (Nat×AV)),getTm tm t=getTm tm' t →
  (∀ (m:Nat) (x:Rec),recs[m]?=some x→L (i+m)≠L' (i+m)→x.dst≠some t)→getTm (tmL L recs i tm) t=getTm (tmL L' recs i tm') t
 | [],_,_,_,h,_=>h
 | x :: r,i,tm,tm',h,hd=>by
  simp only [tmL]
  refine tm_agree r (i+1) _ _ ?_ (fun m y hy hne=>hd (m+1) y (by simpa using hy) (by grind))
  by_cases he:L i=L' i
  ·grind [getTm_put]
  ·have:=hd 0 x (by simp) (by simpa using he)
   have e1:getTm (putTm tm x.dst x.val) t=getTm tm t:=by rw [getTm_put,if_neg this]
   have e2:getTm (putTm tm' x.dst x.val) t=getTm tm' t:=by rw [getTm_put,if_neg this]
   grind
theorem sto_agree {L L':Nat→Bool} {k:Nat}:∀ (recs:List Rec) (i:Nat) (σ σ':Sto),sget σ k=sget σ' k →
  (∀ (m:Nat) (x:Rec),recs[m]?=some x→L (i+m)≠L' (i+m)→k ∉ keysOf x.upd)→sget (stoL L recs i σ) k=sget (stoL L' recs i σ') k
 | [],_,_,_,h,_=>h
 | x :: r,i,σ,σ',h,hd=>by
  simp only [stoL]
  refine sto_agree r (i+1) _ _ ?_ (fun m y hy hne=>hd (m+1) y (by simpa using hy) (by grind))
  by_cases he:L i=L' i
  ·grind [supd_get]
  ·have:=hd 0 x (by simp) (by simpa using he)
   have e1:sget (supd σ x.upd) k=sget σ k:=by rw [supd_get,if_neg this]
   have e2:sget (supd σ' x.upd) k=sget σ' k:=by rw [supd_get,if_neg this]
   grind
theorem tm_more {L:Nat→Bool} {i0:Nat} {x:Rec} {t:Nat}:∀ (recs:List Rec) (i:Nat) (tm:List (Nat×AV)),i≤i0→recs[i0 - i]?=some x →
  (∀ (m:Nat) (y:Rec),recs[m]?=some y→i0 < i+m→x.dst=some t→y.dst≠some t) →
  getTm (tmL (fun q=>L q || Nat.beq q i0) recs i tm) t=if x.dst=some t then x.val else getTm (tmL L recs i tm) t
 | [],i,tm,_,h,_=>by simp at h
 | y :: r,i,tm,hi,h,hd=>by
  simp only [tmL]
  by_cases he:i=i0
  ·subst he
   simp at h;subst h
   rw [beq_t rfl,Bool.or_true]
   have hlater:∀ tm1 tm2:List (Nat×AV),getTm tm1 t=getTm tm2 t→getTm (tmL (fun q=>L q || Nat.beq q i) r (i+1) tm1) t=getTm (tmL L r (i+1) tm2) t:=by
    intro tm1 tm2 h12
    refine tm_agree r (i+1) _ _ h12 ?_
    intro m z hz hne
    exfalso
    apply hne
    rw [beq_f (by omega),Bool.or_false]
   by_cases hx:y.dst=some t
   ·rw [if_pos hx]
    have hno:∀ (l:List Rec) (n:Nat) (tm:List (Nat×AV)) (M:Nat→Bool),(∀ (m:Nat) (z:Rec),l[m]?=some z→z.dst≠some t)→getTm (tmL M l n tm) t=getTm tm t:=by
     intro l
     induction l with
     | nil=>intro n tm M _;rfl
     | cons z l ih =>
      intro n tm M hz
      simp only [tmL]
      rw [ih _ _ _ (fun m u hu=>hz (m+1) u (by simpa using hu))]
      split
      ·rw [getTm_put,if_neg (hz 0 z (by simp))]
      ·rfl
    rw [hno r _ _ _ (fun m z hz=>hd (m+1) z (by simpa using hz) (by omega) hx),getTm_put,if_pos hx]
   ·rw [if_neg hx]
    refine hlater _ _ ?_
    rw [getTm_put,if_neg hx]
    split
    ·rw [getTm_put,if_neg hx]
    ·rfl
  ·rw [beq_f he,Bool.or_false]
   refine tm_more r (i+1) _ (by omega) ?_ (fun m z hz hlt=>hd (m+1) z (by simpa using hz) (by omega))
   rw [show i0 - i=(i0 - (i+1))+1 by omega] at h
   simpa using h
theorem sto_more {L:Nat→Bool} {i0:Nat} {x:Rec} {k:Nat}:∀ (recs:List Rec) (i:Nat) (σ:Sto),i≤i0→recs[i0 - i]?=some x →
  (∀ (m:Nat) (y:Rec),recs[m]?=some y→i0 < i+m→L (i+m)=true→k∈keysOf x.upd→k ∉ keysOf y.upd) →
  sget (stoL (fun q=>L q || Nat.beq q i0) recs i σ) k=if k∈keysOf x.upd then sget (supd [] x.upd) k else sget (stoL L recs i σ) k
 | [],i,σ,_,h,_=>by simp at h
 | y :: r,i,σ,hi,h,hd=>by
  simp only [stoL]
  by_cases he:i=i0
  ·subst he
   simp at h;subst h
   rw [beq_t rfl,Bool.or_true]
   by_cases hx:k∈keysOf y.upd
   ·rw [if_pos hx]
    have hno:∀ (l:List Rec) (n:Nat) (σ:Sto) (M:Nat→Bool),(∀ (m:Nat) (z:Rec),l[m]?=some z→M (n+m)=true→k ∉ keysOf z.upd)→sget (stoL M l n σ) k=sget σ k:=by
     intro l
     induction l with
     | nil=>intro n tm M _;rfl
     | cons z l ih =>
      intro n σ M hz
      simp only [stoL]
      rw [ih _ _ _ (fun m u hu hM=>hz (m+1) u (by simpa using hu) (by grind))]
      split
      ·rename_i hM
       rw [supd_get,if_neg (hz 0 z (by simp) (by simpa using hM))]
      ·rfl
    rw [hno r _ _ _ ?_,supd_get,if_pos hx]
    intro m z hz hM
    rw [beq_f (by omega),Bool.or_false] at hM
    exact hd (m+1) z (by simpa using hz) (by omega) (by grind) hx
   ·rw [if_neg hx]
    refine sto_agree r (i+1) _ _ ?_ ?_
    ·rw [supd_get,if_neg hx]
     split
     ·rw [supd_get,if_neg hx]
     ·rfl
    ·intro m z hz hne
     exfalso
     apply hne
     rw [beq_f (by omega),Bool.or_false]
  ·rw [beq_f he,Bool.or_false]
   refine sto_more r (i+1) _ (by omega) ?_ (fun m z hz hlt hL=>hd (m+1) z (by simpa using hz) (by omega) (by grind))
   grind
theorem tmL_all:∀ (recs:List Rec) (i:Nat) (tm:List (Nat×AV)) (L:Nat→Bool),(∀ m,m < recs.length→L (i+m)=true)→tmL L recs i tm=tmAll recs tm
 | [],_,_,_,_=>rfl
 | x :: r,i,tm,L,h=>by
  simp only [tmL,tmAll]
  have:=h 0 (by simp)
  rw [Nat.add_zero] at this
  rw [this,tmL_all r (i+1) _ L (fun m hm=>by rw [show i+1+m=i+(m+1) by omega];simp_all)]
theorem stoL_all:∀ (recs:List Rec) (i:Nat) (σ:Sto) (L:Nat→Bool),(∀ m,m < recs.length→L (i+m)=true)→stoL L recs i σ=stoAll recs σ
 | [],_,_,_,_=>rfl
 | x :: r,i,σ,L,h=>by
  simp only [stoL,stoAll]
  have:=h 0 (by simp)
  rw [Nat.add_zero] at this
  rw [this,stoL_all r (i+1) _ L (fun m hm=>by rw [show i+1+m=i+(m+1) by omega];simp_all)]
theorem tmL_none:∀ (recs:List Rec) (i:Nat) (tm:List (Nat×AV)) (L:Nat→Bool),(∀ m,m < recs.length→L (i+m)=false)→tmL L recs i tm=tm
 | [],_,_,_,_=>rfl
 | x :: r,i,tm,L,h=>by
  simp only [tmL]
  have:=h 0 (by simp)
  rw [Nat.add_zero] at this
  rw [this,tmL_none r (i+1) _ L (fun m hm=>by rw [show i+1+m=i+(m+1) by omega];simp_all)]
theorem stoL_none:∀ (recs:List Rec) (i:Nat) (σ:Sto) (L:Nat→Bool),(∀ m,m < recs.length→L (i+m)=false)→stoL L recs i σ=σ
 | [],_,_,_,_=>rfl
 | x :: r,i,σ,L,h=>by
  simp only [stoL]
  have:=h 0 (by simp)
  rw [Nat.add_zero] at this
  rw [this,stoL_none r (i+1) _ L (fun m hm=>by rw [show i+1+m=i+(m+1) by omega];simp_all)]
section
variable {P:Program}
theorem trace_get {nt nk:Nat} {ops:List Oper} {orcs:List (Nat×Orc)}:∀ (l:List Oper) (i:Nat) (tm:List (Nat×AV)) (σ:Sto) (recs:List Rec),evTrace P nt ops nk orcs l i tm σ=some recs →
  recs.length=l.length∧∀ (m:Nat) (x:Rec),recs[m]?=some x→∃ o,l[m]?=some o ∧
   evOne P nt ops (nk+16 * (i+m)) (tmL (fun q=>Nat.blt q (i+m)) recs i tm) (stoL (fun q=>Nat.blt q (i+m)) recs i σ) o (getOrc orcs (i+m))=some x
 | [],i,tm,σ,recs,h=>by
  simp only [evTrace,Option.some.injEq] at h
  simp_all
 | o :: r,i,tm,σ,recs,h=>by
  simp only [evTrace] at h
  split at h
  ·cases h
  ·rename_i x0 hx0
   simp only [Option.map_eq_some_iff] at h
   obtain ⟨l',h2,rfl⟩:=h
   obtain ⟨h3,h4⟩:=trace_get r (i+1) _ _ l' h2
   refine ⟨by simp [h3],?_⟩
   intro m x hx
   cases m with
   | zero =>
    simp at hx;subst hx
    refine ⟨o,by simp,?_⟩
    simp only [Nat.add_zero,tmL,stoL]
    have hii:Nat.blt i i=false:=blt_f (by omega)
    rw [hii]
    rw [tmL_none,stoL_none]
    ·exact hx0
    ·intro m _;exact blt_f (by omega)
    ·intro m _;exact blt_f (by omega)
   | succ m =>
    obtain ⟨o',ho',he⟩:=h4 m x (by simpa using hx)
    refine ⟨o',by simpa using ho',?_⟩
    have hii:Nat.blt i (i+(m+1))=true:=blt_t (by omega)
    simp only [tmL,stoL]
    rw [hii]
    rw [show i+(m+1)=i+1+m by omega]
    exact he
theorem evOpY_e {nk:Nat} {op:Op} {e e':Operand→AV} {orc:Option Orc} {σ:Sto} (he:∀ x∈op.operands.toList,e' x=e x):evOpY P nk σ op e' orc=evOpY P nk σ op e orc:=by
 unfold evOpY
 split
 ·unfold evYield
  split
  ·rename_i f args tys
   have mem:∀ x,x∈f :: args.toList→e' x=e x:=by
    intro x hx
    refine he x ?_
    simp only [Op.operands,Call.operands] at *
    simpa using hx
   rw [mem f (by simp),conds_congr mem,List.map_congr_left (fun x hx=>by rw [mem x (List.mem_cons_of_mem _ hx)]:∀ x∈args.toList,(e' x).strip.1=(e x).strip.1)]
  ·rfl
 ·exact evOpF_e he
theorem evOpY_loc {nk:Nat} {op:Op} {e:Operand→AV} {orc:Option Orc} {σ σ':Sto} {r:R} (h:evOpY P nk σ op e orc=some r) (hs:∀ k∈r.rds,sget σ' k=sget σ k):evOpY P nk σ' op e orc=some r:=by
 unfold evOpY at h ⊢
 split at h
 ·unfold evYield at h ⊢
  grind
 ·exact evOpF_loc h hs
theorem evOne_loc {nt nk:Nat} {ops:List Oper} {tm tm':List (Nat×AV)} {σ σ':Sto} {o:Oper} {orc:Option Orc} {x:Rec} (h:evOne P nt ops nk tm σ o orc=some x)
  (ht:∀ t∈looks ops o,getTm tm' t=getTm tm t) (hs:∀ k∈x.rds,sget σ' k=sget σ k):evOne P nt ops nk tm' σ' o orc=some x:=by
 have he:∀ y∈o.op.operands.toList,evOpd tm' y=evOpd tm y:=by
  intro y hy
  cases y with
  | tmp t=>exact ht t (by simp only [looks,List.mem_append];exact .inl (mem_tmpsOf hy))
  | _=>rfl
 unfold evOne at h ⊢
 split at h
 ·cases h
 ·split at h
  ·simp only [Option.map_eq_some_iff] at h ⊢
   obtain ⟨r,h1,rfl⟩:=h
   exact ⟨r,by rw [evOpY_e he];exact evOpY_loc h1 hs,rfl⟩
  ·rename_i j want hgd
   split at h
   ·cases h
   ·rename_i d hd
    have htd:getTm tm' d=getTm tm d:=ht d (by simp [looks,hgd,hd])
    rw [htd]
    split at h
    ·split at h
     ·rename_i g r hg h1
      split at h
      ·rename_i hu
       cases h
       rw [evOpY_e he,evOpY_loc h1 hs,hg]
       simp [hu]
      ·cases h
     ·cases h
    ·split at h
     ·rename_i g r hg h1
      cases h
      rw [evOpY_e he,evOpY_loc h1 hs,hg]
     ·cases h
    ·split at h
     ·rename_i g hg
      exact h
     ·cases h
theorem anc_listed {ops:List Oper} {L:Nat→Bool} (hd:∀ j,L j=true→∀ o,ops[j]?=some o→∀ e∈edgesOf o,L e=true):∀ (n i j:Nat),isAnc ops n i j=true →
  (∀ o,ops[j]?=some o→∀ e∈edgesOf o,L e=true)→L i=true
 | 0,i,j,h,_=>by simp [isAnc] at h
 | n+1,i,j,h,hj=>by
  simp only [isAnc] at h
  split at h
  ·cases h
  ·rename_i o ho
   simp only [List.any_eq_true,Bool.or_eq_true] at h
   obtain ⟨e,he,h | h⟩:=h
   ·simp_all
   ·exact anc_listed hd n i e h fun o' ho' e' he'=>hd e (hj o ho e he) o' ho' e' he'
def Meet (ops:List Oper) (o p:Oper) (x y:Rec):Prop :=
 (∃ d,x.dst=some d∧d∈looks ops p)∨(∃ d,y.dst=some d∧d∈looks ops o)∨(∃ k,k∈keysOf x.upd∧(k∈y.rds∨k∈keysOf y.upd))∨∃ k,k∈x.rds∧k∈keysOf y.upd
theorem meets_iff {l m:List Nat} {k:Nat} (h1:k∈l) (h2:k∈m):meets l m=true:=List.any_eq_true.2 ⟨k,h1,hasK_iff.2 h2⟩
theorem Meet.clash {ops:List Oper} {o p:Oper} {x y:Rec} (h:Meet ops o p x y):clash ops o p x y=true:=by
 unfold Ab.clash
 simp only [Bool.or_eq_true]
 rcases h with ⟨d,h1,h2⟩ | ⟨d,h1,h2⟩ | ⟨k,h1,h2⟩ | ⟨k,h1,h2⟩
 ·simp_all [meets_iff]
 ·simp_all [meets_iff]
 ·grind [meets_iff]
 grind [meets_iff]
theorem Meet.symm {ops:List Oper} {o p:Oper} {x y:Rec} (h:Meet ops o p x y):Meet ops p o y x:=by
 rcases h with h | h | ⟨k,h1,h2 | h2⟩ | ⟨k,h1,h2⟩
 ·exact .inr (.inl h)
 ·exact .inl h
 ·exact .inr (.inr (.inr ⟨k,h2,h1⟩))
 ·exact .inr (.inr (.inl ⟨k,h2,.inr h1⟩))
 ·exact .inr (.inr (.inl ⟨k,h2,.inl h1⟩))
theorem count_set:∀ (l:List Bool) (i:Nat),l[i]?=some false→((l.set i true).filter (· == true)).length=(l.filter (· == true)).length+1
 | [],i,h=>by simp at h
 | b :: l,0,h=>by simp at h;subst h;simp
 | b :: l,i+1,h=>by
  have:=count_set l i (by simpa using h)
  cases b<;>simp_all
theorem draw_sound {E:Env} {rd:Option Nat} {ds:List Deferred} {nt nk:Nat} {ops:Array Oper} {orcs:List (Nat×Orc)} {tm0:List (Nat×AV)} {σ0:Sto} {recs:List Rec} {Q:Exit→Act→World→Prop} (hz:∀ i,OrcOk P E (getOrc orcs i)) (hm:E.m0≤nk)
  (htr:evTrace P nt ops.toList nk orcs ops.toList 0 tm0 σ0=some recs) (hp:AllP (oblAll recs)) (hok:drawOk ops.toList recs=true)
  (hQ:∀ a' w' S' μ',a'.tmps.size=nt→a'.defers=ds→Good E (stoAll recs σ0) S' μ' w'→(∀ k,nk+16 * ops.size≤k→μ' k=none)→(∀ t,RepX w' S' μ' (a'.tmps.getD t undef) (getTm (tmAll recs tm0) t))→Q .normal a' w') :
  ∀ (fuel:Nat) (listed:Array Bool) (a:Act) (w:World) (S:Nat→Prop) (μ:Mu),listed.size=ops.size→a.tmps.size=nt→a.defers=ds →
   (∀ j,listed.getD j false=true→∀ o,ops.toList[j]?=some o→∀ e∈edgesOf o,listed.getD e false=true)→ops.size≤fuel+(listed.toList.filter (· == true)).length →
   Good E (stoL (fun j=>listed.getD j false) recs 0 σ0) S μ w→(∀ k,nk≤k→(∀ j,nk+16 * j≤k→k < nk+16 * j+16→listed.getD j false=false)→μ k=none) →
   (∀ t,RepX w S μ (a.tmps.getD t undef) (getTm (tmL (fun j=>listed.getD j false) recs 0 tm0) t)) →
   wpAnyIn (FW rd) 0 P .any ops Q fuel listed a w:=by
 obtain ⟨hlen,hget⟩:=trace_get ops.toList 0 tm0 σ0 recs htr
 simp only [Nat.zero_add] at hget
 have hall:∀ j,j < ops.size→edgesOk ops.toList j=true∧∀ i,i < j→pairOk ops.toList recs i j=true:=by
  intro j hj
  have:=List.all_eq_true.1 hok j (List.mem_range.2 (by simpa using hj))
  simp only [Bool.and_eq_true] at this
  exact ⟨this.1,fun i hi=>List.all_eq_true.1 this.2 i (List.mem_range.2 hi)⟩
 have hedge:∀ j o,ops.toList[j]?=some o→∀ e∈edgesOf o,e < j:=by
  intro j o ho e he
  have hj:j < ops.size:=by simpa using (List.getElem?_eq_some_iff.1 ho).1
  have h1:=(hall j hj).1
  unfold edgesOk at h1
  rw [ho] at h1
  exact blt_lt (List.all_eq_true.1 h1 e he)
 have hpair:∀ i j o p x y,i < j→ops.toList[i]?=some o→ops.toList[j]?=some p→recs[i]?=some x→recs[j]?=some y →
   sameDst x.dst y.dst=false∧(clash ops.toList o p x y=true→isAnc ops.toList ops.toList.length i j=true):=by
  intro i j o p x y hij ho hp' hx hy
  have hj:j < ops.size:=by simpa using (List.getElem?_eq_some_iff.1 hp').1
  have h1:=(hall j hj).2 i hij
  unfold pairOk at h1
  rw [ho,hp',hx,hy] at h1
  simp only [Bool.and_eq_true,Bool.not_eq_true',Bool.or_eq_true] at h1
  refine ⟨h1.1,fun hc=>?_⟩
  rcases h1.2 with h2 | h2
  ·rw [hc] at h2;cases h2
  ·exact h2
 -- what is ready
 have hready:∀ (listed:Array Bool),listed.size=ops.size→∀ i,i∈Region.ready .any ops listed↔(i < ops.size∧listed.getD i false=false∧∀ o,ops.toList[i]?=some o→∀ e∈edgesOf o,listed.getD e false=true):=by
  intro listed hls i
  unfold Region.ready
  simp only [List.mem_filter,List.mem_range,Bool.and_eq_true,Bool.not_eq_true']
  constructor
  ·rintro ⟨h1,h2,h3⟩
   have hl:i < listed.size:=by omega
   refine ⟨h1,?_,?_⟩
   ·simp only [Array.getD_eq_getD_getElem?,Array.getElem?_eq_getElem hl,Option.getD_some] at h2 ⊢;exact h2
   ·intro o ho e he
    have ho':ops[i]?=some o:=by simpa using ho
    simp only [ho',Option.map_some,Option.getD_some,Array.all_eq_true'] at h3
    simp only [edgesOf,List.mem_map,List.mem_filter] at he
    obtain ⟨ed,⟨hed,hbd⟩,rfl⟩:=he
    have:=h3 ed (by simpa using hed)
    rw [hbd] at this
    simpa only [Bool.not_true,Bool.false_or] using this
  ·rintro ⟨h1,h2,h3⟩
   have hl:i < listed.size:=by omega
   refine ⟨h1,?_,?_⟩
   ·simp only [Array.getD_eq_getD_getElem?,Array.getElem?_eq_getElem hl,Option.getD_some] at h2 ⊢;exact h2
   ·have ho:ops[i]?=some ops[i]:=Array.getElem?_eq_getElem h1
    simp only [ho,Option.map_some,Option.getD_some,Array.all_eq_true']
    intro ed hed
    simp only [Bool.or_eq_true,Bool.not_eq_true']
    cases hb:Region.binds .any ed with
    | false=>exact .inl rfl
    | true =>
     right
     exact h3 ops[i] (by simp) ed.on (by simp only [edgesOf,List.mem_map,List.mem_filter];exact ⟨ed,⟨by simpa using hed,hb⟩,rfl⟩)
 intro fuel
 -- the end
 have fin:∀ (listed:Array Bool) (a:Act) (w:World) (S:Nat→Prop) (μ:Mu),listed.size=ops.size→a.tmps.size=nt→a.defers=ds→(∀ j,j < ops.size→listed.getD j false=true) →
   Good E (stoL (fun j=>listed.getD j false) recs 0 σ0) S μ w→(∀ k,nk≤k→(∀ j,nk+16 * j≤k→k < nk+16 * j+16→listed.getD j false=false)→μ k=none) →
   (∀ t,RepX w S μ (a.tmps.getD t undef) (getTm (tmL (fun j=>listed.getD j false) recs 0 tm0) t))→Q .normal a w:=by
  intro listed a w S μ hls hs hdf hal g hk ht
  have hL:∀ m,m < recs.length→(fun j=>listed.getD j false) (0+m)=true:=fun m hm'=>by
   rw [Nat.zero_add];exact hal m (by rw [hlen] at hm';simpa using hm')
  rw [stoL_all recs 0 σ0 _ hL] at g
  refine hQ a w S μ hs hdf g (fun k hk'=>hk k (by omega) fun j hj hj2=>?_) (fun t=>by rw [← tmL_all recs 0 tm0 (fun j=>listed.getD j false) hL];exact ht t)
  have:listed.size≤j:=by omega
  simp [Array.getD_eq_getD_getElem?,Array.getElem?_eq_none this]
 have allOf:∀ (listed:Array Bool),listed.size=ops.size→(∀ j,listed.getD j false=true→∀ o,ops.toList[j]?=some o→∀ e∈edgesOf o,listed.getD e false=true)→Region.ready .any ops listed=[]→∀ j,j < ops.size→listed.getD j false=true:=by
  intro listed hls hdc hr j
  induction j using Nat.strongRecOn with
  | _ j ih =>
   intro hj
   cases hb:listed.getD j false with
   | true=>rfl
   | false =>
    have:j∈Region.ready .any ops listed:=(hready listed hls j).2 ⟨hj,hb,fun o ho e he=>ih e (hedge j o ho e he) (by have:=hedge j o ho e he;omega)⟩
    rw [hr] at this;simp at this
 induction fuel with
 | zero =>
  intro listed a w S μ hls hs hdf hdc hfuel g hk ht
  simp only [wpAnyIn]
  have hal:∀ j,j < ops.size→listed.getD j false=true:=by
   have hle:(listed.toList.filter (· == true)).length=listed.toList.length:=by
    have h1:=List.length_filter_le (· == true) listed.toList
    simp at h1 hfuel ⊢;omega
   have h2:=List.length_filter_eq_length_iff.1 hle
   intro j hj
   have hl:j < listed.size:=by omega
   have:=h2 listed[j] (by simp)
   simp only [Array.getD_eq_getD_getElem?,Array.getElem?_eq_getElem hl,Option.getD_some]
   simpa using this
  refine ⟨?_,fin listed a w S μ hls hs hdf hal g hk ht⟩
  cases hr:Region.ready .any ops listed with
  | nil=>rfl
  | cons i r =>
   have:=(hready listed hls i).1 (by rw [hr];simp)
   rw [hal i this.1] at this
   simp at this
 | succ fuel ih =>
  intro listed a w S μ hls hs hdf hdc hfuel g hk ht
  simp only [wpAnyIn]
  refine ⟨fun hr=>fin listed a w S μ hls hs hdf (allOf listed hls hdc hr) g hk ht,?_⟩
  intro i hi
  obtain ⟨hin,hil,hie⟩:=(hready listed hls i).1 hi
  have hirec:i < recs.length:=by rw [hlen];simpa using hin
  have hx:recs[i]?=some recs[i]:=List.getElem?_eq_getElem hirec
  obtain ⟨o,ho,hev⟩:=hget i _ hx
  generalize recs[i]=x at hx hev
  have hpx:AllP x.obl:=by
   have:∀ (l:List Rec) (i:Nat),AllP (oblAll l)→l[i]?=some x→AllP x.obl:=by
    intro l
    induction l with
    | nil=>intro i _ h;simp at h
    | cons y l ih =>
     intro i h hi
     obtain ⟨h1,h2⟩:=AllP.app h
     cases i with
     | zero=>simp at hi;exact hi ▸ h1
     | succ i=>exact ih i h2 (by simpa using hi)
   exact this recs i hp hx
  -- an operation that meets this one is carried out just if it stands before it
  have order:∀ (j:Nat) (p:Oper) (y:Rec),j≠i→ops.toList[j]?=some p→recs[j]?=some y→Meet ops.toList o p x y→Nat.blt j i=listed.getD j false:=by
   intro j p y hne hpj hyj hc
   rcases Nat.lt_or_gt_of_ne hne with hlt | hgt
   ·rw [blt_t hlt]
    exact (anc_listed (L:=fun j=>listed.getD j false) hdc _ j i ((hpair j i p o y x hlt hpj ho hyj hx).2 hc.symm.clash) (fun o' ho' e he=>by rw [ho] at ho';cases ho';exact hie o ho e he)).symm
   ·rw [blt_f (by omega)]
    cases hb:listed.getD j false with
    | false=>rfl
    | true =>
     have:=anc_listed (L:=fun j=>listed.getD j false) hdc _ i j ((hpair i j o p x y hgt ho hpj hx hyj).2 hc.clash) (fun o' ho' e he=>hdc j hb o' ho' e he)
     have:listed.getD i false=true:=this
     rw [hil] at this;cases this
  have recOp:∀ (m:Nat) (y:Rec),recs[m]?=some y→∃ p,ops.toList[m]?=some p:=fun m y hy=>let ⟨p,hp',_⟩:=hget m y hy;⟨p,hp'⟩
  have hloc:evOne P nt ops.toList (nk+16 * i) (tmL (fun j=>listed.getD j false) recs 0 tm0) (stoL (fun j=>listed.getD j false) recs 0 σ0) o (getOrc orcs i)=some x:=by
   refine evOne_loc hev ?_ ?_
   ·intro t htl
    refine tm_agree recs 0 _ _ rfl ?_
    intro m y hy hne hdst
    rw [Nat.zero_add] at hne
    obtain ⟨p,hp'⟩:=recOp m y hy
    by_cases hmi:m=i
    ·subst hmi;exact hne (by rw [hil,blt_f (by omega)])
    ·exact hne (order m p y hmi hp' hy (.inr (.inl ⟨t,hdst,htl⟩))).symm
   ·intro k hkr
    refine sto_agree recs 0 _ _ rfl ?_
    intro m y hy hne hku
    rw [Nat.zero_add] at hne
    obtain ⟨p,hp'⟩:=recOp m y hy
    by_cases hmi:m=i
    ·subst hmi;exact hne (by rw [hil,blt_f (by omega)])
    ·exact hne (order m p y hmi hp' hy (.inr (.inr (.inr ⟨k,hkr,hku⟩)))).symm
  have hls':i < listed.size:=by omega
  have hset:∀ j,(listed.setIfInBounds i true).getD j false=(listed.getD j false || Nat.beq j i):=by
   intro j
   by_cases hji:j=i
   ·subst hji
    rw [beq_t rfl,Bool.or_true]
    simp [Array.getD_eq_getD_getElem?,hls']
   ·rw [beq_f hji,Bool.or_false]
    simp only [Array.getD_eq_getD_getElem?]
    rw [Array.getElem?_setIfInBounds_ne (fun h=>hji h.symm)]
  have hfun:(fun j=>(listed.setIfInBounds i true).getD j false)=fun q=>listed.getD q false || Nat.beq q i:=funext hset
  have hfree:∀ q,q < 16→μ (nk+16 * i+q)=none:=fun q hq=>hk _ (by omega) fun j hj hj2=>by
   have hji:j=i:=by omega
   rw [hji];exact hil
  refine one_sound (by simpa using ho) ht g hfree (by omega) (hz i) hloc hpx ?_
  intro v w' S' μ' q1 q2 q3 q4
  obtain ⟨d1,d2⟩:=evOne_dst hloc
  refine ih _ _ w' S' μ' (by simp [hls]) (by rw [put_size];exact hs) (by rw [put_defers'];exact hdf) ?_ ?_ ?_ ?_ ?_
  ·intro j hj o' ho' e he
   rw [hset] at hj ⊢
   rw [Bool.or_eq_true] at hj ⊢
   rcases hj with hj | hj
   ·exact .inl (hdc j hj o' ho' e he)
   ·have:=Nat.eq_of_beq_eq_true hj
    subst this
    exact .inl (hie o' ho' e he)
  ·have hc:=count_set listed.toList i (by
    rw [Array.getElem?_toList,Array.getElem?_eq_getElem hls']
    simp only [Array.getD_eq_getD_getElem?,Array.getElem?_eq_getElem hls',Option.getD_some] at hil
    rw [hil])
   rw [Array.toList_setIfInBounds,hc]
   omega
  ·rw [hfun]
   refine q2.congr ?_
   intro k
   rw [sto_more recs 0 σ0 (Nat.zero_le _) (by simpa using hx) ?_,supd_get x.upd (stoL (fun j=>listed.getD j false) recs 0 σ0)]
   intro m y hy hlt hL hku hku'
   rw [Nat.zero_add] at hlt hL
   obtain ⟨p,hp'⟩:=recOp m y hy
   have:=order m p y (by omega) hp' hy (.inr (.inr (.inl ⟨k,hku,.inr hku'⟩)))
   rw [blt_f (by omega)] at this
   rw [← this] at hL;cases hL
  ·intro k hk' hno
   have hki:k < nk+16 * i∨nk+16 * i+16≤k:=by
    rcases Nat.lt_or_ge k (nk+16 * i) with h1 | h1
    ·exact .inl h1
    ·rcases Nat.lt_or_ge k (nk+16 * i+16) with h2 | h2
     ·have:=hno i h1 h2
      rw [hset,beq_t rfl,Bool.or_true] at this
      cases this
     ·exact .inr h2
   refine q3 k hki (hk k hk' fun j hj hj2=>?_)
   have:=hno j hj hj2
   rw [hset,Bool.or_eq_false_iff] at this
   exact this.1
  ·intro t
   rw [hfun,tm_more recs 0 tm0 (Nat.zero_le _) (by simpa using hx) ?_,put_get a x.dst v t (fun n hn=>by rw [hs];exact d2 n (d1 ▸ hn))]
   ·split
    ·exact q4
    ·exact (ht t).ext q1
   ·intro m y hy hlt hxd hyd
    rw [Nat.zero_add] at hlt
    obtain ⟨p,hp'⟩:=recOp m y hy
    have:=(hpair i m o p x y hlt ho hp' hx hy).1
    rw [hxd,hyd] at this
    simp only [sameDst] at this
    rw [beq_t rfl] at this;cases this
end
end Go.Ab
namespace Go.Ab
inductive Wd where
 | keep
 | sl (n:Nat) (g:Nat→List AV)
 | osl (n:Nat)
 | nilos (k:Nat)
 | pt (b:Bool) (cs:List AV)
 | nq (st:Option Bool) (d:Wd)
 | unq (d:Wd)
 | agg (ds:List Wd)
 | tup (ds:List Wd)
def UpL:List AV→List AV→Prop
 | [],[]=>True
 | a :: as,b :: bs=>(a=b∨(a=.nil∧∃ f,b=.sl 0 f))∧UpL as bs
 | _,_=>False
theorem UpL.len:∀ {as bs:List AV},UpL as bs→bs.length=as.length
 | [],[],_=>rfl
 | _ :: _,_ :: _,h=>congrArg (·+1) (UpL.len h.2)
theorem UpL.get:∀ {as bs:List AV} {j:Nat} {x:AV},UpL as bs→bs[j]?=some x→∃ a,as[j]?=some a∧(a=x∨(a=.nil∧∃ f,x=.sl 0 f))
 | [],[],_,_,_,hx=>by simp at hx
 | a :: _,b :: _,0,x,h,hx=>by
  have:b=x:=by simpa using hx
  subst this
  exact ⟨a,rfl,h.1⟩
 | _ :: as,_ :: bs,j+1,x,h,hx=>by
  have:=UpL.get (as:=as) (bs:=bs) (j:=j) (x:=x) h.2 (by simpa using hx)
  simpa using this
theorem nil_sl {w:World} {S:Nat→Prop} {μ:Mu} {v:Value} {a x:AV} (h:a=x∨(a=.nil∧∃ f,x=.sl 0 f)) (hv:RepX w S μ v a):RepX w S μ v x:=by
 rcases h with rfl | ⟨rfl,f,rfl⟩
 ·exact hv
 ·cases hv
  exact .sl 0 0 0 (fun _ _=>undef) (fun h=>absurd h (by decide)) (fun i h=>absurd h (Nat.not_lt_zero _)) (fun i j h=>absurd h (Nat.not_lt_zero _)) (fun i j c h=>absurd h (Nat.not_lt_zero _)) (Nat.le_refl _)
inductive Od where
 | keep (k:Nat)
 | arr (k:Nat) (n:Nat) (g:Nat→List AV)
 | arz (k:Nat) (n:Nat) (g:Nat→List AV)
 | var (k:Nat) (ds:List Wd)
 | mp (k:Nat) (cs:List AV)
 | mat (k:Nat) (n:Nat) (l:List (Nat×Nat×Nat)) (b:Nat→List AV)
 | nim (g:Nat→List AV)
 | nil (sz:Nat) (g:Nat→List AV)
def Od.old:Od→Option Nat
 | .keep k | .arr k _ _ | .arz k _ _ | .var k _ | .mp k _ | .mat k _ _ _=>some k
 | .nil _ _ | .nim _=>none
def matGet:List (Nat×Nat×Nat)→(Nat→List AV)→Nat→List AV
 | [],b,m=>b m
 | (i,k,n) :: r,b,m=>if m=i then [.os k 0 n] else matGet r b m
def renO (f:Nat→Option Nat):List (Nat×Nat×Nat)→Option (List (Nat×Nat×Nat))
 | []=>some []
 | (i,k,n) :: r=>match f k,renO f r with
  | some k',some l=>some ((i,k',n) :: l)
  | _,_=>none
theorem renO_get {f:Nat→Option Nat} {b:Nat→List AV} {m:Nat} (hb:isMrL (b m)=true):∀ {l l':List (Nat×Nat×Nat)},renO f l=some l'→AV.renL f (matGet l b m)=matGet l' b m
 | [],l',h=>by simp [renO] at h;subst h;exact isMrL_ren hb
 | (i,k,n) :: r,l',h=>by
  simp only [renO] at h
  split at h
  ·rename_i k' l2 hk hl
   cases h
   simp only [matGet]
   split
   ·simp [AV.renL,AV.ren,hk]
   ·exact renO_get hb hl
  ·cases h
abbrev Ods:=List (Nat×Od)
def toNew (m0:Nat):Ods→Nat→Option Nat
 | [],k=>match Nat.blt k m0 with
  | true=>some k
  | false=>none
 | (k',d) :: r,k=>match d.old with
  | some q=>match Nat.beq q k with
   | true=>some k'
   | false=>toNew m0 r k
  | none=>toNew m0 r k
def getOd:Ods→Nat→Option Od
 | [],_=>none
 | (k',d) :: r,k=>match Nat.beq k' k with
  | true=>some d
  | false=>getOd r k
mutual
def wkV (σ:Sto) (F:List Nat) (f:Nat→Option Nat) (ods:Ods):Wd→AV→Option (List Prop×AV)
 | .keep,x=>some ([],x.ren f)
 | .sl n g,.sl n0 g0=>some ([n0=n,∀ i,i < n→g i=g0 i],.sl n g)
 | .sl n g,.os k off len=>match hasK F k,sget σ k with
  | true,some o=>match o.pr with
   | true=>some ([len=n,off+len≤o.len,∀ i,i < n→g i=o.get (addz off i)],.sl n g)
   | false=>none
  | _,_=>none
 | .sl n g,.nil=>some ([n=0],.sl n g)
 | .osl n,.os k off len=>(f k).map fun k'=>([len=n],.os k' off n)
 | .nilos k',.nil=>match getOd ods k' with
  | some (.nil _ _)=>some ([],.os k' 0 0)
  | some (.nim _)=>some ([],.os k' 0 0)
  | _=>none
 | .pt b cs,.rp cs0 off=>match off with
  | 0=>some ([b=true,cs=cs0],.pt b cs)
  | _+1=>none
 | .pt b cs,.atom v=>match v with
  | .pointer none=>some ([b=false],.pt b cs)
  | _=>none
 | .pt b cs,.pt b0 cs0=>some ([b=b0,b0=true→cs=cs0],.pt b cs)
 | .nq st d,.nq st0 y=>match y with
  | .nq _ _=>none
  | y=>(wkV σ F f ods d y).map fun (p,z)=>((st0=st) :: p,.nq st z)
 | .nq st d,.nil=>(wkV σ F f ods d .nil).map fun (p,z)=>((st≠some false) :: p,.nq st z)
 | .nq st d,y=>(wkV σ F f ods d y).map fun (p,z)=>((st=none) :: p,.nq st z)
 | .unq d,.nq _ y=>wkV σ F f ods d y
 | .agg ds,.agg cs=>(wkL σ F f ods ds cs).map fun (p,c)=>(p,.agg c)
 | .tup ds,.tup cs=>(wkL σ F f ods ds cs).map fun (p,c)=>(p,.tup c)
 | _,_=>none
def wkL (σ:Sto) (F:List Nat) (f:Nat→Option Nat) (ods:Ods):List Wd→List AV→Option (List Prop×List AV)
 | [],[]=>some ([],[])
 | d :: ds,c :: cs=>match wkV σ F f ods d c,wkL σ F f ods ds cs with
  | some (p,x),some (q,xs)=>some (p ++ q,x :: xs)
  | _,_=>none
 | _,_=>none
end
def wkOb (σ:Sto) (F:List Nat) (f:Nat→Option Nat) (ods:Ods):Od→Option (List Prop×Ob)
 | .keep k=>(sget σ k).map fun o=>([],o.ren f)
 | .arr k n g=>match sget σ k with
  | some o=>match o.pr && !o.var && Nat.ble 1 o.sz with
   | true=>some ([o.len=n,∀ i,i < n→g i=o.get i],⟨o.var,o.sz,n,true,g⟩)
   | false=>none
  | none=>none
 | .arz k n g=>match sget σ k with
  | some o=>match o.pr && !o.var && Nat.ble 1 o.sz with
   | true=>some ([n≤o.len,∀ i,i < n→UpL (o.get i) (g i)],⟨o.var,o.sz,n,true,g⟩)
   | false=>none
  | none=>none
 | .var k ds=>match sget σ k with
  | some o=>match o.var && Nat.beq o.len 1 && Nat.ble 1 o.sz,wkL σ F f ods ds (o.get 0) with
   | true,some (p,cs)=>some (p,⟨true,o.sz,1,AV.pureL cs,fun _=>cs⟩)
   | _,_=>none
  | none=>none
 | .mp k cs=>match sget σ k with
  | some o=>match Nat.beq o.sz 0 && o.pr && Nat.beq o.len 0 with
   | true=>some ([cs=o.get 0],⟨o.var,o.sz,o.len,true,fun _=>cs⟩)
   | false=>none
  | none=>none
 | .mat k n l b=>match sget σ k,renO f l with
  | some o,some l'=>match !o.var && Nat.ble 1 o.sz with
   | true=>some ([o.len=n,∀ i,i < n→matGet l b i=o.get i,∀ i,i < n→isMrL (b i)=true],⟨false,o.sz,n,false,matGet l' b⟩)
   | false=>none
  | _,_=>none
 | .nim g=>some ([],⟨false,1,0,false,g⟩)
 | .nil sz g=>match Nat.ble 1 sz with
  | true=>some ([],⟨false,sz,0,true,g⟩)
  | false=>none
def wkTms (σ:Sto) (F:List Nat) (f:Nat→Option Nat) (ods:Ods) (tm:List (Nat×AV)):List (Nat×Wd)→Option (List Prop×List (Nat×AV))
 | []=>some ([],[])
 | (t,d) :: r=>match wkV σ F f ods d (getTm tm t),wkTms σ F f ods tm r with
  | some (p,x),some (q,l)=>some (p ++ q,(t,x) :: l)
  | _,_=>none
def wkObs (σ:Sto) (F:List Nat) (f:Nat→Option Nat) (ods:Ods):Ods→Option (List Prop×Sto)
 | []=>some ([],[])
 | (k,d) :: r=>match wkOb σ F f ods d,wkObs σ F f ods r with
  | some (p,o),some (q,l)=>some (p ++ q,(k,o) :: l)
  | _,_=>none
def namesOk (m0 nk:Nat) (F:List Nat) (ods:Ods):Bool :=
 nodupB (ods.map (·.1)) && nodupB (ods.filterMap (·.2.old)) && (ods.all fun x=>Nat.blt x.1 nk && match x.2.old with
  | some k=>!hasK F k && (match Nat.blt k m0 with
   | true=>Nat.beq x.1 k || Nat.ble m0 x.1
   | false=>Nat.ble m0 x.1)
  | none=>Nat.ble m0 x.1) && Nat.ble m0 nk
def wkSt (m0:Nat) (st:St) (F:List Nat) (tms:List (Nat×Wd)) (ods:Ods) (nk:Nat):Option (List Prop×St) :=
 match namesOk m0 nk F ods,wkTms st.sto F (toNew m0 ods) ods st.tm tms,wkObs st.sto F (toNew m0 ods) ods ods with
 | true,some (p,tm),some (q,σ)=>some (p ++ q,⟨tm,σ,nk⟩)
 | _,_,_=>none
def muW (m0:Nat) (μ:Mu) (ods:Ods):Mu:=fun k =>
 if k < m0 then μ k else match getOd ods k with
  | some (.nil sz _)=>some ⟨0,0,sz⟩
  | some (.nim _)=>some ⟨0,0,1⟩
  | some d=>d.old.bind μ
  | none=>none
section
variable {P:Program} {E:Env} {σ:Sto} {S:Nat→Prop} {μ:Mu} {w:World} {m0 nk:Nat} {F:List Nat} {ods:Ods}
theorem getOd_mem:∀ {ods:Ods} {k:Nat} {d:Od},getOd ods k=some d→(k,d)∈ods
 | [],k,d,h=>by simp [getOd] at h
 | (k',d') :: r,k,d,h=>by
  simp only [getOd] at h
  split at h
  ·simp_all
  ·exact List.mem_cons_of_mem _ (getOd_mem h)
theorem getOd_of:∀ {ods:Ods} {k:Nat} {d:Od},nodupB (ods.map (·.1))=true→(k,d)∈ods→getOd ods k=some d
 | [],k,d,_,h=>by simp at h
 | (k',d') :: r,k,d,hn,h=>by
  simp only [List.map_cons,nodupB,Bool.and_eq_true] at hn
  simp only [getOd]
  rcases List.mem_cons.1 h with h | h
  ·cases h;rw [beq_t rfl]
  ·have hne:¬ k'=k:=by
    rintro rfl
    have hnone:idx (r.map (·.1)) k'=none:=by simpa using hn.1
    obtain ⟨i,hi⟩:=List.getElem?_of_mem (List.mem_map.2 ⟨_,h,rfl⟩:k'∈r.map (·.1))
    exact idx_none _ _ hnone i hi
   rw [beq_f hne]
   exact getOd_of hn.2 h
theorem toNew_spec:∀ {ods:Ods} {k k':Nat},toNew m0 ods k=some k'→(∃ d,(k',d)∈ods∧d.old=some k)∨(k < m0∧k'=k)
 | [],k,k',h=>by
  simp only [toNew] at h
  split at h
  ·simp_all
  ·cases h
 | (q,d) :: r,k,k',h=>by
  simp only [toNew] at h
  have step:toNew m0 r k=some k'→(∃ d',(k',d')∈(q,d) :: r∧d'.old=some k)∨(k < m0∧k'=k):=fun h'=>by
   rcases toNew_spec h' with ⟨d',h1,h2⟩ | h1
   ·grind
   ·exact .inr h1
  split at h
  ·rename_i o ho
   split at h
   ·rename_i hb
    cases h
    exact .inl ⟨d,by simp,by rw [ho,Nat.eq_of_beq_eq_true hb]⟩
   ·exact step h
  ·exact step h
structure Names (m0 nk:Nat) (F:List Nat) (ods:Ods):Prop where
 nd:nodupB (ods.map (·.1))=true
 od:nodupB (ods.filterMap (·.2.old))=true
 lt:∀ k d,(k,d)∈ods→k < nk
 fr:∀ k d q,(k,d)∈ods→d.old=some q→q ∉ F
 lo:∀ k d q,(k,d)∈ods→d.old=some q→q < m0→k=q∨m0≤k
 hi:∀ k d q,(k,d)∈ods→d.old=some q→m0≤q→m0≤k
 no:∀ k d,(k,d)∈ods→d.old=none→m0≤k
 m0:m0≤nk
theorem names_of (h:namesOk m0 nk F ods=true):Names m0 nk F ods:=by
 unfold namesOk at h
 simp only [Bool.and_eq_true,Nat.ble_eq] at h
 obtain ⟨⟨⟨h1,h2⟩,h3⟩,h4⟩:=h
 have h3:=fun k d (hm:(k,d)∈ods)=>List.all_eq_true.1 h3 (k,d) hm
 simp only [Bool.and_eq_true] at h3
 refine ⟨h1,h2,fun k d hm=>blt_lt (h3 k d hm).1,?_,?_,?_,?_,h4⟩
 ·intro k d q hm hq hF
  have:=(h3 k d hm).2
  rw [hq] at this
  simp only [Bool.and_eq_true,Bool.not_eq_true'] at this
  grind [hasK_iff]
 ·intro k d q hm hq hlt
  have:=(h3 k d hm).2
  simp_all [Bool.and_eq_true,blt_t,Bool.or_eq_true_iff,Nat.eq_of_beq_eq_true,Nat.le_of_ble_eq_true]
 ·intro k d q hm hq hge
  have:=(h3 k d hm).2
  simp_all [Bool.and_eq_true,blt_f,Nat.ble_eq]
 ·intro k d hm hq
  have:=(h3 k d hm).2
  rw [hq] at this
  simpa only [Nat.ble_eq] using this
theorem muW_new (N:Names m0 nk F ods) {k k':Nat} {pl:Place} (h:toNew m0 ods k=some k') (hm:μ k=some pl):muW m0 μ ods k'=some pl:=by
 rcases toNew_spec h with ⟨d,h1,h2⟩ | ⟨h1,rfl⟩
 ·unfold muW
  by_cases hlt:k < m0
  ·rcases N.lo k' d k h1 h2 hlt with h | h
   ·simp_all
   ·rw [if_neg (by omega),getOd_of N.nd h1]
    grind [Od.old]
  ·have:=N.hi k' d k h1 h2 (by omega)
   rw [if_neg (by omega),getOd_of N.nd h1]
   grind [Od.old]
 simp_all [muW,if_pos]
theorem muW_od (N:Names m0 nk F ods) {k k':Nat} {d:Od} (h:(k',d)∈ods) (ho:d.old=some k):muW m0 μ ods k'=μ k:=by
 unfold muW
 by_cases hlt:k < m0
 ·rcases N.lo k' d k h ho hlt with h1 | h1
  ·simp_all
  ·rw [if_neg (by omega),getOd_of N.nd h]
   grind [Od.old]
 ·have:=N.hi k' d k h ho (by omega)
  rw [if_neg (by omega),getOd_of N.nd h]
  grind [Od.old]
theorem muW_nim (N:Names m0 nk F ods) {k':Nat} {g:Nat→List AV} (h:(k',Od.nim g)∈ods):muW m0 μ ods k'=some ⟨0,0,1⟩:=by
 have:=N.no k' _ h rfl
 unfold muW
 rw [if_neg (by omega),getOd_of N.nd h]
theorem muW_nil (N:Names m0 nk F ods) {k' sz:Nat} {g:Nat→List AV} (h:(k',Od.nil sz g)∈ods):muW m0 μ ods k'=some ⟨0,0,sz⟩:=by
 have:=N.no k' _ h rfl
 unfold muW
 rw [if_neg (by omega),getOd_of N.nd h]
theorem wkV_rep (g:Good E σ S μ w) (N:Names m0 nk F ods):∀ (d:Wd) (x:AV) (v:Value) (ps:List Prop) (y:AV),RepX w S μ v x→wkV σ F (toNew m0 ods) ods d x=some (ps,y)→AllP ps →
  RepX w (SF μ F σ S) (muW m0 μ ods) v y:=by
 have mono:∀ {v:Value} {x:AV} {μ':Mu},RepX w S μ' v x→RepX w (SF μ F σ S) μ' v x:=fun h=>h.mono (fun _ h=>.inl h) (fun _ _=>rfl) (fun _ _ h=>h)
 intro d
 induction d using Wd.rec (motive_2:=fun ds=>∀ (cs:List AV) (ps:List Prop) (ys:List AV),wkL σ F (toNew m0 ods) ods ds cs=some (ps,ys)→AllP ps →
   cs.length=ys.length∧∀ (j:Nat) c y v,cs[j]?=some c→ys[j]?=some y→RepX w S μ v c→RepX w (SF μ F σ S) (muW m0 μ ods) v y) with
 | keep =>
  intro x v ps y h hw hp
  simp only [wkV,Option.some.injEq,Prod.mk.injEq] at hw
  obtain ⟨rfl,rfl⟩:=hw
  exact (mono h).ren fun k k' pl hk hm=>muW_new N hk hm
 | sl n gt =>
  intro x v ps y h hw hp
  cases x<;>simp only [wkV] at hw<;>try (cases hw;done)
  case sl n0 g0 =>
   simp only [Option.some.injEq,Prod.mk.injEq] at hw
   obtain ⟨rfl,rfl⟩:=hw
   obtain ⟨rfl,p2,_⟩:=hp
   cases h with
   | sl b off sz f h1 h2 h3 h4 h5 =>
    exact .sl b off sz f (fun hl=>⟨(h1 hl).1,.inl (h1 hl).2⟩) (fun i hi=>by simp_all) h3 (fun i j c hi hc=>mono (h4 i j c hi (by simp_all))) h5
  case os k off len =>
   split at hw
   ·rename_i o hF ho
    split at hw
    ·rename_i hpr
     simp only [Option.some.injEq,Prod.mk.injEq] at hw
     obtain ⟨rfl,rfl⟩:=hw
     obtain ⟨rfl,p2,p3,_⟩:=hp
     obtain ⟨pl,c,T,hm,hob⟩:=g.rep.ob k o ho
     cases h with
     | os pl' hm' h1 h2 h3 =>
      rename_i cap a
      rw [hm] at hm';cases hm'
      refine .sl pl.blk (off * pl.sz) o.sz (fun i j=>(c[(off+i) * o.sz+j]?).getD undef) ?_ (fun i hi=>by rw [p3 i hi,addz_eq];exact hob.els _ (by omega)) ?_ ?_ h2
      ·intro hl
       exact ⟨h1 (by omega),.inr ⟨k,o,pl,hasK_iff.1 hF,ho,hm,by omega,rfl⟩⟩
      ·intro i j hi hj
       obtain ⟨v,q1,q2⟩:=cell_of_obrep hob (i:=off+i) (by omega) hj
       rw [q1,hob.sz,← Nat.add_mul,q2];rfl
      ·intro i j c' hi hc'
       rw [p3 i hi,addz_eq] at hc'
       obtain ⟨v,q1,q2⟩:=cell_of_obrep hob (i:=off+i) (by omega) (by have:=(List.getElem?_eq_some_iff.1 hc').1;rwa [hob.els _ (by omega)] at this)
       rw [q1]
       have:=hob.rep _ j c' v (by omega) hc' q1
       simp_all
    ·cases hw
   ·cases hw
  case nil =>
   simp only [Option.some.injEq,Prod.mk.injEq] at hw
   obtain ⟨rfl,rfl⟩:=hw
   obtain ⟨rfl,_⟩:=hp
   cases h
   exact .sl 0 0 0 (fun _ _=>undef) (fun h=>absurd h (by omega)) (fun i h=>absurd h (by omega)) (fun i j h=>absurd h (by omega)) (fun i j c h=>absurd h (by omega)) (Nat.le_refl _)
 | osl n =>
  intro x v ps y h hw hp
  cases x<;>simp only [wkV] at hw<;>try (cases hw;done)
  case os k off len =>
   simp only [Option.map_eq_some_iff,Prod.mk.injEq] at hw
   obtain ⟨k',hk',rfl,rfl⟩:=hw
   obtain ⟨rfl,_⟩:=hp
   cases h with
   | os pl hm h1 h2 h3=>exact .os pl (muW_new N hk' hm) h1 h2 h3
 | nilos k' =>
  intro x v ps y h hw hp
  cases x<;>simp only [wkV] at hw<;>try (cases hw;done)
  case nil =>
   split at hw
   ·rename_i sz gt hod
    simp only [Option.some.injEq,Prod.mk.injEq] at hw
    obtain ⟨rfl,rfl⟩:=hw
    cases h
    exact .os ⟨0,0,sz⟩ (muW_nil N (getOd_mem hod)) (fun h=>absurd h (by omega)) (Nat.le_refl _) (by simp)
   ·rename_i gt hod
    simp only [Option.some.injEq,Prod.mk.injEq] at hw
    obtain ⟨rfl,rfl⟩:=hw
    cases h
    exact .os ⟨0,0,1⟩ (muW_nim N (getOd_mem hod)) (fun h=>absurd h (by omega)) (Nat.le_refl _) (by simp)
   ·cases hw
 | pt b cs =>
  intro x v ps y h hw hp
  have other:∀ {b:Bool} {cs:List AV} {v:Value},RepX w S μ v (.pt b cs)→RepX w (SF μ F σ S) (muW m0 μ ods) v (.pt b cs):=fun h=>(mono h).pure rfl _
  cases x<;>simp only [wkV] at hw<;>try (cases hw;done)
  case rp cs0 off =>
   split at hw
   ·simp only [Option.some.injEq,Prod.mk.injEq] at hw
    obtain ⟨rfl,rfl⟩:=hw
    obtain ⟨rfl,rfl,_⟩:=hp
    exact other (.pt (fun _=>h) (fun h=>by cases h))
   ·cases hw
  case atom v0 =>
   split at hw
   ·simp only [Option.some.injEq,Prod.mk.injEq] at hw
    obtain ⟨rfl,rfl⟩:=hw
    obtain ⟨rfl,_⟩:=hp
    exact other (.pt (fun h=>by cases h) (fun _=>rep_int h))
   ·cases hw
  case pt b0 cs0 =>
   simp only [Option.some.injEq,Prod.mk.injEq] at hw
   obtain ⟨rfl,rfl⟩:=hw
   obtain ⟨rfl,hcs,_⟩:=hp
   cases h with
   | pt h1 h2=>exact other (.pt (fun hb=>by rw [hcs hb];exact h1 hb) h2)
 | nq st d ih =>
  intro x v ps y h hw hp
  have fin:∀ {x0:AV} {p:List Prop} {z:AV},RepX w S μ v x0→wkV σ F (toNew m0 ods) ods d x0=some (p,z)→AllP p→(st=some true→v=.slice none 0 0)→(st=some false→isNilS v=false)→RepX w (SF μ F σ S) (muW m0 μ ods) v (.nq st z) :=
   fun h0 h1 h2 h3 h4=>.nq (ih _ _ _ _ h0 h1 h2) h3 h4
  cases x with
  | nq st0 y0 =>
   have hw':∃ p z,wkV σ F (toNew m0 ods) ods d y0=some (p,z)∧ps=(st0=st) :: p∧y=.nq st z:=by
    cases y0<;>simp only [wkV,Option.map_eq_some_iff,Prod.mk.injEq] at hw<;>grind
   obtain ⟨p,z,e1,rfl,rfl⟩:=hw'
   obtain ⟨rfl,hp2⟩:=hp
   cases h with
   | nq h0 h1 h2=>exact fin h0 e1 hp2 h1 h2
  | nil =>
   simp only [wkV,Option.map_eq_some_iff,Prod.mk.injEq] at hw
   obtain ⟨⟨p,z⟩,e1,rfl,rfl⟩:=hw
   obtain ⟨hne,hp2⟩:=hp
   cases h
   exact fin .nil e1 hp2 (fun _=>rfl) (fun e=>absurd e hne)
  | _ =>
   simp only [wkV,Option.map_eq_some_iff,Prod.mk.injEq] at hw
   obtain ⟨⟨p,z⟩,e1,rfl,rfl⟩:=hw
   obtain ⟨rfl,hp2⟩:=hp
   grind
 | unq d ih =>
  intro x v ps y h hw hp
  cases x with
  | nq st0 y0 =>
   simp only [wkV] at hw
   cases h with
   | nq h0 _ _=>exact ih _ _ _ _ h0 hw hp
  | _=>grind [wkV]
 | agg ds ih =>
  intro x v ps y h hw hp
  cases x<;>simp only [wkV] at hw<;>try (cases hw;done)
  case agg cs =>
   simp only [Option.map_eq_some_iff,Prod.mk.injEq] at hw
   obtain ⟨⟨p,c⟩,h1,rfl,rfl⟩:=hw
   obtain ⟨q1,q2⟩:=ih cs p c h1 hp
   cases h with
   | agg h2 h3 =>
    refine .agg (h2.trans q1) fun j y v hy hv=>?_
    have hlt:j < cs.length:=by rw [q1];exact (List.getElem?_eq_some_iff.1 hy).1
    exact q2 j _ y v (List.getElem?_eq_getElem hlt) hy (h3 j _ v (List.getElem?_eq_getElem hlt) hv)
 | tup ds ih =>
  intro x v ps y h hw hp
  cases x<;>simp only [wkV] at hw<;>try (cases hw;done)
  case tup cs =>
   simp only [Option.map_eq_some_iff,Prod.mk.injEq] at hw
   obtain ⟨⟨p,c⟩,h1,rfl,rfl⟩:=hw
   obtain ⟨q1,q2⟩:=ih cs p c h1 hp
   cases h with
   | tup h2 h3 =>
    refine .tup (h2.trans q1) fun j y v hy hv=>?_
    have hlt:j < cs.length:=by rw [q1];exact (List.getElem?_eq_some_iff.1 hy).1
    exact q2 j _ y v (List.getElem?_eq_getElem hlt) hy (h3 j _ v (List.getElem?_eq_getElem hlt) hv)
 | nil =>
  rename_i cs ps ys h hp
  cases cs with
  | nil=>simp [wkL] at h;obtain ⟨_,rfl⟩:=h;exact ⟨rfl,fun j c y v hc=>by simp at hc⟩
  | cons=>simp [wkL] at h
 | cons d ds ih1 ih2 =>
  rename_i cs ps ys h hp
  cases cs with
  | nil=>simp [wkL] at h
  | cons c cs =>
   simp only [wkL] at h
   split at h
   ·rename_i p x q xs e1 e2
    simp only [Option.some.injEq,Prod.mk.injEq] at h
    obtain ⟨rfl,rfl⟩:=h
    obtain ⟨hp1,hp2⟩:=AllP.app hp
    obtain ⟨r1,r2⟩:=ih2 cs q xs e2 hp2
    refine ⟨by simp [r1],?_⟩
    intro j c' y v hc hy hr
    cases j with
    | zero=>simp at hc hy;subst hc hy;exact ih1 c v p x hr e1 hp1
    | succ j=>exact r2 j c' y v (by simpa using hc) (by simpa using hy) hr
   ·cases h
end
end Go.Ab
