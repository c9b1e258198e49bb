/- Abstract values over the heap of the machine, and functions read off its code (part 3). No conditions. -/
import Derived.Test.YtdigjibahkjfdaaGreatCb
import Derived.OrdersIn
import Derived.RangeFuncSeq
set_option linter.unusedVariables false
set_option linter.unusedSimpArgs false
namespace Go.Ab
def cL:List (Nat×AV)→Nat→AV
 | [],_=>.mU
 | (k,x) :: r,n=>match Nat.beq k n with
  | true=>x
  | false=>cL r n
def xl (tm:List (Nat×AV)):Operand→AV
 | .tmp t=>cL tm t
 | .const v=>ofConst v
 | .global g=>.atom (.pointer (some ⟨g,0,none⟩))
 | .func f=>.fn (.func f) [] []
def conds (e:Operand→AV):List Operand→List Prop
 | []=>[]
 | x :: r=>(e x).strip.2 ++ conds e r
def QR (b:Bool):List Prop→List Prop
 | []=>[]
 | p :: ps=>[b=true→aX (p :: ps)]
def QS (mx:Bool) (x y:AV):Option AV :=
 match x,y with
 | .atom (.int k a),.atom (.int k' b)=>match decide (k=k') with
  | true=>some (.atom (.int k (match mx with
   | true=>if b > a then b else a
   | false=>if b < a then b else a)))
  | false=>none
 | _,_=>none
def Cx (mx:Bool):AV→List AV→Option AV
 | a,[]=>some a
 | a,b :: r=>match QS mx a b with
  | some v=>Cx mx v r
  | none=>none
def sy (ps:List Prop) (x:Option AV):Option R:=x.map fun v=>⟨ps,v,[],[]⟩
def WU (l:List Nat) (k:Nat):Bool:=l.any fun x=>Nat.beq x k
def zl (P:Program) (nk:Nat) (σ:dp) (e:Operand→AV) (b:Builtin) (args:List Operand) (Fk:List TypeId):Option R :=
 let s:=fun x=>(e x).strip.1
 let c:=fun xs=>conds e xs
 match b,args,Fk with
 | .len,[x],[t]=>sy (c [x]) (Qy P t (s x))
 | .append,[x,y],[t,t']=>match Nat.beq t t' with
  | true=>(qU P nk σ t (s x) (s y)).map fun (ps,v,rd,u)=>⟨c [x,y] ++ ps,v,rd,u⟩
  | false=>none
 | .min,x :: r,_=>sy (c (x :: r)) (Cx false (s x) (r.map s))
 | .max,x :: r,_=>sy (c (x :: r)) (Cx true (s x) (r.map s))
 | _,_,_=>none
def eb (P:Program) (nk:Nat) (σ:dp) (op:Op) (e:Operand→AV) (orc:Option lW):Option R :=
 let s:=fun x=>(e x).strip.1
 let c:=fun xs=>conds e xs
 match op with
 | .move x | .assign x=>some ⟨[],e x,[],[]⟩
 | .pick q a b=>match s q,s a,s b with
  | .atom (.bool qb),.atom (.bool x),.atom (.bool y) =>
   some ⟨(e q).strip.2 ++ (QR qb (e a).strip.2 ++ QR (!qb) (e b).strip.2),.atom (.bool (cond qb x y)),[],[]⟩
  | _,_,_=>none
 | .alloc T=>(IS P nk T).map fun (v,u)=>⟨[],v,[],u⟩
 | .box _ x=>(Qq nk (s x)).map fun (v,u)=>⟨c [x],v,[],u⟩
 | .build t parts=>sy (c (parts.toList.map (·.2))) (IT P t (parts.toList.map fun (i,x)=>(i,s x)))
 | .buildSlice t len parts=>match Nat.beq len 0 && !parts.toList.isEmpty with
  | true=>none
  | false=>(wz P nk t len (parts.toList.map fun (i,x)=>(i,s x))).map fun (v,u)=>⟨c (parts.toList.map (·.2)),v,[],u⟩
 | .load T a=>(xU P σ T (s a)).map fun (ps,v,rd)=>⟨c [a] ++ ps,v,rd,[]⟩
 | .store T a x=>(y9 P σ T (s a) (s x)).map fun (ps,u,rd)=>⟨c [a,x] ++ ps,.mU,rd,u⟩
 | .nilCheck x=>match s x with
  | .op k i j=>some ⟨c [x],.op k i j,[],[]⟩
  | .rp cs j=>some ⟨c [x],.rp cs j,[],[]⟩
  | .pt b cs=>some ⟨c [x] ++ [b=true],.rp cs 0,[],[]⟩
  | _=>none
 | .binOp o t x y _=>(Qo P o t (s x) (s y)).map fun (ps,v)=>⟨c [x,y] ++ ps,v,[],[]⟩
 | .unOp o _ x=>sy (c [x]) (WB o (s x))
 | .convert src dst x=>match L5 P src dst (s x) with
  | some v=>some ⟨c [x],v,[],[]⟩
  | none=>(zf P σ src dst (s x)).map fun (ps,v,rd)=>⟨c [x] ++ ps,v,rd,[]⟩
 | .makeMap _ none=>some ⟨[],.mp nk,[],[(nk,some ⟨false,0,0,true,fun _=>[]⟩)]⟩
 | .lookup t m x ok=>match orc with
  | some o=>(vq P σ t (s m) (s x) ok o).map fun (ps,v,rd)=>⟨c [m,x] ++ ps,v,rd,[]⟩
  | none=>none
 | .mapUpdate t m x y | .insert t m x y=>match orc with
  | some o=>(vu P σ t (s m) (s x) (s y) o).map fun (ps,u,rd)=>⟨c [m,x,y] ++ ps,.mU,rd,u⟩
  | none=>none
 | .makeFunc f first cap=>some ⟨c (first.toList ++ cap.toList),.fn f (first.toList.map s) (cap.toList.map s),[],[]⟩
 | .makeSlice t l m=>(Ma P nk t (s l) (s m)).map fun (ps,v,u)=>⟨c [l,m] ++ ps,v,[],u⟩
 | .slice t x lo hi none=>(zc P σ t (s x) (lo.map s) (hi.map s)).map fun (ps,v,rd)=>⟨c (x :: (lo.toList ++ hi.toList)) ++ ps,v,rd,[]⟩
 | .fieldAddr T x f=>sy (c [x]) (xW P T (s x) f)
 | .field T x f=>sy (c [x]) (IW P T (s x) f)
 | .indexAddr T x i=>(px P σ T (s x) (s i)).map fun (ps,v,rd)=>⟨c [x,i] ++ ps,v,rd,[]⟩
 | .index T x i=>(IY P T (s x) (s i)).map fun (ps,v)=>⟨c [x,i] ++ ps,v,[],[]⟩
 | .extract x i=>match s x with
  | .tup cs=>sy (c [x]) cs[i]?
  | _=>none
 | .call ⟨.value f,args,_⟩=>match orc with
  | some o=>(Fe P nk σ (s f) (args.toList.map s) o).map fun r=>{ r with Hb:=r.Hb ++ c (f :: args.toList) }
  | none=>none
 | .call ⟨.builtin b,args,Fk⟩=>zl P nk σ e b args.toList Fk.toList
 | _=>none
section
variable {P:Program} {E:Env} {nk:Nat} {σ:dp} {S:Nat→Prop} {μ:Mu} {w:World}
theorem zo {e:Operand→AV}:∀ {xs:List Operand},aX (conds e xs)→∀ x∈xs,aX (e x).strip.2
 | [],_,x,hx=>by simp at hx
 | y :: r,h,x,hx=>by
  obtain ⟨h1,h2⟩:=aX.app h
  rcases jq.1 hx with rfl | hx
  ·exact h1
  ·exact zo h2 x hx
theorem H5 {b:Bool} {ps:List Prop} (h:aX (QR b ps)) (hb:b=true):aX ps:=by
 cases ps with
 | nil=>trivial
 | cons p ps=>exact h.1 hb
theorem Mm {mx:Bool} {ρ:Operand→Value} {e:Operand→AV}:∀ (l:List Operand) (va:Value) (a r:AV),ar w S μ va a→(∀ x∈l,ar w S μ (ρ x) ((e x).strip.1)) →
  Cx mx a (l.map fun x=>(e x).strip.1)=some r→∃ z,((l.map ρ).foldlM (match mx with | true=>Builtin.max2 | false=>Builtin.min2) va:Sem Value).run P w=.ok z w∧ar w S μ z r
 | [],va,a,r,ha,_,h=>by
  simp only [List.map_nil,Cx,aD] at h
  subst h
  exact ⟨va,rfl,ha⟩
 | x :: l,va,a,r,ha,hl,h=>by
  simp only [List.map_cons,Cx] at h
  split at h
  ·rename_i v hv
   have hx:=hl x (by simp)
   obtain ⟨u,h1,h2⟩:∃ u,((match mx with | true=>Builtin.max2 | false=>Builtin.min2) va (ρ x):Sem Value).run P w=.ok u w∧ar w S μ u v:=by
    unfold QS at hv
    split at hv
    ·rename_i k p k' q hp hq
     rw [hq] at hx
     have e2:=db hx
     have e1:=db ha
     split at hv
     ·cases hv
      cases mx with
      | true=>exact ⟨_,by simp [e1,e2,Builtin.max2],.atom _⟩
      | false=>exact ⟨_,by simp [e1,e2,Builtin.min2],.atom _⟩
     ·cases hv
    ·cases hv
   obtain ⟨z,h3,h4⟩:=Mm l u v r h2 (fun y hy=>hl y (by simp [hy])) h
   refine ⟨z,?_,h4⟩
   rw [List.map_cons,List.foldlM_cons]
   simp only [bJ,h1,cO]
   exact h3
  ·cases h
theorem Uf {v:Value} {b:Bool} {cs:List AV} (h:ar w S μ v (.pt b cs)) (hb:b=true):ar w S μ v (.rp cs 0):=by
 cases h with
 | pt h1 _=>exact h1 hb
def QT (E:Env) (nk:Nat) (σ:dp) (S:Nat→Prop) (μ:Mu) (w:World) (r:R) (K:Value→World→Prop):Prop :=
 ∀ v w' S' cC,Ext w S μ w' S' cC→Good E (eV σ r.upd) S' cC w'→(∀ k,(k < nk∨nk+16≤k)→μ k=none→cC k=none)→ar w' S' cC v r.val→K v w'
theorem H6 {ρ:Operand→Value} {e:Operand→AV} {parts:Array (Nat×Operand)} (he:∀ x∈(parts.toList.map (·.2)),ar w S μ (ρ x) ((e x).strip.1)) :
  (parts.map fun (i,x)=>(i,ρ x)).toList.map (·.1)=(parts.toList.map fun (i,x)=>(i,(e x).strip.1)).map (·.1) ∧
  ∀ (j:Nat) x y,(parts.toList.map fun (i,x)=>(i,(e x).strip.1))[j]?=some x→(parts.map fun (i,x)=>(i,ρ x)).toList[j]?=some y→ar w S μ y.2 x.2:=by
 refine ⟨by simp [List.map_map,Function.comp_def],?_⟩
 intro j x y hx hy
 simp only [Array.toList_map,List.getElem?_map,aL] at hx hy
 obtain ⟨p,hp,rfl⟩:=hx
 obtain ⟨q,hq,rfl⟩:=hy
 rw [hp] at hq;cases hq
 exact he _ (List.mem_map.2 ⟨p,List.mem_of_getElem? hp,rfl⟩)
theorem Fl {ρ:Operand→Value} {e:Operand→AV} {xs:Array Operand} (he:∀ x∈xs.toList,ar w S μ (ρ x) ((e x).strip.1)) :
  RL w S μ (xs.map ρ) (xs.toList.map fun x=>(e x).strip.1):=by
 refine ⟨by simp,?_⟩
 intro j c v hc hv
 simp only [List.getElem?_map,Array.getElem?_map,aL] at hc hv
 obtain ⟨p,hp,rfl⟩:=hc
 obtain ⟨q,hq,rfl⟩:=hv
 have:xs.toList[j]?=some q:=by simpa using hq
 rw [hp] at this;cases this
 exact he p (List.mem_of_getElem? hp)
theorem KA {o:Oper} {a:Act} {e:Operand→AV} {orc:Option lW} {r:R} {next:Act→World→Prop} {Q:Exit→Act→World→Prop}
  (he:∀ x∈o.op.operands.toList,ar w S μ (a.eval x) (e x)) (g:Good E σ S μ w) (zU:∀ j,j < 16→μ (nk+j)=none) (hm:E.m0≤nk)
  (hz:∀ x,orc=some x→x.wE=true→∀ b,¬ E.fp b) (h:eb P nk σ o.op e orc=some r) (hp:aX r.Hb) (hK:QT E nk σ S μ w r fun v w'=>next (a.put o.dst v) w'):o.wp P a w next Q:=by
 have hk:μ nk=none:=zU 0 (by omega)
 -- a value without a change
 have pv:∀ (s:Sem Value),execOp a.eval o=(do pure (.value (← s)):Sem Next)→r.upd=[]→(∃ v,s.run P w=.ok v w∧ar w S μ v r.val)→o.wp P a w next Q:=by
  rintro s hs hu ⟨v,h1,h2⟩
  unfold Oper.wp
  rw [hs]
  simp only [bJ,h1,cO,Sem.run_pure]
  exact hK v w S μ (Ext.refl _ _ _) (by rw [hu];exact g) (fun _ _ h=>h) h2
 have Yl:∀ (v:Value),execOp a.eval o=pure (.value v)→r.upd=[]→ar w S μ v r.val→o.wp P a w next Q:=by
  intro v hs hu h2
  unfold Oper.wp
  rw [hs]
  exact hK v w S μ (Ext.refl _ _ _) (by rw [hu];exact g) (fun _ _ h=>h) h2
 have sv:∀ (s:Sem Value),execOp a.eval o=(do pure (.value (← s)):Sem Next)→Step P E nk σ S μ w s r.val r.upd→o.wp P a w next Q:=by
  rintro s hs ⟨v,w',S',cC,h1,h2,h3,h4,h5⟩
  unfold Oper.wp
  rw [hs]
  simp only [bJ,h1,cO,Sem.run_pure]
  exact hK v w' S' cC h2 h3 (fun k ld=>h4 k (by omega)) h5
 have st:∀ (xs:List Operand),aX (conds e xs)→(∀ x∈xs,x∈o.op.operands.toList)→∀ x∈xs,ar w S μ (a.eval x) ((e x).strip.1) :=
  fun xs h1 h2 x hx=>(he x (h2 x hx)).strip (zo h1 x hx)
 obtain ⟨dst,op,ty,pos,after,guard⟩:=o
 simp only at he h hK pv Yl sv st ⊢
 cases op with
 | move x =>
  simp only [eb,aD] at h;subst h
  exact Yl (a.eval x) rfl rfl (he x (by simp [Op.operands]))
 | assign x =>
  simp only [eb,aD] at h;subst h
  exact Yl (a.eval x) rfl rfl (he x (by simp [Op.operands]))
 | pick q x y =>
  simp only [eb] at h
  split at h
  ·rename_i qb xb yb hq hx hy
   cases h
   obtain ⟨p1,p2⟩:=aX.app hp
   obtain ⟨p2,p3⟩:=aX.app p2
   have e1:=(he q (by simp [Op.operands])).strip p1
   rw [hq] at e1
   have e1:=db e1
   refine pv (do pure (if ← asBool (a.eval q) then a.eval x else a.eval y)) (by simp [execOp]) rfl ?_
   cases qb with
   | true =>
    have e2:=(he x (by simp [Op.operands])).strip (H5 p2 rfl)
    rw [hx] at e2
    exact ⟨a.eval x,by simp [e1,asBool],e2⟩
   | false =>
    have e2:=(he y (by simp [Op.operands])).strip (H5 p3 rfl)
    rw [hy] at e2
    exact ⟨a.eval y,by simp [e1,asBool],e2⟩
  ·cases h
 | alloc T =>
  simp only [eb,aL] at h
  obtain ⟨⟨v,u⟩,h1,rfl⟩:=h
  exact sv _ rfl (Qp g hk hm h1)
 | box T x =>
  simp only [eb,aL] at h
  obtain ⟨⟨v,u⟩,h1,rfl⟩:=h
  exact sv _ rfl (WC g hk hm (st [x] hp (by simp [Op.operands]) x (by simp)) h1)
 | build t parts =>
  simp only [eb,sy,aL] at h
  obtain ⟨v,h1,rfl⟩:=h
  have DD:=H6 (st _ hp (by simp [Op.operands]))
  exact pv _ rfl rfl (Qr DD.1 DD.2 h1)
 | buildSlice t len parts =>
  simp only [eb] at h
  split at h
  ·cases h
  ·rename_i Ki
   simp only [aL] at h
   obtain ⟨⟨v,u⟩,h1,rfl⟩:=h
   have DD:=H6 (st _ hp (by simp [Op.operands]))
   refine sv _ rfl (Hg g hk hm DD.1 DD.2 h1 ?_)
   intro hz
   subst hz
   simp only [Bool.and_eq_false_iff] at Ki
   rcases Ki with h0 | h0
   ·simp at h0
   ·simp only [Bool.not_eq_false',List.isEmpty_iff] at h0
    simp [h0]
 | load T x =>
  simp only [eb,aL] at h
  obtain ⟨⟨ps,v,rd⟩,h1,rfl⟩:=h
  obtain ⟨p1,p2⟩:=aX.app hp
  exact pv _ rfl rfl (IU g (st [x] p1 (by simp [Op.operands]) x (by simp)) h1 p2)
 | store T x y =>
  simp only [eb,aL] at h
  obtain ⟨⟨ps,u,rd⟩,h1,rfl⟩:=h
  obtain ⟨p1,p2⟩:=aX.app hp
  have s:=st [x,y] p1 (by simp [Op.operands])
  obtain ⟨w',r1,r2,r3⟩:=Qu g (s x (by simp)) (s y (by simp)) h1 p2
  unfold Oper.wp
  have ex:execOp a.eval ⟨dst,.store T x y,ty,pos,after,guard⟩=(do Instr.storeAt T (a.eval x) (a.eval y);pure .skip:Sem Next):=rfl
  rw [ex]
  simp only [bJ,r1,cO,Sem.run_pure]
  exact hK undef w' S μ r2 r3 (fun _ _ h=>h) .mU
 | nilCheck x =>
  simp only [eb] at h
  split at h
  ·rename_i k i j hx
   cases h
   have e1:=st [x] hp (by simp [Op.operands]) x (by simp)
   rw [hx] at e1
   cases hv:a.eval x with
   | pointer q =>
    rw [hv] at e1
    cases q with
    | none=>cases e1
    | some q=>exact Yl (.pointer (some q)) (by simp [execOp,hv]) rfl e1
   | _=>rw [hv] at e1;cases e1
  ·rename_i cs j hx
   cases h
   have e1:=st [x] hp (by simp [Op.operands]) x (by simp)
   rw [hx] at e1
   cases hv:a.eval x with
   | pointer q =>
    rw [hv] at e1
    cases q with
    | none=>cases e1
    | some q=>exact Yl (.pointer (some q)) (by simp [execOp,hv]) rfl e1
   | _=>rw [hv] at e1;cases e1
  ·rename_i b cs hx
   cases h
   obtain ⟨hp,hb,_⟩:=aX.app hp
   have e1:=st [x] hp (by simp [Op.operands]) x (by simp)
   rw [hx] at e1
   have e1:=Uf e1 hb
   cases hv:a.eval x with
   | pointer q =>
    rw [hv] at e1
    cases q with
    | none=>cases e1
    | some q=>exact Yl (.pointer (some q)) (by simp [execOp,hv]) rfl e1
   | _=>rw [hv] at e1;cases e1
  ·cases h
 | binOp o' t x y yt =>
  simp only [eb,aL] at h
  obtain ⟨⟨ps,v⟩,h1,rfl⟩:=h
  obtain ⟨p1,p2⟩:=aX.app hp
  have s:=st [x,y] p1 (by simp [Op.operands])
  exact pv (do eqGuard o' t x y (a.eval x) (a.eval y);binOp o' t (a.eval x) (a.eval y)) rfl rfl (WA (s x (by simp)) (s y (by simp)) h1 p2)
 | unOp o' t x =>
  simp only [eb,sy,aL] at h
  obtain ⟨v,h1,rfl⟩:=h
  exact pv _ rfl rfl (YM (st [x] hp (by simp [Op.operands]) x (by simp)) h1)
 | convert src dt x =>
  simp only [eb] at h
  split at h
  ·rename_i v h1
   cases h
   exact pv _ rfl rfl (TK (st [x] hp (by simp [Op.operands]) x (by simp)) h1)
  ·simp only [aL] at h
   obtain ⟨⟨ps,v,rd⟩,h1,rfl⟩:=h
   obtain ⟨p1,p2⟩:=aX.app hp
   exact sv _ rfl (QL g (st [x] p1 (by simp [Op.operands]) x (by simp)) h1 p2)
 | makeMap t hint =>
  cases hint with
  | some _=>simp [eb] at h
  | none =>
   simp only [eb,aD] at h;subst h
   have ga:=g.allocMap hk hm
   refine sv (Instr.makeMap t none) rfl ⟨_,_,_,_,Go.RowKit.run_makeMap t w,ga.1,ga.2,fun k ld hn=>by rw [mY _ ld];exact hn,?_⟩
   exact ar.mp (μ:=cl μ nk ⟨w.heap.size,1,0⟩) ⟨w.heap.size,1,0⟩ (by simp [cl])
 | lookup t m x ok =>
  simp only [eb] at h
  split at h
  ·simp only [aL] at h
   obtain ⟨⟨ps,v,rd⟩,h1,rfl⟩:=h
   obtain ⟨p1,p2⟩:=aX.app hp
   have s:=st [m,x] p1 (by simp [Op.operands])
   exact pv _ rfl rfl (Pe g (s m (by simp)) (s x (by simp)) h1 p2)
  ·cases h
 | mapUpdate t m x y =>
  simp only [eb] at h
  split at h
  ·simp only [aL] at h
   obtain ⟨⟨ps,u,rd⟩,h1,rfl⟩:=h
   obtain ⟨p1,p2⟩:=aX.app hp
   have s:=st [m,x,y] p1 (by simp [Op.operands])
   obtain ⟨w',r1,r2,r3⟩:=H4 g (s m (by simp)) (s x (by simp)) (s y (by simp)) h1 p2
   unfold Oper.wp
   have ex:execOp a.eval ⟨dst,.mapUpdate t m x y,ty,pos,after,guard⟩=(do Instr.mapUpdate t (a.eval m) (a.eval x) (a.eval y);pure .skip:Sem Next):=rfl
   rw [ex]
   simp only [bJ,r1,cO,Sem.run_pure]
   exact hK undef w' S μ r2 r3 (fun _ _ h=>h) .mU
  ·cases h
 | insert t m x y =>
  simp only [eb] at h
  split at h
  ·simp only [aL] at h
   obtain ⟨⟨ps,u,rd⟩,h1,rfl⟩:=h
   obtain ⟨p1,p2⟩:=aX.app hp
   have s:=st [m,x,y] p1 (by simp [Op.operands])
   obtain ⟨w',r1,r2,r3⟩:=H4 g (s m (by simp)) (s x (by simp)) (s y (by simp)) h1 p2
   unfold Oper.wp
   have ex:execOp a.eval ⟨dst,.insert t m x y,ty,pos,after,guard⟩=(do Instr.mapUpdate t (a.eval m) (a.eval x) (a.eval y);pure .skip:Sem Next):=rfl
   rw [ex]
   simp only [bJ,r1,cO,Sem.run_pure]
   exact hK undef w' S μ r2 r3 (fun _ _ h=>h) .mU
  ·cases h
 | makeFunc f first cap =>
  simp only [eb,aD] at h;subst h
  have s:=st (first.toList ++ cap.toList) hp (by simp [Op.operands])
  have l1:=Fl (xs:=first) (fun x hx=>s x (by simp only [List.mem_append];exact .inl hx))
  have l2:=Fl (xs:=cap) (fun x hx=>s x (by simp only [List.mem_append];exact .inr hx))
  exact pv _ rfl rfl ⟨_,by simp [Instr.makeFunc],.fn l1.1 l2.1 l1.2 l2.2⟩
 | makeSlice t x y =>
  simp only [eb,aL] at h
  obtain ⟨⟨ps,v,u⟩,h1,rfl⟩:=h
  obtain ⟨p1,p2⟩:=aX.app hp
  have s:=st [x,y] p1 (by simp [Op.operands])
  exact sv _ rfl (TM g hk hm (s x (by simp)) (s y (by simp)) h1 p2)
 | slice t x lo hi mx =>
  cases mx with
  | some _=>simp [eb] at h
  | none =>
   simp only [eb,aL] at h
   obtain ⟨⟨ps,v,rd⟩,h1,rfl⟩:=h
   obtain ⟨p1,p2⟩:=aX.app hp
   have s:=st (x :: (lo.toList ++ hi.toList)) p1 (by
    intro y hy
    simp only [jq,List.mem_append,Option.mem_toList] at hy
    simp only [Op.operands]
    rcases hy with rfl | hy | hy
    ·simp
    ·simp [hy]
    ·simp [hy])
   refine pv (Instr.sliceAt t (a.eval x) (lo.map a.eval) (hi.map a.eval) none) rfl rfl (Qx g (s x (by simp)) ?_ ?_ h1 p2)
   ·refine ⟨by simp,?_⟩
    intro p q n5 hq
    simp only [aL] at n5 hq
    obtain ⟨y,hy,rfl⟩:=n5
    obtain ⟨z,hz,rfl⟩:=hq
    rw [hy] at hz;cases hz
    exact s y (by simp [hy])
   ·refine ⟨by simp,?_⟩
    intro p q n5 hq
    simp only [aL] at n5 hq
    obtain ⟨y,hy,rfl⟩:=n5
    obtain ⟨z,hz,rfl⟩:=hq
    rw [hy] at hz;cases hz
    exact s y (by simp [hy])
 | fieldAddr T x f =>
  simp only [eb,sy,aL] at h
  obtain ⟨v,h1,rfl⟩:=h
  exact pv _ rfl rfl (IV (st [x] hp (by simp [Op.operands]) x (by simp)) h1)
 | field T x f =>
  simp only [eb,sy,aL] at h
  obtain ⟨v,h1,rfl⟩:=h
  exact pv _ rfl rfl (Qv (st [x] hp (by simp [Op.operands]) x (by simp)) h1)
 | indexAddr T x i =>
  simp only [eb,aL] at h
  obtain ⟨⟨ps,v,rd⟩,h1,rfl⟩:=h
  obtain ⟨p1,p2⟩:=aX.app hp
  have s:=st [x,i] p1 (by simp [Op.operands])
  exact pv _ rfl rfl (IX g (s x (by simp)) (s i (by simp)) h1 p2)
 | index T x i =>
  simp only [eb,aL] at h
  obtain ⟨⟨ps,v⟩,h1,rfl⟩:=h
  obtain ⟨p1,p2⟩:=aX.app hp
  have s:=st [x,i] p1 (by simp [Op.operands])
  exact pv _ rfl rfl (Qw (s x (by simp)) (s i (by simp)) h1 p2)
 | extract x i =>
  simp only [eb] at h
  split at h
  ·rename_i cs hx
   simp only [sy,aL] at h
   obtain ⟨v,h1,rfl⟩:=h
   have e1:=st [x] hp (by simp [Op.operands]) x (by simp)
   rw [hx] at e1
   refine pv _ rfl rfl ?_
   cases hv:a.eval x with
   | tuple vs =>
    rw [hv] at e1
    cases e1 with
    | tup q1 q2 =>
     have fo:i < vs.size:=by rw [q1];exact (dd.1 h1).1
     exact ⟨vs[i],by simp [Instr.extract,dM fo],q2 i v _ h1 (dM fo)⟩
   | _=>rw [hv] at e1;cases e1
  ·cases h
 | call c =>
  obtain ⟨callee,args,argTypes⟩:=c
  cases callee with
  | invoke=>simp [eb] at h
  | value f =>
   simp only [eb] at h
   split at h
   ·rename_i o'
    simp only [aL] at h
    obtain ⟨r',h1,rfl⟩:=h
    obtain ⟨p1,p2⟩:=aX.app hp
    have s:=st (f :: args.toList) p2 (by simp [Op.operands,Call.operands])
    have l1:=Fl (xs:=args) (fun x hx=>s x (List.mem_cons_of_mem _ hx))
    obtain ⟨gid,vs,r1,r2⟩:=Ml g zU hm (s f (by simp)) l1 (hz _ rfl) h1 p1
    unfold Oper.wp
    have ex:execOp a.eval ⟨dst,.call ⟨.value f,args,argTypes⟩,ty,pos,after,guard⟩=(do let d ← Deferred.ofValue (a.eval f) (args.map a.eval);invoke d.target d.args:Sem Next):=rfl
    rw [ex,r1]
    simp only [Oper.upon]
    refine r2.mono ?_
    rintro e' w' ⟨v,S',cC,rfl,q1,q2,q3,q4⟩
    exact hK v w' S' cC q1 q2 q3 q4
   ·cases h
  | builtin b =>
   simp only [eb] at h
   unfold zl at h
   split at h
   case h_1 x t ha ht =>
    obtain ⟨rfl⟩:args=#[x]:=Array.toList_inj.1 (by rw [ha])
    obtain ⟨rfl⟩:argTypes=#[t]:=Array.toList_inj.1 (by rw [ht])
    simp only [sy,aL] at h
    obtain ⟨v,h1,rfl⟩:=h
    have s:=st [x] hp (by simp [Op.operands,Call.operands])
    exact pv (Builtin.len_ #[t] ty #[a.eval x]) (by simp [execOp,resolve,invoke,builtin]) rfl (WK (s x (by simp)) h1 ty)
   case h_2 x y t t' ha ht =>
    obtain ⟨rfl⟩:args=#[x,y]:=Array.toList_inj.1 (by rw [ha])
    obtain ⟨rfl⟩:argTypes=#[t,t']:=Array.toList_inj.1 (by rw [ht])
    split at h
    ·rename_i hb
     have hb:=bp hb
     subst hb
     simp only [aL] at h
     obtain ⟨⟨ps,v,rd,u⟩,h1,rfl⟩:=h
     obtain ⟨p1,p2⟩:=aX.app hp
     have s:=st [x,y] p1 (by simp [Op.operands,Call.operands])
     exact sv (Builtin.append_ #[t,t] ty #[a.eval x,a.eval y]) (by simp [execOp,resolve,invoke,builtin]) (HV g hk hm (s x (by simp)) (s y (by simp)) h1 p2)
    ·cases h
   case h_3 x r ha =>
    simp only [sy,aL] at h
    obtain ⟨v,h1,rfl⟩:=h
    have s:=st (x :: r) hp (by intro y hy;simpa [Op.operands,Call.operands,ha] using hy)
    refine pv (Builtin.min_ argTypes ty (args.map a.eval)) (by simp [execOp,resolve,invoke,builtin]) rfl ?_
    obtain ⟨z,h3,h4⟩:=Mm (P:=P) r (a.eval x) _ v (s x (by simp)) (fun y hy=>s y (by simp [hy])) h1
    refine ⟨z,?_,h4⟩
    unfold Builtin.min_
    rw [Array.toList_map,ha,List.map_cons]
    exact h3
   case h_4 x r ha =>
    simp only [sy,aL] at h
    obtain ⟨v,h1,rfl⟩:=h
    have s:=st (x :: r) hp (by intro y hy;simpa [Op.operands,Call.operands,ha] using hy)
    refine pv (Builtin.max_ argTypes ty (args.map a.eval)) (by simp [execOp,resolve,invoke,builtin]) rfl ?_
    obtain ⟨z,h3,h4⟩:=Mm (P:=P) r (a.eval x) _ v (s x (by simp)) (fun y hy=>s y (by simp [hy])) h1
    refine ⟨z,?_,h4⟩
    unfold Builtin.max_
    rw [Array.toList_map,ha,List.map_cons]
    exact h3
   case h_5=>cases h
 | _=>simp [eb] at h
def abt:Option lW→Option lW
 | some o=>match o.same with
  | false=>some o
  | true=>none
 | none=>none
def zp (P:Program) (σ:dp) (T:TypeId) (a x:AV):Option (List Prop×AV×List Nat) :=
 match a,P.underlying T,ub P T with
 | .op k i j,some d,some n=>match d.isRow,Nat.beq n 1,av σ k with
  | false,true,some o=>some ([i < o.len,(o.get i)[j]?=some x],x,[k])
  | _,_,_=>none
 | _,_,_=>none
theorem QU (g:Good E σ S μ w) {T:TypeId} {a x:AV} {va:Value} (ha:ar w S μ va a) {ps:List Prop} {y:AV} {rd:List Nat} (h:zp P σ T a x=some (ps,y,rd)) (hp:aX ps) :
  ∃ v,(Instr.loadAt T va).run P w=.ok v w∧ar w S μ v y:=by
 unfold zp at h
 split at h
 case h_2=>cases h
 rename_i k i j d n hd hn
 split at h
 case h_2=>cases h
 rename_i o h1 h2 ho
 simp only [aD,aA] at h
 obtain ⟨rfl,rfl,rfl⟩:=h
 obtain ⟨hi,hx,_⟩:=hp
 have G6:=bp h2
 subst G6
 refine IU (T:=T) g ha (ps:=[i < o.len]) (rd:=[k]) ?_ ⟨hi,trivial⟩
 unfold xU
 simp only [hd,hn,ho,h1]
 unfold TN
 have:Nat.ble (j+1) (o.get i).length=true:=by rw [Nat.ble_eq];exact (dd.1 hx).1
 rw [this]
 simp [hx]
def I3 (σ:dp) (k q i:Nat):Option (List Prop×rU) :=
 match av σ k,av σ q with
 | some o,some oq=>match !o.var && !oq.var && oq.pr && Nat.ble 1 oq.sz && !Nat.beq k q with
  | true=>some ([i < o.len,o.get i=[.os q 0 oq.len],∀ j,j < oq.len→mL (oq.get j)=true],[(q,none),(k,some ⟨false,o.sz,o.len,false,fun m=>if m=i then [.mr oq.sz oq.len oq.get] else o.get m⟩)])
  | false=>none
 | _,_=>none
theorem H7 {k q i:Nat} {ps:List Prop} {u:rU} (h:I3 σ k q i=some (ps,u)) (hp:aX ps) (g:Good E σ S μ w):Good E (eV σ u) S μ w:=by
 unfold I3 at h
 split at h
 case h_2=>cases h
 rename_i o oq ho WN
 split at h
 case h_2=>cases h
 rename_i hb
 simp only [aD,aA] at h
 obtain ⟨rfl,rfl⟩:=h
 simp only [a9,Bool.not_eq_true',Nat.ble_eq] at hb
 obtain ⟨⟨⟨⟨h1,h2⟩,h3⟩,h4⟩,h5⟩:=hb
 obtain ⟨p1,p2,p3,_⟩:=hp
 refine g.cls ho WN (fun e=>?_) h1 h2 h3 h4 p1 p2 fun j=>?_
 ·rw [e,ki rfl] at h5;cases h5
 ·cases hr:rowOf oq j with
  | none=>rfl
  | some x =>
   obtain ⟨_,r2,r3⟩:=di hr
   have:=p3 j r2
   rw [r3] at this;cases this
def Y4:AV→Nat
 | .os _ _ len=>len
 | _=>0
def s8 (P:Program) (nk:Nat) (σ:dp) (t:TypeId) (s x:AV) (orc:lW):Option (List Prop×AV×List Nat×rU) :=
 match orc.ks,qU P nk σ t s x with
 | [q],some (ps,v,rd,u)=>match WU (rd ++ u.map (·.1)) q,I3 (eV σ u) nk q (Y4 s) with
  | false,some (Ug,u2)=>some (ps ++ Ug,v,q :: rd,u ++ u2)
  | _,_=>none
 | _,_=>none
theorem Mn (g:Good E σ S μ w) (hk:μ nk=none) (hm:E.m0≤nk) {t ty:TypeId} {s x:AV} {orc:lW} {vs vx:Value} (hs:ar w S μ vs s) (hx:ar w S μ vx x) {ps:List Prop} {val:AV} {rd:List Nat} {upd:rU}
  (h:s8 P nk σ t s x orc=some (ps,val,rd,upd)) (hp:aX ps):Step P E nk σ S μ w (Builtin.append_ #[t,t] ty #[vs,vx]) val upd:=by
 unfold s8 at h
 split at h
 case h_2=>cases h
 rename_i q p1 v NB u hq ha
 split at h
 case h_2=>cases h
 rename_i p2 u2 _ hc
 simp only [aD,aA] at h
 obtain ⟨rfl,rfl,rfl,rfl⟩:=h
 obtain ⟨tX,vk⟩:=aX.app hp
 obtain ⟨v',w',S',cC,h1,h2,h3,h4,h5⟩:=HV (ty:=ty) g hk hm hs hx ha tX
 exact ⟨v',w',S',cC,h1,h2,by rw [gf];exact H7 hc vk h3,h4,h5⟩
def Fm (P:Program) (T:TypeId) (x lo hi mx:AV):Option (List Prop×AV×List Nat) :=
 match P.underlying T,x,lo,hi,mx with
 | some (.slice e),.os _ _ len,.atom (.int _ l),.atom (.int _ h),.atom (.int _ m)=>match ub P e with
  | some _=>some ([0≤l∧l≤h∧h≤m∧m≤len],.mU,[])
  | none=>none
 | _,_,_,_,_=>none
theorem Pf {T:TypeId} {x lo hi mx:AV} {v vl vh vm:Value} (hx:ar w S μ v x) (hl:ar w S μ vl lo) (hh:ar w S μ vh hi) (hm:ar w S μ vm mx) {ps:List Prop} {r:AV} {rd:List Nat}
  (h:Fm P T x lo hi mx=some (ps,r,rd)) (hp:aX ps):∃ u,(Instr.sliceAt T v (some vl) (some vh) (some vm)).run P w=.ok u w∧ar w S μ u r:=by
 unfold Fm at h
 split at h
 case h_2=>cases h
 rename_i e k off len kl l kh h' km m hu
 split at h
 case h_2=>cases h
 rename_i sz kj
 simp only [aD,aA] at h
 obtain ⟨rfl,rfl,rfl⟩:=h
 obtain ⟨⟨p1,p2,p3,p4⟩,_⟩:=hp
 have e1:=db hl
 have e2:=db hh
 have e3:=db hm
 subst e1 e2 e3
 cases hx with
 | os pl fw h1 h2 h3 =>
  rename_i cap a
  have q1:0≤m∧m≤(cap:Int):=by omega
  have q2:0≤h'∧h'≤(m.toNat:Int):=by omega
  have q3:0≤l∧l≤(h'.toNat:Int):=by omega
  have hb:(Instr.sliceBounds true len cap (some (.int kl l)) (some (.int kh h')) (some (.int km m))).run P w=.ok (l.toNat,h'.toNat,m.toNat) w:=by
   simp only [Instr.sliceBounds,Instr.sliceBound,asIntOf,bJ,Sem.run_pure,cO,Sem.run_ite,if_pos q1,if_pos q2,if_pos q3]
  exact ⟨.slice (if m.toNat=l.toNat then a else a.map (·.add (l.toNat * sz))) (h'.toNat - l.toNat) (m.toNat - l.toNat),by simp [Instr.sliceAt,Instr.slice,run_underlying hu,hb,eM kj],.mU⟩
def vv (P:Program) (σ:dp) (T:TypeId) (x:AV) (lo hi:Option AV):Option (List Prop×AV×List Nat) :=
 match P.underlying T,x with
 | some (.slice e),.os k off len=>match ub P e,bound 0 lo,bound len hi,av σ k with
  | some sz,some l,some h,some o=>match Nat.beq o.sz sz with
   | true=>some ((l≤h∧off+h≤o.len) :: (uK lo ++ uK hi),.os k (bT off l) (h - l),[k])
   | false=>none
  | _,_,_,_=>none
 | _,_=>none
theorem Pg (g:Good E σ S μ w) {T:TypeId} {x:AV} {v:Value} (hx:ar w S μ v x) {lo hi:Option AV} {vlo vhi:Option Value}
  (VW:(vlo=none↔lo=none)∧∀ a b,lo=some a→vlo=some b→ar w S μ b a)
  (NA:(vhi=none↔hi=none)∧∀ a b,hi=some a→vhi=some b→ar w S μ b a) {ps:List Prop} {r:AV} {rd:List Nat} (h:vv P σ T x lo hi=some (ps,r,rd)) (hp:aX ps) :
  ∃ u,(Instr.sliceAt T v vlo vhi none).run P w=.ok u w∧ar w S μ u r:=by
 unfold vv at h
 split at h
 case h_2=>cases h
 rename_i e k off len hu
 split at h
 case h_2=>cases h
 rename_i sz l hh o kj hl TQ ho
 split at h
 case h_2=>cases h
 rename_i hb
 have hb:=bp hb
 simp only [aD,aA] at h
 obtain ⟨rfl,rfl,rfl⟩:=h
 obtain ⟨⟨p1,p2⟩,p3⟩:=hp
 obtain ⟨pl,c,T',hm,cD⟩:=g.rep.ob k o ho
 cases hx with
 | os iB fw h1 h2 h3 =>
  rename_i cap a
  rw [hm] at fw;cases fw
  have hc:hh≤cap:=by have:=cD.len;omega
  have O5:=wA (P:=P) (w:=w) true (cap:=cap) VW NA hl TQ p1 hc p3
  refine ⟨.slice (if cap=l then a else a.map (·.add (l * sz))) (hh - l) (cap - l),?_,?_⟩
  ·simp [Instr.sliceAt,Instr.slice,run_underlying hu,O5,eM kj]
  ·refine .os pl hm ?_ (by omega) (by rw [dk];omega)
   intro hc
   have:=h1 (by omega)
   subst this
   rw [if_neg (by omega)]
   simp only [Option.map_some,Addr.add_mid]
   rw [dk,cD.sz,hb,cb]
def Cy (P:Program) (σ:dp) (t:TypeId) (s x:AV):Option (List Prop×AV×List Nat×rU) :=
 match mj P t with
 | some e=>match ub P e,wv P e,su P e,s,x with
  | some sz,some _,some _,.os k 0 len,.os k' off n=>match Nat.beq k k',av σ k with
   | true,some o=>match Nat.ble 1 sz && Nat.beq o.sz sz && !o.var with
    | true=>some ([0 < o.len∧len+n≤o.len,off+n≤o.len,∀ i,i < o.len→AV.ko (o.get i)=true],.os k 0 (len+n),[k],
      [(k,some ⟨false,sz,o.len,o.pr,fun m=>if m < len then o.get m else if m < len+n then o.get (bT off (m - len)) else o.get m⟩)])
    | false=>none
   | _,_=>none
  | _,_,_,_,_=>none
 | none=>none
theorem H8 {o:Ob} (h:∀ i,i < o.len→AV.ko (o.get i)=true) (i:Nat):rowOf o i=none:=by
 cases hr:rowOf o i with
 | none=>rfl
 | some x =>
  obtain ⟨_,r2,r3⟩:=di hr
  have:=h i r2
  rw [r3] at this;cases this
theorem Uh (g:Good E σ S μ w) {t ty:TypeId} {s x:AV} {vs vx:Value} (hs:ar w S μ vs s) (hx:ar w S μ vx x) {ps:List Prop} {val:AV} {rd:List Nat} {upd:rU}
  (h:Cy P σ t s x=some (ps,val,rd,upd)) (hp:aX ps):Step P E nk σ S μ w (Builtin.append_ #[t,t] ty #[vs,vx]) val upd:=by
 unfold Cy at h
 split at h
 case h_2=>cases h
 rename_i e he
 have he:=kH he
 split at h
 case h_2=>cases h
 rename_i sz b z k len k' off n kj hb hz
 obtain ⟨ie,Cn,rfl,rfl,P3⟩:=wx kj hb hz
 split at h
 case h_2=>cases h
 rename_i o Mf ho
 have Mf:=bp Mf
 subst Mf
 split at h
 case h_2=>cases h
 rename_i xT
 simp only [a9,Nat.ble_eq,Bool.not_eq_true'] at xT
 obtain ⟨⟨b1,b2⟩,Bh⟩:=xT
 have b2:=bp b2
 simp only [aD,aA] at h
 obtain ⟨rfl,rfl,rfl,rfl⟩:=h
 obtain ⟨⟨p0,p1⟩,p2,p3,_⟩:=hp
 obtain ⟨news,sr⟩:=xX (P:=P) (sz:=ie.size) (n:=n) (gt:=fun i=>o.get (bT off i)) (pr:=o.pr) (ps:=[off+n≤o.len,∀ i,i < n→AV.ko (o.get (bT off i))=true]) (rd:=[k]) g hx
  (by unfold vg;simp only [ho,ki b2]) ⟨p2,fun i hi=>p3 _ (by rw [dk];omega),trivial⟩
 obtain ⟨pl,c,T',qJ,cD⟩:=g.rep.ob k o ho
 cases hs with
 | os iB fw h1 h2 h3 =>
  rename_i cap a
  rw [qJ] at fw;cases fw
  have Yh:=cD.len
  have ha:=h1 (by omega)
  simp only [Nat.zero_mul] at ha
  subst ha
  have wo:0 < pl.cap:=by omega
  have Km:len+n≤cap:=by omega
  have xF:len * ie.size+news.length≤c.size:=by
   have e1:(len+n) * ie.size≤pl.cap * ie.size:=dB _ (by omega)
   have e2:=cD.cap
   rw [b2] at e2
   rw [sr.size,← cb];omega
  have iX:=E4 (P:=P) (w:=w) (ty:=ty) he Cn ((cD.b7 wo).trans (by rw [ft (by omega)])) sr.len sr.cells sr.one Km xF
  generalize jk:(c.toList.take (len * ie.size) ++ news ++ c.toList.drop (len * ie.size+news.length)).toArray=c' at iX
  have xV:(c.toList.take (len * ie.size)).length=len * ie.size:=by simp;omega
  have E3:c'.size=c.size:=by
   rw [← jk]
   simp;omega
  have oa:∀ m,c'[m]?=if m < len * ie.size then c[m]? else if m < len * ie.size+news.length then news[m - len * ie.size]? else c[m]?:=by
   intro m
   rw [← jk]
   simp only [List.getElem?_toArray]
   by_cases h1:m < len * ie.size
   ·rw [eH (by simp;omega),eH (by omega),ke,if_pos h1,if_pos h1]
    simp
   ·rw [if_neg h1]
    by_cases h2:m < len * ie.size+news.length
    ·rw [eH (by simp;omega),gF (by omega),xV,if_pos h2]
    ·rw [if_neg h2,gF (by simp;omega)]
     simp only [mK,xV,kc]
     rw [show len * ie.size+news.length+(m - (len * ie.size+news.length))=m by omega]
     simp
  have pT:∀ i,i < o.len→(if i < len then o.get i else if i < len+n then o.get (bT off (i - len)) else o.get i).length=ie.size:=by
   intro i hi
   split
   ·rw [cD.tj i hi,b2]
   ·split
    ·rw [cD.tj _ (by rw [dk];omega),b2]
    ·rw [cD.tj i hi,b2]
  have DF:=H8 p3
  have gw:=g.write ho qJ wo cD (by omega) ⟨false,ie.size,o.len,o.pr,fun m=>if m < len then o.get m else if m < len+n then o.get (bT off (m - len)) else o.get m⟩ c' b2.symm E3 cD.len pT (by
   intro i j x v hi hx hv
   have hi:i < o.len:=hi
   have hx:(if i < len then o.get i else if i < len+n then o.get (bT off (i - len)) else o.get i)[j]?=some x:=hx
   have hj:j < ie.size:=by
    have e1:=(dd.1 hx).1
    have e2:=pT i hi
    omega
   have hv:c'[i * ie.size+j]?=some v:=hv
   rw [oa] at hv
   by_cases G8:i < len
   ·have lN:(i+1) * ie.size≤len * ie.size:=dB _ G8
    rw [cb] at lN
    rw [if_pos (by omega)] at hv
    rw [if_pos G8] at hx
    exact cD.rep i j x v hi hx (by rw [b2];exact hv)
   ·have lN:len * ie.size≤i * ie.size:=dB _ (by omega)
    rw [if_neg (by omega),sr.size] at hv
    rw [if_neg G8] at hx
    by_cases nH:i < len+n
    ·have P4:(i+1) * ie.size≤(len+n) * ie.size:=dB _ nH
     rw [cb,cb] at P4
     rw [if_pos (by omega)] at hv
     rw [if_pos nH] at hx
     refine sr.rep (i - len) j x v (by omega) hx ?_
     rw [← hv,Nat.sub_mul];congr 1;omega
    ·have P4:(len+n) * ie.size≤i * ie.size:=dB _ (by omega)
     rw [cb] at P4
     rw [if_neg (by omega)] at hv
     rw [if_neg nH] at hx
     exact cD.rep i j x v hi hx (by rw [b2];exact hv))
   (fun i x hx=>absurd hx (by
    rw [H8 (o:=⟨false,ie.size,o.len,o.pr,fun m=>if m < len then o.get m else if m < len+n then o.get (bT off (m - len)) else o.get m⟩) (fun i hi=>by
     show AV.ko (if i < len then o.get i else if i < len+n then o.get (bT off (i - len)) else o.get i)=true
     have hi:i < o.len:=hi
     split
     ·exact p3 i hi
     ·split
      ·exact p3 _ (by rw [dk];omega)
      ·exact p3 i hi)]
    intro h;cases h))
  exact ⟨_,_,S,μ,iX,gw.1,gw.2,fun _ _ h=>h,ar.os pl qJ (by simp) Km h3⟩
theorem QV {o:Ob} (h:∀ i,i < o.len→mL (o.get i)=true) (i:Nat):rowOf o i=none:=by
 cases hr:rowOf o i with
 | none=>rfl
 | some x =>
  obtain ⟨_,r2,r3⟩:=di hr
  have:=h i r2
  rw [r3] at this;cases this
theorem KB {l:List AV} (h:AV.ko l=true):mL l=true:=by
 induction l with
 | nil=>rfl
 | cons x l ih =>
  simp only [AV.ko,a9] at h
  simp only [mL,a9]
  refine ⟨?_,ih h.2⟩
  cases x<;>first | rfl | cases h.1
theorem Good.QW (g:Good E σ S μ w) {k:Nat} {o:Ob} (ho:av σ k=some o) {pl:Place} {c:Array Value} {T':TypeId} (qJ:μ k=some pl) (cD:gr w S μ o pl c T') (wo:0 < pl.cap) {sz p n:Nat}
  {gt:Nat→List AV} {pr:Bool} {v:Value} {news:List Value} (sr:Src P w S μ sz v n gt pr news) (b2:o.sz=sz) (b1:1≤sz) (hle:p+n≤o.len) (DF:∀ i,i < o.len→mL (o.get i)=true) {c':Array Value}
  (jk:(c.toList.take (p * sz) ++ news ++ c.toList.drop (p * sz+news.length)).toArray=c'):p * sz+news.length≤c.size ∧
  Ext w S μ (w.setRow pl.b7 c') S μ∧Good E (sset σ k ⟨false,sz,o.len,o.pr && pr,fun m=>if m < p then o.get m else if m < p+n then gt (m - p) else o.get m⟩) S μ (w.setRow pl.b7 c'):=by
 have Yh:=cD.len
 have xF:p * sz+news.length≤c.size:=by
  have e1:(p+n) * sz≤pl.cap * sz:=dB _ (by omega)
  have e2:=cD.cap
  rw [b2] at e2
  rw [sr.size,← cb];omega
 have xV:(c.toList.take (p * sz)).length=p * sz:=by simp;omega
 have E3:c'.size=c.size:=by
  rw [← jk]
  simp;omega
 have oa:∀ m,c'[m]?=if m < p * sz then c[m]? else if m < p * sz+news.length then news[m - p * sz]? else c[m]?:=by
  intro m
  rw [← jk]
  simp only [List.getElem?_toArray]
  by_cases h1:m < p * sz
  ·rw [eH (by simp;omega),eH (by omega),ke,if_pos h1,if_pos h1]
   simp
  ·rw [if_neg h1]
   by_cases h2:m < p * sz+news.length
   ·rw [eH (by simp;omega),gF (by omega),xV,if_pos h2]
   ·rw [if_neg h2,gF (by simp;omega)]
    simp only [mK,xV,kc]
    rw [show p * sz+news.length+(m - (p * sz+news.length))=m by omega]
    simp
 have pT:∀ i,i < o.len→(if i < p then o.get i else if i < p+n then gt (i - p) else o.get i).length=sz:=by
  intro i hi
  split
  ·rw [cD.tj i hi,b2]
  ·split
   ·exact sr.tj _ (by omega)
   ·rw [cD.tj i hi,b2]
 have YR:∀ {u:Value} {x:AV},ar w S (if o.pr then fZ else μ) u x→ar w S (if (o.pr && pr)=true then fZ else μ) u x:=by
  intro u x hh
  cases hp:pr
  ·rw [Bool.and_false];exact hH hh
  ·rw [Bool.and_true];exact hh
 have TS:∀ {u:Value} {x:AV},ar w S (if pr then fZ else μ) u x→ar w S (if (o.pr && pr)=true then fZ else μ) u x:=by
  intro u x hh
  cases hp:o.pr
  ·rw [Bool.false_and];exact hH hh
  ·rw [Bool.true_and];exact hh
 refine ⟨xF,g.write ho qJ wo cD (by omega) ⟨false,sz,o.len,o.pr && pr,fun m=>if m < p then o.get m else if m < p+n then gt (m - p) else o.get m⟩ c' b2.symm E3 cD.len pT (by
   intro i j x v hi hx hv
   have hi:i < o.len:=hi
   have hx:(if i < p then o.get i else if i < p+n then gt (i - p) else o.get i)[j]?=some x:=hx
   have hj:j < sz:=by
    have e1:=(dd.1 hx).1
    have e2:=pT i hi
    omega
   have hv:c'[i * sz+j]?=some v:=hv
   rw [oa] at hv
   by_cases G8:i < p
   ·have lN:(i+1) * sz≤p * sz:=dB _ G8
    rw [cb] at lN
    rw [if_pos (by omega)] at hv
    rw [if_pos G8] at hx
    exact YR (cD.rep i j x v hi hx (by rw [b2];exact hv))
   ·have lN:p * sz≤i * sz:=dB _ (by omega)
    rw [if_neg (by omega),sr.size] at hv
    rw [if_neg G8] at hx
    by_cases nH:i < p+n
    ·have P4:(i+1) * sz≤(p+n) * sz:=dB _ nH
     rw [cb,cb] at P4
     rw [if_pos (by omega)] at hv
     rw [if_pos nH] at hx
     refine TS (sr.rep (i - p) j x v (by omega) hx ?_)
     rw [← hv,Nat.sub_mul];congr 1;omega
    ·have P4:(p+n) * sz≤i * sz:=dB _ (by omega)
     rw [cb] at P4
     rw [if_neg (by omega)] at hv
     rw [if_neg nH] at hx
     exact YR (cD.rep i j x v hi hx (by rw [b2];exact hv)))
   (fun i x hx=>absurd hx (by
    rw [QV (o:=⟨false,sz,o.len,o.pr && pr,fun m=>if m < p then o.get m else if m < p+n then gt (m - p) else o.get m⟩) (fun i hi=>by
     show mL (if i < p then o.get i else if i < p+n then gt (i - p) else o.get i)=true
     have hi:i < o.len:=hi
     split
     ·exact DF i hi
     ·split
      ·exact KB (sr.TR _ (by omega))
      ·exact DF i hi)]
    intro h;cases h))⟩
def Cz (P:Program) (σ:dp) (t:TypeId) (s x:AV):Option (List Prop×AV×List Nat×rU) :=
 match mj P t with
 | some e=>match ub P e,s,x with
  | some sz,.os k zV nd,.os k' DY ns=>match Nat.beq k k',av σ k with
   | true,some o=>match Nat.ble 1 sz && Nat.beq o.sz sz && !o.var with
    | true=>some ([nd≤ns,zV+nd≤o.len,DY+nd≤o.len,∀ i,i < o.len→AV.ko (o.get i)=true],.atom (.int .i64 nd),[k],
      [(k,some ⟨false,sz,o.len,o.pr,fun m=>if m < zV then o.get m else if m < zV+nd then o.get (bT DY (m - zV)) else o.get m⟩)])
    | false=>none
   | _,_=>none
  | _,_,_=>none
 | none=>none
theorem Ui (g:Good E σ S μ w) {t t' ty:TypeId} {s x:AV} {vs vx:Value} (hs:ar w S μ vs s) (hx:ar w S μ vx x) {ps:List Prop} {val:AV} {rd:List Nat} {upd:rU}
  (h:Cz P σ t s x=some (ps,val,rd,upd)) (hp:aX ps):Step P E nk σ S μ w (Builtin.copy_ #[t,t'] ty #[vs,vx]) val upd:=by
 unfold Cz at h
 split at h
 case h_2=>cases h
 rename_i e he
 have he:=kH he
 split at h
 case h_2=>cases h
 rename_i sz k zV nd k' DY ns kj
 obtain ⟨ie,Cn,rfl⟩:∃ ie,P.info? e=some ie∧ie.size=sz:=by
  unfold ub at kj
  cases hq:P.info? e with
  | none=>rw [hq] at kj;cases kj
  | some i=>rw [hq] at kj;exact ⟨i,rfl,by simpa using kj⟩
 split at h
 case h_2=>cases h
 rename_i o Mf ho
 have Mf:=bp Mf
 subst Mf
 split at h
 case h_2=>cases h
 rename_i xT
 simp only [a9,Nat.ble_eq,Bool.not_eq_true'] at xT
 obtain ⟨⟨b1,b2⟩,Bh⟩:=xT
 have b2:=bp b2
 simp only [aD,aA] at h
 obtain ⟨rfl,rfl,rfl,rfl⟩:=h
 obtain ⟨p0,p1,p2,p3,_⟩:=hp
 obtain ⟨pl,c,T',qJ,cD⟩:=g.rep.ob k o ho
 cases hs with
 | os iB fw h1 h2 h3 =>
  rename_i cap a
  rw [qJ] at fw;cases fw
  cases hx with
  | os qu As g1 g2 g3 =>
   rename_i KC a2
   rw [qJ] at As;cases As
   rcases Nat.eq_zero_or_pos nd with h0 | h0
   ·subst h0
    have iX:(Builtin.copy_ #[t,t'] ty #[.slice a 0 cap,.slice a2 ns KC]).run P w=.ok (goInt 0) w:=by
     have e0:Nat.min ns 0=0:=by simp
     cases a<;>cases a2<;>simp [Builtin.copy_,run_underlying he,Builtin.lenOf,Builtin.firstCells,sizeOf,typeInfo,Cn,storeCells,loadCells,loadCellsFrom]
    have eo:(⟨false,ie.size,o.len,o.pr,fun m=>if m < zV then o.get m else if m < zV+0 then o.get (bT DY (m - zV)) else o.get m⟩:Ob)=o:=by
     have:(fun m=>if m < zV then o.get m else if m < zV+0 then o.get (bT DY (m - zV)) else o.get m)=o.get:=by
      funext m
      split
      ·rfl
      ·split
       ·omega
       ·rfl
     rw [this,← b2,← Bh]
    refine ⟨_,w,S,μ,iX,Ext.refl _ _ _,g.congr fun n=>?_,fun _ _ h=>h,.atom _⟩
    show av (sset σ k _) n=_
    rw [eo,bd]
    split
    ·rename_i e;rw [← e,ho]
    ·rfl
   ·have ha:=h1 (by omega)
    have Tu:=g1 (by omega)
    subst ha Tu
    have wo:0 < pl.cap:=by have:=cD.len;omega
    obtain ⟨news,sr⟩:=xX (P:=P) (sz:=ie.size) (x:=.os k DY nd) (v:=.slice (some ⟨pl.b7,DY * pl.sz,none⟩) nd KC) (n:=nd) (gt:=fun i=>o.get (bT DY i)) (pr:=o.pr) (ps:=[DY+nd≤o.len,∀ i,i < nd→AV.ko (o.get (bT DY i))=true]) (rd:=[k]) g
     (.os pl qJ g1 (by omega) g3) (by unfold vg;simp only [ho,ki b2]) ⟨p2,fun i hi=>p3 _ (by rw [dk];omega),trivial⟩
    obtain ⟨xF,YS,WL⟩:=g.QW ho qJ cD wo sr b2 b1 p1 (fun i hi=>KB (p3 i hi)) rfl
    have y8:=run_storeCells_at P pl.b7 (zV * ie.size) T' news 0 c w ((cD.b7 wo).trans (by rw [ft (by omega)])) (by simpa using xF) sr.one
    simp only [Nat.add_zero] at y8
    have Tn:=sr.cells w rfl
    simp only [Builtin.firstCells] at Tn
    have uc:Nat.min ns nd=nd:=Nat.min_eq_right p0
    have iX:(Builtin.copy_ #[t,t'] ty #[.slice (some ⟨pl.b7,zV * pl.sz,none⟩) nd cap,.slice (some ⟨pl.b7,DY * pl.sz,none⟩) ns KC]).run P w=.ok (goInt nd) (w.setRow pl.b7 (c.toList.take (zV * ie.size) ++ news ++ c.toList.drop (zV * ie.size+news.length)).toArray):=by
     rw [cD.sz,b2] at Tn ⊢
     simp [Builtin.copy_,run_underlying he,Builtin.lenOf,Builtin.firstCells,sizeOf,typeInfo,Cn,uc,Tn,y8]
    rw [Bool.and_self] at WL
    exact ⟨_,_,S,μ,iX,YS,WL,fun _ _ h=>h,.atom _⟩
def CA (P:Program) (σ:dp) (t:TypeId) (s x:AV):Option (List Prop×AV×List Nat×rU) :=
 match mj P t with
 | some e=>match ub P e,wv P e,su P e,s with
  | some sz,some _,some _,.os k off m=>match vg σ sz x,av σ k with
   | some (n,gt,pr,ps,rd),some o=>match Nat.ble 1 sz && Nat.beq o.sz sz && !o.var with
    | true=>some ((0 < n∧bT off m+n≤o.len) :: (∀ i,i < o.len→mL (o.get i)=true) :: ps,.os k off (m+n),k :: rd,
      [(k,some ⟨false,sz,o.len,o.pr && pr,fun j=>if j < bT off m then o.get j else if j < bT off m+n then gt (j - bT off m) else o.get j⟩)])
    | false=>none
   | _,_=>none
  | _,_,_,_=>none
 | none=>none
theorem Uj (g:Good E σ S μ w) {t ty:TypeId} {s x:AV} {vs vx:Value} (hs:ar w S μ vs s) (hx:ar w S μ vx x) {ps:List Prop} {val:AV} {rd:List Nat} {upd:rU}
  (h:CA P σ t s x=some (ps,val,rd,upd)) (hp:aX ps):Step P E nk σ S μ w (Builtin.append_ #[t,t] ty #[vs,vx]) val upd:=by
 unfold CA at h
 split at h
 case h_2=>cases h
 rename_i e he
 have he:=kH he
 split at h
 case h_2=>cases h
 rename_i sz b z k off m kj hb hz
 obtain ⟨ie,Cn,rfl,rfl,P3⟩:=wx kj hb hz
 split at h
 case h_2=>cases h
 rename_i n gt pr Qz NB o vj ho
 split at h
 case h_2=>cases h
 rename_i xT
 simp only [a9,Nat.ble_eq,Bool.not_eq_true'] at xT
 obtain ⟨⟨b1,b2⟩,Bh⟩:=xT
 have b2:=bp b2
 simp only [aD,aA] at h
 obtain ⟨rfl,rfl,rfl,rfl⟩:=h
 obtain ⟨⟨p0,p1⟩,p2,p3⟩:=hp
 obtain ⟨news,sr⟩:=xX (P:=P) g hx vj p3
 obtain ⟨pl,c,T',qJ,cD⟩:=g.rep.ob k o ho
 cases hs with
 | os iB fw h1 h2 h3 =>
  rename_i cap a
  rw [qJ] at fw;cases fw
  have Yh:=cD.len
  have ez:bT off m=off+m:=dk _ _
  have Y5:pl.sz=ie.size:=cD.sz.trans b2
  have ha:=h1 (by omega)
  rw [Y5] at ha
  subst ha
  obtain ⟨xF,YS,WL⟩:=g.QW ho qJ cD (by omega) sr b2 b1 p1 p2 rfl
  have iX:=Mc (P:=P) (w:=w) (ty:=ty) he Cn ((cD.b7 (by omega)).trans (by rw [ft (by omega)])) sr.len sr.cells sr.one (b:=off * ie.size) (sLen:=m) (sCap:=cap) (by omega) (by rw [← cb,← ez];exact xF)
  rw [← cb,← ez] at iX
  exact ⟨_,_,S,μ,iX,YS,WL,fun _ _ h=>h,ar.os pl qJ (fun _=>by rw [Y5]) (by omega) h3⟩
def CC (P:Program) (nk:Nat) (σ:dp) (t:TypeId) (s x:AV):Option (List Prop×AV×List Nat×rU) :=
 match mj P t with
 | some e=>match ub P e,wv P e,su P e,s with
  | some sz,some b,some z,.Cd k off m=>match vg σ sz x,av σ k with
   | some (n,gt,pr,ps,rd),some o=>match Nat.ble 1 sz && Nat.ble 1 b && Nat.beq z.cells.size sz && Nat.beq o.sz sz && !o.var with
    | true=>some ((0 < n∧bT off m=o.len) :: ((m+n) * b≤140737488355328) :: (∀ i,i < o.len→AV.ko (o.get i)=true) :: ps,.os nk 0 (m+n),k :: rd,
      [(nk,some ⟨false,sz,m+n,o.pr && pr,fun j=>if j < m then o.get (bT off j) else gt (j - m)⟩)])
    | false=>none
   | _,_=>none
  | _,_,_,_=>none
 | none=>none
theorem Uk (g:Good E σ S μ w) (hk:μ nk=none) (hm:E.m0≤nk) {t ty:TypeId} {s x:AV} {vs vx:Value} (hs:ar w S μ vs s) (hx:ar w S μ vx x) {ps:List Prop} {val:AV} {rd:List Nat} {upd:rU}
  (h:CC P nk σ t s x=some (ps,val,rd,upd)) (hp:aX ps):Step P E nk σ S μ w (Builtin.append_ #[t,t] ty #[vs,vx]) val upd:=by
 unfold CC at h
 split at h
 case h_2=>cases h
 rename_i e he
 have he:=kH he
 split at h
 case h_2=>cases h
 rename_i sz b z k off m kj hb hz
 obtain ⟨ie,Cn,rfl,rfl,P3⟩:=wx kj hb hz
 split at h
 case h_2=>cases h
 rename_i n gt pr Qz NB o vj ho
 split at h
 case h_2=>cases h
 rename_i xT
 simp only [a9,Nat.ble_eq,Bool.not_eq_true'] at xT
 obtain ⟨⟨⟨⟨b1,bb⟩,b3⟩,b2⟩,Bh⟩:=xT
 have b2:=bp b2
 have b3:=bp b3
 simp only [aD,aA] at h
 obtain ⟨rfl,rfl,rfl,rfl⟩:=h
 obtain ⟨⟨p0,As⟩,p1,p2,p3⟩:=hp
 rw [dk] at As
 obtain ⟨news,sr⟩:=xX (P:=P) g hx vj p3
 obtain ⟨pl,c,T',qJ,cD⟩:=g.rep.ob k o ho
 cases hs with
 | Cd iB fw h1 h2 =>
  rename_i a
  rw [qJ] at fw;cases fw
  obtain ⟨olds,so⟩:=xX (P:=P) (sz:=ie.size) (x:=.os k off m) (v:=.slice a m m) (n:=m) (gt:=fun i=>o.get (bT off i)) (pr:=o.pr) (ps:=[off+m≤o.len,∀ i,i < m→AV.ko (o.get (bT off i))=true]) (rd:=[k]) g
   (.os pl qJ h1 (aR _) h2) (by unfold vg;simp only [ho,ki b2]) ⟨by omega,fun i hi=>p2 _ (by rw [dk];omega),trivial⟩
  have iX:=wC (P:=P) (w:=w) (ty:=ty) he Cn P3 so.cells sr.len sr.cells (by omega) bb p1
  have rT:=E5 w (m+n) m e
  have pT:∀ i,i < m+n→((fun q=>if q < m then o.get (bT off q) else gt (q - m)) i).length=ie.size:=by
   intro i hi
   show (if i < m then o.get (bT off i) else gt (i - m)).length=_
   split
   ·rw [cD.tj (bT off i) (by rw [dk];omega),b2]
   ·exact sr.tj _ (by omega)
  have gg:=g.grow (e:=e) hk hm (sz:=ie.size) (n:=n) (len:=m) (cap:=grownCap w (m+n) m e) (olds:=olds) (news:=news)
   (rest:=Builtin.zeroCells z.cells (grownCap w (m+n) m e - (m+n))) (pr:=o.pr && pr) (get:=fun q=>if q < m then o.get (bT off q) else gt (q - m))
   so.size sr.size (by rw [size_zeroCells,b3]) rT pT (by
    intro i j x u hi hx hu
    have hx:(if i < m then o.get (bT off i) else gt (i - m))[j]?=some x:=hx
    have hj:j < ie.size:=by
     have e1:=(dd.1 hx).1
     have e2:(if i < m then o.get (bT off i) else gt (i - m)).length=ie.size:=pT i hi
     omega
    by_cases G8:i < m
    ·have lN:(i+1) * ie.size≤m * ie.size:=dB _ G8
     rw [cb] at lN
     rw [if_pos G8] at hx
     rw [eH (by rw [so.size];omega)] at hu
     have:=so.rep i j x u G8 hx hu
     cases hp:pr
     ·rw [Bool.and_false];exact hH this
     ·rw [Bool.and_true];exact this
    ·have lN:m * ie.size≤i * ie.size:=dB _ (by omega)
     rw [if_neg G8] at hx
     rw [gF (by rw [so.size];omega),so.size] at hu
     have:=sr.rep (i - m) j x u (by omega) hx (by rw [← hu,Nat.sub_mul];congr 1;omega)
     cases hp:o.pr
     ·rw [Bool.false_and];exact hH this
     ·rw [Bool.true_and];exact this) (by omega)
   (g.Ke hk _ _ (fun _=>aR _) (pU fun i hi=>by
    have hi:i < m+n:=hi
    show AV.ko (if i < m then o.get (bT off i) else gt (i - m))=true
    split
    ·exact p2 _ (by rw [dk];omega)
    ·exact sr.TR _ (by omega)) (fun b h=>ek (w:=w.drew) h) (fun _ h=>h) (fun _ h=>.inl h))
  refine ⟨_,_,S,_,iX,gg.1,gg.2,fun k ld hn=>by rw [mY _ ld];exact hn,?_⟩
  exact ar.os ⟨w.heap.size,grownCap w (m+n) m e,ie.size⟩ (by simp [cl]) (by simp) rT (by simp)
def zr (P:Program) (σ:dp) (t:TypeId) (x:AV):Option (List Prop×AV×List Nat×rU) :=
 match mj P t with
 | some e=>match ub P e,wv P e,su P e,x with
  | some sz,some _,some z,.os k off n=>match av σ k with
   | some o=>match Nat.ble 1 sz && Nat.beq o.sz sz && !o.var && Nat.beq z.cells.size sz && z.cells.toList.all (·.oneCell') with
    | true=>some ([0 < n∧off+n≤o.len],.mU,[k],[(k,some ⟨false,sz,off,o.pr,o.get⟩)])
    | false=>none
   | none=>none
  | _,_,_,_=>none
 | none=>none
theorem QX (g:Good E σ S μ w) {t ty:TypeId} {x:AV} {vx:Value} (hx:ar w S μ vx x) {ps:List Prop} {val:AV} {rd:List Nat} {upd:rU}
  (h:zr P σ t x=some (ps,val,rd,upd)) (hp:aX ps):Step P E nk σ S μ w (Builtin.clear_ #[t] ty #[vx]) val upd:=by
 unfold zr at h
 split at h
 case h_2=>cases h
 rename_i e he
 have he:=kH he
 split at h
 case h_2=>cases h
 rename_i sz b z k off n kj hb hz
 obtain ⟨ie,Cn,rfl,rfl,P3⟩:=wx kj hb hz
 split at h
 case h_2=>cases h
 rename_i o ho
 split at h
 case h_2=>cases h
 rename_i xT
 simp only [a9,Nat.ble_eq,Bool.not_eq_true'] at xT
 obtain ⟨⟨⟨⟨b1,b2⟩,Bh⟩,b3⟩,b4⟩:=xT
 have b2:=bp b2
 have b3:=bp b3
 simp only [aD,aA] at h
 obtain ⟨rfl,rfl,rfl,rfl⟩:=h
 obtain ⟨⟨p0,p1⟩,_⟩:=hp
 obtain ⟨pl,c,T',qJ,cD⟩:=g.rep.ob k o ho
 cases hx with
 | os iB fw h1 h2 h3 =>
  rename_i cap a
  rw [qJ] at fw;cases fw
  have Yh:=cD.len
  have ha:=h1 (by omega)
  subst ha
  have wo:0 < pl.cap:=by omega
  have hzl:(Builtin.zeroCells z.cells n).toList.length=n * ie.size:=by simp [Builtin.zeroCells,b3]
  have Hh:∀ u∈(Builtin.zeroCells z.cells n).toList,u.oneCell'=true:=by
   intro u hu
   simp only [Builtin.zeroCells,Array.toList_map,List.mem_map] at hu
   obtain ⟨i,hi,rfl⟩:=hu
   have fo:i % z.cells.size < z.cells.size:=Nat.mod_lt _ (by omega)
   rw [getElem!_pos z.cells (i % z.cells.size) fo]
   rw [List.all_eq_true] at b4
   exact b4 _ (Array.mem_toList_iff.2 (Array.getElem_mem fo))
  have xF:off * ie.size+(Builtin.zeroCells z.cells n).toList.length≤c.size:=by
   have e1:(off+n) * ie.size≤pl.cap * ie.size:=dB _ (by omega)
   have e2:=cD.cap
   rw [b2] at e2
   rw [hzl,← cb];omega
  have y8:=run_storeCells_at P pl.b7 (off * ie.size) T' (Builtin.zeroCells z.cells n).toList 0 c w ((cD.b7 wo).trans (by rw [ft (by omega)])) (by simpa using xF) Hh
  simp only [Nat.add_zero] at y8
  generalize jk:(c.toList.take (off * ie.size) ++ (Builtin.zeroCells z.cells n).toList ++ c.toList.drop (off * ie.size+(Builtin.zeroCells z.cells n).toList.length)).toArray=c' at y8
  have iX:(Builtin.clear_ #[t] ty #[.slice (some ⟨pl.b7,off * pl.sz,none⟩) n cap]).run P w=.ok (.tuple #[]) (w.setRow pl.b7 c'):=by
   rw [cD.sz,b2]
   obtain ⟨m,rfl⟩:∃ m,n=m+1:=⟨n - 1,by omega⟩
   simp [Builtin.clear_,run_underlying he,zeroValue,typeInfo,Cn,P3,y8]
  have xV:(c.toList.take (off * ie.size)).length=off * ie.size:=by simp;omega
  have E3:c'.size=c.size:=by
   rw [← jk]
   simp only [List.size_toArray,mK,xV,List.length_drop,Array.length_toList]
   rw [Array.length_toList] at xF
   omega
  have oa:∀ m,m < off * ie.size→c'[m]?=c[m]?:=by
   intro m h1
   rw [← jk]
   simp only [List.getElem?_toArray]
   rw [eH (by simp;omega),eH (by omega),ke,if_pos h1]
   simp
  have ua:∀ i x,rowOf ⟨false,ie.size,off,o.pr,o.get⟩ i=some x→rowOf o i=some x∧i < off:=fun i x hx=>by
   obtain ⟨_,q2,q3⟩:=di hx
   have q2:i < off:=q2
   exact ⟨kG Bh (by omega) q3,q2⟩
  have QY:∀ i,i < off→∀ j,j < ie.size→i * ie.size+j < off * ie.size:=fun i hi j hj=>by
   have lN:(i+1) * ie.size≤off * ie.size:=dB _ hi
   rw [cb] at lN;omega
  have gw:=g.write ho qJ wo cD (by omega) ⟨false,ie.size,off,o.pr,o.get⟩ c' b2.symm E3 (show off≤pl.cap by omega) (fun i hi=>by
   have hi:i < off:=hi
   show (o.get i).length=ie.size
   rw [cD.tj i (by omega),b2]) (by
   intro i j x v hi hx hv
   have hi:i < off:=hi
   have hx:(o.get i)[j]?=some x:=hx
   have hj:j < ie.size:=by
    have e1:=(dd.1 hx).1
    rw [cD.tj i (by omega),b2] at e1;exact e1
   have hv:c'[i * ie.size+j]?=some v:=hv
   rw [oa _ (QY i hi j hj)] at hv
   exact cD.rep i j x v (by omega) hx (by rw [b2];exact hv)) (fun i x hx=>⟨(ua i x hx).1,by
    rw [b2];exact oa _ (by have:=QY i (ua i x hx).2 0 (by omega);omega)⟩)
  exact ⟨_,_,S,μ,iX,gw.1,gw.2,fun _ _ h=>h,.mU⟩
def x9 (P:Program) (nk:Nat) (σ:dp) (op:Op) (e:Operand→AV) (orc:Option lW):Option R :=
 match abt orc with
 | none=>eb P nk σ op e orc
 | some q=>match op with
  | .load T a=>(zp P σ T ((e a).strip.1) q.res).map fun (ps,v,rd)=>⟨conds e [a] ++ ps,v,rd,[]⟩
  | .call ⟨.builtin .append,args,Fk⟩=>match args.toList,Fk.toList with
   | [x,y],[t,t']=>match Nat.beq t t' with
    | true=>(match q.ks,q.res with
     | [],.mU=>Cy P σ t ((e x).strip.1) ((e y).strip.1)
     | [],.nil=>CA P σ t ((e x).strip.1) ((e y).strip.1)
     | [],_=>CC P nk σ t ((e x).strip.1) ((e y).strip.1)
     | _,_=>s8 P nk σ t ((e x).strip.1) ((e y).strip.1) q).map fun (ps,v,rd,u)=>⟨conds e [x,y] ++ ps,v,rd,u⟩
    | false=>none
   | _,_=>none
  | .call ⟨.builtin .copy,args,Fk⟩=>match args.toList,Fk.toList with
   | [x,y],[t,_]=>(Cz P σ t ((e x).strip.1) ((e y).strip.1)).map fun (ps,v,rd,u)=>⟨conds e [x,y] ++ ps,v,rd,u⟩
   | _,_=>none
  | .call ⟨.builtin .clear,args,Fk⟩=>match args.toList,Fk.toList with
   | [x],[t]=>(zr P σ t ((e x).strip.1)).map fun (ps,v,rd,u)=>⟨conds e [x] ++ ps,v,rd,u⟩
   | _,_=>none
  | .slice t x lo hi mx=>match mx with
   | none=>(vv P σ t ((e x).strip.1) (lo.map fun y=>(e y).strip.1) (hi.map fun y=>(e y).strip.1)).map fun (ps,v,rd)=>⟨conds e (x :: (lo.toList ++ hi.toList)) ++ ps,v,rd,[]⟩
   | some m=>match lo,hi with
    | some l,some h=>(Fm P t ((e x).strip.1) ((e l).strip.1) ((e h).strip.1) ((e m).strip.1)).map fun (ps,v,rd)=>⟨conds e [x,l,h,m] ++ ps,v,rd,[]⟩
    | _,_=>none
  | op=>eb P nk σ op e orc
theorem H9 {o:Oper} {a:Act} {e:Operand→AV} {orc:Option lW} {r:R} {next:Act→World→Prop} {Q:Exit→Act→World→Prop}
  (he:∀ x∈o.op.operands.toList,ar w S μ (a.eval x) (e x)) (g:Good E σ S μ w) (zU:∀ j,j < 16→μ (nk+j)=none) (hm:E.m0≤nk)
  (hz:∀ x,orc=some x→x.wE=true→∀ b,¬ E.fp b) (h:x9 P nk σ o.op e orc=some r) (hp:aX r.Hb) (hK:QT E nk σ S μ w r fun v w'=>next (a.put o.dst v) w'):o.wp P a w next Q:=by
 unfold x9 at h
 split at h
 ·exact KA he g zU hm hz h hp hK
 ·have hk:μ nk=none:=zU 0 (by omega)
  have st:∀ (xs:List Operand),aX (conds e xs)→(∀ x∈xs,x∈o.op.operands.toList)→∀ x∈xs,ar w S μ (a.eval x) ((e x).strip.1) :=
   fun xs h1 h2 x hx=>(he x (h2 x hx)).strip (zo h1 x hx)
  obtain ⟨dst,op,ty,pos,after,guard⟩:=o
  simp only at he h hK st ⊢
  split at h
  ·rename_i T x
   simp only [aL] at h
   obtain ⟨⟨ps,v,rd⟩,h1,rfl⟩:=h
   obtain ⟨p1,p2⟩:=aX.app hp
   obtain ⟨u,r1,r2⟩:=QU g (st [x] p1 (by simp [Op.operands]) x (by simp)) h1 p2
   unfold Oper.wp
   have ex:execOp a.eval ⟨dst,.load T x,ty,pos,after,guard⟩=(do pure (.value (← Instr.loadAt T (a.eval x))):Sem Next):=rfl
   rw [ex]
   simp only [bJ,r1,cO,Sem.run_pure]
   exact hK u w S μ (Ext.refl _ _ _) g (fun _ _ h=>h) r2
  ·rename_i args Fk
   split at h
   case h_2=>cases h
   rename_i x y t t' ha ht
   split at h
   case h_2=>cases h
   rename_i hb
   have hb:=bp hb
   subst hb
   obtain ⟨rfl⟩:args=#[x,y]:=Array.toList_inj.1 (by rw [ha])
   obtain ⟨rfl⟩:Fk=#[t,t]:=Array.toList_inj.1 (by rw [ht])
   simp only [aL] at h
   obtain ⟨⟨ps,v,rd,u⟩,h1,rfl⟩:=h
   obtain ⟨p1,p2⟩:=aX.app hp
   have s:=st [x,y] p1 (by simp [Op.operands,Call.operands])
   have y8:Step P E nk σ S μ w (Builtin.append_ #[t,t] ty #[a.eval x,a.eval y]) v u:=by
    split at h1
    ·exact Uh (ty:=ty) g (s x (by simp)) (s y (by simp)) h1 p2
    ·exact Uj (ty:=ty) g (s x (by simp)) (s y (by simp)) h1 p2
    ·exact Uk (ty:=ty) g hk hm (s x (by simp)) (s y (by simp)) h1 p2
    ·exact Mn (ty:=ty) g hk hm (s x (by simp)) (s y (by simp)) h1 p2
   obtain ⟨v',w',S',cC,r1,r2,r3,r4,r5⟩:=y8
   unfold Oper.wp
   have ex:execOp a.eval ⟨dst,.call ⟨.builtin .append,#[x,y],#[t,t]⟩,ty,pos,after,guard⟩=(do pure (.value (← Builtin.append_ #[t,t] ty #[a.eval x,a.eval y])):Sem Next):=by simp [execOp,resolve,invoke,builtin]
   rw [ex]
   simp only [bJ,r1,cO,Sem.run_pure]
   exact hK v' w' S' cC r2 r3 (fun k ld=>r4 k (by omega)) r5
  ·rename_i args Fk
   split at h
   case h_2=>cases h
   rename_i x y t t' ha ht
   obtain ⟨rfl⟩:args=#[x,y]:=Array.toList_inj.1 (by rw [ha])
   obtain ⟨rfl⟩:Fk=#[t,t']:=Array.toList_inj.1 (by rw [ht])
   simp only [aL] at h
   obtain ⟨⟨ps,v,rd,u⟩,h1,rfl⟩:=h
   obtain ⟨p1,p2⟩:=aX.app hp
   have s:=st [x,y] p1 (by simp [Op.operands,Call.operands])
   obtain ⟨v',w',S',cC,r1,r2,r3,r4,r5⟩:=Ui (nk:=nk) (t':=t') (ty:=ty) g (s x (by simp)) (s y (by simp)) h1 p2
   unfold Oper.wp
   have ex:execOp a.eval ⟨dst,.call ⟨.builtin .copy,#[x,y],#[t,t']⟩,ty,pos,after,guard⟩=(do pure (.value (← Builtin.copy_ #[t,t'] ty #[a.eval x,a.eval y])):Sem Next):=by simp [execOp,resolve,invoke,builtin]
   rw [ex]
   simp only [bJ,r1,cO,Sem.run_pure]
   exact hK v' w' S' cC r2 r3 (fun k ld=>r4 k (by omega)) r5
  ·rename_i args Fk
   split at h
   case h_2=>cases h
   rename_i x t ha ht
   obtain ⟨rfl⟩:args=#[x]:=Array.toList_inj.1 (by rw [ha])
   obtain ⟨rfl⟩:Fk=#[t]:=Array.toList_inj.1 (by rw [ht])
   simp only [aL] at h
   obtain ⟨⟨ps,v,rd,u⟩,h1,rfl⟩:=h
   obtain ⟨p1,p2⟩:=aX.app hp
   have s:=st [x] p1 (by simp [Op.operands,Call.operands])
   obtain ⟨v',w',S',cC,r1,r2,r3,r4,r5⟩:=QX (nk:=nk) (ty:=ty) g (s x (by simp)) h1 p2
   unfold Oper.wp
   have ex:execOp a.eval ⟨dst,.call ⟨.builtin .clear,#[x],#[t]⟩,ty,pos,after,guard⟩=(do pure (.value (← Builtin.clear_ #[t] ty #[a.eval x])):Sem Next):=by simp [execOp,resolve,invoke,builtin]
   rw [ex]
   simp only [bJ,r1,cO,Sem.run_pure]
   exact hK v' w' S' cC r2 r3 (fun k ld=>r4 k (by omega)) r5
  ·rename_i t x lo hi mx
   have ex:∀ y,execOp a.eval ⟨dst,.slice t x lo hi y,ty,pos,after,guard⟩=(do pure (.value (← Instr.sliceAt t (a.eval x) (lo.map a.eval) (hi.map a.eval) (y.map a.eval))):Sem Next):=fun y=>rfl
   cases mx with
   | none =>
    simp only [aL] at h
    obtain ⟨⟨ps,v,rd⟩,h1,rfl⟩:=h
    obtain ⟨p1,p2⟩:=aX.app hp
    have s:=st (x :: (lo.toList ++ hi.toList)) p1 (by
     intro y hy
     simp only [jq,List.mem_append,Option.mem_toList] at hy
     simp only [Op.operands]
     rcases hy with rfl | hy | hy
     ·simp
     ·simp [hy]
     ·simp [hy])
    obtain ⟨u,r1,r2⟩:=Pg (P:=P) (vlo:=lo.map a.eval) (vhi:=hi.map a.eval) g (s x (by simp)) (by
     refine ⟨by simp,?_⟩
     intro p q n5 hq
     simp only [aL] at n5 hq
     obtain ⟨y,hy,rfl⟩:=n5
     obtain ⟨z,hz,rfl⟩:=hq
     rw [hy] at hz;cases hz
     exact s y (by simp [hy])) (by
     refine ⟨by simp,?_⟩
     intro p q n5 hq
     simp only [aL] at n5 hq
     obtain ⟨y,hy,rfl⟩:=n5
     obtain ⟨z,hz,rfl⟩:=hq
     rw [hy] at hz;cases hz
     exact s y (by simp [hy])) h1 p2
    unfold Oper.wp
    rw [ex none]
    simp only [Option.map_none,bJ,r1,cO,Sem.run_pure]
    exact hK u w S μ (Ext.refl _ _ _) g (fun _ _ h=>h) r2
   | some m =>
    simp only at h
    split at h
    case h_2=>cases h
    rename_i l hh
    simp only [aL] at h
    obtain ⟨⟨ps,v,rd⟩,h1,rfl⟩:=h
    obtain ⟨p1,p2⟩:=aX.app hp
    have s:=st [x,l,hh,m] p1 (by simp [Op.operands])
    obtain ⟨u,r1,r2⟩:=Pf (P:=P) (s x (by simp)) (s l (by simp)) (s hh (by simp)) (s m (by simp)) h1 p2
    unfold Oper.wp
    rw [ex (some m)]
    simp only [Option.map_some,bJ,r1,cO,Sem.run_pure]
    exact hK u w S μ (Ext.refl _ _ _) g (fun _ _ h=>h) r2
  ·exact KA (o:=⟨dst,op,ty,pos,after,guard⟩) he g zU hm hz h hp hK
def SF (μ:Mu) (F:List Nat) (σ:dp) (S:Nat→Prop) (b:Nat):Prop:=S b∨∃ k o pl,k∈F∧av σ k=some o∧μ k=some pl∧0 < pl.cap∧pl.b7=b
theorem Good.freeze (g:Good E σ S μ w) (F:List Nat) (hz:∀ b,¬ E.fp b):Good E (eV σ (vn true F)) (SF μ F σ S) μ w:=by
 have sg:∀ n o,av (eV σ (vn true F)) n=some o→av σ n=some o∧n ∉ F:=fun n o h=>by
  rw [me] at h
  by_cases hn:n∈F
  ·rw [if_pos ⟨rfl,hn⟩] at h;cases h
  ·rw [if_neg (fun e=>hn e.2)] at h;exact ⟨h,hn⟩
 have e:Ext w S μ w (SF μ F σ S) μ:=⟨aR _,fun _ h=>.inl h,fun _ _=>rfl,fun _ _ h=>h⟩
 refine ⟨g.fr,fun b h=>.inl (g.S0 b h),?_,?_,⟨?_,?_⟩,?_,g.A9,?_⟩
 ·rintro b (h1 | ⟨k1,o1,A8,Ul,wH,J5,s5,rfl⟩)
  ·exact g.S1 b h1
  ·obtain ⟨iB,c,T,fw,QZ⟩:=g.rep.ob k1 o1 wH
   rw [J5] at fw;cases fw
   exact cm (QZ.b7 s5)
 ·rintro b (h1 | ⟨k1,o1,A8,Ul,wH,J5,s5,rfl⟩)
  ·exact g.S2 b h1
  ·rcases g.own k1 o1 A8 wH J5 s5 with h2 | h2
   ·exact (hz _ h2).elim
   ·exact .inr h2
 ·intro k o Um
  obtain ⟨h0,hnF⟩:=sg k o Um
  obtain ⟨pl,c,T,oc,uO⟩:=g.rep.ob k o h0
  refine ⟨pl,c,T,oc,uO.ext e (fun _=>rfl) ?_⟩
  rintro hc (h1 | ⟨k1,o1,A8,Ul,wH,J5,s5,hb⟩)
  ·exact uO.out hc h1
  ·exact g.rep.ne k1 k o1 o A8 pl (fun h=>hnF (h ▸ Ul)) wH h0 J5 oc s5 hc hb
 ·intro k k' o o' pl iB eE h1 h2 h3 h4 h5 h6
  exact g.rep.ne k k' o o' pl iB eE (sg _ _ h1).1 (sg _ _ h2).1 h3 h4 h5 h6
 ·exact fun k o pl h1 h2 h3=>g.own k o pl (sg _ _ h1).1 h2 h3
 ·have Y6:∀ k i x v,gR w μ (eV σ (vn true F)) k i x v→gR w μ σ k i x v:=fun k i x v ⟨o,pl,h1,h2,h3,h4⟩=>⟨o,pl,(sg _ _ h1).1,h2,h3,h4⟩
  refine g.mx.tr (fun k=>k) Y6 (fun _ _ _ _ _ _ _ _ _ _ h=>h) (fun _ h=>.inl h) (fun _ _=>rfl) (fun k i x v b _ h hb=>⟨rfl,?_,fun h=>h⟩) (fun k o pl h1 h2 h3=>.inl ⟨k,o,pl,(sg _ _ h1).1,h2,h3,rfl⟩)
  rintro (h1 | ⟨k1,o1,A8,_,wH,J5,s5,h1⟩)
  ·exact (g.mx.b7 h hb).2.1 h1
  ·exact g.mx.obj _ _ _ _ _ h hb k1 o1 A8 wH J5 s5 h1
def Tw (σ:dp):dp→Option (List Prop)
 | []=>some []
 | (k,o') :: r=>match av σ k,Tw σ r with
  | some o,some ps=>match o.pr with
   | true=>some ((o'.len≤o.len) :: (∀ i,i < o'.len→o'.get i=o.get i) :: ps)
   | false=>none
  | _,_=>none
mutual
def Un (τ:dp):AV→AV
 | .os k off len=>match off,av τ k with
  | 0,some o=>.sl o.len o.get
  | _,_=>.os k off len
 | .agg cs=>.agg (WW τ cs)
 | x=>x
def WW (τ:dp):List AV→List AV
 | []=>[]
 | c :: cs=>Un τ c :: WW τ cs
end
mutual
def WX (τ:dp):AV→List Prop
 | .os k off len=>match off,av τ k with
  | 0,some o=>[len=o.len]
  | _,_=>[]
 | .agg cs=>Uo τ cs
 | _=>[]
def Uo (τ:dp):List AV→List Prop
 | []=>[]
 | c :: cs=>WX τ c ++ Uo τ cs
end
def Ym (τ:dp) (e:Operand→AV):List Operand→List Prop
 | []=>[]
 | x :: r=>WX τ (e x) ++ Ym τ e r
theorem NO:∀ {τ:dp} {ps:List Prop},Tw σ τ=some ps→aX ps→∀ {k:Nat} {o':Ob},av τ k=some o'→k∈τ.map (·.1)∧∃ o,av σ k=some o∧o.pr=true∧o'.len≤o.len∧∀ i,i < o'.len→o'.get i=o.get i
 | [],ps,_,_,k,o',h=>by simp [av] at h
 | (k0,o0) :: r,ps,h,hp,k,o',hk=>by
  simp only [Tw] at h
  split at h
  ·rename_i o qs ho hr
   split at h
   ·rename_i DD
    cases h
    obtain ⟨p1,p2,p3⟩:=hp
    simp only [av] at hk
    split at hk
    ·rename_i hb
     cases hk
     rw [← bp hb]
     exact ⟨by simp,o,ho,DD,p1,p2⟩
    ·obtain ⟨q1,q2⟩:=NO hr p3 hk
     exact ⟨List.mem_cons_of_mem _ q1,q2⟩
   ·cases h
  ·cases h
theorem kf {cC:Mu} {v:Value} {x:AV} {F:List Nat} (h:ar w S cC v x):ar w (SF μ F σ S) cC v x:=h.mono (fun _ h=>.inl h) (fun _ _=>rfl) (fun _ _ h=>h)
theorem Y7 (g:Good E σ S μ w) {τ:dp} {qs:List Prop} (hs:Tw σ τ=some qs) (hq:aX qs) {k off len:Nat} {v:Value} (h:ar w S μ v (.os k off len)) (hp:aX (WX τ (.os k off len))):ar w (SF μ (τ.map (·.1)) σ S) μ v (Un τ (.os k off len)):=by
 simp only [Un,WX] at hp ⊢
 split at hp
 ·rename_i o' mZ
  obtain ⟨rfl,_⟩:=hp
  obtain ⟨hF,o,ho,DD,p2,p3⟩:=NO hs hq mZ
  obtain ⟨pl,c,T,hm,cD⟩:=g.rep.ob k o ho
  cases h with
  | os iB fw h1 h2 h3 =>
   rename_i cap a
   rw [hm] at fw;cases fw
   refine .sl pl.b7 (0 * pl.sz) o.sz (fun i j=>(c[(0+i) * o.sz+j]?).getD undef) ?_ (fun i hi=>by rw [p3 i hi];exact cD.tj _ (by omega)) ?_ ?_ h2
   ·intro hl
    exact ⟨h1 (by omega),.inr ⟨k,o,pl,hF,ho,hm,by omega,rfl⟩⟩
   ·intro i j hi hj
    obtain ⟨v,q1,q2⟩:=dh cD (i:=0+i) (by omega) hj
    rw [q1,cD.sz,← cb,q2];rfl
   ·intro i j c' hi jk
    rw [p3 i hi] at jk
    obtain ⟨v,q1,q2⟩:=dh cD (i:=0+i) (by omega) (by have:=(dd.1 jk).1;rw [cD.tj _ (by omega)] at this;exact this)
    rw [q1]
    have:=cD.rep _ j c' v (by omega) (by rw [Nat.zero_add];exact jk) q1
    rw [DD] at this
    exact kf this
 ·exact kf h
mutual
theorem Q1 (g:Good E σ S μ w) {τ:dp} {qs:List Prop} (hs:Tw σ τ=some qs) (hq:aX qs):∀ (x:AV) (v:Value),ar w S μ v x→aX (WX τ x)→ar w (SF μ (τ.map (·.1)) σ S) μ v (Un τ x)
 | .os _ _ _,_,h,hp=>Y7 g hs hq h hp
 | .agg cs,v,h,hp=>by
  simp only [Un,WX] at hp ⊢
  obtain ⟨vs,rfl,h1,h2⟩:=nL h
  obtain ⟨q1,q2⟩:=NP g hs hq cs hp
  refine .agg (h1.trans q1.symm) fun j c v hc hv=>?_
  have hj:j < cs.length:=by rw [← q1];exact (dd.1 hc).1
  exact q2 j (cs[j]) c v (kb hj) hc (h2 j _ v (kb hj) hv)
 | .nil,_,h,_=>kf h
 | .atom _,_,h,_=>kf h
 | .tup _,_,h,_=>kf h
 | .sl _ _,_,h,_=>kf h
 | .rp _ _,_,h,_=>kf h
 | .op _ _ _,_,h,_=>kf h
 | .fn _ _ _,_,h,_=>kf h
 | .when _ _,_,h,_=>kf h
 | .mp _,_,h,_=>kf h
 | .bn _,_,h,_=>kf h
 | .pt _ _,_,h,_=>kf h
 | .ov _ _ _ _ _,_,h,_=>kf h
 | .Cd _ _ _,_,h,_=>kf h
 | .nq _ _,_,h,_=>kf h
 | .mU,_,h,_=>kf h
 | .mr _ _ _,_,h,_=>kf h
theorem NP (g:Good E σ S μ w) {τ:dp} {qs:List Prop} (hs:Tw σ τ=some qs) (hq:aX qs):∀ (cs:List AV),aX (Uo τ cs)→(WW τ cs).length=cs.length ∧
  ∀ (j:Nat) c y v,cs[j]?=some c→(WW τ cs)[j]?=some y→ar w S μ v c→ar w (SF μ (τ.map (·.1)) σ S) μ v y
 | [],_=>⟨rfl,fun j c y v hc=>by simp at hc⟩
 | c :: cs,hp=>by
  simp only [Uo] at hp
  obtain ⟨p1,p2⟩:=aX.app hp
  obtain ⟨q1,q2⟩:=NP g hs hq cs p2
  refine ⟨by simp [WW,q1],fun j c' y v hc hy h=>?_⟩
  cases j with
  | zero =>
   simp only [WW,List.getElem?_cons_zero,aD] at hc hy
   subst hc hy
   exact Q1 g hs hq c v h p1
  | succ j =>
   simp only [WW,Bd] at hc hy
   exact q2 j c' y v hc hy h
end
def Q2 (op:Op):Option lW→Option dp
 | none=>none
 | some q=>match q.wE,op with
  | true,.buildSlice _ _ _=>some q.jf
  | true,.build _ _=>some q.jf
  | true,.box _ _=>some q.jf
  | true,.store _ _ _=>some q.jf
  | _,_=>none
theorem Mo {c:Call} (orc:Option lW):Q2 (.defer c) orc=none:=by
 cases orc with
 | none=>rfl
 | some q=>cases h:q.wE<;>simp [Q2,h]
theorem Q3 {op:Op} {orc:Option lW} {τ:dp} (h:Q2 op orc=some τ):∃ x,orc=some x∧x.wE=true:=by
 unfold Q2 at h
 split at h
 ·cases h
 ·rename_i q
  refine ⟨q,rfl,?_⟩
  split at h<;>first | assumption | cases h
def Ae (P:Program) (nk:Nat) (σ:dp) (op:Op) (e:Operand→AV) (orc:Option lW):Option R :=
 match Q2 op orc with
 | none=>x9 P nk σ op e orc
 | some τ=>match Tw σ τ,x9 P nk (eV σ (vn true (τ.map (·.1)))) op (fun x=>Un τ (e x)) orc with
  | some ps,some r=>some ⟨ps ++ (Ym τ e op.operands.toList ++ r.Hb),r.val,τ.map (·.1) ++ r.rds,vn true (τ.map (·.1)) ++ r.upd⟩
  | _,_=>none
theorem NQ {τ:dp} {e:Operand→AV}:∀ {xs:List Operand},aX (Ym τ e xs)→∀ x∈xs,aX (WX τ (e x))
 | [],_,x,hx=>by simp at hx
 | y :: r,h,x,hx=>by
  obtain ⟨h1,h2⟩:=aX.app h
  rcases jq.1 hx with rfl | hx
  ·exact h1
  ·exact NQ h2 x hx
theorem Ph {o:Oper} {a:Act} {e:Operand→AV} {orc:Option lW} {r:R} {next:Act→World→Prop} {Q:Exit→Act→World→Prop}
  (he:∀ x∈o.op.operands.toList,ar w S μ (a.eval x) (e x)) (g:Good E σ S μ w) (zU:∀ j,j < 16→μ (nk+j)=none) (hm:E.m0≤nk)
  (hz:∀ x,orc=some x→x.wE=true→∀ b,¬ E.fp b) (h:Ae P nk σ o.op e orc=some r) (hp:aX r.Hb) (hK:QT E nk σ S μ w r fun v w'=>next (a.put o.dst v) w'):o.wp P a w next Q:=by
 unfold Ae at h
 split at h
 ·exact H9 he g zU hm hz h hp hK
 ·rename_i τ hτ
  split at h
  ·rename_i ps r0 h1 h2
   cases h
   obtain ⟨p1,p23⟩:=aX.app hp
   obtain ⟨p2,p3⟩:=aX.app p23
   obtain ⟨q,Fo,dR⟩:=Q3 hτ
   have g1:=g.freeze (τ.map (·.1)) (hz q Fo dR)
   have e1:Ext w S μ w (SF μ (τ.map (·.1)) σ S) μ:=⟨aR _,fun _ h=>.inl h,fun _ _=>rfl,fun _ _ h=>h⟩
   refine H9 (e:=fun x=>Un τ (e x)) (fun x hx=>Q1 g h1 p1 _ _ (he x hx) (NQ p2 x hx)) g1 zU hm hz h2 p3 ?_
   intro v w' S' cC x1 x2 x3 x4
   exact hK v w' S' cC (e1.trans x1) (by rw [gf];exact x2) x3 x4
  ·cases h
end
end Go.Ab
namespace Go.Ab
structure St where
 tm:List (Nat×AV)
 jf:dp
 nk:Nat
def uP:AV→Bool→Option Bool
 | .atom (.bool b),want=>some (match want with
  | true=>b
  | false=>!b)
 | .when g x,want=>(uP x want).map fun b=>g && b
 | _,_=>none
structure Rec where
 Hb:List Prop
 dst:Option Nat
 val:AV
 rds:List Nat
 upd:rU
def Bp (σ:dp) (op:Op) (e:Operand→AV) (y:YC):Option R :=
 match op with
 | .call ⟨.value f,args,_⟩=>match (e f).strip.1,av σ y.k with
  | .atom (.func (.yield l) vs ws),some o=>some ⟨(l=y.l∧vs=#[]∧ws=#[]∧args.toList.map (fun x=>(e x).strip.1)=y.as∧o=y.o) :: conds e (f :: args.toList),.atom (.bool true),[y.k],[(y.k,some y.o')]⟩
  | _,_=>none
 | _=>none
def ya (P:Program) (nk:Nat) (σ:dp) (op:Op) (e:Operand→AV) (orc:Option lW):Option R :=
 match abf orc with
 | some y=>Bp σ op e y
 | none=>Ae P nk σ op e orc
def under (g:Bool):List Prop→List Prop
 | []=>[]
 | p :: ps=>[g=true→aX (p :: ps)]
def Q4 (ops:List Oper) (j:Nat):Option Nat:=(ops[j]?).bind (·.dst)
def V5 (nt:Nat):Option Nat→Bool
 | none=>true
 | some d=>Nat.blt d nt
def xm (P:Program) (nt:Nat) (ops:List Oper) (nk:Nat) (tm:List (Nat×AV)) (σ:dp) (o:Oper) (orc:Option lW):Option Rec :=
 match V5 nt o.dst with
 | false=>none
 | true=>match o.guard with
  | none=>(ya P nk σ o.op (xl tm) orc).map fun r=>⟨r.Hb,o.dst,r.val,r.rds,r.upd⟩
  | some (j,want)=>match Q4 ops j with
   | none=>none
   | some d=>match abg orc with
    | 0=>match uP (cL tm d) want,ya P nk σ o.op (xl tm) orc with
     | some g,some r=>match r.upd with
      | []=>some ⟨under g r.Hb,o.dst,.when g r.val,r.rds,[]⟩
      | _ :: _=>none
     | _,_=>none
    | 1=>match uP (cL tm d) want,ya P nk σ o.op (xl tm) orc with
     | some g,some r=>some ⟨(g=true) :: r.Hb,o.dst,r.val,r.rds,r.upd⟩
     | _,_=>none
    | _=>match uP (cL tm d) want with
     | some g=>some ⟨[g=false],o.dst,.when g (abh orc),[],[]⟩
     | none=>none
def xn (tm:List (Nat×AV)) (d:Option Nat) (x:AV):List (Nat×AV) :=
 match d with
 | none=>tm
 | some d=>(d,x) :: tm
def lX:List (Nat×lW)→Nat→Option lW
 | [],_=>none
 | (k,o) :: r,n=>match Nat.beq k n with
  | true=>some o
  | false=>lX r n
def oN (P:Program) (nt:Nat) (ops:List Oper) (nk:Nat) (orcs:List (Nat×lW)):List Oper→Nat→List (Nat×AV)→dp→Option (List Rec)
 | [],_,_,_=>some []
 | o :: r,i,tm,σ=>match xm P nt ops (nk+16 * i) tm σ o (lX orcs i) with
  | none=>none
  | some x=>(oN P nt ops nk orcs r (i+1) (xn tm x.dst x.val) (eV σ x.upd)).map fun l=>x :: l
def vw:List Rec→List (Nat×AV)→List (Nat×AV)
 | [],tm=>tm
 | x :: r,tm=>vw r (xn tm x.dst x.val)
def qA:List Rec→dp→dp
 | [],σ=>σ
 | x :: r,σ=>qA r (eV σ x.upd)
def wM:List Rec→List Prop
 | []=>[]
 | x :: r=>x.Hb ++ wM r
def Hc (E:Env) (st:St) (tm:Array Value) (w:World):Prop :=
 ∃ S μ,Good E st.jf S μ w∧(∀ k,st.nk≤k→μ k=none)∧E.m0≤st.nk∧∀ t,ar w S μ (tm.getD t undef) (cL st.tm t)
theorem ml {tm:List (Nat×AV)} {d:Option Nat} {x:AV} (t:Nat):cL (xn tm d x) t=if d=some t then x else cL tm t:=by
 cases d with
 | none=>simp [xn]
 | some d =>
  simp only [xn,cL,aD]
  by_cases h:d=t
  ·rw [ki h,if_pos h]
  ·rw [lO h,if_neg h]
theorem Bq (a:Act) (d:Option Nat) (v:Value) (t:Nat) (h:∀ n,d=some n→n < a.tmps.size):(a.put d v).tmps.getD t undef=if d=some t then v else a.tmps.getD t undef:=by
 cases d with
 | none=>simp [Act.put]
 | some d =>
  simp only [Act.put,aD]
  have hd:=h d rfl
  by_cases ht:d=t
  ·subst ht;simp [fj,hd]
  ·simp [fj,ht]
theorem yc (a:Act) (d:Option Nat) (v:Value):(a.put d v).tmps.size=a.tmps.size:=by cases d<;>simp [Act.put]
theorem qV (a:Act) (d:Option Nat) (v:Value):(a.put d v).defers=a.defers:=by cases d<;>simp [Act.put]
theorem zs {w:World} {S:Nat→Prop} {μ:Mu} {a:Act} {tm:List (Nat×AV)} (h:∀ t,ar w S μ (a.tmps.getD t undef) (cL tm t)) (x:Operand):ar w S μ (a.eval x) (xl tm x):=by
 cases x with
 | tmp t=>exact h t
 | const v=>exact HO w S μ v
 | global g=>exact .atom _
 | func f=>exact .fn (by simp) (by simp) (fun j c v hc=>by simp at hc) (fun j c v hc=>by simp at hc)
def Fp:Value→Option Bool
 | .bool b=>some b
 | _=>none
theorem KD {w:World} {S:Nat→Prop} {μ:Mu} {v:Value} {x:AV} (h:ar w S μ v x):∀ {want g:Bool},uP x want=some g→(Fp v == some want)=g:=by
 induction h with
 | atom v =>
  intro want g hg
  cases v with
  | bool b =>
   simp only [uP,aD] at hg
   subst hg
   cases b<;>cases want<;>rfl
  | _=>simp [uP] at hg
 | @when μ b v x h1 hu ih =>
  intro want g hg
  simp only [uP,aL] at hg
  obtain ⟨g',hg',rfl⟩:=hg
  cases b with
  | true=>simpa using ih rfl hg'
  | false =>
   rw [hu rfl]
   simp [undef,Fp]
 | _=>intro want g hg;simp [uP] at hg
section
variable {P:Program} {E:Env} {σ:dp} {S:Nat→Prop} {μ:Mu} {w:World}
def FW (rd:Option Nat):Fence:={ Fence.wide with round:=rd }
theorem Uq {rd:Option Nat} {o:Oper} {a:Act} {next:Act→World→Prop} {Q:Exit→Act→World→Prop} {r:Result Next} (h:o.upon P a next Q r):o.uponIn (FW rd) 0 P a next Q r:=by
 cases r with
 | ok x w' =>
  cases x with
  | value v=>exact h
  | skip=>exact h
  | defer d=>exact h
  | enter f args=>exact ⟨fun hh=>by simp [FW,Fence.wide] at hh,(callsIn_wide (n:=0)).2 h⟩
  | row row args=>exact ⟨fun hh=>by simp [FW,Fence.wide] at hh,fun c cs _=>let ⟨v,w',q1,q2⟩:=h c cs;⟨v,w',q1,stepsIn_wide.2 q2⟩⟩
  | _=>exact h.elim
 | halt x w' =>
  cases x with
  | panic v=>exact h
  | _=>exact h.elim
def WY (P:Program) (E:Env) (y:YC):Prop:=∀ (w:World) (S:Nat→Prop) (μ:Mu) (σ:dp) (vs:Array Value),Good E σ S μ w→RL w S μ vs y.as→av σ y.k=some y.o →
 YieldAt Fence.wide 0 P y.l vs w fun e w'=>e=.returned (.bool true)∧∃ S',Ext w S μ w' S' μ∧Good E (sset σ y.k y.o') S' μ w'
def Fq (P:Program) (E:Env) (orc:Option lW):Prop:=(∀ x,orc=some x→x.wE=true→∀ b,¬ E.fp b)∧∀ x y,orc=some x→x.y=some y→WY P E y
theorem KE {rd:Option Nat} {o:Oper} {a:Act} {e:Operand→AV} {y:YC} {r:R} {next:Act→World→Prop} {Q:Exit→Act→World→Prop}
  (he:∀ x∈o.op.operands.toList,ar w S μ (a.eval x) (e x)) (g:Good E σ S μ w) {nk:Nat} (hy:WY P E y) (h:Bp σ o.op e y=some r) (hp:aX r.Hb)
  (hK:QT E nk σ S μ w r fun v w'=>next (a.put o.dst v) w'):o.wpIn (FW rd) 0 P a w next Q:=by
 obtain ⟨dst,op,ty,pos,after,guard⟩:=o
 unfold Bp at h
 simp only at h he
 split at h
 case h_2=>cases h
 rename_i f args Fk
 split at h
 case h_2=>cases h
 rename_i l vs ws o1 hfe wH
 simp only [aD] at h
 subst h
 obtain ⟨⟨rfl,rfl,rfl,has,rfl⟩,hc⟩:=hp
 have Y8:=zo hc
 have mem:∀ x,x∈f :: args.toList→x∈(Op.call ⟨.value f,args,Fk⟩).operands.toList:=by
  intro x hx
  simp only [Op.operands,Call.operands] at *
  simpa using hx
 have hs:∀ x,x∈f :: args.toList→ar w S μ (a.eval x) ((e x).strip.1):=fun x hx=>(he x (mem x hx)).strip (Y8 x hx)
 have hf:=hs f (by simp)
 rw [hfe] at hf
 have hf:=db hf
 have Pc:RL w S μ (args.map a.eval) y.as:=by
  rw [← has]
  refine ⟨by simp,fun j c v hc hv=>?_⟩
  simp only [List.getElem?_map,aL,Array.getElem?_map] at hc hv
  obtain ⟨x,hx,rfl⟩:=hc
  obtain ⟨x',ss,rfl⟩:=hv
  rw [← Array.getElem?_toList,hx] at ss
  cases ss
  exact hs x (List.mem_cons_of_mem _ (List.mem_of_getElem? hx))
 obtain ⟨fn,tmps,assign,body,iX,WZ⟩:=hy w S μ σ _ g Pc wH
 refine ⟨fun _ _=>trivial,?_⟩
 have ex:(Oper.semAt (FW rd).round a.eval ⟨dst,.call ⟨.value f,args,Fk⟩,ty,pos,after,guard⟩).run P w=.ok (.round y.l fn tmps assign body) w:=by
  rw [Oper.semAt_eq _ _ _ (fun c=>by simp)]
  have:execOp a.eval ⟨dst,.call ⟨.value f,args,Fk⟩,ty,pos,after,guard⟩=(do let d ← Deferred.ofValue (a.eval f) (args.map a.eval);invoke d.target d.args:Sem Next):=rfl
  rw [this,hf]
  simpa [Deferred.ofValue,invoke] using iX
 rw [ex]
 refine ⟨fun hh=>by simp [FW,Fence.wide] at hh,RoundIn.mono (F:=Fence.wide) WZ ?_⟩
 rintro e' w' ⟨rfl,S',hx,hg⟩
 exact hK _ w' S' μ hx (by simpa [eV] using hg) (fun _ _ h=>h) (.atom _)
theorem CD {rd:Option Nat} {o:Oper} {a:Act} {e:Operand→AV} {orc:Option lW} {r:R} {nk:Nat} {next:Act→World→Prop} {Q:Exit→Act→World→Prop}
  (he:∀ x∈o.op.operands.toList,ar w S μ (a.eval x) (e x)) (g:Good E σ S μ w) (zU:∀ j,j < 16→μ (nk+j)=none) (hm:E.m0≤nk)
  (hz:Fq P E orc) (h:ya P nk σ o.op e orc=some r) (hp:aX r.Hb) (hK:QT E nk σ S μ w r fun v w'=>next (a.put o.dst v) w'):o.wpIn (FW rd) 0 P a w next Q:=by
 unfold ya at h
 split at h
 ·rename_i y hy
  have:∃ x,orc=some x∧x.y=some y:=by
   cases orc with
   | none=>cases hy
   | some x=>exact ⟨x,rfl,hy⟩
  obtain ⟨x,h1,h2⟩:=this
  exact KE (nk:=nk) he g (hz.2 x y h1 h2) h hp hK
 ·refine ⟨fun _ _=>trivial,?_⟩
  have hd:∀ c,o.op≠.defer c:=fun c hc=>by rw [hc] at h;unfold Ae at h;simp only [Mo] at h;unfold x9 at h;split at h<;>simp [eb] at h
  rw [Oper.semAt_eq _ _ _ hd]
  exact Uq (Ph he g zU hm hz.1 h hp hK)
theorem CE {rd:Option Nat} {nt nk:Nat} {ops:Array Oper} {i:Nat} {o:Oper} {a:Act} {tm:List (Nat×AV)} {orc:Option lW} {x:Rec} {K:Act→World→Prop} {Q:Exit→Act→World→Prop}
  (hi:ops[i]?=some o) (ht:∀ t,ar w S μ (a.tmps.getD t undef) (cL tm t)) (g:Good E σ S μ w) (hk:∀ j,j < 16→μ (nk+j)=none) (hm:E.m0≤nk)
  (hz:Fq P E orc) (h:xm P nt ops.toList nk tm σ o orc=some x) (hp:aX x.Hb)
  (hK:∀ v w' S' cC,Ext w S μ w' S' cC→Good E (eV σ x.upd) S' cC w'→(∀ k,(k < nk∨nk+16≤k)→μ k=none→cC k=none)→ar w' S' cC v x.val→K (a.put x.dst v) w') :
  wpOpIn (FW rd) 0 P ops Q i K a w:=by
 unfold xm at h
 split at h
 ·cases h
 ·split at h
  ·rename_i Y9
   simp only [aL] at h
   obtain ⟨r,h1,rfl⟩:=h
   unfold wpOpIn
   rw [hi]
   simp only [Region.wanted,Y9,if_true]
   exact CD (fun x _=>zs ht x) g hk hm hz h1 hp hK
  ·rename_i j want Y9
   split at h
   ·cases h
   ·rename_i d hd
    have W5:∀ gb,uP (cL tm d) want=some gb→Region.wanted o (yielded ops a.tmps)=gb:=fun gb hg=>by
     have hy:yielded ops a.tmps j=Fp (a.tmps.getD d undef):=by
      unfold yielded
      unfold Q4 at hd
      have VX:(ops[j]?).bind (·.dst)=some d:=by simpa using hd
      rw [VX]
      simp only [bV,fj]
      cases a.tmps[d]? with
      | none=>simp [undef,Fp]
      | some v=>cases v<;>simp [Fp]
     simp only [Region.wanted,Y9]
     rw [hy]
     exact KD (ht d) hg
    split at h
    rotate_left
    ·split at h
     ·rename_i gb r hg h1
      cases h
      unfold wpOpIn
      rw [hi]
      have hw:=W5 gb hg
      obtain ⟨hg1,tX⟩:=hp
      subst hg1
      simp only [hw,if_true]
      exact CD (fun x _=>zs ht x) g hk hm hz h1 tX hK
     ·cases h
    ·split at h
     ·rename_i gb hg
      cases h
      unfold wpOpIn
      rw [hi]
      have hw:=W5 gb hg
      obtain ⟨hg1,-⟩:=hp
      subst hg1
      simp only [hw,Bool.false_eq_true,if_false]
      refine ⟨fun _ _=>trivial,?_⟩
      exact hK undef w S μ (Ext.refl _ _ _) g (fun _ _ h=>h) (.when (fun h=>by cases h) (fun _=>rfl))
     ·cases h
    split at h
    ·rename_i gb r hg h1
     split at h
     ·rename_i hu
      cases h
      unfold wpOpIn
      rw [hi]
      have hw:Region.wanted o (yielded ops a.tmps)=gb:=W5 gb hg
      simp only [hw]
      cases gb with
      | true =>
       simp only [if_true]
       have n5:aX r.Hb:=by
        cases hr:r.Hb with
        | nil=>trivial
        | cons p ps =>
         rw [hr] at hp
         exact hp.1 rfl
       refine CD (fun x _=>zs ht x) g hk hm hz h1 n5 ?_
       intro v w' S' cC q1 q2 q3 q4
       rw [hu] at q2
       exact hK v w' S' cC q1 q2 q3 (.when (fun _=>q4) (fun h=>by cases h))
      | false =>
       simp only [Bool.false_eq_true,if_false]
       refine ⟨fun _ _=>trivial,?_⟩
       exact hK undef w S μ (Ext.refl _ _ _) g (fun _ _ h=>h) (.when (fun h=>by cases h) (fun _=>rfl))
     ·cases h
    ·cases h
theorem CF {nt nk:Nat} {ops:List Oper} {tm:List (Nat×AV)} {o:Oper} {orc:Option lW} {x:Rec} (h:xm P nt ops nk tm σ o orc=some x):x.dst=o.dst∧∀ n,o.dst=some n→n < nt:=by
 unfold xm at h
 split at h
 ·cases h
 ·rename_i hd
  have h2:∀ n,o.dst=some n→n < nt:=fun n hn=>by
   rw [hn] at hd;simp only [V5,Nat.blt,Nat.ble_eq] at hd;exact hd
  split at h
  ·simp only [aL] at h
   obtain ⟨r,_,rfl⟩:=h
   exact ⟨rfl,h2⟩
  ·split at h
   ·cases h
   ·split at h
    ·split at h
     ·split at h
      ·cases h;exact ⟨rfl,h2⟩
      ·cases h
     ·cases h
    ·split at h
     ·cases h;exact ⟨rfl,h2⟩
     ·cases h
    ·split at h
     ·cases h;exact ⟨rfl,h2⟩
     ·cases h
theorem CG {rd:Option Nat} {ds:List Deferred} {nt nk:Nat} {ops:Array Oper} {orcs:List (Nat×lW)} (hz:∀ i,Fq P E (lX orcs i)) (hm:E.m0≤nk) {Q:Exit→Act→World→Prop}:∀ (l:List Oper) (i:Nat) (a:Act) (w:World) (tm:List (Nat×AV)) (σ:dp) (S:Nat→Prop) (μ:Mu) (bI:List Rec),
  ops.toList.drop i=l→i+l.length=ops.size→a.tmps.size=nt→a.defers=ds→Good E σ S μ w→(∀ k,nk+16 * i≤k→μ k=none)→(∀ t,ar w S μ (a.tmps.getD t undef) (cL tm t)) →
  oN P nt ops.toList nk orcs l i tm σ=some bI→aX (wM bI) →
  (∀ a' w' S' cC,a'.tmps.size=nt→a'.defers=ds→Good E (qA bI σ) S' cC w'→(∀ k,nk+16 * ops.size≤k→cC k=none)→(∀ t,ar w' S' cC (a'.tmps.getD t undef) (cL (vw bI tm) t))→Q .normal a' w') →
  wpOpsIn (FW rd) 0 P ops Q (List.range' i l.length) a w
 | [],i,a,w,tm,σ,S,μ,bI,hl,ze,hs,LW,g,hk,ht,h,hp,hQ=>by
  simp only [oN,aD] at h
  subst h
  simp only [List.length_nil,List.range'_zero,wpOpsIn]
  refine hQ a w S μ hs LW g (fun k ld=>hk k (by simp at ze;omega)) ht
 | o :: r,i,a,w,tm,σ,S,μ,bI,hl,ze,hs,LW,g,hk,ht,h,hp,hQ=>by
  simp only [oN] at h
  split at h
  ·cases h
  ·rename_i x hx
   simp only [aL] at h
   obtain ⟨l',h2,rfl⟩:=h
   obtain ⟨p1,p2⟩:=aX.app hp
   have hi:ops[i]?=some o:=by
    have:(ops.toList.drop i)[0]?=some o:=by rw [hl];rfl
    rw [kc] at this
    simpa using this
   have Za:ops.toList.drop (i+1)=r:=by
    rw [← List.tail_drop,hl];rfl
   obtain ⟨d1,d2⟩:=CF hx
   simp only [qI,List.range'_succ]
   rw [wpOpsIn_cons]
   refine CE hi ht g (fun j hj=>hk _ (by omega)) (by omega) (hz i) hx p1 ?_
   intro v w' S' cC q1 q2 q3 q4
   refine CG hz hm r (i+1) _ w' _ _ S' cC l' Za (by simp at ze;omega) (by rw [yc];exact hs) (by rw [qV];exact LW) q2 (fun k ld=>q3 k (by omega) (hk k (by omega))) ?_ h2 p2 hQ
   intro t
   rw [Bq a x.dst v t (fun n hn=>by rw [hs];exact d2 n (d1 ▸ hn)),ml]
   split
   ·exact q4
   ·exact (ht t).ext q1
end
end Go.Ab
namespace Go.Ab
def js (u:rU):List Nat:=u.map (·.1)
section
variable {P:Program} {nk:Nat} {σ dr:dp}
theorem jB {e e':Operand→AV}:∀ {xs:List Operand},(∀ x∈xs,e' x=e x)→conds e' xs=conds e xs
 | [],_=>rfl
 | x :: r,h=>by simp only [conds];rw [h x (by simp),jB fun y hy=>h y (by simp [hy])]
theorem Q5 {op:Op} {e e':Operand→AV} {orc:Option lW} (he:∀ x∈op.operands.toList,e' x=e x):eb P nk σ op e' orc=eb P nk σ op e orc:=by
 cases op with
 | move x=>simp only [eb];rw [he x (by simp [Op.operands])]
 | assign x=>simp only [eb];rw [he x (by simp [Op.operands])]
 | pick q a b=>simp only [eb];rw [he q (by simp [Op.operands]),he a (by simp [Op.operands]),he b (by simp [Op.operands])]
 | alloc T=>rfl
 | box T x=>simp only [eb,conds];rw [he x (by simp [Op.operands])]
 | build t parts =>
  simp only [eb]
  have h1:∀ x∈parts.toList.map (·.2),e' x=e x:=fun x hx=>he x (by simpa [Op.operands] using hx)
  rw [jB h1]
  congr 2
  apply List.map_congr_left
  intro p hp
  rw [h1 p.2 (List.mem_map.2 ⟨p,hp,rfl⟩)]
 | buildSlice t len parts =>
  simp only [eb]
  have h1:∀ x∈parts.toList.map (·.2),e' x=e x:=fun x hx=>he x (by simpa [Op.operands] using hx)
  rw [jB h1]
  have h2:(parts.toList.map fun p=>(p.1,(e' p.2).strip.1))=(parts.toList.map fun p=>(p.1,(e p.2).strip.1)):=by
   apply List.map_congr_left
   intro p hp
   rw [h1 p.2 (List.mem_map.2 ⟨p,hp,rfl⟩)]
  rw [h2]
 | load T x=>simp only [eb,conds];rw [he x (by simp [Op.operands])]
 | store T x y=>simp only [eb,conds];rw [he x (by simp [Op.operands]),he y (by simp [Op.operands])]
 | nilCheck x=>simp only [eb,conds];rw [he x (by simp [Op.operands])]
 | binOp o t x y yt=>simp only [eb,conds];rw [he x (by simp [Op.operands]),he y (by simp [Op.operands])]
 | unOp o t x=>simp only [eb,conds];rw [he x (by simp [Op.operands])]
 | convert s d x=>simp only [eb,conds];rw [he x (by simp [Op.operands])]
 | makeMap t r=>cases r<;>simp [eb]
 | lookup t m x ok=>simp only [eb,conds];rw [he m (by simp [Op.operands]),he x (by simp [Op.operands])]
 | mapUpdate t m x y=>simp only [eb,conds];rw [he m (by simp [Op.operands]),he x (by simp [Op.operands]),he y (by simp [Op.operands])]
 | insert t m x y=>simp only [eb,conds];rw [he m (by simp [Op.operands]),he x (by simp [Op.operands]),he y (by simp [Op.operands])]
 | makeFunc f first cap =>
  simp only [eb]
  have h1:∀ x∈first.toList ++ cap.toList,e' x=e x:=fun x hx=>he x (by simpa [Op.operands] using hx)
  rw [jB h1]
  congr 3
  ·apply List.map_congr_left;intro x hx;rw [h1 x (by simp only [List.mem_append];exact .inl hx)]
  ·apply List.map_congr_left;intro x hx;rw [h1 x (by simp only [List.mem_append];exact .inr hx)]
 | makeSlice t x y=>simp only [eb,conds];rw [he x (by simp [Op.operands]),he y (by simp [Op.operands])]
 | slice t x lo hi mx =>
  cases mx with
  | some _=>simp [eb]
  | none =>
   simp only [eb]
   have h1:∀ y∈x :: (lo.toList ++ hi.toList),e' y=e y:=fun y hy=>he y (by
    simp only [jq,List.mem_append,Option.mem_toList] at hy
    simp only [Op.operands]
    rcases hy with rfl | hy | hy
    ·simp
    ·simp [hy]
    ·simp [hy])
   rw [jB h1,h1 x (by simp)]
   have h2:(lo.map fun x=>(e' x).strip.1)=lo.map fun x=>(e x).strip.1:=by
    cases lo with
    | none=>rfl
    | some y=>simp [h1 y (by simp)]
   have h3:(hi.map fun x=>(e' x).strip.1)=hi.map fun x=>(e x).strip.1:=by
    cases hi with
    | none=>rfl
    | some y=>simp [h1 y (by simp)]
   rw [h2,h3]
 | fieldAddr T x f=>simp only [eb,conds];rw [he x (by simp [Op.operands])]
 | field T x f=>simp only [eb,conds];rw [he x (by simp [Op.operands])]
 | indexAddr T x i=>simp only [eb,conds];rw [he x (by simp [Op.operands]),he i (by simp [Op.operands])]
 | index T x i=>simp only [eb,conds];rw [he x (by simp [Op.operands]),he i (by simp [Op.operands])]
 | extract x i=>simp only [eb,conds];rw [he x (by simp [Op.operands])]
 | call c =>
  obtain ⟨callee,args,argTypes⟩:=c
  cases callee with
  | invoke=>simp [eb]
  | value f =>
   simp only [eb]
   have h1:∀ x∈f :: args.toList,e' x=e x:=fun x hx=>he x (by simpa [Op.operands,Call.operands] using hx)
   rw [jB h1,h1 f (by simp)]
   have h2:(args.toList.map fun x=>(e' x).strip.1)=args.toList.map fun x=>(e x).strip.1:=by
    apply List.map_congr_left;intro x hx;rw [h1 x (by simp [hx])]
   rw [h2]
  | builtin b =>
   simp only [eb]
   have h1:∀ x∈args.toList,e' x=e x:=fun x hx=>he x (by simpa [Op.operands,Call.operands] using hx)
   unfold zl
   split
   ·rename_i x t ha ht
    rw [ha] at h1
    simp only [conds];rw [h1 x (by simp)]
   ·rename_i x y t t' ha ht
    rw [ha] at h1
    simp only [conds];rw [h1 x (by simp),h1 y (by simp)]
   ·rename_i x r ha
    rw [ha] at h1
    dsimp only
    rw [jB h1,h1 x (by simp)]
    have h2:(r.map fun x=>(e' x).strip.1)=r.map fun x=>(e x).strip.1:=by
     apply List.map_congr_left;intro y hy;rw [h1 y (by simp [hy])]
    rw [h2]
   ·rename_i x r ha
    rw [ha] at h1
    dsimp only
    rw [jB h1,h1 x (by simp)]
    have h2:(r.map fun x=>(e' x).strip.1)=r.map fun x=>(e x).strip.1:=by
     apply List.map_congr_left;intro y hy;rw [h1 y (by simp [hy])]
    rw [h2]
   ·rfl
 | _=>simp [eb]
theorem Q6 {T:TypeId} {a:AV} {ps:List Prop} {x:AV} {rd:List Nat} (h:xU P σ T a=some (ps,x,rd)) (hs:∀ k∈rd,av dr k=av σ k):xU P dr T a=some (ps,x,rd):=by
 unfold xU at h ⊢
 split at h
 ·split at h
  ·rename_i k i j
   split at h
   ·rename_i o ho
    simp only [aL,aA] at h
    obtain ⟨y,hy,rfl,rfl,rfl⟩:=h
    simp [hs k (by simp),ho,hy]
   ·cases h
  ·exact h
  ·rename_i k i j m q
   have h':=h
   split at h
   ·rename_i o kd ho
    split at h
    ·split at h
     ·rename_i Yn
      simp only [aD,aA] at h
      simp only [hs k (by rw [← h.2.2];simp)]
      simp only [Yn] at h'
      exact h'
     ·cases h
    ·cases h
   ·rename_i o ho
    split at h
    ·split at h
     ·rename_i Yn
      simp only [aD,aA] at h
      simp only [hs k (by rw [← h.2.2];simp)]
      simp only [Yn] at h'
      exact h'
     ·cases h
    ·cases h
   ·cases h
  ·cases h
 ·cases h
theorem Mp {T:TypeId} {a x:AV} {ps:List Prop} {u:rU} {rd:List Nat} (h:ot P σ T a x=some (ps,u,rd)) (hs:∀ k∈rd,av dr k=av σ k):ot P dr T a x=some (ps,u,rd):=by
 unfold ot at h ⊢
 split at h
 ·rename_i k i j ns n h1 h2
  split at h
  ·rename_i o ho
   split at h
   ·rename_i hb
    have h':=h
    simp only [aD,aA] at h
    obtain ⟨rfl,rfl,rfl⟩:=h
    simp only [hs k (by simp),ho,hb]
   ·cases h
  ·cases h
 ·cases h
theorem Pj {T:TypeId} {a x:AV} {ps:List Prop} {u:rU} {rd:List Nat} (h:y9 P σ T a x=some (ps,u,rd)) (hs:∀ k∈rd,av dr k=av σ k):y9 P dr T a x=some (ps,u,rd):=by
 unfold y9 at h ⊢
 split at h
 ·rename_i k i j m q
  have h':=h
  split at h
  ·split at h
   ·split at h
    ·simp only [aD,aA] at h
     simp only [hs k (by rw [← h.2.2];simp)]
     exact h'
    ·cases h
   ·cases h
  ·split at h
   ·split at h
    ·simp only [aD,aA] at h
     simp only [hs k (by rw [← h.2.2];simp)]
     exact h'
    ·cases h
   ·cases h
  ·cases h
 ·exact Mp h hs
theorem Hl {T:TypeId} {x i:AV} {ps:List Prop} {v:AV} {rd:List Nat} (h:px P σ T x i=some (ps,v,rd)) (hs:∀ k∈rd,av dr k=av σ k):px P dr T x i=some (ps,v,rd):=by
 unfold px at h ⊢
 split at h
 ·split at h
  ·rename_i sz kj
   split at h
   ·rename_i k off len
    split at h
    ·rename_i o ho
     split at h
     ·rename_i hb
      simp only [aD,aA] at h
      obtain ⟨rfl,rfl,rfl⟩:=h
      simp only [hs k (by simp),ho,hb]
     ·cases h
    ·cases h
   ·rename_i len get
    exact h
   ·cases h
  ·cases h
 ·split at h
  ·rename_i sz kj
   exact h
  ·cases h
 ·cases h
theorem Pk {T:TypeId} {x:AV} {lo hi:Option AV} {ps:List Prop} {v:AV} {rd:List Nat} (h:zc P σ T x lo hi=some (ps,v,rd)) (hs:∀ k∈rd,av dr k=av σ k):zc P dr T x lo hi=some (ps,v,rd):=by
 unfold zc at h ⊢
 split at h
 ·exact h
 ·split at h
  ·rename_i sz kj
   split at h
   ·rename_i k off len
    split at h
    ·rename_i l hh o h1 h2 h3
     split at h
     ·rename_i hb
      simp only [aD,aA] at h
      obtain ⟨rfl,rfl,rfl⟩:=h
      simp only [hs k (by simp),h1,h2,h3,hb]
     ·cases h
    ·cases h
   ·exact h
   ·cases h
  ·cases h
 ·cases h
theorem Br {sz:Nat} {x:AV} {n:Nat} {g:Nat→List AV} {pr:Bool} {ps:List Prop} {rd:List Nat} (h:vg σ sz x=some (n,g,pr,ps,rd)) (hs:∀ k∈rd,av dr k=av σ k):vg dr sz x=some (n,g,pr,ps,rd):=by
 unfold vg at h ⊢
 split at h
 ·exact h
 ·exact h
 ·rename_i k off n'
  split at h
  ·rename_i o ho
   split at h
   ·rename_i hb
    have DZ:rd=[k]:=by simp only [aD,aA] at h;exact h.2.2.2.2.symm
    simp only [hs k (by simp [DZ]),ho,hb]
    exact h
   ·cases h
  ·cases h
 ·cases h
theorem Pm {src dst:TypeId} {x:AV} {ps:List Prop} {v:AV} {rd:List Nat} (h:zf P σ src dst x=some (ps,v,rd)) (hs:∀ k∈rd,av dr k=av σ k):zf P dr src dst x=some (ps,v,rd):=by
 unfold zf at h ⊢
 split at h
 ·exact h
 ·split at h
  ·rename_i n gt pr qs NB he vj
   simp only [aD,aA] at h
   obtain ⟨rfl,rfl,rfl⟩:=h
   rw [Br vj hs,he]
  ·cases h
 ·cases h
theorem Fs {t:TypeId} {s x:AV} {ps:List Prop} {v:AV} {rd:List Nat} {u:rU} (h:qU P nk σ t s x=some (ps,v,rd,u)) (hs:∀ k∈rd,av dr k=av σ k):qU P nk dr t s x=some (ps,v,rd,u):=by
 unfold qU at h ⊢
 split at h
 ·split at h
  ·rename_i sz b z h1 h2 h3
   split at h
   ·rename_i n g pr Qz NB hb vj
    split at h
    ·have DZ:rd=NB:=by simp only [aD,aA] at h;exact h.2.2.1.symm
     rw [Br vj (fun k hk=>hs k (DZ ▸ hk))]
     simp only [hb]
     exact h
    ·rename_i k len
     split at h
     ·rename_i o ho
      split at h
      ·rename_i J2
       have DZ:rd=k :: NB:=by simp only [aD,aA] at h;exact h.2.2.1.symm
       rw [Br vj (fun k hk=>hs k (by rw [DZ];simp [hk]))]
       simp only [hb,hs k (by simp [DZ]),ho,J2]
       exact h
      ·cases h
     ·cases h
    ·cases h
   ·cases h
  ·cases h
 ·cases h
mutual
theorem Q7 {ks:List Nat}:∀ (x y:AV) (bs:List Nat) (ps:List Prop),x.fW σ ks=some (y,bs,ps)→(∀ k∈bs,av dr k=av σ k)→x.fW dr ks=some (y,bs,ps)
 | .op k i j,y,bs,ps,h,_=>by simpa [AV.fW] using h
 | .mp k,y,bs,ps,h,_=>by simpa [AV.fW] using h
 | .ov _ _ _ _ _,y,bs,ps,h,_=>by simp [AV.fW] at h
 | .Cd _ _ _,y,bs,ps,h,_=>by simp [AV.fW] at h
 | .nq _ _,y,bs,ps,h,_=>by simp [AV.fW] at h
 | .bn _,y,bs,ps,h,_=>by simpa [AV.fW] using h
 | .pt _ _,y,bs,ps,h,_=>by simpa [AV.fW] using h
 | .os k off len,y,bs,ps,h,hs=>by
  simp only [AV.fW] at h ⊢
  split at h
  ·rename_i n hn;exact h
  ·rename_i hn
   split at h
   ·rename_i o ho
    split at h
    ·rename_i hp
     have hb:bs=[k]:=by simp only [aD,aA] at h;exact h.2.1.symm
     simp only [hs k (by simp [hb]),ho,hp]
     exact h
    ·cases h
   ·cases h
 | .agg cs,y,bs,ps,h,hs=>by
  simp only [AV.fW,aL] at h ⊢
  obtain ⟨⟨a,b,c⟩,h,e⟩:=h
  simp only [aA] at e
  obtain ⟨rfl,rfl,rfl⟩:=e
  exact ⟨(a,b,c),s9 cs a b c h hs,rfl⟩
 | .tup cs,y,bs,ps,h,hs=>by
  simp only [AV.fW,aL] at h ⊢
  obtain ⟨⟨a,b,c⟩,h,e⟩:=h
  simp only [aA] at e
  obtain ⟨rfl,rfl,rfl⟩:=e
  exact ⟨(a,b,c),s9 cs a b c h hs,rfl⟩
 | .fn g x z,y,bs,ps,h,hs=>by
  simp only [AV.fW] at h ⊢
  split at h
  ·rename_i a b c a' b' c' e1 e2
   simp only [aD,aA] at h
   obtain ⟨rfl,rfl,rfl⟩:=h
   rw [s9 x a b c e1 (fun k hk=>hs k (by simp [hk])),s9 z a' b' c' e2 (fun k hk=>hs k (by simp [hk]))]
  ·cases h
 | .when _ _,y,bs,ps,h,_=>by simp [AV.fW] at h
 | .mr _ _ _,y,bs,ps,h,_=>by simp [AV.fW] at h
 | .atom _,y,bs,ps,h,_=>by simpa [AV.fW] using h
 | .sl _ _,y,bs,ps,h,_=>by simpa [AV.fW] using h
 | .rp _ _,y,bs,ps,h,_=>by simpa [AV.fW] using h
 | .nil,y,bs,ps,h,_=>by simpa [AV.fW] using h
 | .mU,y,bs,ps,h,_=>by simpa [AV.fW] using h
theorem s9 {ks:List Nat}:∀ (xs ys:List AV) (bs:List Nat) (ps:List Prop),AV.qn σ ks xs=some (ys,bs,ps)→(∀ k∈bs,av dr k=av σ k)→AV.qn dr ks xs=some (ys,bs,ps)
 | [],ys,bs,ps,h,_=>by simpa [AV.qn] using h
 | c :: cs,ys,bs,ps,h,hs=>by
  simp only [AV.qn] at h ⊢
  split at h
  ·rename_i a b p a' b' p' e1 e2
   simp only [aD,aA] at h
   obtain ⟨rfl,rfl,rfl⟩:=h
   rw [Q7 c a b p e1 (fun k hk=>hs k (by simp [hk])),s9 cs a' b' p' e2 (fun k hk=>hs k (by simp [hk]))]
  ·cases h
end
theorem Ia {ks:List Nat}:∀ (l:List Nat) (i:Nat),(∀ k∈l,av dr k=av σ k)→canon dr ks i l=canon σ ks i l
 | [],i,_=>rfl
 | k :: r,i,h=>by simp only [canon];rw [h k (by simp),Ia r (i+1) fun k hk=>h k (by simp [hk])]
theorem AA {ks:List Nat} {lone:Bool}:∀ (l:List Nat),(∀ k∈l,av dr k=av σ k)→x6 dr ks lone l=x6 σ ks lone l
 | [],_=>rfl
 | k :: r,h=>by simp only [x6];rw [h k (by simp),AA r fun k hk=>h k (by simp [hk])]
theorem Q8 {f:AV} {args:List AV} {orc:lW} {r:R} (h:Fe P nk σ f args orc=some r) (hs:∀ k∈r.rds,av dr k=av σ k):Fe P nk dr f args orc=some r:=by
 unfold Fe Bk at h ⊢
 split at h
 case h_2=>cases h
 rename_i gid first cap
 split at h
 case h_2=>cases h
 rename_i as bs ps rP h1 h2 h3
 split at h
 case h_2=>cases h
 rename_i h4
 have hr:r.rds=orc.ks ++ bs:=by
  split at h
  ·split at h
   ·split at h
    ·cases h;rfl
    ·cases h
   ·split at h
    ·cases h;rfl
    ·cases h
  ·split at h
   ·cases h;rfl
   ·cases h
 rw [hr] at hs
 simp only [h1,s9 _ _ _ _ h2 (fun k hk=>hs k (by simp [hk])),Ia orc.ks 0 (fun k hk=>hs k (by simp [hk])),AA (ks:=orc.ks) (lone:=bs.isEmpty || orc.wE) orc.ks (fun k hk=>hs k (by simp [hk])),AA (ks:=orc.ks) (lone:=true) orc.ks (fun k hk=>hs k (by simp [hk])),h3,h4]
 exact h
theorem Mq {t:TypeId} {m x:AV} {ok:Bool} {orc:lW} {ps:List Prop} {v:AV} {rd:List Nat} (h:vq P σ t m x ok orc=some (ps,v,rd)) (hs:∀ k∈rd,av dr k=av σ k):vq P dr t m x ok orc=some (ps,v,rd):=by
 unfold vq at h ⊢
 split at h
 ·rename_i k kt et ht
  split at h
  ·rename_i d o z hd ho hz
   split at h
   ·rename_i hb
    have hk:av dr k=some o:=by
     rw [← ho]
     refine hs k ?_
     split at h
     ·simp only [aD,aA] at h;obtain ⟨_,_,rfl⟩:=h;simp
     ·simp only [aD,aA] at h;obtain ⟨_,_,rfl⟩:=h;simp
    simp only [ht,hd,hk,hz,hb]
    exact h
   ·cases h
  ·cases h
 ·cases h
theorem Ft {t:TypeId} {m x y:AV} {orc:lW} {ps:List Prop} {u:rU} {rd:List Nat} (h:vu P σ t m x y orc=some (ps,u,rd)) (hs:∀ k∈rd,av dr k=av σ k):vu P dr t m x y orc=some (ps,u,rd):=by
 unfold vu at h ⊢
 split at h
 ·rename_i k kt et cs ht Kr
  split at h
  ·rename_i d o hd ho
   split at h
   ·rename_i hb
    have hk:av dr k=some o:=by
     rw [← ho]
     refine hs k ?_
     simp only [aD,aA] at h;obtain ⟨_,_,rfl⟩:=h;simp
    simp only [ht,Kr,hd,hk,hb]
    exact h
   ·cases h
  ·cases h
 ·cases h
theorem KF {op:Op} {e:Operand→AV} {orc:Option lW} {r:R} (h:eb P nk σ op e orc=some r) (hs:∀ k∈r.rds,av dr k=av σ k):eb P nk dr op e orc=some r:=by
 cases op with
 | load T x =>
  simp only [eb,aL] at h ⊢
  obtain ⟨⟨ps,v,rd⟩,h1,rfl⟩:=h
  exact ⟨_,Q6 h1 hs,rfl⟩
 | store T x y =>
  simp only [eb,aL] at h ⊢
  obtain ⟨⟨ps,v,rd⟩,h1,rfl⟩:=h
  exact ⟨_,Pj h1 hs,rfl⟩
 | indexAddr T x i =>
  simp only [eb,aL] at h ⊢
  obtain ⟨⟨ps,v,rd⟩,h1,rfl⟩:=h
  exact ⟨_,Hl h1 hs,rfl⟩
 | slice t x lo hi mx =>
  cases mx with
  | some _=>simp [eb] at h
  | none =>
   simp only [eb,aL] at h ⊢
   obtain ⟨⟨ps,v,rd⟩,h1,rfl⟩:=h
   exact ⟨_,Pk h1 hs,rfl⟩
 | convert src dst x =>
  simp only [eb] at h ⊢
  split at h
  ·rename_i v h1
   exact h
  ·rename_i h0
   simp only [aL] at h ⊢
   obtain ⟨⟨ps,v,rd⟩,h1,rfl⟩:=h
   exact ⟨_,Pm h1 hs,rfl⟩
 | makeMap t r=>cases r with
  | none=>exact h
  | some _=>simp [eb] at h
 | lookup t m x ok =>
  simp only [eb] at h ⊢
  split at h
  ·simp only [aL] at h ⊢
   obtain ⟨⟨ps,v,rd⟩,h1,rfl⟩:=h
   exact ⟨_,Mq h1 hs,rfl⟩
  ·cases h
 | mapUpdate t m x y =>
  simp only [eb] at h ⊢
  split at h
  ·simp only [aL] at h ⊢
   obtain ⟨⟨ps,u,rd⟩,h1,rfl⟩:=h
   exact ⟨_,Ft h1 hs,rfl⟩
  ·cases h
 | insert t m x y =>
  simp only [eb] at h ⊢
  split at h
  ·simp only [aL] at h ⊢
   obtain ⟨⟨ps,u,rd⟩,h1,rfl⟩:=h
   exact ⟨_,Ft h1 hs,rfl⟩
  ·cases h
 | call c =>
  obtain ⟨callee,args,argTypes⟩:=c
  cases callee with
  | invoke=>simp [eb] at h
  | value f =>
   simp only [eb] at h ⊢
   split at h
   ·simp only [aL] at h ⊢
    obtain ⟨r',h1,rfl⟩:=h
    exact ⟨_,Q8 h1 hs,rfl⟩
   ·cases h
  | builtin b =>
   simp only [eb] at h ⊢
   unfold zl at h ⊢
   split at h
   ·exact h
   ·split at h
    ·simp only [aL] at h ⊢
     obtain ⟨⟨ps,v,rd,u⟩,h1,rfl⟩:=h
     exact ⟨_,Fs h1 hs,rfl⟩
    ·cases h
   ·exact h
   ·exact h
   ·cases h
 | _=>exact h
theorem NR {op:Op} {e e':Operand→AV} {orc:Option lW} (he:∀ x∈op.operands.toList,e' x=e x):x9 P nk σ op e' orc=x9 P nk σ op e orc:=by
 unfold x9
 split
 ·exact Q5 he
 ·split
  ·rename_i T x
   simp only [conds];rw [he x (by simp [Op.operands])]
  ·rename_i args Fk
   have h1:∀ x∈args.toList,e' x=e x:=fun x hx=>he x (by simpa [Op.operands,Call.operands] using hx)
   split
   ·rename_i x y t t' ha ht
    rw [ha] at h1
    simp only [conds];rw [h1 x (by simp),h1 y (by simp)]
   ·rfl
  ·rename_i args Fk
   have h1:∀ x∈args.toList,e' x=e x:=fun x hx=>he x (by simpa [Op.operands,Call.operands] using hx)
   split
   ·rename_i x y t t' ha ht
    rw [ha] at h1
    simp only [conds];rw [h1 x (by simp),h1 y (by simp)]
   ·rfl
  ·rename_i args Fk
   have h1:∀ x∈args.toList,e' x=e x:=fun x hx=>he x (by simpa [Op.operands,Call.operands] using hx)
   split
   ·rename_i x t ha ht
    rw [ha] at h1
    simp only [conds];rw [h1 x (by simp)]
   ·rfl
  ·rename_i t x lo hi mx
   have h1:e' x=e x:=he x (by simp [Op.operands])
   have h2:∀ y∈lo,e' y=e y:=fun y hy=>he y (by cases hy;simp [Op.operands])
   have h3:∀ y∈hi,e' y=e y:=fun y hy=>he y (by cases hy;simp [Op.operands])
   have h4:∀ y∈mx,e' y=e y:=fun y hy=>he y (by cases hy;simp [Op.operands])
   split
   ·have e2:(lo.map fun y=>(e' y).strip.1)=lo.map fun y=>(e y).strip.1:=by
     cases lo with
     | none=>rfl
     | some y=>simp only [Option.map_some];rw [h2 y rfl]
    have e3:(hi.map fun y=>(e' y).strip.1)=hi.map fun y=>(e y).strip.1:=by
     cases hi with
     | none=>rfl
     | some y=>simp only [Option.map_some];rw [h3 y rfl]
    have e4:conds e' (x :: (lo.toList ++ hi.toList))=conds e (x :: (lo.toList ++ hi.toList)):=jB fun y hy=>by
     simp only [jq,List.mem_append,Option.mem_toList] at hy
     rcases hy with rfl | hy | hy
     ·exact h1
     ·exact h2 _ hy
     ·exact h3 _ hy
    rw [h1,e2,e3,e4]
   ·split
    ·rename_i l h
     simp only [conds];rw [h1,h2 l rfl,h3 h rfl,h4 _ rfl]
    ·rfl
  ·exact Q5 he
theorem Pn {T:TypeId} {a x:AV} {ps:List Prop} {y:AV} {rd:List Nat} (h:zp P σ T a x=some (ps,y,rd)) (hs:∀ k∈rd,av dr k=av σ k):zp P dr T a x=some (ps,y,rd):=by
 unfold zp at h ⊢
 split at h
 case h_2=>cases h
 rename_i k i j d n hd hn
 split at h
 case h_2=>cases h
 rename_i o h1 h2 ho
 have DZ:rd=[k]:=by simp only [aD,aA] at h;exact h.2.2.symm
 simp only [hd,hn,h1,h2,hs k (by simp [DZ]),ho]
 exact h
theorem I4:∀ (u:rU) (n:Nat),(∀ τ Ur:dp,av (eV τ u) n=av (eV Ur u) n)∨∀ τ:dp,av (eV τ u) n=av τ n
 | [],n=>.inr fun _=>rfl
 | (k,some o) :: u,n=>by
  simp only [eV]
  rcases I4 u n with h | h
  ·exact .inl fun τ Ur=>h _ _
  ·by_cases hk:k=n
   ·exact .inl fun τ Ur=>by rw [h,h,bd,bd,if_pos hk,if_pos hk]
   ·exact .inr fun τ=>by rw [h,bd,if_neg hk]
 | (k,none) :: u,n=>by
  simp only [eV]
  rcases I4 u n with h | h
  ·exact .inl fun τ Ur=>h _ _
  ·by_cases hk:k=n
   ·exact .inl fun τ Ur=>by rw [h,h,eK,eK,if_pos hk,if_pos hk]
   ·exact .inr fun τ=>by rw [h,eK,if_neg hk]
theorem Us {τ Ur:dp} {k q i:Nat} (h1:av Ur k=av τ k) (h2:av Ur q=av τ q):I3 Ur k q i=I3 τ k q i:=by
 unfold I3;rw [h1,h2]
theorem KG {t:TypeId} {s x:AV} {orc:lW} {ps:List Prop} {v:AV} {rd:List Nat} {u:rU} (h:s8 P nk σ t s x orc=some (ps,v,rd,u)) (hs:∀ k∈rd,av dr k=av σ k):s8 P nk dr t s x orc=some (ps,v,rd,u):=by
 unfold s8 at h ⊢
 split at h
 case h_2=>cases h
 rename_i q p1 v' NB u1 hq ha
 split at h
 case h_2=>cases h
 rename_i p2 u2 hb hc
 have DZ:rd=q :: NB:=by simp only [aD,aA] at h;exact h.2.2.1.symm
 have DJ:=Fs ha (fun k hk=>hs k (by rw [DZ];simp [hk]))
 have Tp:av (eV dr u1) nk=av (eV σ u1) nk:=by
  have hu:∃ o,u1=[(nk,some o)]∨∃ k,u1=[(k,none),(nk,some o)]:=by
   unfold qU at ha
   split at ha
   ·split at ha
    ·split at ha
     ·split at ha
      ·simp only [aD,aA] at ha
       exact ⟨_,.inl ha.2.2.2.symm⟩
      ·split at ha
       ·split at ha
        ·simp only [aD,aA] at ha
         exact ⟨_,.inr ⟨_,ha.2.2.2.symm⟩⟩
        ·cases ha
       ·cases ha
      ·cases ha
     ·cases ha
    ·cases ha
   ·cases ha
  obtain ⟨o,rfl | ⟨k,rfl⟩⟩:=hu<;>simp only [eV]<;>rw [bd,bd,if_pos rfl,if_pos rfl]
 have hqq:av (eV dr u1) q=av (eV σ u1) q:=by
  rcases I4 u1 q with h1 | h1
  ·exact h1 _ _
  ·rw [h1,h1];exact hs q (by simp [DZ])
 simp only [hq,DJ,hb,Us Tp hqq,hc]
 exact h
theorem Mr {T:TypeId} {x:AV} {lo hi:Option AV} {ps:List Prop} {v:AV} {rd:List Nat} (h:vv P σ T x lo hi=some (ps,v,rd)) (hs:∀ k∈rd,av dr k=av σ k):vv P dr T x lo hi=some (ps,v,rd):=by
 unfold vv at h ⊢
 split at h
 case h_2=>cases h
 rename_i e k off len hu
 split at h
 case h_2=>cases h
 rename_i sz l hh o kj hl TQ ho
 split at h
 case h_2=>cases h
 rename_i hb
 have DZ:rd=[k]:=by simp only [aD,aA] at h;exact h.2.2.symm
 simp only [kj,hl,TQ,hs k (by simp [DZ]),ho,hb]
 exact h
theorem Q9 {t:TypeId} {s x:AV} {ps:List Prop} {v:AV} {rd:List Nat} {u:rU} (h:Cy P σ t s x=some (ps,v,rd,u)) (hs:∀ k∈rd,av dr k=av σ k):Cy P dr t s x=some (ps,v,rd,u):=by
 unfold Cy at h ⊢
 split at h
 case h_2=>cases h
 rename_i e he
 split at h
 case h_2=>cases h
 rename_i sz b z k len k' off n kj hb hz
 split at h
 case h_2=>cases h
 rename_i o Mf ho
 split at h
 case h_2=>cases h
 rename_i xT
 have DZ:rd=[k]:=by simp only [aD,aA] at h;exact h.2.2.1.symm
 simp only [he,kj,hb,hz,Mf,hs k (by simp [DZ]),ho,xT]
 exact h
theorem Ra {t:TypeId} {s x:AV} {ps:List Prop} {v:AV} {rd:List Nat} {u:rU} (h:Cz P σ t s x=some (ps,v,rd,u)) (hs:∀ k∈rd,av dr k=av σ k):Cz P dr t s x=some (ps,v,rd,u):=by
 unfold Cz at h ⊢
 split at h
 case h_2=>cases h
 rename_i e he
 split at h
 case h_2=>cases h
 rename_i sz k zV nd k' DY ns kj
 split at h
 case h_2=>cases h
 rename_i o Mf ho
 split at h
 case h_2=>cases h
 rename_i xT
 have DZ:rd=[k]:=by simp only [aD,aA] at h;exact h.2.2.1.symm
 simp only [he,kj,Mf,hs k (by simp [DZ]),ho,xT]
 exact h
theorem Rb {t:TypeId} {s x:AV} {ps:List Prop} {v:AV} {rd:List Nat} {u:rU} (h:CA P σ t s x=some (ps,v,rd,u)) (hs:∀ k∈rd,av dr k=av σ k):CA P dr t s x=some (ps,v,rd,u):=by
 unfold CA at h ⊢
 split at h
 case h_2=>cases h
 rename_i e he
 split at h
 case h_2=>cases h
 rename_i sz b z k off m kj hb hz
 split at h
 case h_2=>cases h
 rename_i n gt pr Qz NB o vj ho
 split at h
 case h_2=>cases h
 rename_i xT
 have DZ:rd=k :: NB:=by simp only [aD,aA] at h;exact h.2.2.1.symm
 rw [Br vj (fun k hk=>hs k (by rw [DZ];simp [hk]))]
 simp only [hs k (by simp [DZ]),ho,xT]
 exact h
theorem Rc {t:TypeId} {s x:AV} {ps:List Prop} {v:AV} {rd:List Nat} {u:rU} (h:CC P nk σ t s x=some (ps,v,rd,u)) (hs:∀ k∈rd,av dr k=av σ k):CC P nk dr t s x=some (ps,v,rd,u):=by
 unfold CC at h ⊢
 split at h
 case h_2=>cases h
 rename_i e he
 split at h
 case h_2=>cases h
 rename_i sz b z k off m kj hb hz
 split at h
 case h_2=>cases h
 rename_i n gt pr Qz NB o vj ho
 split at h
 case h_2=>cases h
 rename_i xT
 have DZ:rd=k :: NB:=by simp only [aD,aA] at h;exact h.2.2.1.symm
 rw [Br vj (fun k hk=>hs k (by rw [DZ];simp [hk]))]
 simp only [hs k (by simp [DZ]),ho,xT]
 exact h
theorem Po {t:TypeId} {x:AV} {ps:List Prop} {v:AV} {rd:List Nat} {u:rU} (h:zr P σ t x=some (ps,v,rd,u)) (hs:∀ k∈rd,av dr k=av σ k):zr P dr t x=some (ps,v,rd,u):=by
 unfold zr at h ⊢
 split at h
 case h_2=>cases h
 rename_i e he
 split at h
 case h_2=>cases h
 rename_i sz b z k off n kj hb hz
 split at h
 case h_2=>cases h
 rename_i o ho
 split at h
 case h_2=>cases h
 rename_i xT
 have DZ:rd=[k]:=by simp only [aD,aA] at h;exact h.2.2.1.symm
 simp only [he,kj,hb,hz,hs k (by simp [DZ]),ho,xT]
 exact h
theorem Ib {op:Op} {e:Operand→AV} {orc:Option lW} {r:R} (h:x9 P nk σ op e orc=some r) (hs:∀ k∈r.rds,av dr k=av σ k):x9 P nk dr op e orc=some r:=by
 unfold x9 at h ⊢
 split at h
 ·exact KF h hs
 ·rename_i q h0
  split at h
  ·simp only [aL] at h ⊢
   obtain ⟨⟨ps,v,rd⟩,h1,rfl⟩:=h
   exact ⟨_,Pn h1 hs,rfl⟩
  ·split at h
   ·rename_i x y t t' ha ht
    split at h
    ·rename_i hb
     simp only [aL] at h
     obtain ⟨⟨ps,v,rd,u⟩,h1,rfl⟩:=h
     simp only [ha,ht,hb,aL]
     refine ⟨⟨ps,v,rd,u⟩,?_,rfl⟩
     split at h1
     ·exact Q9 h1 hs
     ·exact Rb h1 hs
     ·exact Rc h1 hs
     ·exact KG h1 hs
    ·cases h
   ·cases h
  ·split at h
   ·rename_i x y t t' ha ht
    simp only [aL] at h
    obtain ⟨⟨ps,v,rd,u⟩,h1,rfl⟩:=h
    simp only [ha,ht,aL]
    exact ⟨_,Ra h1 hs,rfl⟩
   ·cases h
  ·split at h
   ·rename_i x t ha ht
    simp only [aL] at h
    obtain ⟨⟨ps,v,rd,u⟩,h1,rfl⟩:=h
    simp only [ha,ht,aL]
    exact ⟨_,Po h1 hs,rfl⟩
   ·cases h
  ·split at h
   ·simp only [aL] at h ⊢
    obtain ⟨⟨ps,v,rd⟩,h1,rfl⟩:=h
    exact ⟨_,Mr h1 hs,rfl⟩
   ·exact h
  ·exact KF h hs
theorem Ic {τ:dp} {e e':Operand→AV}:∀ {xs:List Operand},(∀ x∈xs,e' x=e x)→Ym τ e' xs=Ym τ e xs
 | [],_=>rfl
 | x :: r,h=>by simp only [Ym];rw [h x (by simp),Ic fun y hy=>h y (by simp [hy])]
theorem Ie:∀ {τ:dp} {ps:List Prop},Tw σ τ=some ps→(∀ k∈τ.map (·.1),av dr k=av σ k)→Tw dr τ=some ps
 | [],ps,h,_=>h
 | (k,o') :: r,ps,h,hs=>by
  simp only [Tw] at h ⊢
  split at h
  ·rename_i o qs ho hr
   rw [hs k (by simp),ho,Ie hr fun k hk=>hs k (by simp at hk ⊢;exact .inr hk)]
   exact h
  ·cases h
theorem Ut {op:Op} {e e':Operand→AV} {orc:Option lW} (he:∀ x∈op.operands.toList,e' x=e x):Ae P nk σ op e' orc=Ae P nk σ op e orc:=by
 unfold Ae
 split
 ·exact NR he
 ·rw [Ic he,NR (e:=fun x=>Un _ (e x)) (e':=fun x=>Un _ (e' x)) fun x hx=>by rw [he x hx]]
theorem Pp {op:Op} {e:Operand→AV} {orc:Option lW} {r:R} (h:Ae P nk σ op e orc=some r) (hs:∀ k∈r.rds,av dr k=av σ k):Ae P nk dr op e orc=some r:=by
 unfold Ae at h ⊢
 split at h
 ·exact Ib h hs
 ·split at h
  ·rename_i ps r0 h1 h2
   cases h
   rw [Ie h1 fun k hk=>hs k (List.mem_append_left _ hk),Ib h2 fun k hk=>by rw [me,me,hs k (List.mem_append_right _ hk)]]
  ·cases h
end
end Go.Ab
namespace Go.Ab
def Rd (l:List Nat) (k:Nat):Bool:=l.any fun x=>Nat.beq x k
theorem Fu {l:List Nat} {k:Nat}:Rd l k=true↔k∈l:=by
 simp only [Rd,List.any_eq_true]
 constructor
 ·rintro ⟨x,hx,hb⟩;exact bp hb ▸ hx
 ·intro h;exact ⟨k,h,ki rfl⟩
theorem NS {a b:Nat} (h:a < b):Nat.blt a b=true:=by
 simp only [Nat.blt,Nat.ble_eq];exact h
theorem xp {a b:Nat} (h:¬ a < b):Nat.blt a b=false:=by
 cases hb:Nat.blt a b with
 | false=>rfl
 | true=>simp only [Nat.blt,Nat.ble_eq] at hb;exact (h hb).elim
theorem tq {a b:Nat} (h:Nat.blt a b=true):a < b:=by
 simp only [Nat.blt,Nat.ble_eq] at h;exact h
def tmpsOf:List Operand→List Nat
 | []=>[]
 | .tmp t :: r=>t :: tmpsOf r
 | _ :: r=>tmpsOf r
def Fv (ops:List Oper) (o:Oper):List Nat :=
 tmpsOf o.op.operands.toList ++ (match o.guard with
  | some (j,_)=>(Q4 ops j).toList
  | none=>[])
theorem Fw:∀ {l:List Operand} {t:Nat},Operand.tmp t∈l→t∈tmpsOf l
 | [],_,h=>by simp at h
 | x :: r,t,h=>by
  rcases jq.1 h with rfl | h'
  ·simp [tmpsOf]
  ·have:=Fw h'
   cases x<;>simp [tmpsOf,this]
def eO (o:Oper):List Nat:=(o.after.toList.filter (Region.binds .any ·)).map (·.on)
def DK (ops:List Oper):Nat→Nat→Nat→Bool
 | 0,_,_=>false
 | n+1,i,j=>match ops[j]? with
  | none=>false
  | some o=>(eO o).any fun e=>Nat.beq e i || DK ops n i e
def Bs:Option Nat→Option Nat→Bool
 | some a,some b=>Nat.beq a b
 | _,_=>false
def meets (l m:List Nat):Bool:=l.any fun k=>Rd m k
def Af (ops:List Oper) (o p:Oper) (x y:Rec):Bool :=
 meets x.dst.toList (Fv ops p) || meets y.dst.toList (Fv ops o) || meets (js x.upd) (y.rds ++ js y.upd) || meets x.rds (js y.upd)
def CH (ops:List Oper) (bI:List Rec) (i j:Nat):Bool :=
 match ops[i]?,ops[j]?,bI[i]?,bI[j]? with
 | some o,some p,some x,some y=>!Bs x.dst y.dst && (!Af ops o p x y || DK ops ops.length i j)
 | _,_,_,_=>false
def uq (ops:List Oper) (j:Nat):Bool :=
 match ops[j]? with
 | some o=>(eO o).all fun e=>Nat.blt e j
 | none=>false
def Re (ops:List Oper) (bI:List Rec):Bool :=
 (List.range ops.length).all fun j=>uq ops j && (List.range j).all fun i=>CH ops bI i j
def D1 (L:Nat→Bool):List Rec→Nat→List (Nat×AV)→List (Nat×AV)
 | [],_,tm=>tm
 | x :: r,i,tm=>D1 L r (i+1) (match L i with
  | true=>xn tm x.dst x.val
  | false=>tm)
def rV (L:Nat→Bool):List Rec→Nat→dp→dp
 | [],_,σ=>σ
 | x :: r,i,σ=>rV L r (i+1) (match L i with
  | true=>eV σ x.upd
  | false=>σ)
theorem kI:∀ (u:rU) (σ:dp) (k:Nat),av (eV σ u) k=if k∈js u then av (eV [] u) k else av σ k
 | [],σ,k=>by simp [js,eV]
 | (n,some o) :: r,σ,k=>by
  simp only [eV]
  rw [kI r (sset σ n o) k,kI r (sset [] n o) k,bd,bd]
  by_cases h1:k∈js r
  ·simp [js] at h1 ⊢;simp [h1]
  ·by_cases h2:n=k
   ·subst h2;simp [js]
   ·have:¬ k∈js ((n,some o) :: r):=by simp [js] at h1 ⊢;exact ⟨fun h=>h2 h.symm,h1⟩
    rw [if_neg h1,if_neg h2,if_neg this]
 | (n,none) :: r,σ,k=>by
  simp only [eV]
  rw [kI r (qt σ n) k,kI r (qt [] n) k,eK,eK]
  by_cases h1:k∈js r
  ·simp [js] at h1 ⊢;simp [h1]
  ·by_cases h2:n=k
   ·subst h2;simp [js]
   ·have:¬ k∈js ((n,none) :: r):=by simp [js] at h1 ⊢;exact ⟨fun h=>h2 h.symm,h1⟩
    rw [if_neg h1,if_neg h2,if_neg this]
theorem Bt {L L':Nat→Bool} {t:Nat}:∀ (bI:List Rec) (i:Nat) (tm Ms:List (Nat×AV)),cL tm t=cL Ms t →
  (∀ (m:Nat) (x:Rec),bI[m]?=some x→L (i+m)≠L' (i+m)→x.dst≠some t)→cL (D1 L bI i tm) t=cL (D1 L' bI i Ms) t
 | [],_,_,_,h,_=>h
 | x :: r,i,tm,Ms,h,hd=>by
  simp only [D1]
  refine Bt r (i+1) _ _ ?_ (fun m y hy eE=>hd (m+1) y (by simpa using hy) (by rw [show i+(m+1)=i+1+m by omega];exact eE))
  by_cases he:L i=L' i
  ·rw [he]
   split
   ·rw [ml,ml]
    split
    ·rfl
    ·exact h
   ·exact h
  ·have:=hd 0 x (by simp) (by simpa using he)
   have e1:cL (xn tm x.dst x.val) t=cL tm t:=by rw [ml,if_neg this]
   have e2:cL (xn Ms x.dst x.val) t=cL Ms t:=by rw [ml,if_neg this]
   split<;>split<;>simp [e1,e2,h]
theorem zt {L L':Nat→Bool} {k:Nat}:∀ (bI:List Rec) (i:Nat) (σ dr:dp),av σ k=av dr k →
  (∀ (m:Nat) (x:Rec),bI[m]?=some x→L (i+m)≠L' (i+m)→k ∉ js x.upd)→av (rV L bI i σ) k=av (rV L' bI i dr) k
 | [],_,_,_,h,_=>h
 | x :: r,i,σ,dr,h,hd=>by
  simp only [rV]
  refine zt r (i+1) _ _ ?_ (fun m y hy eE=>hd (m+1) y (by simpa using hy) (by rw [show i+(m+1)=i+1+m by omega];exact eE))
  by_cases he:L i=L' i
  ·rw [he]
   split
   ·rw [kI,kI x.upd dr]
    split
    ·rfl
    ·exact h
   ·exact h
  ·have:=hd 0 x (by simp) (by simpa using he)
   have e1:av (eV σ x.upd) k=av σ k:=by rw [kI,if_neg this]
   have e2:av (eV dr x.upd) k=av dr k:=by rw [kI,if_neg this]
   split<;>split<;>simp [e1,e2,h]
theorem I5 {L:Nat→Bool} {i0:Nat} {x:Rec} {t:Nat}:∀ (bI:List Rec) (i:Nat) (tm:List (Nat×AV)),i≤i0→bI[i0 - i]?=some x →
  (∀ (m:Nat) (y:Rec),bI[m]?=some y→i0 < i+m→x.dst=some t→y.dst≠some t) →
  cL (D1 (fun q=>L q || Nat.beq q i0) bI i tm) t=if x.dst=some t then x.val else cL (D1 L bI i tm) t
 | [],i,tm,_,h,_=>by simp at h
 | y :: r,i,tm,hi,h,hd=>by
  simp only [D1]
  by_cases he:i=i0
  ·subst he
   simp at h;subst h
   rw [ki rfl,Bool.or_true]
   have W6:∀ Zb tm2:List (Nat×AV),cL Zb t=cL tm2 t→cL (D1 (fun q=>L q || Nat.beq q i) r (i+1) Zb) t=cL (D1 L r (i+1) tm2) t:=by
    intro Zb tm2 h12
    refine Bt r (i+1) _ _ h12 ?_
    intro m z hz eE
    exfalso
    apply eE
    rw [lO (by omega),Bool.or_false]
   by_cases hx:y.dst=some t
   ·rw [if_pos hx]
    have DF:∀ (l:List Rec) (n:Nat) (tm:List (Nat×AV)) (M:Nat→Bool),(∀ (m:Nat) (z:Rec),l[m]?=some z→z.dst≠some t)→cL (D1 M l n tm) t=cL tm t:=by
     intro l
     induction l with
     | nil=>intro n tm M _;rfl
     | cons z l ih =>
      intro n tm M hz
      simp only [D1]
      rw [ih _ _ _ (fun m u hu=>hz (m+1) u (by simpa using hu))]
      split
      ·rw [ml,if_neg (hz 0 z (by simp))]
      ·rfl
    rw [DF r _ _ _ (fun m z hz=>hd (m+1) z (by simpa using hz) (by omega) hx),ml,if_pos hx]
   ·rw [if_neg hx]
    refine W6 _ _ ?_
    rw [ml,if_neg hx]
    split
    ·rw [ml,if_neg hx]
    ·rfl
  ·rw [lO he,Bool.or_false]
   refine I5 r (i+1) _ (by omega) ?_ (fun m z hz fo=>hd (m+1) z (by simpa using hz) (by omega))
   rw [show i0 - i=(i0 - (i+1))+1 by omega] at h
   simpa using h
theorem Fx {L:Nat→Bool} {i0:Nat} {x:Rec} {k:Nat}:∀ (bI:List Rec) (i:Nat) (σ:dp),i≤i0→bI[i0 - i]?=some x →
  (∀ (m:Nat) (y:Rec),bI[m]?=some y→i0 < i+m→L (i+m)=true→k∈js x.upd→k ∉ js y.upd) →
  av (rV (fun q=>L q || Nat.beq q i0) bI i σ) k=if k∈js x.upd then av (eV [] x.upd) k else av (rV L bI i σ) k
 | [],i,σ,_,h,_=>by simp at h
 | y :: r,i,σ,hi,h,hd=>by
  simp only [rV]
  by_cases he:i=i0
  ·subst he
   simp at h;subst h
   rw [ki rfl,Bool.or_true]
   by_cases hx:k∈js y.upd
   ·rw [if_pos hx]
    have DF:∀ (l:List Rec) (n:Nat) (σ:dp) (M:Nat→Bool),(∀ (m:Nat) (z:Rec),l[m]?=some z→M (n+m)=true→k ∉ js z.upd)→av (rV M l n σ) k=av σ k:=by
     intro l
     induction l with
     | nil=>intro n tm M _;rfl
     | cons z l ih =>
      intro n σ M hz
      simp only [rV]
      rw [ih _ _ _ (fun m u hu hM=>hz (m+1) u (by simpa using hu) (by rw [show n+(m+1)=n+1+m by omega];exact hM))]
      split
      ·rename_i hM
       rw [kI,if_neg (hz 0 z (by simp) (by simpa using hM))]
      ·rfl
    rw [DF r _ _ _ ?_,kI,if_pos hx]
    intro m z hz hM
    rw [lO (by omega),Bool.or_false] at hM
    exact hd (m+1) z (by simpa using hz) (by omega) (by rw [show i+(m+1)=i+1+m by omega];exact hM) hx
   ·rw [if_neg hx]
    refine zt r (i+1) _ _ ?_ ?_
    ·rw [kI,if_neg hx]
     split
     ·rw [kI,if_neg hx]
     ·rfl
    ·intro m z hz eE
     exfalso
     apply eE
     rw [lO (by omega),Bool.or_false]
  ·rw [lO he,Bool.or_false]
   refine Fx r (i+1) _ (by omega) ?_ (fun m z hz fo hL=>hd (m+1) z (by simpa using hz) (by omega) (by rw [show i+(m+1)=i+1+m by omega];exact hL))
   rw [show i0 - i=(i0 - (i+1))+1 by omega] at h
   simpa using h
theorem I6:∀ (bI:List Rec) (i:Nat) (tm:List (Nat×AV)) (L:Nat→Bool),(∀ m,m < bI.length→L (i+m)=true)→D1 L bI i tm=vw bI tm
 | [],_,_,_,_=>rfl
 | x :: r,i,tm,L,h=>by
  simp only [D1,vw]
  have:=h 0 (by simp)
  rw [Nat.add_zero] at this
  rw [this,I6 r (i+1) _ L (fun m hm=>by rw [show i+1+m=i+(m+1) by omega];exact h (m+1) (by simpa using hm))]
theorem Fy:∀ (bI:List Rec) (i:Nat) (σ:dp) (L:Nat→Bool),(∀ m,m < bI.length→L (i+m)=true)→rV L bI i σ=qA bI σ
 | [],_,_,_,_=>rfl
 | x :: r,i,σ,L,h=>by
  simp only [rV,qA]
  have:=h 0 (by simp)
  rw [Nat.add_zero] at this
  rw [this,Fy r (i+1) _ L (fun m hm=>by rw [show i+1+m=i+(m+1) by omega];exact h (m+1) (by simpa using hm))]
theorem Bu:∀ (bI:List Rec) (i:Nat) (tm:List (Nat×AV)) (L:Nat→Bool),(∀ m,m < bI.length→L (i+m)=false)→D1 L bI i tm=tm
 | [],_,_,_,_=>rfl
 | x :: r,i,tm,L,h=>by
  simp only [D1]
  have:=h 0 (by simp)
  rw [Nat.add_zero] at this
  rw [this,Bu r (i+1) _ L (fun m hm=>by rw [show i+1+m=i+(m+1) by omega];exact h (m+1) (by simpa using hm))]
theorem zu:∀ (bI:List Rec) (i:Nat) (σ:dp) (L:Nat→Bool),(∀ m,m < bI.length→L (i+m)=false)→rV L bI i σ=σ
 | [],_,_,_,_=>rfl
 | x :: r,i,σ,L,h=>by
  simp only [rV]
  have:=h 0 (by simp)
  rw [Nat.add_zero] at this
  rw [this,zu r (i+1) _ L (fun m hm=>by rw [show i+1+m=i+(m+1) by omega];exact h (m+1) (by simpa using hm))]
section
variable {P:Program}
theorem CI {nt nk:Nat} {ops:List Oper} {orcs:List (Nat×lW)}:∀ (l:List Oper) (i:Nat) (tm:List (Nat×AV)) (σ:dp) (bI:List Rec),oN P nt ops nk orcs l i tm σ=some bI →
  bI.length=l.length∧∀ (m:Nat) (x:Rec),bI[m]?=some x→∃ o,l[m]?=some o ∧
   xm P nt ops (nk+16 * (i+m)) (D1 (fun q=>Nat.blt q (i+m)) bI i tm) (rV (fun q=>Nat.blt q (i+m)) bI i σ) o (lX orcs (i+m))=some x
 | [],i,tm,σ,bI,h=>by
  simp only [oN,aD] at h
  subst h
  exact ⟨rfl,fun m x hx=>by simp at hx⟩
 | o :: r,i,tm,σ,bI,h=>by
  simp only [oN] at h
  split at h
  ·cases h
  ·rename_i x0 Rf
   simp only [aL] at h
   obtain ⟨l',h2,rfl⟩:=h
   obtain ⟨h3,h4⟩:=CI r (i+1) _ _ l' h2
   refine ⟨by simp [h3],?_⟩
   intro m x hx
   cases m with
   | zero =>
    simp at hx;subst hx
    refine ⟨o,by simp,?_⟩
    simp only [Nat.add_zero,D1,rV]
    have hii:Nat.blt i i=false:=xp (by omega)
    rw [hii]
    rw [Bu,zu]
    ·exact Rf
    ·intro m _;exact xp (by omega)
    ·intro m _;exact xp (by omega)
   | succ m =>
    obtain ⟨o',mZ,he⟩:=h4 m x (by simpa using hx)
    refine ⟨o',by simpa using mZ,?_⟩
    have hii:Nat.blt i (i+(m+1))=true:=NS (by omega)
    simp only [D1,rV]
    rw [hii]
    rw [show i+(m+1)=i+1+m by omega]
    exact he
theorem I7 {nk:Nat} {op:Op} {e e':Operand→AV} {orc:Option lW} {σ:dp} (he:∀ x∈op.operands.toList,e' x=e x):ya P nk σ op e' orc=ya P nk σ op e orc:=by
 unfold ya
 split
 ·unfold Bp
  split
  ·rename_i f args Fk
   have mem:∀ x,x∈f :: args.toList→e' x=e x:=by
    intro x hx
    refine he x ?_
    simp only [Op.operands,Call.operands] at *
    simpa using hx
   rw [mem f (by simp),jB mem,List.map_congr_left (fun x hx=>by rw [mem x (List.mem_cons_of_mem _ hx)]:∀ x∈args.toList,(e' x).strip.1=(e x).strip.1)]
  ·rfl
 ·exact Ut he
theorem CJ {nk:Nat} {op:Op} {e:Operand→AV} {orc:Option lW} {σ dr:dp} {r:R} (h:ya P nk σ op e orc=some r) (hs:∀ k∈r.rds,av dr k=av σ k):ya P nk dr op e orc=some r:=by
 unfold ya at h ⊢
 split at h
 ·unfold Bp at h ⊢
  split at h
  ·split at h
   ·rename_i h1 h2
    cases h
    rw [hs _ (by simp),h1,h2]
   ·cases h
  ·cases h
 ·exact Pp h hs
theorem Ig {nt nk:Nat} {ops:List Oper} {tm Ms:List (Nat×AV)} {σ dr:dp} {o:Oper} {orc:Option lW} {x:Rec} (h:xm P nt ops nk tm σ o orc=some x)
  (ht:∀ t∈Fv ops o,cL Ms t=cL tm t) (hs:∀ k∈x.rds,av dr k=av σ k):xm P nt ops nk Ms dr o orc=some x:=by
 have he:∀ y∈o.op.operands.toList,xl Ms y=xl tm y:=by
  intro y hy
  cases y with
  | tmp t=>exact ht t (by simp only [Fv,List.mem_append];exact .inl (Fw hy))
  | _=>rfl
 unfold xm at h ⊢
 split at h
 ·cases h
 ·split at h
  ·simp only [aL] at h ⊢
   obtain ⟨r,h1,rfl⟩:=h
   exact ⟨r,by rw [I7 he];exact CJ h1 hs,rfl⟩
  ·rename_i j want Y9
   split at h
   ·cases h
   ·rename_i d hd
    have htd:cL Ms d=cL tm d:=ht d (by simp [Fv,Y9,hd])
    rw [htd]
    split at h
    ·split at h
     ·rename_i g r hg h1
      split at h
      ·rename_i hu
       cases h
       rw [I7 he,CJ h1 hs,hg]
       simp [hu]
      ·cases h
     ·cases h
    ·split at h
     ·rename_i g r hg h1
      cases h
      rw [I7 he,CJ h1 hs,hg]
     ·cases h
    ·split at h
     ·rename_i g hg
      exact h
     ·cases h
theorem qB {ops:List Oper} {L:Nat→Bool} (hd:∀ j,L j=true→∀ o,ops[j]?=some o→∀ e∈eO o,L e=true):∀ (n i j:Nat),DK ops n i j=true →
  (∀ o,ops[j]?=some o→∀ e∈eO o,L e=true)→L i=true
 | 0,i,j,h,_=>by simp [DK] at h
 | n+1,i,j,h,hj=>by
  simp only [DK] at h
  split at h
  ·cases h
  ·rename_i o ho
   simp only [List.any_eq_true,Bool.or_eq_true] at h
   obtain ⟨e,he,h | h⟩:=h
   ·rw [← bp h];exact hj o ho e he
   ·exact qB hd n i e h fun o' mZ e' P9=>hd e (hj o ho e he) o' mZ e' P9
def Mt (ops:List Oper) (o p:Oper) (x y:Rec):Prop :=
 (∃ d,x.dst=some d∧d∈Fv ops p)∨(∃ d,y.dst=some d∧d∈Fv ops o)∨(∃ k,k∈js x.upd∧(k∈y.rds∨k∈js y.upd))∨∃ k,k∈x.rds∧k∈js y.upd
theorem zw {l m:List Nat} {k:Nat} (h1:k∈l) (h2:k∈m):meets l m=true:=List.any_eq_true.2 ⟨k,h1,Fu.2 h2⟩
theorem Mt.Af {ops:List Oper} {o p:Oper} {x y:Rec} (h:Mt ops o p x y):Af ops o p x y=true:=by
 unfold Ab.Af
 simp only [Bool.or_eq_true]
 rcases h with ⟨d,h1,h2⟩ | ⟨d,h1,h2⟩ | ⟨k,h1,h2⟩ | ⟨k,h1,h2⟩
 ·exact .inl (.inl (.inl (zw (k:=d) (by simp [h1]) h2)))
 ·exact .inl (.inl (.inr (zw (k:=d) (by simp [h1]) h2)))
 ·exact .inl (.inr (zw h1 (by simpa using h2)))
 ·exact .inr (zw h1 h2)
theorem Mt.symm {ops:List Oper} {o p:Oper} {x y:Rec} (h:Mt ops o p x y):Mt ops p o y x:=by
 rcases h with h | h | ⟨k,h1,h2 | h2⟩ | ⟨k,h1,h2⟩
 ·exact .inr (.inl h)
 ·exact .inl h
 ·exact .inr (.inr (.inr ⟨k,h2,h1⟩))
 ·exact .inr (.inr (.inl ⟨k,h2,.inr h1⟩))
 ·exact .inr (.inr (.inl ⟨k,h2,.inl h1⟩))
theorem count_set:∀ (l:List Bool) (i:Nat),l[i]?=some false→((l.set i true).filter (· == true)).length=(l.filter (· == true)).length+1
 | [],i,h=>by simp at h
 | b :: l,0,h=>by simp at h;subst h;simp
 | b :: l,i+1,h=>by
  have:=count_set l i (by simpa using h)
  cases b<;>simp_all
theorem Mv {E:Env} {rd:Option Nat} {ds:List Deferred} {nt nk:Nat} {ops:Array Oper} {orcs:List (Nat×lW)} {J6:List (Nat×AV)} {Ih:dp} {bI:List Rec} {Q:Exit→Act→World→Prop} (hz:∀ i,Fq P E (lX orcs i)) (hm:E.m0≤nk)
  (Tx:oN P nt ops.toList nk orcs ops.toList 0 J6 Ih=some bI) (hp:aX (wM bI)) (DX:Re ops.toList bI=true)
  (hQ:∀ a' w' S' cC,a'.tmps.size=nt→a'.defers=ds→Good E (qA bI Ih) S' cC w'→(∀ k,nk+16 * ops.size≤k→cC k=none)→(∀ t,ar w' S' cC (a'.tmps.getD t undef) (cL (vw bI J6) t))→Q .normal a' w') :
  ∀ (fuel:Nat) (ao:Array Bool) (a:Act) (w:World) (S:Nat→Prop) (μ:Mu),ao.size=ops.size→a.tmps.size=nt→a.defers=ds →
   (∀ j,ao.getD j false=true→∀ o,ops.toList[j]?=some o→∀ e∈eO o,ao.getD e false=true)→ops.size≤fuel+(ao.toList.filter (· == true)).length →
   Good E (rV (fun j=>ao.getD j false) bI 0 Ih) S μ w→(∀ k,nk≤k→(∀ j,nk+16 * j≤k→k < nk+16 * j+16→ao.getD j false=false)→μ k=none) →
   (∀ t,ar w S μ (a.tmps.getD t undef) (cL (D1 (fun j=>ao.getD j false) bI 0 J6) t)) →
   wpAnyIn (FW rd) 0 P .any ops Q fuel ao a w:=by
 obtain ⟨hlen,oa⟩:=CI ops.toList 0 J6 Ih bI Tx
 simp only [Nat.zero_add] at oa
 have qz:∀ j,j < ops.size→uq ops.toList j=true∧∀ i,i < j→CH ops.toList bI i j=true:=by
  intro j hj
  have:=List.all_eq_true.1 DX j (nI.2 (by simpa using hj))
  simp only [a9] at this
  exact ⟨this.1,fun i hi=>List.all_eq_true.1 this.2 i (nI.2 hi)⟩
 have KH:∀ j o,ops.toList[j]?=some o→∀ e∈eO o,e < j:=by
  intro j o ho e he
  have hj:j < ops.size:=by simpa using (dd.1 ho).1
  have h1:=(qz j hj).1
  unfold uq at h1
  rw [ho] at h1
  exact tq (List.all_eq_true.1 h1 e he)
 have Fz:∀ i j o p x y,i < j→ops.toList[i]?=some o→ops.toList[j]?=some p→bI[i]?=some x→bI[j]?=some y →
   Bs x.dst y.dst=false∧(Af ops.toList o p x y=true→DK ops.toList ops.toList.length i j=true):=by
  intro i j o p x y Ue ho n5 hx hy
  have hj:j < ops.size:=by simpa using (dd.1 n5).1
  have h1:=(qz j hj).2 i Ue
  unfold CH at h1
  rw [ho,n5,hx,hy] at h1
  simp only [a9,Bool.not_eq_true',Bool.or_eq_true] at h1
  refine ⟨h1.1,fun hc=>?_⟩
  rcases h1.2 with h2 | h2
  ·rw [hc] at h2;cases h2
  ·exact h2
 -- what is ready
 have yd:∀ (ao:Array Bool),ao.size=ops.size→∀ i,i∈Region.ready .any ops ao↔(i < ops.size∧ao.getD i false=false∧∀ o,ops.toList[i]?=some o→∀ e∈eO o,ao.getD e false=true):=by
  intro ao EI i
  unfold Region.ready
  simp only [List.mem_filter,nI,a9,Bool.not_eq_true']
  constructor
  ·rintro ⟨h1,h2,h3⟩
   have hl:i < ao.size:=by omega
   refine ⟨h1,?_,?_⟩
   ·simp only [fj,dM hl,Option.getD_some] at h2 ⊢;exact h2
   ·intro o ho e he
    have mZ:ops[i]?=some o:=by simpa using ho
    simp only [mZ,Option.map_some,Option.getD_some,Array.all_eq_true'] at h3
    simp only [eO,List.mem_map,List.mem_filter] at he
    obtain ⟨ed,⟨Rg,O5⟩,rfl⟩:=he
    have:=h3 ed (by simpa using Rg)
    rw [O5] at this
    simpa only [Bool.not_true,Bool.false_or] using this
  ·rintro ⟨h1,h2,h3⟩
   have hl:i < ao.size:=by omega
   refine ⟨h1,?_,?_⟩
   ·simp only [fj,dM hl,Option.getD_some] at h2 ⊢;exact h2
   ·have ho:ops[i]?=some ops[i]:=dM h1
    simp only [ho,Option.map_some,Option.getD_some,Array.all_eq_true']
    intro ed Rg
    simp only [Bool.or_eq_true,Bool.not_eq_true']
    cases hb:Region.binds .any ed with
    | false=>exact .inl rfl
    | true =>
     right
     exact h3 ops[i] (by simp) ed.on (by simp only [eO,List.mem_map,List.mem_filter];exact ⟨ed,⟨by simpa using Rg,hb⟩,rfl⟩)
 intro fuel
 -- the end
 have fin:∀ (ao:Array Bool) (a:Act) (w:World) (S:Nat→Prop) (μ:Mu),ao.size=ops.size→a.tmps.size=nt→a.defers=ds→(∀ j,j < ops.size→ao.getD j false=true) →
   Good E (rV (fun j=>ao.getD j false) bI 0 Ih) S μ w→(∀ k,nk≤k→(∀ j,nk+16 * j≤k→k < nk+16 * j+16→ao.getD j false=false)→μ k=none) →
   (∀ t,ar w S μ (a.tmps.getD t undef) (cL (D1 (fun j=>ao.getD j false) bI 0 J6) t))→Q .normal a w:=by
  intro ao a w S μ EI hs LW Ty g hk ht
  have hL:∀ m,m < bI.length→(fun j=>ao.getD j false) (0+m)=true:=fun m fw=>by
   rw [Nat.zero_add];exact Ty m (by rw [hlen] at fw;simpa using fw)
  rw [Fy bI 0 Ih _ hL] at g
  refine hQ a w S μ hs LW g (fun k ld=>hk k (by omega) fun j hj Qa=>?_) (fun t=>by rw [← I6 bI 0 J6 (fun j=>ao.getD j false) hL];exact ht t)
  have:ao.size≤j:=by omega
  simp [fj,Array.getElem?_eq_none this]
 have Rh:∀ (ao:Array Bool),ao.size=ops.size→(∀ j,ao.getD j false=true→∀ o,ops.toList[j]?=some o→∀ e∈eO o,ao.getD e false=true)→Region.ready .any ops ao=[]→∀ j,j < ops.size→ao.getD j false=true:=by
  intro ao EI LX hr j
  induction j using Nat.strongRecOn with
  | _ j ih =>
   intro hj
   cases hb:ao.getD j false with
   | true=>rfl
   | false =>
    have:j∈Region.ready .any ops ao:=(yd ao EI j).2 ⟨hj,hb,fun o ho e he=>ih e (KH j o ho e he) (by have:=KH j o ho e he;omega)⟩
    rw [hr] at this;simp at this
 induction fuel with
 | zero =>
  intro ao a w S μ EI hs LW LX KI g hk ht
  simp only [wpAnyIn]
  have Ty:∀ j,j < ops.size→ao.getD j false=true:=by
   have hle:(ao.toList.filter (· == true)).length=ao.toList.length:=by
    have h1:=List.length_filter_le (· == true) ao.toList
    simp at h1 KI ⊢;omega
   have h2:=List.length_filter_eq_length_iff.1 hle
   intro j hj
   have hl:j < ao.size:=by omega
   have:=h2 ao[j] (by simp)
   simp only [fj,dM hl,Option.getD_some]
   simpa using this
  refine ⟨?_,fin ao a w S μ EI hs LW Ty g hk ht⟩
  cases hr:Region.ready .any ops ao with
  | nil=>rfl
  | cons i r =>
   have:=(yd ao EI i).1 (by rw [hr];simp)
   rw [Ty i this.1] at this
   simp at this
 | succ fuel ih =>
  intro ao a w S μ EI hs LW LX KI g hk ht
  simp only [wpAnyIn]
  refine ⟨fun hr=>fin ao a w S μ EI hs LW (Rh ao EI LX hr) g hk ht,?_⟩
  intro i hi
  obtain ⟨nH,ze,Cn⟩:=(yd ao EI i).1 hi
  have Ri:i < bI.length:=by rw [hlen];simpa using nH
  have hx:bI[i]?=some bI[i]:=kb Ri
  obtain ⟨o,ho,Pq⟩:=oa i _ hx
  generalize bI[i]=x at hx Pq
  have hpx:aX x.Hb:=by
   have:∀ (l:List Rec) (i:Nat),aX (wM l)→l[i]?=some x→aX x.Hb:=by
    intro l
    induction l with
    | nil=>intro i _ h;simp at h
    | cons y l ih =>
     intro i h hi
     obtain ⟨h1,h2⟩:=aX.app h
     cases i with
     | zero=>simp at hi;exact hi ▸ h1
     | succ i=>exact ih i h2 (by simpa using hi)
   exact this bI i hp hx
  -- an operation that meets this one is carried out just if it stands before it
  have order:∀ (j:Nat) (p:Oper) (y:Rec),j≠i→ops.toList[j]?=some p→bI[j]?=some y→Mt ops.toList o p x y→Nat.blt j i=ao.getD j false:=by
   intro j p y eE Zc Zd hc
   rcases Nat.lt_or_gt_of_ne eE with fo | TJ
   ·rw [NS fo]
    exact (qB (L:=fun j=>ao.getD j false) LX _ j i ((Fz j i p o y x fo Zc ho Zd hx).2 hc.symm.Af) (fun o' mZ e he=>by rw [ho] at mZ;cases mZ;exact Cn o ho e he)).symm
   ·rw [xp (by omega)]
    cases hb:ao.getD j false with
    | false=>rfl
    | true =>
     have:=qB (L:=fun j=>ao.getD j false) LX _ i j ((Fz i j o p x y TJ ho Zc hx Zd).2 hc.Af) (fun o' mZ e he=>LX j hb o' mZ e he)
     have:ao.getD i false=true:=this
     rw [ze] at this;cases this
  have Bv:∀ (m:Nat) (y:Rec),bI[m]?=some y→∃ p,ops.toList[m]?=some p:=fun m y hy=>let ⟨p,n5,_⟩:=oa m y hy;⟨p,n5⟩
  have Rj:xm P nt ops.toList (nk+16 * i) (D1 (fun j=>ao.getD j false) bI 0 J6) (rV (fun j=>ao.getD j false) bI 0 Ih) o (lX orcs i)=some x:=by
   refine Ig Pq ?_ ?_
   ·intro t htl
    refine Bt bI 0 _ _ rfl ?_
    intro m y hy eE W7
    rw [Nat.zero_add] at eE
    obtain ⟨p,n5⟩:=Bv m y hy
    by_cases xj:m=i
    ·subst xj;exact eE (by rw [ze,xp (by omega)])
    ·exact eE (order m p y xj n5 hy (.inr (.inl ⟨t,W7,htl⟩))).symm
   ·intro k hkr
    refine zt bI 0 _ _ rfl ?_
    intro m y hy eE W8
    rw [Nat.zero_add] at eE
    obtain ⟨p,n5⟩:=Bv m y hy
    by_cases xj:m=i
    ·subst xj;exact eE (by rw [ze,xp (by omega)])
    ·exact eE (order m p y xj n5 hy (.inr (.inr (.inr ⟨k,hkr,W8⟩)))).symm
  have Mw:i < ao.size:=by omega
  have Cw:∀ j,(ao.setIfInBounds i true).getD j false=(ao.getD j false || Nat.beq j i):=by
   intro j
   by_cases Ha:j=i
   ·subst Ha
    rw [ki rfl,Bool.or_true]
    simp [fj,Mw]
   ·rw [lO Ha,Bool.or_false]
    simp only [fj]
    rw [Array.getElem?_setIfInBounds_ne (fun h=>Ha h.symm)]
  have Rk:(fun j=>(ao.setIfInBounds i true).getD j false)=fun q=>ao.getD q false || Nat.beq q i:=funext Cw
  have HY:∀ q,q < 16→μ (nk+16 * i+q)=none:=fun q hq=>hk _ (by omega) fun j hj Qa=>by
   have Ha:j=i:=by omega
   rw [Ha];exact ze
  refine CE (by simpa using ho) ht g HY (by omega) (hz i) Rj hpx ?_
  intro v w' S' cC q1 q2 q3 q4
  obtain ⟨d1,d2⟩:=CF Rj
  refine ih _ _ w' S' cC (by simp [EI]) (by rw [yc];exact hs) (by rw [qV];exact LW) ?_ ?_ ?_ ?_ ?_
  ·intro j hj o' mZ e he
   rw [Cw] at hj ⊢
   rw [Bool.or_eq_true] at hj ⊢
   rcases hj with hj | hj
   ·exact .inl (LX j hj o' mZ e he)
   ·have:=bp hj
    subst this
    exact .inl (Cn o' mZ e he)
  ·have hc:=count_set ao.toList i (by
    rw [Array.getElem?_toList,dM Mw]
    simp only [fj,dM Mw,Option.getD_some] at ze
    rw [ze])
   rw [Array.toList_setIfInBounds,hc]
   omega
  ·rw [Rk]
   refine q2.congr ?_
   intro k
   rw [Fx bI 0 Ih (Nat.zero_le _) (by simpa using hx) ?_,kI x.upd (rV (fun j=>ao.getD j false) bI 0 Ih)]
   intro m y hy fo hL W8 W9
   rw [Nat.zero_add] at fo hL
   obtain ⟨p,n5⟩:=Bv m y hy
   have:=order m p y (by omega) n5 hy (.inr (.inr (.inl ⟨k,W8,.inr W9⟩)))
   rw [xp (by omega)] at this
   rw [← this] at hL;cases hL
  ·intro k ld DF
   have hki:k < nk+16 * i∨nk+16 * i+16≤k:=by
    rcases Nat.lt_or_ge k (nk+16 * i) with h1 | h1
    ·exact .inl h1
    ·rcases Nat.lt_or_ge k (nk+16 * i+16) with h2 | h2
     ·have:=DF i h1 h2
      rw [Cw,ki rfl,Bool.or_true] at this
      cases this
     ·exact .inr h2
   refine q3 k hki (hk k ld fun j hj Qa=>?_)
   have:=DF j hj Qa
   rw [Cw,Bool.or_eq_false_iff] at this
   exact this.1
  ·intro t
   rw [Rk,I5 bI 0 J6 (Nat.zero_le _) (by simpa using hx) ?_,Bq a x.dst v t (fun n hn=>by rw [hs];exact d2 n (d1 ▸ hn))]
   ·split
    ·exact q4
    ·exact (ht t).ext q1
   ·intro m y hy fo hxd hyd
    rw [Nat.zero_add] at fo
    obtain ⟨p,n5⟩:=Bv m y hy
    have:=(Fz i m o p x y fo ho n5 hx hy).1
    rw [hxd,hyd] at this
    simp only [Bs] at this
    rw [ki rfl] at this;cases this
end
end Go.Ab
namespace Go.Ab
inductive Wd where
 | ak
 | sl (n:Nat) (g:Nat→List AV)
 | lP (n:Nat)
 | sD (k:Nat)
 | pt (b:Bool) (cs:List AV)
 | nq (st:Option Bool) (d:Wd)
 | unq (d:Wd)
 | agg (ds:List Wd)
 | tup (ds:List Wd)
def KJ:List AV→List AV→Prop
 | [],[]=>True
 | a :: as,b :: bs=>(a=b∨(a=.nil∧∃ f,b=.sl 0 f))∧KJ as bs
 | _,_=>False
theorem KJ.len:∀ {as bs:List AV},KJ as bs→bs.length=as.length
 | [],[],_=>rfl
 | _ :: _,_ :: _,h=>congrArg (·+1) (KJ.len h.2)
theorem KJ.get:∀ {as bs:List AV} {j:Nat} {x:AV},KJ as bs→bs[j]?=some x→∃ a,as[j]?=some a∧(a=x∨(a=.nil∧∃ f,x=.sl 0 f))
 | [],[],_,_,_,hx=>by simp at hx
 | a :: _,b :: _,0,x,h,hx=>by
  have:b=x:=by simpa using hx
  subst this
  exact ⟨a,rfl,h.1⟩
 | _ :: as,_ :: bs,j+1,x,h,hx=>by
  have:=KJ.get (as:=as) (bs:=bs) (j:=j) (x:=x) h.2 (by simpa using hx)
  simpa using this
theorem Xa {w:World} {S:Nat→Prop} {μ:Mu} {v:Value} {a x:AV} (h:a=x∨(a=.nil∧∃ f,x=.sl 0 f)) (hv:ar w S μ v a):ar w S μ v x:=by
 rcases h with rfl | ⟨rfl,f,rfl⟩
 ·exact hv
 ·cases hv
  exact .sl 0 0 0 (fun _ _=>undef) (fun h=>absurd h (by decide)) (fun i h=>absurd h (dN _)) (fun i j h=>absurd h (dN _)) (fun i j c h=>absurd h (dN _)) (aR _)
inductive Od where
 | ak (k:Nat)
 | arr (k:Nat) (n:Nat) (g:Nat→List AV)
 | Tz (k:Nat) (n:Nat) (g:Nat→List AV)
 | var (k:Nat) (ds:List Wd)
 | mp (k:Nat) (cs:List AV)
 | pz (k:Nat) (n:Nat) (l:List (Nat×Nat×Nat)) (b:Nat→List AV)
 | V6 (g:Nat→List AV)
 | nil (sz:Nat) (g:Nat→List AV)
def Od.vf:Od→Option Nat
 | .ak k | .arr k _ _ | .Tz k _ _ | .var k _ | .mp k _ | .pz k _ _ _=>some k
 | .nil _ _ | .V6 _=>none
def bk:List (Nat×Nat×Nat)→(Nat→List AV)→Nat→List AV
 | [],b,m=>b m
 | (i,k,n) :: r,b,m=>if m=i then [.os k 0 n] else bk r b m
def Rl (f:Nat→Option Nat):List (Nat×Nat×Nat)→Option (List (Nat×Nat×Nat))
 | []=>some []
 | (i,k,n) :: r=>match f k,Rl f r with
  | some k',some l=>some ((i,k',n) :: l)
  | _,_=>none
theorem FA {f:Nat→Option Nat} {b:Nat→List AV} {m:Nat} (hb:E8 (b m)=true):∀ {l l':List (Nat×Nat×Nat)},Rl f l=some l'→AV.uL f (bk l b m)=bk l' b m
 | [],l',h=>by simp [Rl] at h;subst h;exact Cs hb
 | (i,k,n) :: r,l',h=>by
  simp only [Rl] at h
  split at h
  ·rename_i k' l2 hk hl
   cases h
   simp only [bk]
   split
   ·simp [AV.uL,AV.jr,hk]
   ·exact FA hb hl
  ·cases h
abbrev xG:=List (Nat×Od)
def ur (m0:Nat):xG→Nat→Option Nat
 | [],k=>match Nat.blt k m0 with
  | true=>some k
  | false=>none
 | (k',d) :: r,k=>match d.vf with
  | some q=>match Nat.beq q k with
   | true=>some k'
   | false=>ur m0 r k
  | none=>ur m0 r k
def uu:xG→Nat→Option Od
 | [],_=>none
 | (k',d) :: r,k=>match Nat.beq k' k with
  | true=>some d
  | false=>uu r k
mutual
def FB (σ:dp) (F:List Nat) (f:Nat→Option Nat) (eN:xG):Wd→AV→Option (List Prop×AV)
 | .ak,x=>some ([],x.jr f)
 | .sl n g,.sl n0 g0=>some ([n0=n,∀ i,i < n→g i=g0 i],.sl n g)
 | .sl n g,.os k off len=>match Rd F k,av σ k with
  | true,some o=>match o.pr with
   | true=>some ([len=n,off+len≤o.len,∀ i,i < n→g i=o.get (bT off i)],.sl n g)
   | false=>none
  | _,_=>none
 | .sl n g,.nil=>some ([n=0],.sl n g)
 | .lP n,.os k off len=>(f k).map fun k'=>([len=n],.os k' off n)
 | .sD k',.nil=>match uu eN k' with
  | some (.nil _ _)=>some ([],.os k' 0 0)
  | some (.V6 _)=>some ([],.os k' 0 0)
  | _=>none
 | .pt b cs,.rp Ze off=>match off with
  | 0=>some ([b=true,cs=Ze],.pt b cs)
  | _+1=>none
 | .pt b cs,.atom v=>match v with
  | .pointer none=>some ([b=false],.pt b cs)
  | _=>none
 | .pt b cs,.pt b0 Ze=>some ([b=b0,b0=true→cs=Ze],.pt b cs)
 | .nq st d,.nq st0 y=>match y with
  | .nq _ _=>none
  | y=>(FB σ F f eN d y).map fun (p,z)=>((st0=st) :: p,.nq st z)
 | .nq st d,.nil=>(FB σ F f eN d .nil).map fun (p,z)=>((st≠some false) :: p,.nq st z)
 | .nq st d,y=>(FB σ F f eN d y).map fun (p,z)=>((st=none) :: p,.nq st z)
 | .unq d,.nq _ y=>FB σ F f eN d y
 | .agg ds,.agg cs=>(Uu σ F f eN ds cs).map fun (p,c)=>(p,.agg c)
 | .tup ds,.tup cs=>(Uu σ F f eN ds cs).map fun (p,c)=>(p,.tup c)
 | _,_=>none
def Uu (σ:dp) (F:List Nat) (f:Nat→Option Nat) (eN:xG):List Wd→List AV→Option (List Prop×List AV)
 | [],[]=>some ([],[])
 | d :: ds,c :: cs=>match FB σ F f eN d c,Uu σ F f eN ds cs with
  | some (p,x),some (q,xs)=>some (p ++ q,x :: xs)
  | _,_=>none
 | _,_=>none
end
def wN (σ:dp) (F:List Nat) (f:Nat→Option Nat) (eN:xG):Od→Option (List Prop×Ob)
 | .ak k=>(av σ k).map fun o=>([],o.jr f)
 | .arr k n g=>match av σ k with
  | some o=>match o.pr && !o.var && Nat.ble 1 o.sz with
   | true=>some ([o.len=n,∀ i,i < n→g i=o.get i],⟨o.var,o.sz,n,true,g⟩)
   | false=>none
  | none=>none
 | .Tz k n g=>match av σ k with
  | some o=>match o.pr && !o.var && Nat.ble 1 o.sz with
   | true=>some ([n≤o.len,∀ i,i < n→KJ (o.get i) (g i)],⟨o.var,o.sz,n,true,g⟩)
   | false=>none
  | none=>none
 | .var k ds=>match av σ k with
  | some o=>match o.var && Nat.beq o.len 1 && Nat.ble 1 o.sz,Uu σ F f eN ds (o.get 0) with
   | true,some (p,cs)=>some (p,⟨true,o.sz,1,AV.lD cs,fun _=>cs⟩)
   | _,_=>none
  | none=>none
 | .mp k cs=>match av σ k with
  | some o=>match Nat.beq o.sz 0 && o.pr && Nat.beq o.len 0 with
   | true=>some ([cs=o.get 0],⟨o.var,o.sz,o.len,true,fun _=>cs⟩)
   | false=>none
  | none=>none
 | .pz k n l b=>match av σ k,Rl f l with
  | some o,some l'=>match !o.var && Nat.ble 1 o.sz with
   | true=>some ([o.len=n,∀ i,i < n→bk l b i=o.get i,∀ i,i < n→E8 (b i)=true],⟨false,o.sz,n,false,bk l' b⟩)
   | false=>none
  | _,_=>none
 | .V6 g=>some ([],⟨false,1,0,false,g⟩)
 | .nil sz g=>match Nat.ble 1 sz with
  | true=>some ([],⟨false,sz,0,true,g⟩)
  | false=>none
def KK (σ:dp) (F:List Nat) (f:Nat→Option Nat) (eN:xG) (tm:List (Nat×AV)):List (Nat×Wd)→Option (List Prop×List (Nat×AV))
 | []=>some ([],[])
 | (t,d) :: r=>match FB σ F f eN d (cL tm t),KK σ F f eN tm r with
  | some (p,x),some (q,l)=>some (p ++ q,(t,x) :: l)
  | _,_=>none
def KL (σ:dp) (F:List Nat) (f:Nat→Option Nat) (eN:xG):xG→Option (List Prop×dp)
 | []=>some ([],[])
 | (k,d) :: r=>match wN σ F f eN d,KL σ F f eN r with
  | some (p,o),some (q,l)=>some (p ++ q,(k,o) :: l)
  | _,_=>none
def I8 (m0 nk:Nat) (F:List Nat) (eN:xG):Bool :=
 mD (eN.map (·.1)) && mD (eN.filterMap (·.2.vf)) && (eN.all fun x=>Nat.blt x.1 nk && match x.2.vf with
  | some k=>!Rd F k && (match Nat.blt k m0 with
   | true=>Nat.beq x.1 k || Nat.ble m0 x.1
   | false=>Nat.ble m0 x.1)
  | none=>Nat.ble m0 x.1) && Nat.ble m0 nk
def CK (m0:Nat) (st:St) (F:List Nat) (rR:List (Nat×Wd)) (eN:xG) (nk:Nat):Option (List Prop×St) :=
 match I8 m0 nk F eN,KK st.jf F (ur m0 eN) eN st.tm rR,KL st.jf F (ur m0 eN) eN eN with
 | true,some (p,tm),some (q,σ)=>some (p ++ q,⟨tm,σ,nk⟩)
 | _,_,_=>none
def Hm (m0:Nat) (μ:Mu) (eN:xG):Mu:=fun k =>
 if k < m0 then μ k else match uu eN k with
  | some (.nil sz _)=>some ⟨0,0,sz⟩
  | some (.V6 _)=>some ⟨0,0,1⟩
  | some d=>d.vf.bind μ
  | none=>none
section
variable {P:Program} {E:Env} {σ:dp} {S:Nat→Prop} {μ:Mu} {w:World} {m0 nk:Nat} {F:List Nat} {eN:xG}
theorem zx:∀ {eN:xG} {k:Nat} {d:Od},uu eN k=some d→(k,d)∈eN
 | [],k,d,h=>by simp [uu] at h
 | (k',d') :: r,k,d,h=>by
  simp only [uu] at h
  split at h
  ·rename_i hb;cases h;rw [bp hb];simp
  ·exact List.mem_cons_of_mem _ (zx h)
theorem qW:∀ {eN:xG} {k:Nat} {d:Od},mD (eN.map (·.1))=true→(k,d)∈eN→uu eN k=some d
 | [],k,d,_,h=>by simp at h
 | (k',d') :: r,k,d,hn,h=>by
  simp only [List.map_cons,mD,a9] at hn
  simp only [uu]
  rcases jq.1 h with h | h
  ·cases h;rw [ki rfl]
  ·have eE:¬ k'=k:=by
    rintro rfl
    have QH:idx (r.map (·.1)) k'=none:=by simpa using hn.1
    obtain ⟨i,hi⟩:=List.getElem?_of_mem (List.mem_map.2 ⟨_,h,rfl⟩:k'∈r.map (·.1))
    exact md _ _ QH i hi
   rw [lO eE]
   exact qW hn.2 h
theorem FC:∀ {eN:xG} {k k':Nat},ur m0 eN k=some k'→(∃ d,(k',d)∈eN∧d.vf=some k)∨(k < m0∧k'=k)
 | [],k,k',h=>by
  simp only [ur] at h
  split at h
  ·rename_i hb;cases h;exact .inr ⟨tq hb,rfl⟩
  ·cases h
 | (q,d) :: r,k,k',h=>by
  simp only [ur] at h
  have step:ur m0 r k=some k'→(∃ d',(k',d')∈(q,d) :: r∧d'.vf=some k)∨(k < m0∧k'=k):=fun h'=>by
   rcases FC h' with ⟨d',h1,h2⟩ | h1
   ·exact .inl ⟨d',List.mem_cons_of_mem _ h1,h2⟩
   ·exact .inr h1
  split at h
  ·rename_i o ho
   split at h
   ·rename_i hb
    cases h
    exact .inl ⟨d,by simp,by rw [ho,bp hb]⟩
   ·exact step h
  ·exact step h
structure Names (m0 nk:Nat) (F:List Nat) (eN:xG):Prop where
 nd:mD (eN.map (·.1))=true
 od:mD (eN.filterMap (·.2.vf))=true
 lt:∀ k d,(k,d)∈eN→k < nk
 fr:∀ k d q,(k,d)∈eN→d.vf=some q→q ∉ F
 lo:∀ k d q,(k,d)∈eN→d.vf=some q→q < m0→k=q∨m0≤k
 hi:∀ k d q,(k,d)∈eN→d.vf=some q→m0≤q→m0≤k
 no:∀ k d,(k,d)∈eN→d.vf=none→m0≤k
 m0:m0≤nk
theorem Rm (h:I8 m0 nk F eN=true):Names m0 nk F eN:=by
 unfold I8 at h
 simp only [a9,Nat.ble_eq] at h
 obtain ⟨⟨⟨h1,h2⟩,h3⟩,h4⟩:=h
 have h3:=fun k d (hm:(k,d)∈eN)=>List.all_eq_true.1 h3 (k,d) hm
 simp only [a9] at h3
 refine ⟨h1,h2,fun k d hm=>tq (h3 k d hm).1,?_,?_,?_,?_,h4⟩
 ·intro k d q hm hq hF
  have:=(h3 k d hm).2
  rw [hq] at this
  simp only [a9,Bool.not_eq_true'] at this
  rw [Fu.2 hF] at this
  cases this.1
 ·intro k d q hm hq fo
  have:=(h3 k d hm).2
  rw [hq] at this
  simp only [a9] at this
  rw [NS fo] at this
  rcases Bool.or_eq_true_iff.1 this.2 with h | h
  ·exact .inl (bp h)
  ·exact .inr (Nat.le_of_ble_eq_true h)
 ·intro k d q hm hq hge
  have:=(h3 k d hm).2
  rw [hq] at this
  simp only [a9] at this
  rw [xp (by omega)] at this
  simpa only [Nat.ble_eq] using this.2
 ·intro k d hm hq
  have:=(h3 k d hm).2
  rw [hq] at this
  simpa only [Nat.ble_eq] using this
theorem EJ (N:Names m0 nk F eN) {k k':Nat} {pl:Place} (h:ur m0 eN k=some k') (hm:μ k=some pl):Hm m0 μ eN k'=some pl:=by
 rcases FC h with ⟨d,h1,h2⟩ | ⟨h1,rfl⟩
 ·unfold Hm
  by_cases fo:k < m0
  ·rcases N.lo k' d k h1 h2 fo with h | h
   ·rw [if_pos (by omega),h];exact hm
   ·rw [if_neg (by omega),qW N.nd h1]
    cases d<;>simp_all [Od.vf]
  ·have:=N.hi k' d k h1 h2 (by omega)
   rw [if_neg (by omega),qW N.nd h1]
   cases d<;>simp_all [Od.vf]
 ·unfold Hm
  rw [if_pos h1];exact hm
theorem AB (N:Names m0 nk F eN) {k k':Nat} {d:Od} (h:(k',d)∈eN) (ho:d.vf=some k):Hm m0 μ eN k'=μ k:=by
 unfold Hm
 by_cases fo:k < m0
 ·rcases N.lo k' d k h ho fo with h1 | h1
  ·rw [if_pos (by omega),h1]
  ·rw [if_neg (by omega),qW N.nd h]
   cases d<;>simp_all [Od.vf]
 ·have:=N.hi k' d k h ho (by omega)
  rw [if_neg (by omega),qW N.nd h]
  cases d<;>simp_all [Od.vf]
theorem NT (N:Names m0 nk F eN) {k':Nat} {g:Nat→List AV} (h:(k',Od.V6 g)∈eN):Hm m0 μ eN k'=some ⟨0,0,1⟩:=by
 have:=N.no k' _ h rfl
 unfold Hm
 rw [if_neg (by omega),qW N.nd h]
theorem NU (N:Names m0 nk F eN) {k' sz:Nat} {g:Nat→List AV} (h:(k',Od.nil sz g)∈eN):Hm m0 μ eN k'=some ⟨0,0,sz⟩:=by
 have:=N.no k' _ h rfl
 unfold Hm
 rw [if_neg (by omega),qW N.nd h]
theorem NV (g:Good E σ S μ w) (N:Names m0 nk F eN):∀ (d:Wd) (x:AV) (v:Value) (ps:List Prop) (y:AV),ar w S μ v x→FB σ F (ur m0 eN) eN d x=some (ps,y)→aX ps →
  ar w (SF μ F σ S) (Hm m0 μ eN) v y:=by
 have mono:∀ {v:Value} {x:AV} {cC:Mu},ar w S cC v x→ar w (SF μ F σ S) cC v x:=fun h=>h.mono (fun _ h=>.inl h) (fun _ _=>rfl) (fun _ _ h=>h)
 intro d
 induction d using Wd.rec (motive_2:=fun ds=>∀ (cs:List AV) (ps:List Prop) (ys:List AV),Uu σ F (ur m0 eN) eN ds cs=some (ps,ys)→aX ps →
   cs.length=ys.length∧∀ (j:Nat) c y v,cs[j]?=some c→ys[j]?=some y→ar w S μ v c→ar w (SF μ F σ S) (Hm m0 μ eN) v y) with
 | ak =>
  intro x v ps y h hw hp
  simp only [FB,aD,aA] at hw
  obtain ⟨rfl,rfl⟩:=hw
  exact (mono h).jr fun k k' pl hk hm=>EJ N hk hm
 | sl n gt =>
  intro x v ps y h hw hp
  cases x<;>simp only [FB] at hw<;>try (cases hw;done)
  case sl n0 g0 =>
   simp only [aD,aA] at hw
   obtain ⟨rfl,rfl⟩:=hw
   obtain ⟨rfl,p2,_⟩:=hp
   cases h with
   | sl b off sz f h1 h2 h3 h4 h5 =>
    exact .sl b off sz f (fun hl=>⟨(h1 hl).1,.inl (h1 hl).2⟩) (fun i hi=>by rw [p2 i hi];exact h2 i hi) h3 (fun i j c hi hc=>mono (h4 i j c hi (by rw [← p2 i hi];exact hc))) h5
  case os k off len =>
   split at hw
   ·rename_i o hF ho
    split at hw
    ·rename_i DD
     simp only [aD,aA] at hw
     obtain ⟨rfl,rfl⟩:=hw
     obtain ⟨rfl,p2,p3,_⟩:=hp
     obtain ⟨pl,c,T,hm,cD⟩:=g.rep.ob k o ho
     cases h with
     | os iB fw h1 h2 h3 =>
      rename_i cap a
      rw [hm] at fw;cases fw
      refine .sl pl.b7 (off * pl.sz) o.sz (fun i j=>(c[(off+i) * o.sz+j]?).getD undef) ?_ (fun i hi=>by rw [p3 i hi,dk];exact cD.tj _ (by omega)) ?_ ?_ h2
      ·intro hl
       exact ⟨h1 (by omega),.inr ⟨k,o,pl,Fu.1 hF,ho,hm,by omega,rfl⟩⟩
      ·intro i j hi hj
       obtain ⟨v,q1,q2⟩:=dh cD (i:=off+i) (by omega) hj
       rw [q1,cD.sz,← cb,q2];rfl
      ·intro i j c' hi jk
       rw [p3 i hi,dk] at jk
       obtain ⟨v,q1,q2⟩:=dh cD (i:=off+i) (by omega) (by have:=(dd.1 jk).1;rwa [cD.tj _ (by omega)] at this)
       rw [q1]
       have:=cD.rep _ j c' v (by omega) jk q1
       rw [DD] at this
       exact mono this
    ·cases hw
   ·cases hw
  case nil =>
   simp only [aD,aA] at hw
   obtain ⟨rfl,rfl⟩:=hw
   obtain ⟨rfl,_⟩:=hp
   cases h
   exact .sl 0 0 0 (fun _ _=>undef) (fun h=>absurd h (by omega)) (fun i h=>absurd h (by omega)) (fun i j h=>absurd h (by omega)) (fun i j c h=>absurd h (by omega)) (aR _)
 | lP n =>
  intro x v ps y h hw hp
  cases x<;>simp only [FB] at hw<;>try (cases hw;done)
  case os k off len =>
   simp only [aL,aA] at hw
   obtain ⟨k',ld,rfl,rfl⟩:=hw
   obtain ⟨rfl,_⟩:=hp
   cases h with
   | os pl hm h1 h2 h3=>exact .os pl (EJ N ld hm) h1 h2 h3
 | sD k' =>
  intro x v ps y h hw hp
  cases x<;>simp only [FB] at hw<;>try (cases hw;done)
  case nil =>
   split at hw
   ·rename_i sz gt Uv
    simp only [aD,aA] at hw
    obtain ⟨rfl,rfl⟩:=hw
    cases h
    exact .os ⟨0,0,sz⟩ (NU N (zx Uv)) (fun h=>absurd h (by omega)) (aR _) (by simp)
   ·rename_i gt Uv
    simp only [aD,aA] at hw
    obtain ⟨rfl,rfl⟩:=hw
    cases h
    exact .os ⟨0,0,1⟩ (NT N (zx Uv)) (fun h=>absurd h (by omega)) (aR _) (by simp)
   ·cases hw
 | pt b cs =>
  intro x v ps y h hw hp
  have other:∀ {b:Bool} {cs:List AV} {v:Value},ar w S μ v (.pt b cs)→ar w (SF μ F σ S) (Hm m0 μ eN) v (.pt b cs):=fun h=>(mono h).pure rfl _
  cases x<;>simp only [FB] at hw<;>try (cases hw;done)
  case rp Ze off =>
   split at hw
   ·simp only [aD,aA] at hw
    obtain ⟨rfl,rfl⟩:=hw
    obtain ⟨rfl,rfl,_⟩:=hp
    exact other (.pt (fun _=>h) (fun h=>by cases h))
   ·cases hw
  case atom v0 =>
   split at hw
   ·simp only [aD,aA] at hw
    obtain ⟨rfl,rfl⟩:=hw
    obtain ⟨rfl,_⟩:=hp
    exact other (.pt (fun h=>by cases h) (fun _=>db h))
   ·cases hw
  case pt b0 Ze =>
   simp only [aD,aA] at hw
   obtain ⟨rfl,rfl⟩:=hw
   obtain ⟨rfl,WD,_⟩:=hp
   cases h with
   | pt h1 h2=>exact other (.pt (fun hb=>by rw [WD hb];exact h1 hb) h2)
 | nq st d ih =>
  intro x v ps y h hw hp
  have fin:∀ {x0:AV} {p:List Prop} {z:AV},ar w S μ v x0→FB σ F (ur m0 eN) eN d x0=some (p,z)→aX p→(st=some true→v=.slice none 0 0)→(st=some false→Qj v=false)→ar w (SF μ F σ S) (Hm m0 μ eN) v (.nq st z) :=
   fun h0 h1 h2 h3 h4=>.nq (ih _ _ _ _ h0 h1 h2) h3 h4
  cases x with
  | nq st0 y0 =>
   have O7:∃ p z,FB σ F (ur m0 eN) eN d y0=some (p,z)∧ps=(st0=st) :: p∧y=.nq st z:=by
    cases y0<;>simp only [FB,aL,aA] at hw<;>first | (cases hw;done) | (obtain ⟨⟨p,z⟩,e1,rfl,rfl⟩:=hw;exact ⟨p,z,e1,rfl,rfl⟩)
   obtain ⟨p,z,e1,rfl,rfl⟩:=O7
   obtain ⟨rfl,vk⟩:=hp
   cases h with
   | nq h0 h1 h2=>exact fin h0 e1 vk h1 h2
  | nil =>
   simp only [FB,aL,aA] at hw
   obtain ⟨⟨p,z⟩,e1,rfl,rfl⟩:=hw
   obtain ⟨eE,vk⟩:=hp
   cases h
   exact fin .nil e1 vk (fun _=>rfl) (fun e=>absurd e eE)
  | _ =>
   simp only [FB,aL,aA] at hw
   obtain ⟨⟨p,z⟩,e1,rfl,rfl⟩:=hw
   obtain ⟨rfl,vk⟩:=hp
   exact fin h e1 vk (fun e=>by cases e) (fun e=>by cases e)
 | unq d ih =>
  intro x v ps y h hw hp
  cases x with
  | nq st0 y0 =>
   simp only [FB] at hw
   cases h with
   | nq h0 _ _=>exact ih _ _ _ _ h0 hw hp
  | _=>simp only [FB] at hw;cases hw
 | agg ds ih =>
  intro x v ps y h hw hp
  cases x<;>simp only [FB] at hw<;>try (cases hw;done)
  case agg cs =>
   simp only [aL,aA] at hw
   obtain ⟨⟨p,c⟩,h1,rfl,rfl⟩:=hw
   obtain ⟨q1,q2⟩:=ih cs p c h1 hp
   cases h with
   | agg h2 h3 =>
    refine .agg (h2.trans q1) fun j y v hy hv=>?_
    have fo:j < cs.length:=by rw [q1];exact (dd.1 hy).1
    exact q2 j _ y v (kb fo) hy (h3 j _ v (kb fo) hv)
 | tup ds ih =>
  intro x v ps y h hw hp
  cases x<;>simp only [FB] at hw<;>try (cases hw;done)
  case tup cs =>
   simp only [aL,aA] at hw
   obtain ⟨⟨p,c⟩,h1,rfl,rfl⟩:=hw
   obtain ⟨q1,q2⟩:=ih cs p c h1 hp
   cases h with
   | tup h2 h3 =>
    refine .tup (h2.trans q1) fun j y v hy hv=>?_
    have fo:j < cs.length:=by rw [q1];exact (dd.1 hy).1
    exact q2 j _ y v (kb fo) hy (h3 j _ v (kb fo) hv)
 | nil =>
  rename_i cs ps ys h hp
  cases cs with
  | nil=>simp [Uu] at h;obtain ⟨_,rfl⟩:=h;exact ⟨rfl,fun j c y v hc=>by simp at hc⟩
  | cons=>simp [Uu] at h
 | cons d ds JZ J0 =>
  rename_i cs ps ys h hp
  cases cs with
  | nil=>simp [Uu] at h
  | cons c cs =>
   simp only [Uu] at h
   split at h
   ·rename_i p x q xs e1 e2
    simp only [aD,aA] at h
    obtain ⟨rfl,rfl⟩:=h
    obtain ⟨tX,vk⟩:=aX.app hp
    obtain ⟨r1,r2⟩:=J0 cs q xs e2 vk
    refine ⟨by simp [r1],?_⟩
    intro j c' y v hc hy hr
    cases j with
    | zero=>simp at hc hy;subst hc hy;exact JZ c v p x hr e1 tX
    | succ j=>exact r2 j c' y v (by simpa using hc) (by simpa using hy) hr
   ·cases h
end
end Go.Ab
