/- Abstract values over the heap of the machine, and functions read off its code (part 3). No conditions. -/
import Derived.Test.YtkejjbiabpdhjaaGreatCb
import Derived.OrdersIn
import Derived.RangeFuncSeq
set_option linter.unusedVariables false
set_option linter.unusedSimpArgs false
namespace Go.Ab
def iz:List (Nat×AV)->Nat->AV
 | [],_=>.qm
 | (k,x) :: r,n=>match Nat.beq k n with
  | true=>x
  | false=>iz r n
def GU (tm:List (Nat×AV)):Operand->AV
 | .tmp t=>iz tm t
 | .const v=>ofConst v
 | .global g=>.atom (.pointer (some ⟨g,0,none⟩))
 | .func f=>.fn (.func f) [] []
def conds (e:Operand->AV):List Operand->List Prop
 | []=>[]
 | x :: r=>(e x).strip.2 ++ conds e r
def ahs (b:Bool):List Prop->List Prop
 | []=>[]
 | p :: ps=>[b=true->bO (p :: ps)]
def aht (mx:Bool) (x y:AV):Option AV :=
 match x,y with
 | .atom (.int k a),.atom (.int k' b)=>match decide (k=k') with
  | true=>some (.atom (.int k (match mx with
   | true=>if b > a then b else a
   | false=>if b < a then b else a)))
  | false=>none
 | _,_=>none
def Ns (mx:Bool):AV->List AV->Option AV
 | a,[]=>some a
 | a,b :: r=>match aht mx a b with
  | some v=>Ns mx v r
  | none=>none
def AQ (ps:List Prop) (x:Option AV):Option R:=x.map fun v=>⟨ps,v,[],[]⟩
def apl (l:List Nat) (k:Nat):Bool:=l.any fun x=>Nat.beq x k
def Jl (P:Program) (nk:Nat) (σ:gp) (e:Operand->AV) (b:Builtin) (a:List Operand) (d:List TypeId):Option R :=
 let s:=fun x=>(e x).strip.1
 let c:=fun xs=>conds e xs
 match b,a,d with
 | .len,[x],[t]=>AQ (c [x]) (ag4 P t (s x))
 | .append,[x,y],[t,t']=>match Nat.beq t t' with
  | true=>(zp P nk σ t (s x) (s y)).map fun (ps,v,rd,u)=>⟨c [x,y] ++ ps,v,rd,u⟩
  | false=>none
 | .min,x :: r,_=>AQ (c (x :: r)) (Ns false (s x) (r.map s))
 | .max,x :: r,_=>AQ (c (x :: r)) (Ns true (s x) (r.map s))
 | _,_,_=>none
def iE (P:Program) (nk:Nat) (σ:gp) (op:Op) (e:Operand->AV) (orc:Option tw):Option R :=
 let s:=fun x=>(e x).strip.1
 let c:=fun xs=>conds e xs
 match op with
 | .move x | .assign x=>some ⟨[],e x,[],[]⟩
 | .pick q a b=>match s q,s a,s b with
  | .atom (.bool h),.atom (.bool x),.atom (.bool y) =>
   some ⟨(e q).strip.2 ++ (ahs h (e a).strip.2 ++ ahs (!h) (e b).strip.2),.atom (.bool (cond h x y)),[],[]⟩
  | _,_,_=>none
 | .alloc T=>(Wl P nk T).map fun (v,u)=>⟨[],v,[],u⟩
 | .box _ x=>(agU nk (s x)).map fun (v,u)=>⟨c [x],v,[],u⟩
 | .build t parts=>AQ (c (parts.toList.map (·.2))) (Wm P t (parts.toList.map fun (i,x)=>(i,s x)))
 | .buildSlice t len parts=>match Nat.beq len 0 && !parts.toList.isEmpty with
  | true=>none
  | false=>(Fw P nk t len (parts.toList.map fun (i,x)=>(i,s x))).map fun (v,u)=>⟨c (parts.toList.map (·.2)),v,[],u⟩
 | .load T a=>(HD P σ T (s a)).map fun (ps,v,rd)=>⟨c [a] ++ ps,v,rd,[]⟩
 | .store T a x=>(Jd P σ T (s a) (s x)).map fun (ps,u,rd)=>⟨c [a,x] ++ ps,.qm,rd,u⟩
 | .nilCheck x=>match s x with
  | .op k i j=>some ⟨c [x],.op k i j,[],[]⟩
  | .rp cs j=>some ⟨c [x],.rp cs j,[],[]⟩
  | .pt b cs=>some ⟨c [x] ++ [b=true],.rp cs 0,[],[]⟩
  | _=>none
 | .binOp o t x y _=>(agS P o t (s x) (s y)).map fun (ps,v)=>⟨c [x,y] ++ ps,v,[],[]⟩
 | .unOp o _ x=>AQ (c [x]) (ao4 o (s x))
 | .convert g dst x=>match aba P g dst (s x) with
  | some v=>some ⟨c [x],v,[],[]⟩
  | none=>(Jh P σ g dst (s x)).map fun (ps,v,rd)=>⟨c [x] ++ ps,v,rd,[]⟩
 | .makeMap _ none=>some ⟨[],.mp nk,[],[(nk,some ⟨false,0,0,true,fun _=>[]⟩)]⟩
 | .lookup t m x ok=>match orc with
  | some o=>(Eb P σ t (s m) (s x) ok o).map fun (ps,v,rd)=>⟨c [m,x] ++ ps,v,rd,[]⟩
  | none=>none
 | .mapUpdate t m x y | .insert t m x y=>match orc with
  | some o=>(Ec P σ t (s m) (s x) (s y) o).map fun (ps,u,rd)=>⟨c [m,x,y] ++ ps,.qm,rd,u⟩
  | none=>none
 | .makeFunc f first cap=>some ⟨c (first.toList ++ cap.toList),.fn f (first.toList.map s) (cap.toList.map s),[],[]⟩
 | .makeSlice t l m=>(abd P nk t (s l) (s m)).map fun (ps,v,u)=>⟨c [l,m] ++ ps,v,[],u⟩
 | .slice t x lo hi none=>(Je P σ t (s x) (lo.map s) (hi.map s)).map fun (ps,v,rd)=>⟨c (x :: (lo.toList ++ hi.toList)) ++ ps,v,rd,[]⟩
 | .fieldAddr T x f=>AQ (c [x]) (HE P T (s x) f)
 | .field T x f=>AQ (c [x]) (Wp P T (s x) f)
 | .indexAddr T x i=>(wg P σ T (s x) (s i)).map fun (ps,v,rd)=>⟨c [x,i] ++ ps,v,rd,[]⟩
 | .index T x i=>(Ws P T (s x) (s i)).map fun (ps,v)=>⟨c [x,i] ++ ps,v,[],[]⟩
 | .extract x i=>match s x with
  | .tup cs=>AQ (c [x]) cs[i]?
  | _=>none
 | .call ⟨.value f,d,_⟩=>match orc with
  | some o=>(QX P nk σ (s f) (d.toList.map s) o).map fun r=>{ r with U6:=r.U6 ++ c (f :: d.toList) }
  | none=>none
 | .call ⟨.builtin b,d,n⟩=>Jl P nk σ e b d.toList n.toList
 | _=>none
section
variable {P:Program} {E:Env} {nk:Nat} {σ:gp} {S:Nat->Prop} {μ:Mu} {w:World}
theorem Jm {e:Operand->AV}:∀ {xs:List Operand},bO (conds e xs)->∀ x∈xs,bO (e x).strip.2
 | [],_,x,a=>by simp at a
 | y :: r,h,x,a=>by
  obtain ⟨b,c⟩:=bO.app h;rcases rJ.1 a with rfl | a
  ·exact b
  ·exact Jm c x a
theorem Vi {b:Bool} {ps:List Prop} (h:bO (ahs b ps)) (hb:b=true):bO ps:=by
 cases ps with
 | nil=>trivial
 | cons p ps=>exact h.1 hb
theorem abn {mx:Bool} {d:Operand->Value} {e:Operand->AV}:∀ (l:List Operand) (c:Value) (a r:AV),aE w S μ c a->(∀ x∈l,aE w S μ (d x) ((e x).strip.1)) ->
  Ns mx a (l.map fun x=>(e x).strip.1)=some r->∃ z,((l.map d).foldlM (match mx with | true=>Builtin.max2 | false=>Builtin.min2) c:Sem Value).run P w=.ok z w/\aE w S μ z r
 | [],c,a,r,f,_,h=>by
  simp only [List.map_nil,Ns,bu] at h;simp_all
 | x :: l,c,a,r,f,g,h=>by
  simp only [List.map_cons,Ns] at h;split at h
  ·rename_i v b;have i:=g x aD;obtain ⟨u,s,n⟩:∃ u,((match mx with | true=>Builtin.max2 | false=>Builtin.min2) c (d x):Sem Value).run P w=.ok u w/\aE w S μ u v:=by
    unfold aht at b;split at b
    ·rename_i k p k' q t hq;rw [hq] at i;have j:=gh i;have m:=gh f;split at b
     ·cases b;cases mx with
      | true=>exact ⟨_,by simp [m,j,Builtin.max2],.atom _⟩
      | false=>exact ⟨_,by simp [m,j,Builtin.min2],.atom _⟩
     ·cases b
    ·cases b
   obtain ⟨z,A,B⟩:=abn l u v r n (fun y o=>g y (by simp [o])) h;simp_all
  ·cases h
theorem amn {v:Value} {b:Bool} {cs:List AV} (h:aE w S μ v (.pt b cs)) (hb:b=true):aE w S μ v (.rp cs 0):=by
 cases h with
 | pt a _=>exact a hb
def ahu (E:Env) (nk:Nat) (σ:gp) (S:Nat->Prop) (μ:Mu) (w:World) (r:R) (K:Value->World->Prop):Prop :=
 ∀ v w' S' gn,Ext w S μ w' S' gn->Good E (js σ r.upd) S' gn w'->(∀ k,(k < nk\/nk+16<=k)->μ k=none->gn k=none)->aE w' S' gn v r.val->K v w'
theorem Vj {a:Operand->Value} {e:Operand->AV} {parts:Array (Nat×Operand)} (he:∀ x∈(parts.toList.map (·.2)),aE w S μ (a x) ((e x).strip.1)) :
  (parts.map fun (i,x)=>(i,a x)).toList.map (·.1)=(parts.toList.map fun (i,x)=>(i,(e x).strip.1)).map (·.1) /\
  ∀ (j:Nat) x y,(parts.toList.map fun (i,x)=>(i,(e x).strip.1))[j]?=some x->(parts.map fun (i,x)=>(i,a x)).toList[j]?=some y->aE w S μ y.2 x.2:=by
 refine ⟨aD,?_⟩;grind
theorem Q4 {a:Operand->Value} {e:Operand->AV} {xs:Array Operand} (he:∀ x∈xs.toList,aE w S μ (a x) ((e x).strip.1)) :
  RL w S μ (xs.map a) (xs.toList.map fun x=>(e x).strip.1):=by
 refine ⟨aD,?_⟩;grind
theorem Zk {o:Oper} {a:Act} {e:Operand->AV} {orc:Option tw} {r:R} {next:Act->World->Prop} {Q:Exit->Act->World->Prop}
  (he:∀ x∈o.op.operands.toList,aE w S μ (a.eval x) (e x)) (g:Good E σ S μ w) (Kn:∀ j,j < 16->μ (nk+j)=none) (hm:E.m0<=nk)
  (K:∀ x,orc=some x->x.GP=true->∀ b,¬ E.fp b) (h:iE P nk σ o.op e orc=some r) (A:bO r.U6) (L:ahu E nk σ S μ w r fun v w'=>next (a.put o.dst v) w'):o.wp P a w next Q:=by
 have V:μ nk=none:=Kn 0 ad
 -- a value without a change
 have G:∀ (s:Sem Value),execOp a.eval o=(do pure (.value (<- s)):Sem Next)->r.upd=[]->(∃ v,s.run P w=.ok v w/\aE w S μ v r.val)->o.wp P a w next Q:=by
  rintro s W hu ⟨v,l,N⟩;unfold Oper.wp;rw [W];simp only [dk,l,fZ,Sem.run_pure];exact L v w S μ (Ext.refl _ _ _) (by rw [hu];exact g) (fun _ _ h=>h) N
 have J:∀ (v:Value),execOp a.eval o=pure (.value v)->r.upd=[]->aE w S μ v r.val->o.wp P a w next Q:=by
  intro v W hu N;unfold Oper.wp;rw [W];exact L v w S μ (Ext.refl _ _ _) (by rw [hu];exact g) (fun _ _ h=>h) N
 have M:∀ (s:Sem Value),execOp a.eval o=(do pure (.value (<- s)):Sem Next)->Step P E nk σ S μ w s r.val r.upd->o.wp P a w next Q:=by
  rintro s W ⟨v,w',S',gn,l,N,X,Y,h5⟩;unfold Oper.wp;rw [W];simp only [dk,l,fZ,Sem.run_pure];exact L v w' S' gn N X (fun k uD=>Y k ad) h5
 have st:∀ (xs:List Operand),bO (conds e xs)->(∀ x∈xs,x∈o.op.operands.toList)->∀ x∈xs,aE w S μ (a.eval x) ((e x).strip.1) :=
  fun xs l N x H=>(he x (N x H)).strip (Jm l x H)
 obtain ⟨dst,op,ty,pos,F,guard⟩:=o;simp only at he h L G J M st ⊢;cases op with
 | move x =>
  simp only [iE,bu] at h;subst h;exact J (a.eval x) rfl rfl (he x (by simp [Op.operands]))
 | assign x =>
  simp only [iE,bu] at h;subst h;exact J (a.eval x) rfl rfl (he x (by simp [Op.operands]))
 | pick q x y =>
  simp only [iE] at h;split at h
  ·rename_i qb xb yb hq H D;cases h;obtain ⟨B,p2⟩:=bO.app A;obtain ⟨p2,p3⟩:=bO.app p2;have n:=(he q (by simp [Op.operands])).strip B;rw [hq] at n;have n:=gh n;refine G (do pure (if <- asBool (a.eval q) then a.eval x else a.eval y)) (by simp [execOp]) rfl ?_;cases qb with
   | true =>
    have e2:=(he x (by simp [Op.operands])).strip (Vi p2 rfl);simp_all [asBool]
   | false =>
    have e2:=(he y (by simp [Op.operands])).strip (Vi p3 rfl);simp_all [asBool]
  ·cases h
 | alloc T =>
  simp only [iE,bE] at h;obtain ⟨⟨v,u⟩,l,rfl⟩:=h;exact M _ rfl (agT g V hm l)
 | box T x =>
  simp only [iE,bE] at h;obtain ⟨⟨v,u⟩,l,rfl⟩:=h;exact M _ rfl (ao5 g V hm (st [x] A (by simp [Op.operands]) x aD) l)
 | build t parts =>
  simp only [iE,AQ,bE] at h;obtain ⟨v,l,rfl⟩:=h;have Z:=Vj (st _ A (by simp [Op.operands]));exact G _ rfl rfl (agV Z.1 Z.2 l)
 | buildSlice t len parts =>
  simp only [iE] at h;split at h
  ·cases h
  ·rename_i Y4;simp only [bE] at h;obtain ⟨⟨v,u⟩,l,rfl⟩:=h;have Z:=Vj (st _ A (by simp [Op.operands]));refine M _ rfl (Uk g V hm Z.1 Z.2 l ?_);intro K;subst K;simp only [Bool.and_eq_false_iff] at Y4;rcases Y4 with h0 | h0
   ·simp at h0
   ·simp only [Bool.not_eq_false',List.isEmpty_iff] at h0;simp [h0]
 | load T x =>
  simp only [iE,bE] at h;obtain ⟨⟨ps,v,rd⟩,l,rfl⟩:=h;obtain ⟨B,p2⟩:=bO.app A;exact G _ rfl rfl (Wn g (st [x] B (by simp [Op.operands]) x aD) l p2)
 | store T x y =>
  simp only [iE,bE] at h;obtain ⟨⟨ps,u,rd⟩,l,rfl⟩:=h;obtain ⟨B,p2⟩:=bO.app A;have s:=st [x,y] B (by simp [Op.operands]);obtain ⟨w',O,U,r3⟩:=agZ g (s x aD) (s y aD) l p2;unfold Oper.wp;have ex:execOp a.eval ⟨dst,.store T x y,ty,pos,F,guard⟩=(do Instr.storeAt T (a.eval x) (a.eval y);pure .skip:Sem Next):=rfl;rw [ex];simp only [dk,O,fZ,Sem.run_pure];exact L undef w' S μ U r3 (fun _ _ h=>h) .qm
 | nilCheck x =>
  simp only [iE] at h;split at h
  ·rename_i k i j H;cases h;have n:=st [x] A (by simp [Op.operands]) x aD;rw [H] at n;cases I:a.eval x with
   | pointer q =>
    rw [I] at n;cases q with
    | none=>cases n
    | some q=>exact J (.pointer (some q)) (by simp [execOp,I]) rfl n
   | _=>rw [I] at n;cases n
  ·rename_i cs j H;cases h;have n:=st [x] A (by simp [Op.operands]) x aD;rw [H] at n;cases I:a.eval x with
   | pointer q =>
    rw [I] at n;cases q with
    | none=>cases n
    | some q=>exact J (.pointer (some q)) (by simp [execOp,I]) rfl n
   | _=>rw [I] at n;cases n
  ·rename_i b cs H;cases h;obtain ⟨A,hb,_⟩:=bO.app A;have n:=st [x] A (by simp [Op.operands]) x aD;rw [H] at n;have n:=amn n hb;cases I:a.eval x with
   | pointer q =>
    rw [I] at n;cases q with
    | none=>cases n
    | some q=>exact J (.pointer (some q)) (by simp [execOp,I]) rfl n
   | _=>rw [I] at n;cases n
  ·cases h
 | binOp o' t x y yt =>
  simp only [iE,bE] at h;obtain ⟨⟨ps,v⟩,l,rfl⟩:=h;obtain ⟨B,p2⟩:=bO.app A;have s:=st [x,y] B (by simp [Op.operands]);exact G (do eqGuard o' t x y (a.eval x) (a.eval y);binOp o' t (a.eval x) (a.eval y)) rfl rfl (ao2 (s x aD) (s y aD) l p2)
 | unOp o' t x =>
  simp only [iE,AQ,bE] at h;obtain ⟨v,l,rfl⟩:=h;exact G _ rfl rfl (arO (st [x] A (by simp [Op.operands]) x aD) l)
 | convert src dt x =>
  simp only [iE] at h;split at h
  ·rename_i v l;cases h;exact G _ rfl rfl (al0 (st [x] A (by simp [Op.operands]) x aD) l)
  ·simp only [bE] at h;obtain ⟨⟨ps,v,rd⟩,l,rfl⟩:=h;obtain ⟨B,p2⟩:=bO.app A;exact M _ rfl (ahm g (st [x] B (by simp [Op.operands]) x aD) l p2)
 | makeMap t hint =>
  cases hint with
  | some _=>simp [iE] at h
  | none =>
   simp only [iE,bu] at h;subst h;have ga:=g.allocMap V hm;refine M (Instr.makeMap t none) rfl ⟨_,_,_,_,Go.RowKit.run_makeMap t w,ga.1,ga.2,fun k uD hn=>by rw [tB _ uD];exact hn,?_⟩;exact aE.mp (μ:=dQ μ nk ⟨w.heap.size,1,0⟩) ⟨w.heap.size,1,0⟩ (by simp [dQ])
 | lookup t m x ok =>
  simp only [iE] at h;split at h
  ·simp only [bE] at h;obtain ⟨⟨ps,v,rd⟩,l,rfl⟩:=h;obtain ⟨B,p2⟩:=bO.app A;have s:=st [m,x] B (by simp [Op.operands]);exact G _ rfl rfl (afq g (s m aD) (s x aD) l p2)
  ·cases h
 | mapUpdate t m x y =>
  simp only [iE] at h;split at h
  ·simp only [bE] at h;obtain ⟨⟨ps,u,rd⟩,l,rfl⟩:=h;obtain ⟨B,p2⟩:=bO.app A;have s:=st [m,x,y] B (by simp [Op.operands]);obtain ⟨w',O,U,r3⟩:=Vg g (s m aD) (s x aD) (s y aD) l p2;unfold Oper.wp;have ex:execOp a.eval ⟨dst,.mapUpdate t m x y,ty,pos,F,guard⟩=(do Instr.mapUpdate t (a.eval m) (a.eval x) (a.eval y);pure .skip:Sem Next):=rfl;rw [ex];simp only [dk,O,fZ,Sem.run_pure];exact L undef w' S μ U r3 (fun _ _ h=>h) .qm
  ·cases h
 | insert t m x y =>
  simp only [iE] at h;split at h
  ·simp only [bE] at h;obtain ⟨⟨ps,u,rd⟩,l,rfl⟩:=h;obtain ⟨B,p2⟩:=bO.app A;have s:=st [m,x,y] B (by simp [Op.operands]);obtain ⟨w',O,U,r3⟩:=Vg g (s m aD) (s x aD) (s y aD) l p2;unfold Oper.wp;have ex:execOp a.eval ⟨dst,.insert t m x y,ty,pos,F,guard⟩=(do Instr.mapUpdate t (a.eval m) (a.eval x) (a.eval y);pure .skip:Sem Next):=rfl;rw [ex];simp only [dk,O,fZ,Sem.run_pure];exact L undef w' S μ U r3 (fun _ _ h=>h) .qm
  ·cases h
 | makeFunc f first cap =>
  simp only [iE,bu] at h;subst h;have s:=st (first.toList ++ cap.toList) A (by simp [Op.operands]);have l1:=Q4 (xs:=first) (fun x H=>s x (by simp only [List.mem_append];exact .inl H));have l2:=Q4 (xs:=cap) (fun x H=>s x (by simp only [List.mem_append];exact .inr H));exact G _ rfl rfl ⟨_,by simp [Instr.makeFunc],.fn l1.1 l2.1 l1.2 l2.2⟩
 | makeSlice t x y =>
  simp only [iE,bE] at h;obtain ⟨⟨ps,v,u⟩,l,rfl⟩:=h;obtain ⟨B,p2⟩:=bO.app A;have s:=st [x,y] B (by simp [Op.operands]);exact M _ rfl (al2 g V hm (s x aD) (s y aD) l p2)
 | slice t x lo hi mx =>
  cases mx with
  | some _=>simp [iE] at h
  | none =>
   simp only [iE,bE] at h;obtain ⟨⟨ps,v,rd⟩,l,rfl⟩:=h;obtain ⟨B,p2⟩:=bO.app A;have s:=st (x :: (lo.toList ++ hi.toList)) B (by
    intro y D;simp only [rJ,List.mem_append,Option.mem_toList] at D;simp only [Op.operands];rcases D with rfl | D | D
    ·simp
    ·simp [D]
    ·simp [D])
   refine G (Instr.sliceAt t (a.eval x) (lo.map a.eval) (hi.map a.eval) none) rfl rfl (ag2 g (s x aD) ?_ ?_ l p2)
   ·refine ⟨aD,?_⟩;intro p q Cp hq;simp only [bE] at Cp hq;obtain ⟨y,D,rfl⟩:=Cp;obtain ⟨z,K,rfl⟩:=hq;rw [D] at K;cases K;exact s y (by simp [D])
   ·refine ⟨aD,?_⟩;intro p q Cp hq;simp only [bE] at Cp hq;obtain ⟨y,D,rfl⟩:=Cp;obtain ⟨z,K,rfl⟩:=hq;rw [D] at K;cases K;exact s y (by simp [D])
 | fieldAddr T x f =>
  simp only [iE,AQ,bE] at h;obtain ⟨v,l,rfl⟩:=h;exact G _ rfl rfl (Wo (st [x] A (by simp [Op.operands]) x aD) l)
 | field T x f =>
  simp only [iE,AQ,bE] at h;obtain ⟨v,l,rfl⟩:=h;exact G _ rfl rfl (ag0 (st [x] A (by simp [Op.operands]) x aD) l)
 | indexAddr T x i =>
  simp only [iE,bE] at h;obtain ⟨⟨ps,v,rd⟩,l,rfl⟩:=h;obtain ⟨B,p2⟩:=bO.app A;have s:=st [x,i] B (by simp [Op.operands]);exact G _ rfl rfl (Wq g (s x aD) (s i aD) l p2)
 | index T x i =>
  simp only [iE,bE] at h;obtain ⟨⟨ps,v⟩,l,rfl⟩:=h;obtain ⟨B,p2⟩:=bO.app A;have s:=st [x,i] B (by simp [Op.operands]);exact G _ rfl rfl (ag1 (s x aD) (s i aD) l p2)
 | extract x i =>
  simp only [iE] at h;split at h
  ·rename_i cs H;simp only [AQ,bE] at h;obtain ⟨v,l,rfl⟩:=h;have n:=st [x] A (by simp [Op.operands]) x aD;rw [H] at n;refine G _ rfl rfl ?_;cases I:a.eval x with
   | tuple vs =>
    rw [I] at n;cases n with
    | tup q1 q2 =>
     have lA:i < vs.size:=by rw [q1];exact (gW.1 l).1
     exact ⟨vs[i],by simp [Instr.extract,mT lA],q2 i v _ l (mT lA)⟩
   | _=>rw [I] at n;cases n
  ·cases h
 | call c =>
  obtain ⟨callee,C,argTypes⟩:=c;cases callee with
  | invoke=>simp [iE] at h
  | value f =>
   simp only [iE] at h;split at h
   ·rename_i o';simp only [bE] at h;obtain ⟨r',l,rfl⟩:=h;obtain ⟨B,p2⟩:=bO.app A;have s:=st (f :: C.toList) p2 (by simp [Op.operands,Call.operands]);have l1:=Q4 (xs:=C) (fun x H=>s x (List.mem_cons_of_mem _ H));obtain ⟨gid,vs,O,U⟩:=abm g Kn hm (s f aD) l1 (K _ rfl) l B;unfold Oper.wp;have ex:execOp a.eval ⟨dst,.call ⟨.value f,C,argTypes⟩,ty,pos,F,guard⟩=(do let d <- Deferred.ofValue (a.eval f) (C.map a.eval);invoke d.target d.args:Sem Next):=rfl;rw [ex,O];simp only [Oper.upon];refine U.mono ?_;rintro e' w' ⟨v,S',gn,rfl,q1,q2,q3,q4⟩;exact L v w' S' gn q1 q2 q3 q4
   ·cases h
  | builtin b =>
   simp only [iE] at h;unfold Jl at h;split at h
   case h_1 x t ha ht =>
    obtain ⟨rfl⟩:C=#[x]:=Array.toList_inj.1 (by rw [ha]);obtain ⟨rfl⟩:argTypes=#[t]:=Array.toList_inj.1 (by rw [ht]);simp only [AQ,bE] at h;obtain ⟨v,l,rfl⟩:=h;have s:=st [x] A (by simp [Op.operands,Call.operands]);exact G (Builtin.len_ #[t] ty #[a.eval x]) (by simp [execOp,resolve,invoke,builtin]) rfl (apb (s x aD) l ty)
   case h_2 x y t t' ha ht =>
    obtain ⟨rfl⟩:C=#[x,y]:=Array.toList_inj.1 (by rw [ha]);obtain ⟨rfl⟩:argTypes=#[t,t']:=Array.toList_inj.1 (by rw [ht]);split at h
    ·rename_i hb;have hb:=dp hb;subst hb;simp only [bE] at h;obtain ⟨⟨ps,v,rd,u⟩,l,rfl⟩:=h;obtain ⟨B,p2⟩:=bO.app A;have s:=st [x,y] B (by simp [Op.operands,Call.operands]);exact M (Builtin.append_ #[t,t] ty #[a.eval x,a.eval y]) (by simp [execOp,resolve,invoke,builtin]) (U5 g V hm (s x aD) (s y aD) l p2)
    ·cases h
   case h_3 x r ha =>
    simp only [AQ,bE] at h;obtain ⟨v,l,rfl⟩:=h;have s:=st (x :: r) A (by intro y D;simpa [Op.operands,Call.operands,ha] using D);refine G (Builtin.min_ argTypes ty (C.map a.eval)) (by simp [execOp,resolve,invoke,builtin]) rfl ?_;obtain ⟨z,X,Y⟩:=abn (P:=P) r (a.eval x) _ v (s x aD) (fun y D=>s y (by simp [D])) l;refine ⟨z,?_,Y⟩;unfold Builtin.min_;rw [Array.toList_map,ha,List.map_cons];exact X
   case h_4 x r ha =>
    simp only [AQ,bE] at h;obtain ⟨v,l,rfl⟩:=h;have s:=st (x :: r) A (by intro y D;simpa [Op.operands,Call.operands,ha] using D);refine G (Builtin.max_ argTypes ty (C.map a.eval)) (by simp [execOp,resolve,invoke,builtin]) rfl ?_;obtain ⟨z,X,Y⟩:=abn (P:=P) r (a.eval x) _ v (s x aD) (fun y D=>s y (by simp [D])) l;refine ⟨z,?_,Y⟩;unfold Builtin.max_;rw [Array.toList_map,ha,List.map_cons];exact X
   case h_5=>cases h
 | _=>simp [iE] at h
def auJ:Option tw->Option tw
 | some o=>match o.same with
  | false=>some o
  | true=>none
 | none=>none
def Jn (P:Program) (σ:gp) (T:TypeId) (a x:AV):Option (List Prop×AV×List Nat) :=
 match a,P.underlying T,Ct P T with
 | .op k i j,some d,some n=>match d.isRow,Nat.beq n 1,aR σ k with
  | false,true,some o=>some ([i < o.len,(o.get i)[j]?=some x],x,[k])
  | _,_,_=>none
 | _,_,_=>none
theorem ahv (g:Good E σ S μ w) {T:TypeId} {a x:AV} {b:Value} (e:aE w S μ b a) {ps:List Prop} {y:AV} {rd:List Nat} (h:Jn P σ T a x=some (ps,y,rd)) (f:bO ps) :
  ∃ v,(Instr.loadAt T b).run P w=.ok v w/\aE w S μ v y:=by
 unfold Jn at h;split at h
 case h_2=>cases h
 rename_i k i j d n l m;split at h
 case h_2=>cases h
 rename_i o p q r;simp only [bu,bk] at h;obtain ⟨rfl,rfl,rfl⟩:=h;obtain ⟨hi,c,_⟩:=f;have s:=dp q;subst s;refine Wn (T:=T) g e (ps:=[i < o.len]) (rd:=[k]) ?_ ⟨hi,trivial⟩;unfold HD;simp only [l,m,r,p];unfold ldv;have:Nat.ble (j+1) (o.get i).length=true:=by rw [Nat.ble_eq];exact (gW.1 c).1
 rw [this];simp [c]
def Wz (σ:gp) (k q i:Nat):Option (List Prop×Ae) :=
 match aR σ k,aR σ q with
 | some o,some a=>match !o.var && !a.var && a.pr && Nat.ble 1 a.sz && !Nat.beq k q with
  | true=>some ([i < o.len,o.get i=[.os q 0 a.len],∀ j,j < a.len->uE (a.get j)=true],[(q,none),(k,some ⟨false,o.sz,o.len,false,fun m=>if m=i then [.mr a.sz a.len a.get] else o.get m⟩)])
  | false=>none
 | _,_=>none
theorem Vk {k q i:Nat} {ps:List Prop} {u:Ae} (h:Wz σ k q i=some (ps,u)) (b:bO ps) (g:Good E σ S μ w):Good E (js σ u) S μ w:=by
 unfold Wz at h;split at h
 case h_2=>cases h
 rename_i o c d a;split at h
 case h_2=>cases h
 rename_i hb;simp only [bu,bk] at h;obtain ⟨rfl,rfl⟩:=h;simp only [cy,Bool.not_eq_true',Nat.ble_eq] at hb;obtain ⟨⟨⟨⟨f,l⟩,m⟩,n⟩,y⟩:=hb;obtain ⟨p,p2,r,_⟩:=b;refine g.cls d a (fun e=>?_) f l m n p p2 fun j=>?_
 ·simp_all
 ·cases s:rowOf c j with
  | none=>rfl
  | some x =>
   obtain ⟨_,t,v⟩:=gF s;have:=r j t;rw [v] at this;cases this
def ar5:AV->Nat
 | .os _ _ len=>len
 | _=>0
def Bs (P:Program) (nk:Nat) (σ:gp) (t:TypeId) (s x:AV) (orc:tw):Option (List Prop×AV×List Nat×Ae) :=
 match orc.ks,zp P nk σ t s x with
 | [q],some (ps,v,rd,u)=>match apl (rd ++ u.map (·.1)) q,Wz (js σ u) nk q (ar5 s) with
  | false,some (a,b)=>some (ps ++ a,v,q :: rd,u ++ b)
  | _,_=>none
 | _,_=>none
theorem abo (g:Good E σ S μ w) (b:μ nk=none) (hm:E.m0<=nk) {t ty:TypeId} {s x:AV} {orc:tw} {vs a:Value} (c:aE w S μ vs s) (d:aE w S μ a x) {ps:List Prop} {val:AV} {rd:List Nat} {upd:Ae}
  (h:Bs P nk σ t s x orc=some (ps,val,rd,upd)) (e:bO ps):Step P E nk σ S μ w (Builtin.append_ #[t,t] ty #[vs,a]) val upd:=by
 unfold Bs at h;split at h
 case h_2=>cases h
 rename_i q o v f u hq i;split at h
 case h_2=>cases h
 rename_i p2 p _ r;simp only [bu,bk] at h;obtain ⟨rfl,rfl,rfl,rfl⟩:=h;obtain ⟨j,y⟩:=bO.app e;obtain ⟨v',w',S',gn,k,l,z,m,n⟩:=U5 (ty:=ty) g b hm c d i j;exact ⟨v',w',S',gn,k,l,by grind [kE,Vk],m,n⟩
def Q5 (P:Program) (T:TypeId) (x lo hi mx:AV):Option (List Prop×AV×List Nat) :=
 match P.underlying T,x,lo,hi,mx with
 | some (.slice e),.os _ _ len,.atom (.int _ l),.atom (.int _ h),.atom (.int _ m)=>match Ct P e with
  | some _=>some ([0<=l/\l<=h/\h<=m/\m<=len],.qm,[])
  | none=>none
 | _,_,_,_,_=>none
theorem afs {T:TypeId} {x lo hi mx:AV} {v b c d:Value} (f:aE w S μ v x) (g:aE w S μ b lo) (i:aE w S μ c hi) (hm:aE w S μ d mx) {ps:List Prop} {r:AV} {rd:List Nat}
  (h:Q5 P T x lo hi mx=some (ps,r,rd)) (j:bO ps):∃ u,(Instr.sliceAt T v (some b) (some c) (some d)).run P w=.ok u w/\aE w S μ u r:=by
 unfold Q5 at h;split at h
 case h_2=>cases h
 rename_i e k off len n l o h' p m hu;split at h
 case h_2=>cases h
 rename_i sz q;simp only [bu,bk] at h;obtain ⟨rfl,rfl,rfl⟩:=h;obtain ⟨⟨C,p2,D,E⟩,_⟩:=j;have s:=gh g;have t:=gh i;have y:=gh hm;subst s t y;cases f with
 | os pl F G H I =>
  rename_i cap a;have z:0<=m/\m<=(cap:Int):=ad;have A:0<=h'/\h'<=(m.toNat:Int):=ad;have B:0<=l/\l<=(h'.toNat:Int):=ad;have hb:(Instr.sliceBounds true len cap (some (.int n l)) (some (.int o h')) (some (.int p m))).run P w=.ok (l.toNat,h'.toNat,m.toNat) w:=by
   simp only [Instr.sliceBounds,Instr.sliceBound,asIntOf,dk,Sem.run_pure,fZ,Sem.run_ite,if_pos z,if_pos A,if_pos B]
  exact ⟨.slice (if m.toNat=l.toNat then a else a.map (·.add (l.toNat * sz))) (h'.toNat - l.toNat) (m.toNat - l.toNat),by simp [Instr.sliceAt,Instr.slice,run_underlying hu,hb,jg q],.qm⟩
def Ed (P:Program) (σ:gp) (T:TypeId) (x:AV) (lo hi:Option AV):Option (List Prop×AV×List Nat) :=
 match P.underlying T,x with
 | some (.slice e),.os k off len=>match Ct P e,bound 0 lo,bound len hi,aR σ k with
  | some sz,some l,some h,some o=>match Nat.beq o.sz sz with
   | true=>some ((l<=h/\off+h<=o.len) :: (Df lo ++ Df hi),.os k (eu off l) (h - l),[k])
   | false=>none
  | _,_,_,_=>none
 | _,_=>none
theorem aft (g:Good E σ S μ w) {T:TypeId} {x:AV} {v:Value} (s:aE w S μ v x) {lo hi:Option AV} {vlo vhi:Option Value}
  (d:(vlo=none↔lo=none)/\∀ a b,lo=some a->vlo=some b->aE w S μ b a)
  (f:(vhi=none↔hi=none)/\∀ a b,hi=some a->vhi=some b->aE w S μ b a) {ps:List Prop} {r:AV} {rd:List Nat} (h:Ed P σ T x lo hi=some (ps,r,rd)) (t:bO ps) :
  ∃ u,(Instr.sliceAt T v vlo vhi none).run P w=.ok u w/\aE w S μ u r:=by
 unfold Ed at h;split at h
 case h_2=>cases h
 rename_i e k off len hu;split at h
 case h_2=>cases h
 rename_i sz l m o y z i A;split at h
 case h_2=>cases h
 rename_i hb;have hb:=dp hb;simp only [bu,bk] at h;obtain ⟨rfl,rfl,rfl⟩:=h;obtain ⟨⟨B,p2⟩,C⟩:=t;obtain ⟨pl,c,F,hm,n⟩:=g.rep.ob k o A;cases s with
 | os oG p D G H =>
  rename_i cap a;rw [hm] at p;cases p;have q:m<=cap:=by have:=n.len;omega
  have j:=Fx (P:=P) (w:=w) true (cap:=cap) d f z i B q C;refine ⟨.slice (if cap=l then a else a.map (·.add (l * sz))) (m - l) (cap - l),?_,?_⟩
  ·simp [Instr.sliceAt,Instr.slice,run_underlying hu,j,jg y]
  ·refine .os pl hm ?_ ad (by rw [fw];omega);intro q;have:=D ad;subst this;rw [if_neg ad];simp only [Option.map_some,Addr.add_mid];rw [fw,n.sz,hb,eS]
def Nt (P:Program) (σ:gp) (t:TypeId) (s x:AV):Option (List Prop×AV×List Nat×Ae) :=
 match sG P t with
 | some e=>match Ct P e,Ft P e,AP P e,s,x with
  | some sz,some _,some _,.os k 0 len,.os k' off n=>match Nat.beq k k',aR σ k with
   | true,some o=>match Nat.ble 1 sz && Nat.beq o.sz sz && !o.var with
    | true=>some ([0 < o.len/\len+n<=o.len,off+n<=o.len,∀ i,i < o.len->AV.xe (o.get i)=true],.os k 0 (len+n),[k],
      [(k,some ⟨false,sz,o.len,o.pr,fun m=>if m < len then o.get m else if m < len+n then o.get (eu off (m - len)) else o.get m⟩)])
    | false=>none
   | _,_=>none
  | _,_,_,_,_=>none
 | none=>none
theorem Vl {o:Ob} (h:∀ i,i < o.len->AV.xe (o.get i)=true) (i:Nat):rowOf o i=none:=by
 cases a:rowOf o i with
 | none=>rfl
 | some x =>
  obtain ⟨_,b,c⟩:=gF a;have:=h i b;rw [c] at this;cases this
theorem amo (g:Good E σ S μ w) {t ty:TypeId} {s x:AV} {vs J:Value} (Y:aE w S μ vs s) (f:aE w S μ J x) {ps:List Prop} {val:AV} {rd:List Nat} {upd:Ae}
  (h:Nt P σ t s x=some (ps,val,rd,upd)) (Z:bO ps):Step P E nk σ S μ w (Builtin.append_ #[t,t] ty #[vs,J]) val upd:=by
 unfold Nt at h;split at h
 case h_2=>cases h
 rename_i e he;have he:=pN he;split at h
 case h_2=>cases h
 rename_i sz b z k len k' off n w7 hb hz;obtain ⟨d,Ql,rfl,rfl,hze⟩:=Fu w7 hb hz;split at h
 case h_2=>cases h
 rename_i o r D;have r:=dp r;subst r;split at h
 case h_2=>cases h
 rename_i K;simp only [cy,Nat.ble_eq,Bool.not_eq_true'] at K;obtain ⟨⟨b1,l⟩,L1⟩:=K;have l:=dp l;simp only [bu,bk] at h;obtain ⟨rfl,rfl,rfl,rfl⟩:=h;obtain ⟨⟨p0,p1⟩,p2,A,_⟩:=Z;obtain ⟨news,y⟩:=HG (P:=P) (sz:=d.size) (n:=n) (gt:=fun i=>o.get (eu off i)) (pr:=o.pr) (ps:=[off+n<=o.len,∀ i,i < n->AV.xe (o.get (eu off i))=true]) (rd:=[k]) g f
  (by unfold D7;simp only [D,xc l]) ⟨p2,fun i hi=>A _ (by rw [fw];omega),trivial⟩
 obtain ⟨pl,c,T',F,p⟩:=g.rep.ob k o D;cases Y with
 | os oG L B G h3 =>
  rename_i cap a;rw [F] at L;cases L;have hol:=p.len;have M:=B ad;simp only [Nat.zero_mul] at M;subst M;have N:0 < pl.cap:=ad;have O:len+n<=cap:=ad;have Hi:len * d.size+news.length<=c.size:=by
   have e1:(len+n) * d.size<=pl.cap * d.size:=dU _ ad;have Q:=p.cap;rw [l] at Q;rw [y.size,<- eS];omega
  have R:=QO (P:=P) (w:=w) (ty:=ty) he Ql ((p.eC N).trans (by rw [kr ad])) y.len y.cells y.one O Hi;generalize T:(c.toList.take (len * d.size) ++ news ++ c.toList.drop (len * d.size+news.length)).toArray=C at R;have U:(c.toList.take (len * d.size)).length=len * d.size:=by simp;omega
  have QN:C.size=c.size:=by
   rw [<- T];simp;omega
  have yw:∀ m,C[m]?=if m < len * d.size then c[m]? else if m < len * d.size+news.length then news[m - len * d.size]? else c[m]?:=by
   intro m;rw [<- T];simp only [List.getElem?_toArray]
   by_cases B:m < len * d.size
   ·rw [mg (by simp;omega),mg ad,xa,if_pos B,if_pos B];simp
   ·rw [if_neg B]
    by_cases G:m < len * d.size+news.length
    ·rw [mg (by simp;omega),o5 ad,U,if_pos G]
    ·rw [if_neg G,o5 (by simp;omega)];simp only [rI,U,vz];rw [show len * d.size+news.length+(m - (len * d.size+news.length))=m by omega];simp
  have V:∀ i,i < o.len->(if i < len then o.get i else if i < len+n then o.get (eu off (i - len)) else o.get i).length=d.size:=by
   intro i hi;split
   ·rw [p.Co i hi,l]
   ·split
    ·rw [p.Co _ (by rw [fw];omega),l]
    ·rw [p.Co i hi,l]
  have Ud:=Vl A;have W:=g.write D F N p ad ⟨false,d.size,o.len,o.pr,fun m=>if m < len then o.get m else if m < len+n then o.get (eu off (m - len)) else o.get m⟩ C l.symm QN p.len V (by
   intro i j x v hi f q;have hi:i < o.len:=hi;have f:(if i < len then o.get i else if i < len+n then o.get (eu off (i - len)) else o.get i)[j]?=some x:=f;have hj:j < d.size:=by
    have e1:=(gW.1 f).1;have Q:=V i hi;omega
   have q:C[i * d.size+j]?=some v:=q;rw [yw] at q
   by_cases H:i < len
   ·have X:(i+1) * d.size<=len * d.size:=dU _ H;rw [eS] at X;rw [if_pos ad] at q;rw [if_pos H] at f;exact p.rep i j x v hi f (by rw [l];exact q)
   ·have X:len * d.size<=i * d.size:=dU _ ad;rw [if_neg ad,y.size] at q;rw [if_neg H] at f
    by_cases I:i < len+n
    ·have u:(i+1) * d.size<=(len+n) * d.size:=dU _ I;rw [eS,eS] at u;rw [if_pos ad] at q;rw [if_pos I] at f;refine y.rep (i - len) j x v ad f ?_;rw [<- q,Nat.sub_mul];congr 1;omega
    ·have u:(len+n) * d.size<=i * d.size:=dU _ ad;rw [eS] at u;rw [if_neg ad] at q;rw [if_neg I] at f;exact p.rep i j x v hi f (by rw [l];exact q))
   (fun i x f=>absurd f (by
    rw [Vl (o:=⟨false,d.size,o.len,o.pr,fun m=>if m < len then o.get m else if m < len+n then o.get (eu off (m - len)) else o.get m⟩) (fun i hi=>by
     show AV.xe (if i < len then o.get i else if i < len+n then o.get (eu off (i - len)) else o.get i)=true;have hi:i < o.len:=hi;split
     ·exact A i hi
     ·split
      ·exact A _ (by rw [fw];omega)
      ·exact A i hi)]
    intro h;cases h))
  exact ⟨_,_,S,μ,R,W.1,W.2,fun _ _ h=>h,aE.os pl F aD O h3⟩
theorem ahw {o:Ob} (h:∀ i,i < o.len->uE (o.get i)=true) (i:Nat):rowOf o i=none:=by
 cases a:rowOf o i with
 | none=>rfl
 | some x =>
  obtain ⟨_,b,c⟩:=gF a;have:=h i b;rw [c] at this;cases this
theorem Zl {l:List AV} (h:AV.xe l=true):uE l=true:=by
 induction l with
 | nil=>rfl
 | cons x l a =>
  simp only [AV.xe,cy] at h;simp only [uE,cy];refine ⟨?_,a h.2⟩;cases x<;>first | rfl | cases h.1
theorem Good.ahx (g:Good E σ S μ w) {k:Nat} {o:Ob} (J:aR σ k=some o) {pl:Place} {c:Array Value} {K:TypeId} (L:μ k=some pl) (d:kY w S μ o pl c K) (M:0 < pl.cap) {sz p n:Nat}
  {gt:Nat->List AV} {pr:Bool} {v:Value} {news:List Value} (q:Src P w S μ sz v n gt pr news) (l:o.sz=sz) (W:1<=sz) (N:p+n<=o.len) (B:∀ i,i < o.len->uE (o.get i)=true) {e:Array Value}
  (C:(c.toList.take (p * sz) ++ news ++ c.toList.drop (p * sz+news.length)).toArray=e):p * sz+news.length<=c.size /\
  Ext w S μ (w.setRow pl.eC e) S μ/\Good E (sset σ k ⟨false,sz,o.len,o.pr && pr,fun m=>if m < p then o.get m else if m < p+n then gt (m - p) else o.get m⟩) S μ (w.setRow pl.eC e):=by
 have O:=d.len;have Q:p * sz+news.length<=c.size:=by
  have R:(p+n) * sz<=pl.cap * sz:=dU _ ad;have D:=d.cap;rw [l] at D;rw [q.size,<- eS];omega
 have F:(c.toList.take (p * sz)).length=p * sz:=by simp;omega
 have T:e.size=c.size:=by
  rw [<- C];simp;omega
 have U:∀ m,e[m]?=if m < p * sz then c[m]? else if m < p * sz+news.length then news[m - p * sz]? else c[m]?:=by
  intro m;rw [<- C];simp only [List.getElem?_toArray]
  by_cases t:m < p * sz
  ·rw [mg (by simp;omega),mg ad,xa,if_pos t,if_pos t];simp
  ·rw [if_neg t]
   by_cases G:m < p * sz+news.length
   ·rw [mg (by simp;omega),o5 ad,F,if_pos G]
   ·rw [if_neg G,o5 (by simp;omega)];simp only [rI,F,vz];rw [show p * sz+news.length+(m - (p * sz+news.length))=m by omega];simp
 have H:∀ i,i < o.len->(if i < p then o.get i else if i < p+n then gt (i - p) else o.get i).length=sz:=by
  intro i hi;split
  ·rw [d.Co i hi,l]
  ·split
   ·exact q.Co _ ad
   ·rw [d.Co i hi,l]
 have r:∀ {u:Value} {x:AV},aE w S (if o.pr then lI else μ) u x->aE w S (if (o.pr && pr)=true then lI else μ) u x:=by
  intro u x s;cases V:pr
  ·rw [Bool.and_false];exact l7 s
  ·rw [Bool.and_true];exact s
 have y:∀ {u:Value} {x:AV},aE w S (if pr then lI else μ) u x->aE w S (if (o.pr && pr)=true then lI else μ) u x:=by
  intro u x s;cases V:o.pr
  ·rw [Bool.false_and];exact l7 s
  ·rw [Bool.true_and];exact s
 refine ⟨Q,g.write J L M d ad ⟨false,sz,o.len,o.pr && pr,fun m=>if m < p then o.get m else if m < p+n then gt (m - p) else o.get m⟩ e l.symm T d.len H (by
   intro i j x v hi a b;have hi:i < o.len:=hi;have a:(if i < p then o.get i else if i < p+n then gt (i - p) else o.get i)[j]?=some x:=a;have X:j < sz:=by
    have R:=(gW.1 a).1;have D:=H i hi;omega
   have b:e[i * sz+j]?=some v:=b;rw [U] at b
   by_cases z:i < p
   ·have I:(i+1) * sz<=p * sz:=dU _ z;rw [eS] at I;rw [if_pos ad] at b;rw [if_pos z] at a;exact r (d.rep i j x v hi a (by rw [l];exact b))
   ·have I:p * sz<=i * sz:=dU _ ad;rw [if_neg ad,q.size] at b;rw [if_neg z] at a
    by_cases A:i < p+n
    ·have f:(i+1) * sz<=(p+n) * sz:=dU _ A;rw [eS,eS] at f;rw [if_pos ad] at b;rw [if_pos A] at a;refine y (q.rep (i - p) j x v ad a ?_);rw [<- b,Nat.sub_mul];congr 1;omega
    ·have f:(p+n) * sz<=i * sz:=dU _ ad;rw [eS] at f;rw [if_neg ad] at b;rw [if_neg A] at a;exact r (d.rep i j x v hi a (by rw [l];exact b)))
   (fun i x a=>absurd a (by
    rw [ahw (o:=⟨false,sz,o.len,o.pr && pr,fun m=>if m < p then o.get m else if m < p+n then gt (m - p) else o.get m⟩) (fun i hi=>by
     show uE (if i < p then o.get i else if i < p+n then gt (i - p) else o.get i)=true;have hi:i < o.len:=hi;split
     ·exact B i hi
     ·split
      ·exact Zl (q.al8 _ ad)
      ·exact B i hi)]
    intro h;cases h))⟩
def Nu (P:Program) (σ:gp) (t:TypeId) (s x:AV):Option (List Prop×AV×List Nat×Ae) :=
 match sG P t with
 | some e=>match Ct P e,s,x with
  | some sz,.os k a nd,.os k' b c=>match Nat.beq k k',aR σ k with
   | true,some o=>match Nat.ble 1 sz && Nat.beq o.sz sz && !o.var with
    | true=>some ([nd<=c,a+nd<=o.len,b+nd<=o.len,∀ i,i < o.len->AV.xe (o.get i)=true],.atom (.int .i64 nd),[k],
      [(k,some ⟨false,sz,o.len,o.pr,fun m=>if m < a then o.get m else if m < a+nd then o.get (eu b (m - a)) else o.get m⟩)])
    | false=>none
   | _,_=>none
  | _,_,_=>none
 | none=>none
theorem amp (g:Good E σ S μ w) {t t' ty:TypeId} {s x:AV} {vs F:Value} (T:aE w S μ vs s) (U:aE w S μ F x) {ps:List Prop} {val:AV} {rd:List Nat} {upd:Ae}
  (h:Nu P σ t s x=some (ps,val,rd,upd)) (V:bO ps):Step P E nk σ S μ w (Builtin.copy_ #[t,t'] ty #[vs,F]) val upd:=by
 unfold Nu at h;split at h
 case h_2=>cases h
 rename_i e he;have he:=pN he;split at h
 case h_2=>cases h
 rename_i sz k b nd k' d u W;obtain ⟨f,G,rfl⟩:∃ f,P.info? e=some f/\f.size=sz:=by
  unfold Ct at W;simp_all
 split at h
 case h_2=>cases h
 rename_i o j H;have j:=dp j;subst j;split at h
 case h_2=>cases h
 rename_i I;simp only [cy,Nat.ble_eq,Bool.not_eq_true'] at I;obtain ⟨⟨X,q⟩,Y⟩:=I;have q:=dp q;simp only [bu,bk] at h;obtain ⟨rfl,rfl,rfl,rfl⟩:=h;obtain ⟨Z,p1,p2,J,_⟩:=V;obtain ⟨pl,c,T',y,z⟩:=g.rep.ob k o H;cases T with
 | os oG K h1 h2 h3 =>
  rename_i cap a;rw [y] at K;cases K;cases U with
  | os AZ L M g2 g3 =>
   rename_i l N;rw [y] at L;cases L;rcases Nat.eq_zero_or_pos nd with O | O
   ·subst O;have A:(Builtin.copy_ #[t,t'] ty #[.slice a 0 cap,.slice N u l]).run P w=.ok (goInt 0) w:=by
     have e0:Nat.min u 0=0:=aD;cases a<;>cases N<;>simp [Builtin.copy_,run_underlying he,Builtin.lenOf,Builtin.firstCells,sizeOf,typeInfo,G,storeCells,loadCells,loadCellsFrom]
    have eo:(⟨false,f.size,o.len,o.pr,fun m=>if m < b then o.get m else if m < b+0 then o.get (eu d (m - b)) else o.get m⟩:Ob)=o:=by
     have:(fun m=>if m < b then o.get m else if m < b+0 then o.get (eu d (m - b)) else o.get m)=o.get:=by
      funext m;split
      ·rfl
      ·split
       ·omega
       ·rfl
     rw [this,<- q,<- Y]
    refine ⟨_,w,S,μ,A,Ext.refl _ _ _,g.congr fun n=>?_,fun _ _ h=>h,.atom _⟩;show aR (sset σ k _) n=_;grind [bP]
   ·have ha:=h1 ad;have B:=M ad;subst ha B;have Q:0 < pl.cap:=by have:=z.len;omega
    obtain ⟨news,C⟩:=HG (P:=P) (sz:=f.size) (x:=.os k d nd) (v:=.slice (some ⟨pl.eC,d * pl.sz,none⟩) nd l) (n:=nd) (gt:=fun i=>o.get (eu d i)) (pr:=o.pr) (ps:=[d+nd<=o.len,∀ i,i < nd->AV.xe (o.get (eu d i))=true]) (rd:=[k]) g
     (.os pl y M ad g3) (by grind [D7,xc]) ⟨p2,fun i hi=>J _ (by rw [fw];omega),trivial⟩
    obtain ⟨Hi,D,r⟩:=g.ahx H y z Q C q X p1 (fun i hi=>Zl (J i hi)) rfl;have R:=run_storeCells_at P pl.eC (b * f.size) T' news 0 c w ((z.eC Q).trans (by rw [kr ad])) (by simpa using Hi) C.one;simp only [Nat.add_zero] at R;have p:=C.cells w rfl;simp only [Builtin.firstCells] at p;have A2:Nat.min u nd=nd:=Nat.min_eq_right Z;have A:(Builtin.copy_ #[t,t'] ty #[.slice (some ⟨pl.eC,b * pl.sz,none⟩) nd cap,.slice (some ⟨pl.eC,d * pl.sz,none⟩) u l]).run P w=.ok (goInt nd) (w.setRow pl.eC (c.toList.take (b * f.size) ++ news ++ c.toList.drop (b * f.size+news.length)).toArray):=by
     rw [z.sz,q] at p ⊢;simp [Builtin.copy_,run_underlying he,Builtin.lenOf,Builtin.firstCells,sizeOf,typeInfo,G,A2,p,R]
    rw [Bool.and_self] at r;exact ⟨_,_,S,μ,A,D,r,fun _ _ h=>h,.atom _⟩
def Nv (P:Program) (σ:gp) (t:TypeId) (s x:AV):Option (List Prop×AV×List Nat×Ae) :=
 match sG P t with
 | some e=>match Ct P e,Ft P e,AP P e,s with
  | some sz,some _,some _,.os k off m=>match D7 σ sz x,aR σ k with
   | some (n,gt,pr,ps,rd),some o=>match Nat.ble 1 sz && Nat.beq o.sz sz && !o.var with
    | true=>some ((0 < n/\eu off m+n<=o.len) :: (∀ i,i < o.len->uE (o.get i)=true) :: ps,.os k off (m+n),k :: rd,
      [(k,some ⟨false,sz,o.len,o.pr && pr,fun j=>if j < eu off m then o.get j else if j < eu off m+n then gt (j - eu off m) else o.get j⟩)])
    | false=>none
   | _,_=>none
  | _,_,_,_=>none
 | none=>none
theorem amq (g:Good E σ S μ w) {t ty:TypeId} {s x:AV} {vs r:Value} (F:aE w S μ vs s) (G:aE w S μ r x) {ps:List Prop} {val:AV} {rd:List Nat} {upd:Ae}
  (h:Nv P σ t s x=some (ps,val,rd,upd)) (H:bO ps):Step P E nk σ S μ w (Builtin.append_ #[t,t] ty #[vs,r]) val upd:=by
 unfold Nv at h;split at h
 case h_2=>cases h
 rename_i e he;have he:=pN he;split at h
 case h_2=>cases h
 rename_i sz b z k off m I hb J;obtain ⟨u,K,rfl,rfl,L⟩:=Fu I hb J;split at h
 case h_2=>cases h
 rename_i n gt pr M N o O v;split at h
 case h_2=>cases h
 rename_i y;simp only [cy,Nat.ble_eq,Bool.not_eq_true'] at y;obtain ⟨⟨Q,f⟩,Y⟩:=y;have f:=dp f;simp only [bu,bk] at h;obtain ⟨rfl,rfl,rfl,rfl⟩:=h;obtain ⟨⟨Z,R⟩,p2,T⟩:=H;obtain ⟨news,i⟩:=HG (P:=P) g G O T;obtain ⟨pl,c,T',l,j⟩:=g.rep.ob k o v;cases F with
 | os oG A U h2 V =>
  rename_i cap a;rw [l] at A;cases A;have W:=j.len;have B:eu off m=off+m:=fw _ _;have d:pl.sz=u.size:=j.sz.trans f;have C:=U ad;rw [d] at C;subst C;obtain ⟨X,p,q⟩:=g.ahx v l j ad i f Q R p2 rfl;have D:=abf (P:=P) (w:=w) (ty:=ty) he K ((j.eC ad).trans (by rw [kr ad])) i.len i.cells i.one (b:=off * u.size) (sLen:=m) (sCap:=cap) ad (by rw [<- eS,<- B];exact X);rw [<- eS,<- B] at D;exact ⟨_,_,S,μ,D,p,q,fun _ _ h=>h,aE.os pl l (fun _=>by rw [d]) ad V⟩
def Nw (P:Program) (nk:Nat) (σ:gp) (t:TypeId) (s x:AV):Option (List Prop×AV×List Nat×Ae) :=
 match sG P t with
 | some e=>match Ct P e,Ft P e,AP P e,s with
  | some sz,some b,some z,.PD k off m=>match D7 σ sz x,aR σ k with
   | some (n,gt,pr,ps,rd),some o=>match Nat.ble 1 sz && Nat.ble 1 b && Nat.beq z.cells.size sz && Nat.beq o.sz sz && !o.var with
    | true=>some ((0 < n/\eu off m=o.len) :: ((m+n) * b<=140737488355328) :: (∀ i,i < o.len->AV.xe (o.get i)=true) :: ps,.os nk 0 (m+n),k :: rd,
      [(nk,some ⟨false,sz,m+n,o.pr && pr,fun j=>if j < m then o.get (eu off j) else gt (j - m)⟩)])
    | false=>none
   | _,_=>none
  | _,_,_,_=>none
 | none=>none
theorem amr (g:Good E σ S μ w) (F:μ nk=none) (hm:E.m0<=nk) {t ty:TypeId} {s x:AV} {vs G:Value} (O:aE w S μ vs s) (f:aE w S μ G x) {ps:List Prop} {val:AV} {rd:List Nat} {upd:Ae}
  (h:Nw P nk σ t s x=some (ps,val,rd,upd)) (A:bO ps):Step P E nk σ S μ w (Builtin.append_ #[t,t] ty #[vs,G]) val upd:=by
 unfold Nw at h;split at h
 case h_2=>cases h
 rename_i e he;have he:=pN he;split at h
 case h_2=>cases h
 rename_i sz b z k off m Q hb R;obtain ⟨d,T,rfl,rfl,B⟩:=Fu Q hb R;split at h
 case h_2=>cases h
 rename_i n gt pr U V o W X;split at h
 case h_2=>cases h
 rename_i H;simp only [cy,Nat.ble_eq,Bool.not_eq_true'] at H;obtain ⟨⟨⟨⟨b1,Y⟩,C⟩,D⟩,L1⟩:=H;have D:=dp D;have C:=dp C;simp only [bu,bk] at h;obtain ⟨rfl,rfl,rfl,rfl⟩:=h;obtain ⟨⟨p0,Z⟩,p1,p2,p3⟩:=A;rw [fw] at Z;obtain ⟨news,l⟩:=HG (P:=P) g f W p3;obtain ⟨pl,c,T',I,gk⟩:=g.rep.ob k o X;cases O with
 | PD oG J h1 h2 =>
  rename_i a;rw [I] at J;cases J;obtain ⟨olds,p⟩:=HG (P:=P) (sz:=d.size) (x:=.os k off m) (v:=.slice a m m) (n:=m) (gt:=fun i=>o.get (eu off i)) (pr:=o.pr) (ps:=[off+m<=o.len,∀ i,i < m->AV.xe (o.get (eu off i))=true]) (rd:=[k]) g
   (.os pl I h1 (aH _) h2) (by grind [D7,xc]) ⟨ad,fun i hi=>p2 _ (by rw [fw];omega),trivial⟩
  have qN:=Fy (P:=P) (w:=w) (ty:=ty) he T B p.cells l.len l.cells ad Y p1;have K:=QP w (m+n) m e;have L:∀ i,i < m+n->((fun q=>if q < m then o.get (eu off q) else gt (q - m)) i).length=d.size:=by
   intro i hi;show (if i < m then o.get (eu off i) else gt (i - m)).length=_;split
   ·rw [gk.Co (eu off i) (by rw [fw];omega),D]
   ·exact l.Co _ ad
  have M:=g.grow (e:=e) F hm (sz:=d.size) (n:=n) (len:=m) (cap:=grownCap w (m+n) m e) (olds:=olds) (news:=news)
   (rest:=Builtin.zeroCells z.cells (grownCap w (m+n) m e - (m+n))) (pr:=o.pr && pr) (get:=fun q=>if q < m then o.get (eu off q) else gt (q - m))
   p.size l.size (by rw [size_zeroCells,C]) K L (by
    intro i j x u hi f r;have f:(if i < m then o.get (eu off i) else gt (i - m))[j]?=some x:=f;have hj:j < d.size:=by
     have e1:=(gW.1 f).1;have e2:(if i < m then o.get (eu off i) else gt (i - m)).length=d.size:=L i hi;omega
    by_cases y:i < m
    ·have N:(i+1) * d.size<=m * d.size:=dU _ y;rw [eS] at N;rw [if_pos y] at f;rw [mg (by rw [p.size];omega)] at r;have:=p.rep i j x u y f r;cases A:pr
     ·rw [Bool.and_false];exact l7 this
     ·rw [Bool.and_true];exact this
    ·have N:m * d.size<=i * d.size:=dU _ ad;rw [if_neg y] at f;rw [o5 (by rw [p.size];omega),p.size] at r;have:=l.rep (i - m) j x u ad f (by rw [<- r,Nat.sub_mul];congr 1;omega);cases A:o.pr
     ·rw [Bool.false_and];exact l7 this
     ·rw [Bool.true_and];exact this) ad
   (g.YZ F _ _ (fun _=>aH _) (xf fun i hi=>by
    have hi:i < m+n:=hi;show AV.xe (if i < m then o.get (eu off i) else gt (i - m))=true;split
    ·exact p2 _ (by rw [fw];omega)
    ·exact l.al8 _ ad) (fun b h=>jq (w:=w.drew) h) (fun _ h=>h) (fun _ h=>.inl h))
  refine ⟨_,_,S,_,qN,M.1,M.2,fun k uD hn=>by rw [tB _ uD];exact hn,?_⟩;exact aE.os ⟨w.heap.size,grownCap w (m+n) m e,d.size⟩ (by simp [dQ]) aD K aD
def Jo (P:Program) (σ:gp) (t:TypeId) (x:AV):Option (List Prop×AV×List Nat×Ae) :=
 match sG P t with
 | some e=>match Ct P e,Ft P e,AP P e,x with
  | some sz,some _,some z,.os k off n=>match aR σ k with
   | some o=>match Nat.ble 1 sz && Nat.beq o.sz sz && !o.var && Nat.beq z.cells.size sz && z.cells.toList.all (·.oneCell') with
    | true=>some ([0 < n/\off+n<=o.len],.qm,[k],[(k,some ⟨false,sz,off,o.pr,o.get⟩)])
    | false=>none
   | none=>none
  | _,_,_,_=>none
 | none=>none
theorem ahy (g:Good E σ S μ w) {t ty:TypeId} {x:AV} {H:Value} (f:aE w S μ H x) {ps:List Prop} {val:AV} {rd:List Nat} {upd:Ae}
  (h:Jo P σ t x=some (ps,val,rd,upd)) (Y:bO ps):Step P E nk σ S μ w (Builtin.clear_ #[t] ty #[H]) val upd:=by
 unfold Jo at h;split at h
 case h_2=>cases h
 rename_i e he;have he:=pN he;split at h
 case h_2=>cases h
 rename_i sz b z k off n Z hb hz;obtain ⟨d,Ql,rfl,rfl,y⟩:=Fu Z hb hz;split at h
 case h_2=>cases h
 rename_i o I;split at h
 case h_2=>cases h
 rename_i J;simp only [cy,Nat.ble_eq,Bool.not_eq_true'] at J;obtain ⟨⟨⟨⟨b1,l⟩,L1⟩,A⟩,K⟩:=J;have l:=dp l;have A:=dp A;simp only [bu,bk] at h;obtain ⟨rfl,rfl,rfl,rfl⟩:=h;obtain ⟨⟨p0,p1⟩,_⟩:=Y;obtain ⟨pl,c,T',L,p⟩:=g.rep.ob k o I;cases f with
 | os oG M B h2 h3 =>
  rename_i cap a;rw [L] at M;cases M;have hol:=p.len;have ha:=B ad;subst ha;have N:0 < pl.cap:=ad;have C:(Builtin.zeroCells z.cells n).toList.length=n * d.size:=by simp [Builtin.zeroCells,A]
  have Ul:∀ u∈(Builtin.zeroCells z.cells n).toList,u.oneCell'=true:=by
   intro u O;simp only [Builtin.zeroCells,Array.toList_map,List.mem_map] at O;obtain ⟨i,hi,rfl⟩:=O;have Q:i % z.cells.size < z.cells.size:=Nat.mod_lt _ ad;rw [getElem!_pos z.cells (i % z.cells.size) Q];rw [List.all_eq_true] at K;exact K _ (Array.mem_toList_iff.2 (Array.getElem_mem Q))
  have R:off * d.size+(Builtin.zeroCells z.cells n).toList.length<=c.size:=by
   have D:(off+n) * d.size<=pl.cap * d.size:=dU _ ad;have e2:=p.cap;rw [l] at e2;rw [C,<- eS];omega
  have F:=run_storeCells_at P pl.eC (off * d.size) T' (Builtin.zeroCells z.cells n).toList 0 c w ((p.eC N).trans (by rw [kr ad])) (by simpa using R) Ul;simp only [Nat.add_zero] at F;generalize T:(c.toList.take (off * d.size) ++ (Builtin.zeroCells z.cells n).toList ++ c.toList.drop (off * d.size+(Builtin.zeroCells z.cells n).toList.length)).toArray=q at F;have qN:(Builtin.clear_ #[t] ty #[.slice (some ⟨pl.eC,off * pl.sz,none⟩) n cap]).run P w=.ok (.tuple #[]) (w.setRow pl.eC q):=by
   rw [p.sz,l];obtain ⟨m,rfl⟩:∃ m,n=m+1:=⟨n - 1,ad⟩;simp [Builtin.clear_,run_underlying he,zeroValue,typeInfo,Ql,y,F]
  have GO:(c.toList.take (off * d.size)).length=off * d.size:=by simp;omega
  have QN:q.size=c.size:=by
   rw [<- T];simp only [List.size_toArray,rI,GO,List.length_drop,Array.length_toList];rw [Array.length_toList] at R;omega
  have U:∀ m,m < off * d.size->q[m]?=c[m]?:=by
   intro m B;rw [<- T];simp only [List.getElem?_toArray];rw [mg (by simp;omega),mg ad,xa,if_pos B];simp
  have V:∀ i x,rowOf ⟨false,d.size,off,o.pr,o.get⟩ i=some x->rowOf o i=some x/\i < off:=fun i x f=>by
   obtain ⟨_,G,q3⟩:=gF f;have G:i < off:=G;exact ⟨qM L1 ad q3,G⟩
  have r:∀ i,i < off->∀ j,j < d.size->i * d.size+j < off * d.size:=fun i hi j W=>by
   have vA:(i+1) * d.size<=off * d.size:=dU _ hi;rw [eS] at vA;omega
  have X:=g.write I L N p ad ⟨false,d.size,off,o.pr,o.get⟩ q l.symm QN (show off<=pl.cap by omega) (fun i hi=>by
   have hi:i < off:=hi;show (o.get i).length=d.size;rw [p.Co i ad,l]) (by
   intro i j x v hi f s;have hi:i < off:=hi;have f:(o.get i)[j]?=some x:=f;have W:j < d.size:=by
    have D:=(gW.1 f).1;rw [p.Co i ad,l] at D;exact D
   have s:q[i * d.size+j]?=some v:=s;rw [U _ (r i hi j W)] at s;exact p.rep i j x v ad f (by rw [l];exact s)) (fun i x f=>⟨(V i x f).1,by
    rw [l];exact U _ (by have:=r i (V i x f).2 0 ad;omega)⟩)
  exact ⟨_,_,S,μ,qN,X.1,X.2,fun _ _ h=>h,.qm⟩
def HM (P:Program) (nk:Nat) (σ:gp) (op:Op) (e:Operand->AV) (orc:Option tw):Option R :=
 match auJ orc with
 | none=>iE P nk σ op e orc
 | some q=>match op with
  | .load T a=>(Jn P σ T ((e a).strip.1) q.res).map fun (ps,v,rd)=>⟨conds e [a] ++ ps,v,rd,[]⟩
  | .call ⟨.builtin .append,b,c⟩=>match b.toList,c.toList with
   | [x,y],[t,t']=>match Nat.beq t t' with
    | true=>(match q.ks,q.res with
     | [],.qm=>Nt P σ t ((e x).strip.1) ((e y).strip.1)
     | [],.nil=>Nv P σ t ((e x).strip.1) ((e y).strip.1)
     | [],_=>Nw P nk σ t ((e x).strip.1) ((e y).strip.1)
     | _,_=>Bs P nk σ t ((e x).strip.1) ((e y).strip.1) q).map fun (ps,v,rd,u)=>⟨conds e [x,y] ++ ps,v,rd,u⟩
    | false=>none
   | _,_=>none
  | .call ⟨.builtin .copy,b,c⟩=>match b.toList,c.toList with
   | [x,y],[t,_]=>(Nu P σ t ((e x).strip.1) ((e y).strip.1)).map fun (ps,v,rd,u)=>⟨conds e [x,y] ++ ps,v,rd,u⟩
   | _,_=>none
  | .call ⟨.builtin .clear,b,c⟩=>match b.toList,c.toList with
   | [x],[t]=>(Jo P σ t ((e x).strip.1)).map fun (ps,v,rd,u)=>⟨conds e [x] ++ ps,v,rd,u⟩
   | _,_=>none
  | .slice t x lo hi mx=>match mx with
   | none=>(Ed P σ t ((e x).strip.1) (lo.map fun y=>(e y).strip.1) (hi.map fun y=>(e y).strip.1)).map fun (ps,v,rd)=>⟨conds e (x :: (lo.toList ++ hi.toList)) ++ ps,v,rd,[]⟩
   | some m=>match lo,hi with
    | some l,some h=>(Q5 P t ((e x).strip.1) ((e l).strip.1) ((e h).strip.1) ((e m).strip.1)).map fun (ps,v,rd)=>⟨conds e [x,l,h,m] ++ ps,v,rd,[]⟩
    | _,_=>none
  | op=>iE P nk σ op e orc
theorem Vm {o:Oper} {a:Act} {e:Operand->AV} {orc:Option tw} {r:R} {next:Act->World->Prop} {Q:Exit->Act->World->Prop}
  (he:∀ x∈o.op.operands.toList,aE w S μ (a.eval x) (e x)) (g:Good E σ S μ w) (N:∀ j,j < 16->μ (nk+j)=none) (hm:E.m0<=nk)
  (D:∀ x,orc=some x->x.GP=true->∀ b,¬ E.fp b) (h:HM P nk σ o.op e orc=some r) (F:bO r.U6) (C:ahu E nk σ S μ w r fun v w'=>next (a.put o.dst v) w'):o.wp P a w next Q:=by
 unfold HM at h;split at h
 ·exact Zk he g N hm D h F C
 ·have O:μ nk=none:=N 0 ad;have st:∀ (xs:List Operand),bO (conds e xs)->(∀ x∈xs,x∈o.op.operands.toList)->∀ x∈xs,aE w S μ (a.eval x) ((e x).strip.1) :=
   fun xs d X x U=>(he x (X x U)).strip (Jm d x U)
  obtain ⟨dst,op,ty,pos,c,guard⟩:=o;simp only at he h C st ⊢;split at h
  ·rename_i T x;simp only [bE] at h;obtain ⟨⟨ps,v,rd⟩,d,rfl⟩:=h;obtain ⟨n,p2⟩:=bO.app F;obtain ⟨u,A,B⟩:=ahv g (st [x] n (by simp [Op.operands]) x aD) d p2;unfold Oper.wp;have ex:execOp a.eval ⟨dst,.load T x,ty,pos,c,guard⟩=(do pure (.value (<- Instr.loadAt T (a.eval x))):Sem Next):=rfl;rw [ex];simp only [dk,A,fZ,Sem.run_pure];exact C u w S μ (Ext.refl _ _ _) g (fun _ _ h=>h) B
  ·rename_i f G;split at h
   case h_2=>cases h
   rename_i x y t t' H I;split at h
   case h_2=>cases h
   rename_i hb;have hb:=dp hb;subst hb;obtain ⟨rfl⟩:f=#[x,y]:=Array.toList_inj.1 (by rw [H]);obtain ⟨rfl⟩:G=#[t,t]:=Array.toList_inj.1 (by rw [I]);simp only [bE] at h;obtain ⟨⟨ps,v,rd,u⟩,d,rfl⟩:=h;obtain ⟨n,p2⟩:=bO.app F;have s:=st [x,y] n (by simp [Op.operands,Call.operands]);have Y:Step P E nk σ S μ w (Builtin.append_ #[t,t] ty #[a.eval x,a.eval y]) v u:=by
    split at d
    ·exact amo (ty:=ty) g (s x aD) (s y aD) d p2
    ·exact amq (ty:=ty) g (s x aD) (s y aD) d p2
    ·exact amr (ty:=ty) g O hm (s x aD) (s y aD) d p2
    ·exact abo (ty:=ty) g O hm (s x aD) (s y aD) d p2
   obtain ⟨v',w',S',gn,A,B,J,K,L⟩:=Y;unfold Oper.wp;have ex:execOp a.eval ⟨dst,.call ⟨.builtin .append,#[x,y],#[t,t]⟩,ty,pos,c,guard⟩=(do pure (.value (<- Builtin.append_ #[t,t] ty #[a.eval x,a.eval y])):Sem Next):=by simp [execOp,resolve,invoke,builtin]
   rw [ex];simp only [dk,A,fZ,Sem.run_pure];exact C v' w' S' gn B J (fun k V=>K k ad) L
  ·rename_i f G;split at h
   case h_2=>cases h
   rename_i x y t t' H I;obtain ⟨rfl⟩:f=#[x,y]:=Array.toList_inj.1 (by rw [H]);obtain ⟨rfl⟩:G=#[t,t']:=Array.toList_inj.1 (by rw [I]);simp only [bE] at h;obtain ⟨⟨ps,v,rd,u⟩,d,rfl⟩:=h;obtain ⟨n,p2⟩:=bO.app F;have s:=st [x,y] n (by simp [Op.operands,Call.operands]);obtain ⟨v',w',S',gn,A,B,J,K,L⟩:=amp (nk:=nk) (t':=t') (ty:=ty) g (s x aD) (s y aD) d p2;unfold Oper.wp;have ex:execOp a.eval ⟨dst,.call ⟨.builtin .copy,#[x,y],#[t,t']⟩,ty,pos,c,guard⟩=(do pure (.value (<- Builtin.copy_ #[t,t'] ty #[a.eval x,a.eval y])):Sem Next):=by simp [execOp,resolve,invoke,builtin]
   rw [ex];simp only [dk,A,fZ,Sem.run_pure];exact C v' w' S' gn B J (fun k V=>K k ad) L
  ·rename_i f G;split at h
   case h_2=>cases h
   rename_i x t H I;obtain ⟨rfl⟩:f=#[x]:=Array.toList_inj.1 (by rw [H]);obtain ⟨rfl⟩:G=#[t]:=Array.toList_inj.1 (by rw [I]);simp only [bE] at h;obtain ⟨⟨ps,v,rd,u⟩,d,rfl⟩:=h;obtain ⟨n,p2⟩:=bO.app F;have s:=st [x] n (by simp [Op.operands,Call.operands]);obtain ⟨v',w',S',gn,A,B,J,K,L⟩:=ahy (nk:=nk) (ty:=ty) g (s x aD) d p2;unfold Oper.wp;have ex:execOp a.eval ⟨dst,.call ⟨.builtin .clear,#[x],#[t]⟩,ty,pos,c,guard⟩=(do pure (.value (<- Builtin.clear_ #[t] ty #[a.eval x])):Sem Next):=by simp [execOp,resolve,invoke,builtin]
   rw [ex];simp only [dk,A,fZ,Sem.run_pure];exact C v' w' S' gn B J (fun k V=>K k ad) L
  ·rename_i t x lo hi mx;have ex:∀ y,execOp a.eval ⟨dst,.slice t x lo hi y,ty,pos,c,guard⟩=(do pure (.value (<- Instr.sliceAt t (a.eval x) (lo.map a.eval) (hi.map a.eval) (y.map a.eval))):Sem Next):=fun y=>rfl;cases mx with
   | none =>
    simp only [bE] at h;obtain ⟨⟨ps,v,rd⟩,d,rfl⟩:=h;obtain ⟨n,p2⟩:=bO.app F;have s:=st (x :: (lo.toList ++ hi.toList)) n (by
     intro y i;simp only [rJ,List.mem_append,Option.mem_toList] at i;simp only [Op.operands];rcases i with rfl | i | i
     ·simp
     ·simp [i]
     ·simp [i])
    obtain ⟨u,A,B⟩:=aft (P:=P) (vlo:=lo.map a.eval) (vhi:=hi.map a.eval) g (s x aD) (by
     refine ⟨aD,?_⟩;intro p q M hq;simp only [bE] at M hq;obtain ⟨y,i,rfl⟩:=M;obtain ⟨z,D,rfl⟩:=hq;rw [i] at D;cases D;exact s y (by simp [i])) (by
     refine ⟨aD,?_⟩;intro p q M hq;simp only [bE] at M hq;obtain ⟨y,i,rfl⟩:=M;obtain ⟨z,D,rfl⟩:=hq;rw [i] at D;cases D;exact s y (by simp [i])) d p2
    unfold Oper.wp;rw [ex none];simp only [Option.map_none,dk,A,fZ,Sem.run_pure];exact C u w S μ (Ext.refl _ _ _) g (fun _ _ h=>h) B
   | some m =>
    simp only at h;split at h
    case h_2=>cases h
    rename_i l W;simp only [bE] at h;obtain ⟨⟨ps,v,rd⟩,d,rfl⟩:=h;obtain ⟨n,p2⟩:=bO.app F;have s:=st [x,l,W,m] n (by simp [Op.operands]);obtain ⟨u,A,B⟩:=afs (P:=P) (s x aD) (s l aD) (s W aD) (s m aD) d p2;unfold Oper.wp;rw [ex (some m)];simp only [Option.map_some,dk,A,fZ,Sem.run_pure];exact C u w S μ (Ext.refl _ _ _) g (fun _ _ h=>h) B
  ·exact Zk (o:=⟨dst,op,ty,pos,c,guard⟩) he g N hm D h F C
def SF (μ:Mu) (F:List Nat) (σ:gp) (S:Nat->Prop) (b:Nat):Prop:=S b\/∃ k o pl,k∈F/\aR σ k=some o/\μ k=some pl/\0 < pl.cap/\pl.eC=b
theorem Good.freeze (g:Good E σ S μ w) (F:List Nat) (H:∀ b,¬ E.fp b):Good E (js σ (D9 true F)) (SF μ F σ S) μ w:=by
 have sg:∀ n o,aR (js σ (D9 true F)) n=some o->aR σ n=some o/\n ∉ F:=fun n o h=>by
  rw [sd] at h;simp_all
 have e:Ext w S μ w (SF μ F σ S) μ:=⟨aH _,fun _ h=>.inl h,fun _ _=>rfl,fun _ _ h=>h⟩;refine ⟨g.fr,fun b h=>.inl (g.S0 b h),?_,?_,⟨?_,?_⟩,?_,g.LO,?_⟩
 ·rintro b (a | ⟨f,o1,r,j,l,m,p,rfl⟩)
  ·exact g.S1 b a
  ·obtain ⟨oG,c,T,A,s⟩:=g.rep.ob f o1 l;rw [m] at A;cases A;exact gK (s.eC p)
 ·rintro b (a | ⟨f,o1,r,j,l,m,p,rfl⟩)
  ·exact g.S2 b a
  ·rcases g.own f o1 r l m p with d | d
   ·exact (H _ d).elim
   ·exact .inr d
 ·intro k o t;obtain ⟨B,u⟩:=sg k o t;obtain ⟨pl,c,T,C,D⟩:=g.rep.ob k o B;refine ⟨pl,c,T,C,D.ext e (fun _=>rfl) ?_⟩;rintro G (a | ⟨f,o1,r,j,l,m,p,hb⟩)
  ·exact D.out G a
  ·exact g.rep.ne f k o1 o r pl (fun h=>u (h ▸ j)) l B m C p G hb
 ·intro k k' o o' pl oG I a d q y J K;exact g.rep.ne k k' o o' pl oG I (sg _ _ a).1 (sg _ _ d).1 q y J K
 ·exact fun k o pl a d q=>g.own k o pl (sg _ _ a).1 d q
 ·have z:∀ k i x v,lV w μ (js σ (D9 true F)) k i x v->lV w μ σ k i x v:=fun k i x v ⟨o,pl,a,d,q,y⟩=>⟨o,pl,(sg _ _ a).1,d,q,y⟩;refine g.mx.tr (fun k=>k) z (fun _ _ _ _ _ _ _ _ _ _ h=>h) (fun _ h=>.inl h) (fun _ _=>rfl) (fun k i x v b _ h hb=>⟨rfl,?_,fun h=>h⟩) (fun k o pl a d q=>.inl ⟨k,o,pl,(sg _ _ a).1,d,q,rfl⟩);rintro (a | ⟨f,o1,r,_,l,m,p,a⟩)
  ·exact (g.mx.eC h hb).2.1 a
  ·exact g.mx.obj _ _ _ _ _ h hb f o1 r l m p a
def fzS (σ:gp):gp->Option (List Prop)
 | []=>some []
 | (k,o') :: r=>match aR σ k,fzS σ r with
  | some o,some ps=>match o.pr with
   | true=>some ((o'.len<=o.len) :: (∀ i,i < o'.len->o'.get i=o.get i) :: ps)
   | false=>none
  | _,_=>none
mutual
def fzA (a:gp):AV->AV
 | .os k off len=>match off,aR a k with
  | 0,some o=>.sl o.len o.get
  | _,_=>.os k off len
 | .agg cs=>.agg (fzL a cs)
 | x=>x
def fzL (a:gp):List AV->List AV
 | []=>[]
 | c :: cs=>fzA a c :: fzL a cs
end
mutual
def fzP (a:gp):AV->List Prop
 | .os k off len=>match off,aR a k with
  | 0,some o=>[len=o.len]
  | _,_=>[]
 | .agg cs=>amu a cs
 | _=>[]
def amu (a:gp):List AV->List Prop
 | []=>[]
 | c :: cs=>fzP a c ++ amu a cs
end
def fzC (a:gp) (e:Operand->AV):List Operand->List Prop
 | []=>[]
 | x :: r=>fzP a (e x) ++ fzC a e r
theorem adF:∀ {a:gp} {ps:List Prop},fzS σ a=some ps->bO ps->∀ {k:Nat} {o':Ob},aR a k=some o'->k∈a.map (·.1)/\∃ o,aR σ k=some o/\o.pr=true/\o'.len<=o.len/\∀ i,i < o'.len->o'.get i=o.get i
 | [],ps,_,_,k,o',h=>by simp [aR] at h
 | (f,g) :: r,ps,h,c,k,o',b=>by
  simp only [fzS] at h;split at h
  ·rename_i o j l d;split at h
   ·rename_i m;cases h;obtain ⟨n,p2,e⟩:=c;simp only [aR] at b;split at b
    ·simp_all
    ·obtain ⟨p,q⟩:=adF d e b;simp_all
   ·cases h
  ·cases h
theorem o8 {gn:Mu} {v:Value} {x:AV} {F:List Nat} (h:aE w S gn v x):aE w (SF μ F σ S) gn v x:=h.mono (fun _ h=>.inl h) (fun _ _=>rfl) (fun _ _ h=>h)
theorem ar8 (g:Good E σ S μ w) {d:gp} {l:List Prop} (r:fzS σ d=some l) (hq:bO l) {k off len:Nat} {v:Value} (h:aE w S μ v (.os k off len)) (e:bO (fzP d (.os k off len))):aE w (SF μ (d.map (·.1)) σ S) μ v (fzA d (.os k off len)):=by
 simp only [fzA,fzP] at e ⊢;split at e
 ·rename_i o' s;obtain ⟨rfl,_⟩:=e;obtain ⟨t,o,m,B,p2,n⟩:=adF r hq s;obtain ⟨pl,c,T,hm,b⟩:=g.rep.ob k o m;cases h with
  | os oG p u x C =>
   rename_i cap a;rw [hm] at p;cases p;refine .sl pl.eC (0 * pl.sz) o.sz (fun i j=>(c[(0+i) * o.sz+j]?).getD undef) ?_ (fun i hi=>by rw [n i hi];exact b.Co _ ad) ?_ ?_ x
   ·intro D;exact ⟨u ad,.inr ⟨k,o,pl,t,m,hm,ad,rfl⟩⟩
   ·intro i j hi y;obtain ⟨v,f,z⟩:=fV b (i:=0+i) ad y;simp_all
   ·intro i j A hi q;rw [n i hi] at q;obtain ⟨v,f,z⟩:=fV b (i:=0+i) ad (by have:=(gW.1 q).1;rw [b.Co _ ad] at this;exact this);rw [f];have:=b.rep _ j A v ad (by simp_all) f;grind [o8]
 ·exact o8 h
mutual
theorem ahB (g:Good E σ S μ w) {a:gp} {d:List Prop} (e:fzS σ a=some d) (hq:bO d):∀ (x:AV) (v:Value),aE w S μ v x->bO (fzP a x)->aE w (SF μ (a.map (·.1)) σ S) μ v (fzA a x)
 | .os _ _ _,_,h,b=>ar8 g e hq h b
 | .agg cs,v,h,b=>by
  simp only [fzA,fzP] at b ⊢;obtain ⟨vs,rfl,f,k⟩:=ue h;obtain ⟨i,l⟩:=adG g e hq cs b;refine .agg (f.trans i.symm) fun j c v m n=>?_;grind
 | .nil,_,h,_=>o8 h
 | .atom _,_,h,_=>o8 h
 | .tup _,_,h,_=>o8 h
 | .sl _ _,_,h,_=>o8 h
 | .rp _ _,_,h,_=>o8 h
 | .op _ _ _,_,h,_=>o8 h
 | .fn _ _ _,_,h,_=>o8 h
 | .when _ _,_,h,_=>o8 h
 | .mp _,_,h,_=>o8 h
 | .bn _,_,h,_=>o8 h
 | .pt _ _,_,h,_=>o8 h
 | .ov _ _ _ _ _,_,h,_=>o8 h
 | .PD _ _ _,_,h,_=>o8 h
 | .nq _ _,_,h,_=>o8 h
 | .qm,_,h,_=>o8 h
 | .mr _ _ _,_,h,_=>o8 h
theorem adG (g:Good E σ S μ w) {b:gp} {e:List Prop} (f:fzS σ b=some e) (hq:bO e):∀ (cs:List AV),bO (amu b cs)->(fzL b cs).length=cs.length /\
  ∀ (j:Nat) c y v,cs[j]?=some c->(fzL b cs)[j]?=some y->aE w S μ v c->aE w (SF μ (b.map (·.1)) σ S) μ v y
 | [],_=>⟨rfl,fun j c y v a=>by simp at a⟩
 | c :: cs,i=>by
  simp only [amu] at i;obtain ⟨k,p2⟩:=bO.app i;obtain ⟨l,m⟩:=adG g f hq cs p2;refine ⟨by simp [fzL,l],fun j n y v a d h=>?_⟩;cases j with
  | zero =>
   simp only [fzL,List.getElem?_cons_zero,bu] at a d;subst a d;exact ahB g f hq c v h k
  | succ j =>
   simp only [fzL,Qj] at a d;exact m j n y v a d h
end
def ahC (op:Op):Option tw->Option gp
 | none=>none
 | some q=>match q.GP,op with
  | true,.buildSlice _ _ _=>some q.r8
  | true,.build _ _=>some q.r8
  | true,.box _ _=>some q.r8
  | true,.store _ _ _=>some q.r8
  | _,_=>none
theorem abp {c:Call} (orc:Option tw):ahC (.defer c) orc=none:=by
 cases orc with
 | none=>rfl
 | some q=>grind [ahC]
theorem ahD {op:Op} {orc:Option tw} {a:gp} (h:ahC op orc=some a):∃ x,orc=some x/\x.GP=true:=by
 unfold ahC at h;grind
def J7 (P:Program) (nk:Nat) (σ:gp) (op:Op) (e:Operand->AV) (orc:Option tw):Option R :=
 match ahC op orc with
 | none=>HM P nk σ op e orc
 | some a=>match fzS σ a,HM P nk (js σ (D9 true (a.map (·.1)))) op (fun x=>fzA a (e x)) orc with
  | some ps,some r=>some ⟨ps ++ (fzC a e op.operands.toList ++ r.U6),r.val,a.map (·.1) ++ r.rds,D9 true (a.map (·.1)) ++ r.upd⟩
  | _,_=>none
theorem adH {b:gp} {e:Operand->AV}:∀ {xs:List Operand},bO (fzC b e xs)->∀ x∈xs,bO (fzP b (e x))
 | [],_,x,a=>by simp at a
 | y :: r,h,x,a=>by
  obtain ⟨c,d⟩:=bO.app h;rcases rJ.1 a with rfl | a
  ·exact c
  ·exact adH d x a
theorem afu {o:Oper} {a:Act} {e:Operand->AV} {orc:Option tw} {r:R} {next:Act->World->Prop} {Q:Exit->Act->World->Prop}
  (he:∀ x∈o.op.operands.toList,aE w S μ (a.eval x) (e x)) (g:Good E σ S μ w) (l:∀ j,j < 16->μ (nk+j)=none) (hm:E.m0<=nk)
  (i:∀ x,orc=some x->x.GP=true->∀ b,¬ E.fp b) (h:J7 P nk σ o.op e orc=some r) (m:bO r.U6) (n:ahu E nk σ S μ w r fun v w'=>next (a.put o.dst v) w'):o.wp P a w next Q:=by
 unfold J7 at h;split at h
 ·grind [Vm]
 ·rename_i c d;split at h
  ·rename_i ps H p s;cases h;obtain ⟨t,f⟩:=bO.app m;obtain ⟨p2,u⟩:=bO.app f;obtain ⟨q,y,z⟩:=ahD d;have A:=g.freeze (c.map (·.1)) (i q y z);have B:Ext w S μ w (SF μ (c.map (·.1)) σ S) μ:=⟨aH _,fun _ h=>.inl h,fun _ _=>rfl,fun _ _ h=>h⟩;refine Vm (e:=fun x=>fzA c (e x)) (fun x k=>ahB g p t _ _ (he x k) (adH p2 x k)) A l hm i s u ?_;intro v w' S' gn C D F G;exact n v w' S' gn (B.trans C) (by rw [kE];exact D) F G
  ·cases h
end
structure St where
 tm:List (Nat×AV)
 r8:gp
 nk:Nat
def Dk:AV->Bool->Option Bool
 | .atom (.bool b),a=>some (match a with
  | true=>b
  | false=>!b)
 | .when g x,a=>(Dk x a).map fun b=>g && b
 | _,_=>none
structure Rec where
 U6:List Prop
 dst:Option Nat
 val:AV
 rds:List Nat
 upd:Ae
def L9 (σ:gp) (op:Op) (e:Operand->AV) (y:YC):Option R :=
 match op with
 | .call ⟨.value f,a,_⟩=>match (e f).strip.1,aR σ y.k with
  | .atom (.func (.yield l) vs ws),some o=>some ⟨(l=y.l/\vs=#[]/\ws=#[]/\a.toList.map (fun x=>(e x).strip.1)=y.as/\o=y.o) :: conds e (f :: a.toList),.atom (.bool true),[y.k],[(y.k,some y.o')]⟩
  | _,_=>none
 | _=>none
def HN (P:Program) (nk:Nat) (σ:gp) (op:Op) (e:Operand->AV) (orc:Option tw):Option R :=
 match auv orc with
 | some y=>L9 σ op e y
 | none=>J7 P nk σ op e orc
def under (g:Bool):List Prop->List Prop
 | []=>[]
 | p :: ps=>[g=true->bO (p :: ps)]
def ahE (ops:List Oper) (j:Nat):Option Nat:=(ops[j]?).bind (·.dst)
def aoc (nt:Nat):Option Nat->Bool
 | none=>true
 | some d=>Nat.blt d nt
def J8 (P:Program) (nt:Nat) (ops:List Oper) (nk:Nat) (tm:List (Nat×AV)) (σ:gp) (o:Oper) (orc:Option tw):Option Rec :=
 match aoc nt o.dst with
 | false=>none
 | true=>match o.guard with
  | none=>(HN P nk σ o.op (GU tm) orc).map fun r=>⟨r.U6,o.dst,r.val,r.rds,r.upd⟩
  | some (j,a)=>match ahE ops j with
   | none=>none
   | some d=>match auw orc with
    | 0=>match Dk (iz tm d) a,HN P nk σ o.op (GU tm) orc with
     | some g,some r=>match r.upd with
      | []=>some ⟨under g r.U6,o.dst,.when g r.val,r.rds,[]⟩
      | _ :: _=>none
     | _,_=>none
    | 1=>match Dk (iz tm d) a,HN P nk σ o.op (GU tm) orc with
     | some g,some r=>some ⟨(g=true) :: r.U6,o.dst,r.val,r.rds,r.upd⟩
     | _,_=>none
    | _=>match Dk (iz tm d) a with
     | some g=>some ⟨[g=false],o.dst,.when g (auy orc),[],[]⟩
     | none=>none
def Pk (tm:List (Nat×AV)) (d:Option Nat) (x:AV):List (Nat×AV) :=
 match d with
 | none=>tm
 | some d=>(d,x) :: tm
def yB:List (Nat×tw)->Nat->Option tw
 | [],_=>none
 | (k,o) :: r,n=>match Nat.beq k n with
  | true=>some o
  | false=>yB r n
def A3 (P:Program) (nt:Nat) (ops:List Oper) (nk:Nat) (orcs:List (Nat×tw)):List Oper->Nat->List (Nat×AV)->gp->Option (List Rec)
 | [],_,_,_=>some []
 | o :: r,i,tm,σ=>match J8 P nt ops (nk+16 * i) tm σ o (yB orcs i) with
  | none=>none
  | some x=>(A3 P nt ops nk orcs r (i+1) (Pk tm x.dst x.val) (js σ x.upd)).map fun l=>x :: l
def Pm:List Rec->List (Nat×AV)->List (Nat×AV)
 | [],tm=>tm
 | x :: r,tm=>Pm r (Pk tm x.dst x.val)
def HO:List Rec->gp->gp
 | [],σ=>σ
 | x :: r,σ=>HO r (js σ x.upd)
def Q8:List Rec->List Prop
 | []=>[]
 | x :: r=>x.U6 ++ Q8 r
def Rep (E:Env) (st:St) (tm:Array Value) (w:World):Prop :=
 ∃ S μ,Good E st.r8 S μ w/\(∀ k,st.nk<=k->μ k=none)/\E.m0<=st.nk/\∀ t,aE w S μ (tm.getD t undef) (iz st.tm t)
theorem wj {tm:List (Nat×AV)} {d:Option Nat} {x:AV} (t:Nat):iz (Pk tm d x) t=if d=some t then x else iz tm t:=by
 cases d with
 | none=>simp [Pk]
 | some d =>
  simp only [Pk,iz,bu]
  by_cases h:d=t
  ·rw [xc h,if_pos h]
  ·rw [tz h,if_neg h]
theorem adI (a:Act) (d:Option Nat) (v:Value) (t:Nat) (h:∀ n,d=some n->n < a.tmps.size):(a.put d v).tmps.getD t undef=if d=some t then v else a.tmps.getD t undef:=by
 cases d with
 | none=>simp [Act.put]
 | some d =>
  simp only [Act.put,bu];have b:=h d rfl
  by_cases c:d=t
  ·simp_all
  simp_all
theorem Zm (a:Act) (d:Option Nat) (v:Value):(a.put d v).tmps.size=a.tmps.size:=by cases d<;>simp [Act.put]
theorem Pn (a:Act) (d:Option Nat) (v:Value):(a.put d v).defers=a.defers:=by cases d<;>simp [Act.put]
theorem Jp {w:World} {S:Nat->Prop} {μ:Mu} {a:Act} {tm:List (Nat×AV)} (h:∀ t,aE w S μ (a.tmps.getD t undef) (iz tm t)) (x:Operand):aE w S μ (a.eval x) (GU tm x):=by
 cases x with
 | tmp t=>exact h t
 | const v=>exact UX w S μ v
 | global g=>exact .atom _
 | func f=>exact .fn aD aD (fun j c v b=>by simp at b) (fun j c v b=>by simp at b)
def Q9:Value->Option Bool
 | .bool b=>some b
 | _=>none
theorem Zn {w:World} {S:Nat->Prop} {μ:Mu} {v:Value} {x:AV} (h:aE w S μ v x):∀ {a g:Bool},Dk x a=some g->(Q9 v == some a)=g:=by
 induction h with
 | atom v =>
  intro a g c;cases v with
  | bool b =>
   simp only [Dk,bu] at c;subst c;cases b<;>cases a<;>rfl
  | _=>simp [Dk] at c
 | @when μ b v x i e f =>
  intro a g c;simp only [Dk,bE] at c;obtain ⟨j,d,rfl⟩:=c;cases b with
  | true=>simpa using f rfl d
  | false =>
   rw [e rfl];simp [undef,Q9]
 | _=>grind [Dk]
section
variable {P:Program} {E:Env} {σ:gp} {S:Nat->Prop} {μ:Mu} {w:World}
def FW (rd:Option Nat):Fence:={ Fence.wide with round:=rd }
theorem amv {rd:Option Nat} {o:Oper} {a:Act} {next:Act->World->Prop} {Q:Exit->Act->World->Prop} {r:Result Next} (h:o.upon P a next Q r):o.uponIn (FW rd) 0 P a next Q r:=by
 cases r with
 | ok x w' =>
  cases x with
  | value v=>exact h
  | skip=>exact h
  | defer d=>exact h
  | enter f b=>exact ⟨fun e=>by simp [FW,Fence.wide] at e,(callsIn_wide (n:=0)).2 h⟩
  | row row b=>exact ⟨fun e=>by simp [FW,Fence.wide] at e,fun c cs _=>let ⟨v,w',g,i⟩:=h c cs;⟨v,w',g,stepsIn_wide.2 i⟩⟩
  | _=>exact h.elim
 | halt x w' =>
  cases x with
  | panic v=>exact h
  | _=>exact h.elim
def YOK (P:Program) (E:Env) (y:YC):Prop:=∀ (w:World) (S:Nat->Prop) (μ:Mu) (σ:gp) (vs:Array Value),Good E σ S μ w->RL w S μ vs y.as->aR σ y.k=some y.o ->
 YieldAt Fence.wide 0 P y.l vs w fun e w'=>e=.returned (.bool true)/\∃ S',Ext w S μ w' S' μ/\Good E (sset σ y.k y.o') S' μ w'
def Zo (P:Program) (E:Env) (orc:Option tw):Prop:=(∀ x,orc=some x->x.GP=true->∀ b,¬ E.fp b)/\∀ x y,orc=some x->x.y=some y->YOK P E y
theorem Zp {rd:Option Nat} {o:Oper} {a:Act} {e:Operand->AV} {y:YC} {r:R} {next:Act->World->Prop} {Q:Exit->Act->World->Prop}
  (he:∀ x∈o.op.operands.toList,aE w S μ (a.eval x) (e x)) (g:Good E σ S μ w) {nk:Nat} (C:YOK P E y) (h:L9 σ o.op e y=some r) (D:bO r.U6)
  (G:ahu E nk σ S μ w r fun v w'=>next (a.put o.dst v) w'):o.wpIn (FW rd) 0 P a w next Q:=by
 obtain ⟨dst,op,ty,pos,i,guard⟩:=o;unfold L9 at h;simp only at h he;split at h
 case h_2=>cases h
 rename_i f b p;split at h
 case h_2=>cases h
 rename_i l vs ws o1 q H;simp only [bu] at h;subst h;obtain ⟨⟨rfl,rfl,rfl,has,rfl⟩,m⟩:=D;have s:=Jm m;have mem:∀ x,x∈f :: b.toList->x∈(Op.call ⟨.value f,b,p⟩).operands.toList:=by
  intro x k;simp only [Op.operands,Call.operands] at *
  simpa using k
 have z:∀ x,x∈f :: b.toList->aE w S μ (a.eval x) ((e x).strip.1):=fun x k=>(he x (mem x k)).strip (s x k);have n:=z f aD;rw [q] at n;have n:=gh n;have t:RL w S μ (b.map a.eval) y.as:=by
  rw [<- has];refine ⟨aD,fun j c v m A=>?_⟩;simp only [List.getElem?_map,bE,Array.getElem?_map] at m A;obtain ⟨x,k,rfl⟩:=m;obtain ⟨x',B,rfl⟩:=A;rw [<- Array.getElem?_toList,k] at B;cases B;exact z x (List.mem_cons_of_mem _ (List.mem_of_getElem? k))
 obtain ⟨fn,tmps,assign,body,I,u⟩:=C w S μ σ _ g t H;refine ⟨fun _ _=>trivial,?_⟩;have ex:(Oper.semAt (FW rd).round a.eval ⟨dst,.call ⟨.value f,b,p⟩,ty,pos,i,guard⟩).run P w=.ok (.round y.l fn tmps assign body) w:=by
  rw [Oper.semAt_eq _ _ _ (fun c=>aD)];have:execOp a.eval ⟨dst,.call ⟨.value f,b,p⟩,ty,pos,i,guard⟩=(do let d <- Deferred.ofValue (a.eval f) (b.map a.eval);invoke d.target d.args:Sem Next):=rfl;rw [this,n];simpa [Deferred.ofValue,invoke] using I
 rw [ex];refine ⟨fun J=>by simp [FW,Fence.wide] at J,RoundIn.mono (F:=Fence.wide) u ?_⟩;rintro L w' ⟨rfl,S',k,K⟩;exact G _ w' S' μ k (by simpa [js] using K) (fun _ _ h=>h) (.atom _)
theorem Nx {rd:Option Nat} {o:Oper} {a:Act} {e:Operand->AV} {orc:Option tw} {r:R} {nk:Nat} {next:Act->World->Prop} {Q:Exit->Act->World->Prop}
  (he:∀ x∈o.op.operands.toList,aE w S μ (a.eval x) (e x)) (g:Good E σ S μ w) (k:∀ j,j < 16->μ (nk+j)=none) (hm:E.m0<=nk)
  (b:Zo P E orc) (h:HN P nk σ o.op e orc=some r) (d:bO r.U6) (f:ahu E nk σ S μ w r fun v w'=>next (a.put o.dst v) w'):o.wpIn (FW rd) 0 P a w next Q:=by
 unfold HN at h;split at h
 ·rename_i y i;have:∃ x,orc=some x/\x.y=some y:=by
   cases orc with
   | none=>cases i
   | some x=>exact ⟨x,rfl,i⟩
  obtain ⟨x,l,m⟩:=this;exact Zp (nk:=nk) he g (b.2 x y l m) h d f
 ·refine ⟨fun _ _=>trivial,?_⟩;have n:∀ c,o.op≠.defer c:=fun c p=>by grind [J7,abp,HM,iE]
  rw [Oper.semAt_eq _ _ _ n];exact amv (afu he g k hm b.1 h d f)
theorem Vn {rd:Option Nat} {nt nk:Nat} {ops:Array Oper} {i:Nat} {o:Oper} {a:Act} {tm:List (Nat×AV)} {orc:Option tw} {x:Rec} {K:Act->World->Prop} {Q:Exit->Act->World->Prop}
  (hi:ops[i]?=some o) (u:∀ t,aE w S μ (a.tmps.getD t undef) (iz tm t)) (g:Good E σ S μ w) (y:∀ j,j < 16->μ (nk+j)=none) (hm:E.m0<=nk)
  (z:Zo P E orc) (h:J8 P nt ops.toList nk tm σ o orc=some x) (l:bO x.U6)
  (m:∀ v w' S' gn,Ext w S μ w' S' gn->Good E (js σ x.upd) S' gn w'->(∀ k,(k < nk\/nk+16<=k)->μ k=none->gn k=none)->aE w' S' gn v x.val->K (a.put x.dst v) w') :
  wpOpIn (FW rd) 0 P ops Q i K a w:=by
 unfold J8 at h;split at h
 ·cases h
 ·split at h
  ·rename_i n;simp only [bE] at h;obtain ⟨r,q,rfl⟩:=h;unfold wpOpIn;rw [hi];simp only [Region.wanted,n,if_true];exact Nx (fun x _=>Jp u x) g y hm z q l m
  ·rename_i j s n;split at h
   ·cases h
   ·rename_i d B;have c:∀ b,Dk (iz tm d) s=some b->Region.wanted o (yielded ops a.tmps)=b:=fun b f=>by
     have L:yielded ops a.tmps j=Q9 (a.tmps.getD d undef):=by
      unfold yielded;unfold ahE at B;have A:(ops[j]?).bind (·.dst)=some d:=by simpa using B
      rw [A];simp only [db,Aa];cases a.tmps[d]? with
      | none=>simp [undef,Q9]
      | some v=>cases v<;>simp [Q9]
     grind [Region.wanted,Zn]
    split at h
    rotate_left
    ·split at h
     ·rename_i b r f q;cases h;unfold wpOpIn;rw [hi];have hw:=c b f;obtain ⟨e,D⟩:=l;subst e;simp only [hw,if_true];exact Nx (fun x _=>Jp u x) g y hm z q D m
     ·cases h
    ·split at h
     ·rename_i b f;cases h;unfold wpOpIn;rw [hi];have hw:=c b f;obtain ⟨e,-⟩:=l;subst e;simp only [hw,Bool.false_eq_true,if_false];refine ⟨fun _ _=>trivial,?_⟩;exact m undef w S μ (Ext.refl _ _ _) g (fun _ _ h=>h) (.when (fun h=>by cases h) (fun _=>rfl))
     ·cases h
    split at h
    ·rename_i b r f q;split at h
     ·rename_i hu;cases h;unfold wpOpIn;rw [hi];have hw:Region.wanted o (yielded ops a.tmps)=b:=c b f;simp only [hw];cases b with
      | true =>
       simp only [if_true];have F:bO r.U6:=by
        cases G:r.U6 with
        | nil=>trivial
        | cons p ps =>
         rw [G] at l;exact l.1 rfl
       refine Nx (fun x _=>Jp u x) g y hm z q F ?_;intro v w' S' gn H C I J;rw [hu] at C;exact m v w' S' gn H C I (.when (fun _=>J) (fun h=>by cases h))
      | false =>
       simp only [Bool.false_eq_true,if_false];refine ⟨fun _ _=>trivial,?_⟩;exact m undef w S μ (Ext.refl _ _ _) g (fun _ _ h=>h) (.when (fun h=>by cases h) (fun _=>rfl))
     ·cases h
    ·cases h
theorem Vo {nt nk:Nat} {ops:List Oper} {tm:List (Nat×AV)} {o:Oper} {orc:Option tw} {x:Rec} (h:J8 P nt ops nk tm σ o orc=some x):x.dst=o.dst/\∀ n,o.dst=some n->n < nt:=by
 unfold J8 at h;split at h
 ·cases h
 ·rename_i a;have c:∀ n,o.dst=some n->n < nt:=fun n b=>by
   rw [b] at a;simp only [aoc,Nat.blt,Nat.ble_eq] at a;exact a
  split at h
  ·simp only [bE] at h;grind
  grind
theorem Vp {rd:Option Nat} {ds:List Deferred} {nt nk:Nat} {ops:Array Oper} {orcs:List (Nat×tw)} (u:∀ i,Zo P E (yB orcs i)) (hm:E.m0<=nk) {Q:Exit->Act->World->Prop}:∀ (l:List Oper) (i:Nat) (a:Act) (w:World) (tm:List (Nat×AV)) (σ:gp) (S:Nat->Prop) (μ:Mu) (c:List Rec),
  ops.toList.drop i=l->i+l.length=ops.size->a.tmps.size=nt->a.defers=ds->Good E σ S μ w->(∀ k,nk+16 * i<=k->μ k=none)->(∀ t,aE w S μ (a.tmps.getD t undef) (iz tm t)) ->
  A3 P nt ops.toList nk orcs l i tm σ=some c->bO (Q8 c) ->
  (∀ a' w' S' gn,a'.tmps.size=nt->a'.defers=ds->Good E (HO c σ) S' gn w'->(∀ k,nk+16 * ops.size<=k->gn k=none)->(∀ t,aE w' S' gn (a'.tmps.getD t undef) (iz (Pm c tm) t))->Q .normal a' w') ->
  wpOpsIn (FW rd) 0 P ops Q (List.range' i l.length) a w
 | [],i,a,w,tm,σ,S,μ,c,m,p,d,b,g,e,f,h,y,q=>by
  simp only [A3,bu] at h;subst h;simp only [List.length_nil,List.range'_zero,wpOpsIn];refine q a w S μ d b g (fun k A=>e k (by simp at p;omega)) f
 | o :: r,i,a,w,tm,σ,S,μ,c,m,p,d,b,g,e,f,h,y,q=>by
  simp only [A3] at h;split at h
  ·cases h
  ·rename_i x z;simp only [bE] at h;obtain ⟨B,C,rfl⟩:=h;obtain ⟨D,p2⟩:=bO.app y;have hi:ops[i]?=some o:=by
    have:(ops.toList.drop i)[0]?=some o:=by rw [m];rfl
    rw [vz] at this;simpa using this
   have s:ops.toList.drop (i+1)=r:=by
    rw [<- List.tail_drop,m];rfl
   obtain ⟨F,G⟩:=Vo z;simp only [Fp,List.range'_succ];rw [wpOpsIn_cons];refine Vn hi f g (fun j M=>e _ ad) ad (u i) z D ?_;intro v w' S' gn H I J K;refine Vp u hm r (i+1) _ w' _ _ S' gn B s (by simp at p;omega) (by rw [Zm];exact d) (by rw [Pn];exact b) I (fun k A=>J k ad (e k ad)) ?_ C p2 q;intro t;rw [adI a x.dst v t (fun n L=>by rw [d];exact G n (F ▸ L)),wj];split
   ·exact K
   ·exact (f t).ext H
end
end Go.Ab
namespace Go.Ab
def nI (u:Ae):List Nat:=u.map (·.1)
section
variable {P:Program} {nk:Nat} {σ gV:gp}
theorem n5 {e a:Operand->AV}:∀ {xs:List Operand},(∀ x∈xs,a x=e x)->conds a xs=conds e xs
 | [],_=>rfl
 | x :: r,h=>by simp only [conds];rw [h x aD,n5 fun y b=>h y (by simp [b])]
theorem ahF {op:Op} {e h:Operand->AV} {orc:Option tw} (he:∀ x∈op.operands.toList,h x=e x):iE P nk σ op h orc=iE P nk σ op e orc:=by
 cases op with
 | move x=>grind [iE,Op.operands]
 | assign x=>grind [iE,Op.operands]
 | pick q a b=>grind [iE,Op.operands]
 | alloc T=>rfl
 | box T x=>grind [iE,conds,Op.operands]
 | build t parts =>
  simp only [iE];have g:∀ x∈parts.toList.map (·.2),h x=e x:=fun x k=>he x (by grind [Op.operands]);rw [n5 g];congr 2;apply List.map_congr_left;grind
 | buildSlice t len parts =>
  simp only [iE];have g:∀ x∈parts.toList.map (·.2),h x=e x:=fun x k=>he x (by grind [Op.operands]);rw [n5 g];have l:(parts.toList.map fun p=>(p.1,(h p.2).strip.1))=(parts.toList.map fun p=>(p.1,(e p.2).strip.1)):=by
   apply List.map_congr_left;intro p w;grind
  rw [l]
 | load T x=>grind [iE,conds,Op.operands]
 | store T x y=>grind [iE,conds,Op.operands]
 | nilCheck x=>grind [iE,conds,Op.operands]
 | binOp o t x y z=>grind [iE,conds,Op.operands]
 | unOp o t x=>grind [iE,conds,Op.operands]
 | convert s d x=>grind [iE,conds,Op.operands]
 | makeMap t r=>cases r<;>simp [iE]
 | lookup t m x ok=>simp_all [iE,conds,Op.operands]
 | mapUpdate t m x y=>simp_all [iE,conds,Op.operands]
 | insert t m x y=>simp_all [iE,conds,Op.operands]
 | makeFunc f first cap =>
  simp only [iE];have g:∀ x∈first.toList ++ cap.toList,h x=e x:=fun x k=>he x (by simpa [Op.operands] using k)
  rw [n5 g];congr 3
  ·apply List.map_congr_left;intro x k;rw [g x (by simp only [List.mem_append];exact .inl k)]
  ·apply List.map_congr_left;intro x k;rw [g x (by simp only [List.mem_append];exact .inr k)]
 | makeSlice t x y=>grind [iE,conds,Op.operands]
 | slice t x lo hi mx =>
  cases mx with
  | some _=>simp [iE]
  | none =>
   simp only [iE];have g:∀ y∈x :: (lo.toList ++ hi.toList),h y=e y:=fun y n=>he y (by
    simp only [rJ,List.mem_append,Option.mem_toList] at n;simp only [Op.operands];simp_all)
   rw [n5 g,g x aD];have l:(lo.map fun x=>(h x).strip.1)=lo.map fun x=>(e x).strip.1:=by
    cases lo with
    | none=>rfl
    | some y=>simp [g y aD]
   have v:(hi.map fun x=>(h x).strip.1)=hi.map fun x=>(e x).strip.1:=by
    cases hi with
    | none=>rfl
    | some y=>simp [g y aD]
   rw [l,v]
 | fieldAddr T x f=>grind [iE,conds,Op.operands]
 | field T x f=>grind [iE,conds,Op.operands]
 | indexAddr T x i=>grind [iE,conds,Op.operands]
 | index T x i=>grind [iE,conds,Op.operands]
 | extract x i=>grind [iE,conds,Op.operands]
 | call c =>
  obtain ⟨callee,j,argTypes⟩:=c;cases callee with
  | invoke=>simp [iE]
  | value f =>
   simp only [iE];have g:∀ x∈f :: j.toList,h x=e x:=fun x k=>he x (by simpa [Op.operands,Call.operands] using k);rw [n5 g,g f aD];have l:(j.toList.map fun x=>(h x).strip.1)=j.toList.map fun x=>(e x).strip.1:=by
    apply List.map_congr_left;intro x k;rw [g x (by simp [k])]
   rw [l]
  | builtin b =>
   simp only [iE];have g:∀ x∈j.toList,h x=e x:=fun x k=>he x (by grind [Op.operands,Call.operands]);unfold Jl;split
   ·grind [conds]
   ·grind [conds]
   ·rename_i x r u;rw [u] at g;dsimp only;rw [n5 g,g x aD];have l:(r.map fun x=>(h x).strip.1)=r.map fun x=>(e x).strip.1:=by
     apply List.map_congr_left;intro y n;rw [g y (by simp [n])]
    rw [l]
   ·rename_i x r u;rw [u] at g;dsimp only;rw [n5 g,g x aD];have l:(r.map fun x=>(h x).strip.1)=r.map fun x=>(e x).strip.1:=by
     apply List.map_congr_left;intro y n;rw [g y (by simp [n])]
    rw [l]
   ·rfl
 | _=>simp [iE]
theorem ahG {T:TypeId} {a:AV} {ps:List Prop} {x:AV} {rd:List Nat} (h:HD P σ T a=some (ps,x,rd)) (b:∀ k∈rd,aR gV k=aR σ k):HD P gV T a=some (ps,x,rd):=by
 unfold HD at h ⊢;split at h
 ·split at h
  ·rename_i k i j;split at h
   ·rename_i o c;simp only [bE,bk] at h;grind
   ·cases h
  ·exact h
  ·grind
  ·cases h
 ·cases h
theorem abr {T:TypeId} {a x:AV} {ps:List Prop} {u:Ae} {rd:List Nat} (h:uZ P σ T a x=some (ps,u,rd)) (b:∀ k∈rd,aR gV k=aR σ k):uZ P gV T a x=some (ps,u,rd):=by
 unfold uZ at h ⊢;grind
theorem afv {T:TypeId} {a x:AV} {ps:List Prop} {u:Ae} {rd:List Nat} (h:Jd P σ T a x=some (ps,u,rd)) (b:∀ k∈rd,aR gV k=aR σ k):Jd P gV T a x=some (ps,u,rd):=by
 unfold Jd at h ⊢;split at h
 ·grind
 ·exact abr h b
theorem Un {T:TypeId} {x i:AV} {ps:List Prop} {v:AV} {rd:List Nat} (h:wg P σ T x i=some (ps,v,rd)) (a:∀ k∈rd,aR gV k=aR σ k):wg P gV T x i=some (ps,v,rd):=by
 unfold wg at h ⊢;split at h
 ·split at h
  ·grind
  ·cases h
 ·omega
 ·cases h
theorem afw {T:TypeId} {x:AV} {lo hi:Option AV} {ps:List Prop} {v:AV} {rd:List Nat} (h:Je P σ T x lo hi=some (ps,v,rd)) (a:∀ k∈rd,aR gV k=aR σ k):Je P gV T x lo hi=some (ps,v,rd):=by
 unfold Je at h ⊢;split at h
 ·exact h
 ·split at h
  ·grind
  ·cases h
 ·cases h
theorem Ma {sz:Nat} {x:AV} {n:Nat} {g:Nat->List AV} {pr:Bool} {ps:List Prop} {rd:List Nat} (h:D7 σ sz x=some (n,g,pr,ps,rd)) (a:∀ k∈rd,aR gV k=aR σ k):D7 gV sz x=some (n,g,pr,ps,rd):=by
 unfold D7 at h ⊢;grind
theorem afx {a dst:TypeId} {x:AV} {ps:List Prop} {v:AV} {rd:List Nat} (h:Jh P σ a dst x=some (ps,v,rd)) (b:∀ k∈rd,aR gV k=aR σ k):Jh P gV a dst x=some (ps,v,rd):=by
 unfold Jh at h ⊢;split at h
 ·exact h
 ·split at h
  ·rename_i n gt pr e c he d;simp only [bu,bk] at h;obtain ⟨rfl,rfl,rfl⟩:=h;rw [Ma d b,he]
  ·cases h
 ·cases h
theorem Ra {t:TypeId} {s x:AV} {ps:List Prop} {v:AV} {rd:List Nat} {u:Ae} (h:zp P nk σ t s x=some (ps,v,rd,u)) (d:∀ k∈rd,aR gV k=aR σ k):zp P nk gV t s x=some (ps,v,rd,u):=by
 unfold zp at h ⊢;split at h
 ·split at h
  ·rename_i sz b z m p q;split at h
   ·rename_i n g pr i c hb f;split at h
    ·have a:rd=c:=by simp only [bu,bk] at h;exact h.2.2.1.symm
     rw [Ma f (fun k e=>d k (a ▸ e))];simp only [hb];exact h
    ·rename_i k len;split at h
     ·rename_i o j;split at h
      ·rename_i l;have a:rd=k :: c:=by simp only [bu,bk] at h;exact h.2.2.1.symm
       rw [Ma f (fun k e=>d k (by rw [a];simp [e]))];simp only [hb,d k (by simp [a]),j,l];exact h
      ·cases h
     ·cases h
    ·cases h
   ·cases h
  ·cases h
 ·cases h
mutual
theorem ahH {ks:List Nat}:∀ (x y:AV) (bs:List Nat) (ps:List Prop),x.ku σ ks=some (y,bs,ps)->(∀ k∈bs,aR gV k=aR σ k)->x.ku gV ks=some (y,bs,ps)
 | .op k i j,y,bs,ps,h,_=>by simpa [AV.ku] using h
 | .mp k,y,bs,ps,h,_=>by simpa [AV.ku] using h
 | .ov _ _ _ _ _,y,bs,ps,h,_=>by simp [AV.ku] at h
 | .PD _ _ _,y,bs,ps,h,_=>by simp [AV.ku] at h
 | .nq _ _,y,bs,ps,h,_=>by simp [AV.ku] at h
 | .bn _,y,bs,ps,h,_=>by simpa [AV.ku] using h
 | .pt _ _,y,bs,ps,h,_=>by simpa [AV.ku] using h
 | .os k off len,y,bs,ps,h,d=>by
  simp only [AV.ku] at h ⊢;split at h
  ·rename_i n l;exact h
  ·rename_i l;split at h
   ·rename_i o m;split at h
    ·rename_i p;have hb:bs=[k]:=by simp only [bu,bk] at h;exact h.2.1.symm
     simp only [d k (by simp [hb]),m,p];exact h
    ·cases h
   ·cases h
 | .agg cs,y,bs,ps,h,d=>by
  simp only [AV.ku,bE] at h ⊢;obtain ⟨⟨a,b,c⟩,h,e⟩:=h;simp only [bk] at e;obtain ⟨rfl,rfl,rfl⟩:=e;exact ⟨(a,b,c),Bt cs a b c h d,rfl⟩
 | .tup cs,y,bs,ps,h,d=>by
  simp only [AV.ku,bE] at h ⊢;obtain ⟨⟨a,b,c⟩,h,e⟩:=h;simp only [bk] at e;obtain ⟨rfl,rfl,rfl⟩:=e;exact ⟨(a,b,c),Bt cs a b c h d,rfl⟩
 | .fn g x z,y,bs,ps,h,d=>by
  simp only [AV.ku] at h ⊢;split at h
  ·rename_i a b c a' q r s t;simp only [bu,bk] at h;obtain ⟨rfl,rfl,rfl⟩:=h;rw [Bt x a b c s (fun k f=>d k (by simp [f])),Bt z a' q r t (fun k f=>d k (by simp [f]))]
  ·cases h
 | .when _ _,y,bs,ps,h,_=>by simp [AV.ku] at h
 | .mr _ _ _,y,bs,ps,h,_=>by simp [AV.ku] at h
 | .atom _,y,bs,ps,h,_=>by simpa [AV.ku] using h
 | .sl _ _,y,bs,ps,h,_=>by simpa [AV.ku] using h
 | .rp _ _,y,bs,ps,h,_=>by simpa [AV.ku] using h
 | .nil,y,bs,ps,h,_=>by simpa [AV.ku] using h
 | .qm,y,bs,ps,h,_=>by simpa [AV.ku] using h
theorem Bt {ks:List Nat}:∀ (xs ys:List AV) (bs:List Nat) (ps:List Prop),AV.yi σ ks xs=some (ys,bs,ps)->(∀ k∈bs,aR gV k=aR σ k)->AV.yi gV ks xs=some (ys,bs,ps)
 | [],ys,bs,ps,h,_=>by simpa [AV.yi] using h
 | c :: cs,ys,bs,ps,h,e=>by
  simp only [AV.yi] at h ⊢;split at h
  ·rename_i a b p a' f g i j;simp only [bu,bk] at h;obtain ⟨rfl,rfl,rfl⟩:=h;rw [ahH c a b p i (fun k d=>e k (by simp [d])),Bt cs a' f g j (fun k d=>e k (by simp [d]))]
  ·cases h
end
theorem Vq {ks:List Nat}:∀ (l:List Nat) (i:Nat),(∀ k∈l,aR gV k=aR σ k)->canon gV ks i l=canon σ ks i l
 | [],i,_=>rfl
 | k :: r,i,h=>by simp only [canon];rw [h k aD,Vq r (i+1) fun k a=>h k (by simp [a])]
theorem Kp {ks:List Nat} {lone:Bool}:∀ (l:List Nat),(∀ k∈l,aR gV k=aR σ k)->HJ gV ks lone l=HJ σ ks lone l
 | [],_=>rfl
 | k :: r,h=>by simp only [HJ];rw [h k aD,Kp r fun k a=>h k (by simp [a])]
theorem ahI {f:AV} {a:List AV} {orc:tw} {r:R} (h:QX P nk σ f a orc=some r) (c:∀ k∈r.rds,aR gV k=aR σ k):QX P nk gV f a orc=some r:=by
 unfold QX L4 at h ⊢;split at h
 case h_2=>cases h
 rename_i gid first cap
 split at h
 case h_2=>cases h
 rename_i as bs ps zr d e g;split at h
 case h_2=>cases h
 rename_i i;have j:r.rds=orc.ks ++ bs:=by
  split at h
  ·split at h
   ·split at h
    ·cases h;rfl
    ·cases h
   ·split at h
    ·cases h;rfl
    ·cases h
  ·split at h
   ·cases h;rfl
   ·cases h
 rw [j] at c;simp only [d,Bt _ _ _ _ e (fun k b=>c k (by simp [b])),Vq orc.ks 0 (fun k b=>c k (by simp [b])),Kp (ks:=orc.ks) (lone:=bs.isEmpty || orc.GP) orc.ks (fun k b=>c k (by simp [b])),Kp (ks:=orc.ks) (lone:=true) orc.ks (fun k b=>c k (by simp [b])),g,i];exact h
theorem abt {t:TypeId} {m x:AV} {ok:Bool} {orc:tw} {ps:List Prop} {v:AV} {rd:List Nat} (h:Eb P σ t m x ok orc=some (ps,v,rd)) (a:∀ k∈rd,aR gV k=aR σ k):Eb P gV t m x ok orc=some (ps,v,rd):=by
 unfold Eb at h ⊢;grind
theorem Rb {t:TypeId} {m x y:AV} {orc:tw} {ps:List Prop} {u:Ae} {rd:List Nat} (h:Ec P σ t m x y orc=some (ps,u,rd)) (a:∀ k∈rd,aR gV k=aR σ k):Ec P gV t m x y orc=some (ps,u,rd):=by
 unfold Ec at h ⊢;grind
theorem Zq {op:Op} {e:Operand->AV} {orc:Option tw} {r:R} (h:iE P nk σ op e orc=some r) (d:∀ k∈r.rds,aR gV k=aR σ k):iE P nk gV op e orc=some r:=by
 cases op with
 | load T x =>
  simp only [iE,bE] at h ⊢;obtain ⟨⟨ps,v,rd⟩,a,rfl⟩:=h;exact ⟨_,ahG a d,rfl⟩
 | store T x y =>
  simp only [iE,bE] at h ⊢;obtain ⟨⟨ps,v,rd⟩,a,rfl⟩:=h;exact ⟨_,afv a d,rfl⟩
 | indexAddr T x i =>
  simp only [iE,bE] at h ⊢;obtain ⟨⟨ps,v,rd⟩,a,rfl⟩:=h;exact ⟨_,Un a d,rfl⟩
 | slice t x lo hi mx =>
  cases mx with
  | some _=>simp [iE] at h
  | none =>
   simp only [iE,bE] at h ⊢;obtain ⟨⟨ps,v,rd⟩,a,rfl⟩:=h;exact ⟨_,afw a d,rfl⟩
 | convert j dst x =>
  simp only [iE] at h ⊢;split at h
  ·omega
  ·rename_i l;simp only [bE] at h ⊢;obtain ⟨⟨ps,v,rd⟩,a,rfl⟩:=h;exact ⟨_,afx a d,rfl⟩
 | makeMap t r=>cases r with
  | none=>exact h
  | some _=>simp [iE] at h
 | lookup t m x ok =>
  simp only [iE] at h ⊢;split at h
  ·simp only [bE] at h ⊢;obtain ⟨⟨ps,v,rd⟩,a,rfl⟩:=h;exact ⟨_,abt a d,rfl⟩
  ·cases h
 | mapUpdate t m x y =>
  simp only [iE] at h ⊢;split at h
  ·simp only [bE] at h ⊢;obtain ⟨⟨ps,u,rd⟩,a,rfl⟩:=h;exact ⟨_,Rb a d,rfl⟩
  ·cases h
 | insert t m x y =>
  simp only [iE] at h ⊢;split at h
  ·simp only [bE] at h ⊢;obtain ⟨⟨ps,u,rd⟩,a,rfl⟩:=h;exact ⟨_,Rb a d,rfl⟩
  ·cases h
 | call c =>
  obtain ⟨callee,g,argTypes⟩:=c;cases callee with
  | invoke=>simp [iE] at h
  | value f =>
   simp only [iE] at h ⊢;split at h
   ·simp only [bE] at h ⊢;obtain ⟨n,a,rfl⟩:=h;exact ⟨_,ahI a d,rfl⟩
   ·cases h
  | builtin b =>
   simp only [iE] at h ⊢;unfold Jl at h ⊢;split at h
   ·exact h
   ·split at h
    ·simp only [bE] at h ⊢;obtain ⟨⟨ps,v,rd,u⟩,a,rfl⟩:=h;exact ⟨_,Ra a d,rfl⟩
    ·cases h
   ·exact h
   ·exact h
   ·cases h
 | _=>exact h
theorem amw {op:Op} {e b:Operand->AV} {orc:Option tw} (he:∀ x∈op.operands.toList,b x=e x):HM P nk σ op b orc=HM P nk σ op e orc:=by
 unfold HM;split
 ·exact ahF he
 ·split
  ·grind [conds,Op.operands]
  ·grind [Op.operands,Call.operands,conds]
  ·grind [Op.operands,Call.operands,conds]
  ·grind [Op.operands,Call.operands,conds]
  ·rename_i t x lo hi mx;have c:b x=e x:=he x (by simp [Op.operands]);have d:∀ y∈lo,b y=e y:=fun y a=>he y (by cases a;simp [Op.operands]);have f:∀ y∈hi,b y=e y:=fun y a=>he y (by cases a;simp [Op.operands]);have g:∀ y∈mx,b y=e y:=fun y a=>he y (by cases a;simp [Op.operands]);split
   ·have i:(lo.map fun y=>(b y).strip.1)=lo.map fun y=>(e y).strip.1:=by
     cases lo with
     | none=>rfl
     | some y=>simp only [Option.map_some];rw [d y rfl]
    have j:(hi.map fun y=>(b y).strip.1)=hi.map fun y=>(e y).strip.1:=by
     cases hi with
     | none=>rfl
     | some y=>simp only [Option.map_some];rw [f y rfl]
    have k:conds b (x :: (lo.toList ++ hi.toList))=conds e (x :: (lo.toList ++ hi.toList)):=n5 fun y a=>by
     simp only [rJ,List.mem_append,Option.mem_toList] at a;rcases a with rfl | a | a
     ·exact c
     ·exact d _ a
     ·exact f _ a
    rw [c,i,j,k]
   ·split
    ·rename_i l h;simp only [conds];rw [c,d l rfl,f h rfl,g _ rfl]
    ·rfl
  ·exact ahF he
theorem afy {T:TypeId} {a x:AV} {ps:List Prop} {y:AV} {rd:List Nat} (h:Jn P σ T a x=some (ps,y,rd)) (b:∀ k∈rd,aR gV k=aR σ k):Jn P gV T a x=some (ps,y,rd):=by
 unfold Jn at h ⊢;grind
theorem WA:∀ (u:Ae) (n:Nat),(∀ a b:gp,aR (js a u) n=aR (js b u) n)\/∀ a:gp,aR (js a u) n=aR a n
 | [],n=>.inr fun _=>rfl
 | (k,some o) :: u,n=>by
  simp only [js];rcases WA u n with h | h
  ·grind
  ·by_cases c:k=n
   ·simp_all [bP,if_pos]
   simp_all [bP,if_neg]
 | (k,none) :: u,n=>by
  simp only [js];rcases WA u n with h | h
  ·grind
  ·by_cases c:k=n
   ·simp_all [jU,if_pos]
   simp_all [jU,if_neg]
theorem amx {b a:gp} {k q i:Nat} (c:aR a k=aR b k) (d:aR a q=aR b q):Wz a k q i=Wz b k q i:=by
 unfold Wz;rw [c,d]
theorem Zr {t:TypeId} {s x:AV} {orc:tw} {ps:List Prop} {v:AV} {rd:List Nat} {u:Ae} (h:Bs P nk σ t s x orc=some (ps,v,rd,u)) (f:∀ k∈rd,aR gV k=aR σ k):Bs P nk gV t s x orc=some (ps,v,rd,u):=by
 unfold Bs at h ⊢;split at h
 case h_2=>cases h
 rename_i q m v' c a hq b;split at h
 case h_2=>cases h
 rename_i p2 n hb p;have d:rd=q :: c:=by simp only [bu,bk] at h;exact h.2.2.1.symm
 have r:=Ra b (fun k g=>f k (by rw [d];simp [g]));have i:aR (js gV a) nk=aR (js σ a) nk:=by
  have j:∃ o,a=[(nk,some o)]\/∃ k,a=[(k,none),(nk,some o)]:=by
   unfold zp at b;split at b
   ·split at b
    ·grind
    ·cases b
   ·cases b
  obtain ⟨o,rfl | ⟨k,rfl⟩⟩:=j<;>simp only [js]<;>rw [bP,bP,if_pos rfl,if_pos rfl]
 have l:aR (js gV a) q=aR (js σ a) q:=by
  rcases WA a q with e | e
  ·exact e _ _
  ·simp_all
 grind [amx]
theorem abu {T:TypeId} {x:AV} {lo hi:Option AV} {ps:List Prop} {v:AV} {rd:List Nat} (h:Ed P σ T x lo hi=some (ps,v,rd)) (a:∀ k∈rd,aR gV k=aR σ k):Ed P gV T x lo hi=some (ps,v,rd):=by
 unfold Ed at h ⊢;split at h
 case h_2=>cases h
 grind
theorem ahJ {t:TypeId} {s x:AV} {ps:List Prop} {v:AV} {rd:List Nat} {u:Ae} (h:Nt P σ t s x=some (ps,v,rd,u)) (a:∀ k∈rd,aR gV k=aR σ k):Nt P gV t s x=some (ps,v,rd,u):=by
 unfold Nt at h ⊢;split at h
 case h_2=>cases h
 grind
theorem ahK {t:TypeId} {s x:AV} {ps:List Prop} {v:AV} {rd:List Nat} {u:Ae} (h:Nu P σ t s x=some (ps,v,rd,u)) (a:∀ k∈rd,aR gV k=aR σ k):Nu P gV t s x=some (ps,v,rd,u):=by
 unfold Nu at h ⊢;split at h
 case h_2=>cases h
 grind
theorem ahL {t:TypeId} {s x:AV} {ps:List Prop} {v:AV} {rd:List Nat} {u:Ae} (h:Nv P σ t s x=some (ps,v,rd,u)) (d:∀ k∈rd,aR gV k=aR σ k):Nv P gV t s x=some (ps,v,rd,u):=by
 unfold Nv at h ⊢;split at h
 case h_2=>cases h
 rename_i e he;split at h
 case h_2=>cases h
 rename_i sz b z k off m j hb l;split at h
 case h_2=>cases h
 rename_i n gt pr f a o g p;split at h
 case h_2=>cases h
 rename_i q;have c:rd=k :: a:=by simp only [bu,bk] at h;exact h.2.2.1.symm
 rw [Ma g (fun k i=>d k (by rw [c];simp [i]))];grind
theorem ahM {t:TypeId} {s x:AV} {ps:List Prop} {v:AV} {rd:List Nat} {u:Ae} (h:Nw P nk σ t s x=some (ps,v,rd,u)) (d:∀ k∈rd,aR gV k=aR σ k):Nw P nk gV t s x=some (ps,v,rd,u):=by
 unfold Nw at h ⊢;split at h
 case h_2=>cases h
 rename_i e he;split at h
 case h_2=>cases h
 rename_i sz b z k off m j hb l;split at h
 case h_2=>cases h
 rename_i n gt pr f a o g p;split at h
 case h_2=>cases h
 rename_i q;have c:rd=k :: a:=by simp only [bu,bk] at h;exact h.2.2.1.symm
 rw [Ma g (fun k i=>d k (by rw [c];simp [i]))];grind
theorem afz {t:TypeId} {x:AV} {ps:List Prop} {v:AV} {rd:List Nat} {u:Ae} (h:Jo P σ t x=some (ps,v,rd,u)) (a:∀ k∈rd,aR gV k=aR σ k):Jo P gV t x=some (ps,v,rd,u):=by
 unfold Jo at h ⊢;split at h
 case h_2=>cases h
 grind
theorem Vs {op:Op} {e:Operand->AV} {orc:Option tw} {r:R} (h:HM P nk σ op e orc=some r) (b:∀ k∈r.rds,aR gV k=aR σ k):HM P nk gV op e orc=some r:=by
 unfold HM at h ⊢;split at h
 ·exact Zq h b
 ·rename_i q f;split at h
  ·simp only [bE] at h ⊢;obtain ⟨⟨ps,v,rd⟩,a,rfl⟩:=h;exact ⟨_,afy a b,rfl⟩
  ·split at h
   ·rename_i x y t t' c d;split at h
    ·rename_i hb;simp only [bE] at h;obtain ⟨⟨ps,v,rd,u⟩,a,rfl⟩:=h;simp only [c,d,hb,bE];refine ⟨⟨ps,v,rd,u⟩,?_,rfl⟩;split at a
     ·exact ahJ a b
     ·exact ahL a b
     ·exact ahM a b
     ·exact Zr a b
    ·cases h
   ·cases h
  ·split at h
   ·rename_i x y t t' c d;simp only [bE] at h;obtain ⟨⟨ps,v,rd,u⟩,a,rfl⟩:=h;simp only [c,d,bE];exact ⟨_,ahK a b,rfl⟩
   ·cases h
  ·split at h
   ·rename_i x t c d;simp only [bE] at h;obtain ⟨⟨ps,v,rd,u⟩,a,rfl⟩:=h;simp only [c,d,bE];exact ⟨_,afz a b,rfl⟩
   ·cases h
  ·split at h
   ·simp only [bE] at h ⊢;obtain ⟨⟨ps,v,rd⟩,a,rfl⟩:=h;exact ⟨_,abu a b,rfl⟩
   ·exact h
  ·exact Zq h b
theorem Vt {a:gp} {e b:Operand->AV}:∀ {xs:List Operand},(∀ x∈xs,b x=e x)->fzC a b xs=fzC a e xs
 | [],_=>rfl
 | x :: r,h=>by simp only [fzC];rw [h x aD,Vt fun y c=>h y (by simp [c])]
theorem Vu:∀ {a:gp} {ps:List Prop},fzS σ a=some ps->(∀ k∈a.map (·.1),aR gV k=aR σ k)->fzS gV a=some ps
 | [],ps,h,_=>h
 | (k,o') :: r,ps,h,b=>by
  simp only [fzS] at h ⊢;split at h
  ·rename_i o e c d;rw [b k aD,c,Vu d fun k f=>b k (by simp_all)];exact h
  ·cases h
theorem amy {op:Op} {e a:Operand->AV} {orc:Option tw} (he:∀ x∈op.operands.toList,a x=e x):J7 P nk σ op a orc=J7 P nk σ op e orc:=by
 simp_all [J7,amw,Vt,fzA]
theorem afA {op:Op} {e:Operand->AV} {orc:Option tw} {r:R} (h:J7 P nk σ op e orc=some r) (a:∀ k∈r.rds,aR gV k=aR σ k):J7 P nk gV op e orc=some r:=by
 unfold J7 at h ⊢;split at h
 ·exact Vs h a
 ·split at h
  ·rename_i ps f c d;cases h;rw [Vu c fun k b=>a k (List.mem_append_left _ b),Vs d fun k b=>by rw [sd,sd,a k (List.mem_append_right _ b)]]
  ·cases h
end
def ahN (l:List Nat) (k:Nat):Bool:=l.any fun x=>Nat.beq x k
theorem Rc {l:List Nat} {k:Nat}:ahN l k=true↔k∈l:=by
 simp only [ahN,List.any_eq_true];simp
theorem ahO {a b:Nat} (h:a < b):Nat.blt a b=true:=by
 simp_all
theorem Po {a b:Nat} (h:¬ a < b):Nat.blt a b=false:=by
 cases hb:Nat.blt a b with
 | false=>rfl
 | true=>simp only [Nat.blt,Nat.ble_eq] at hb;exact (h hb).elim
theorem ahP {a b:Nat} (h:Nat.blt a b=true):a < b:=by
 simp_all
def tmpsOf:List Operand->List Nat
 | []=>[]
 | .tmp t :: r=>t :: tmpsOf r
 | _ :: r=>tmpsOf r
def Rd (ops:List Oper) (o:Oper):List Nat :=
 tmpsOf o.op.operands.toList ++ (match o.guard with
  | some (j,_)=>(ahE ops j).toList
  | none=>[])
theorem Rf:∀ {l:List Operand} {t:Nat},Operand.tmp t∈l->t∈tmpsOf l
 | [],_,h=>by simp at h
 | x :: r,t,h=>by
  rcases rJ.1 h with rfl | h'
  ·simp [tmpsOf]
  ·have:=Rf h';cases x<;>simp [tmpsOf,this]
def y4 (o:Oper):List Nat:=(o.after.toList.filter (Region.binds .any ·)).map (·.on)
def Vv (ops:List Oper):Nat->Nat->Nat->Bool
 | 0,_,_=>false
 | n+1,i,j=>match ops[j]? with
  | none=>false
  | some o=>(y4 o).any fun e=>Nat.beq e i || Vv ops n i e
def WB:Option Nat->Option Nat->Bool
 | some a,some b=>Nat.beq a b
 | _,_=>false
def meets (l m:List Nat):Bool:=l.any fun k=>ahN m k
def Rg (ops:List Oper) (o p:Oper) (x y:Rec):Bool :=
 meets x.dst.toList (Rd ops p) || meets y.dst.toList (Rd ops o) || meets (nI x.upd) (y.rds ++ nI y.upd) || meets x.rds (nI y.upd)
def abv (ops:List Oper) (a:List Rec) (i j:Nat):Bool :=
 match ops[i]?,ops[j]?,a[i]?,a[j]? with
 | some o,some p,some x,some y=>!WB x.dst y.dst && (!Rg ops o p x y || Vv ops ops.length i j)
 | _,_,_,_=>false
def WC (ops:List Oper) (j:Nat):Bool :=
 match ops[j]? with
 | some o=>(y4 o).all fun e=>Nat.blt e j
 | none=>false
def ahQ (ops:List Oper) (a:List Rec):Bool :=
 (List.range ops.length).all fun j=>WC ops j && (List.range j).all fun i=>abv ops a i j
def Uo (L:Nat->Bool):List Rec->Nat->List (Nat×AV)->List (Nat×AV)
 | [],_,tm=>tm
 | x :: r,i,tm=>Uo L r (i+1) (match L i with
  | true=>Pk tm x.dst x.val
  | false=>tm)
def Ee (L:Nat->Bool):List Rec->Nat->gp->gp
 | [],_,σ=>σ
 | x :: r,i,σ=>Ee L r (i+1) (match L i with
  | true=>js σ x.upd
  | false=>σ)
theorem se:∀ (u:Ae) (σ:gp) (k:Nat),aR (js σ u) k=if k∈nI u then aR (js [] u) k else aR σ k
 | [],σ,k=>by simp [nI,js]
 | (n,some o) :: r,σ,k=>by
  simp only [js];rw [se r (sset σ n o) k,se r (sset [] n o) k,bP,bP]
  by_cases a:k∈nI r
  ·simp [nI] at a ⊢;simp [a]
  ·by_cases b:n=k
   ·subst b;simp [nI]
   ·have:¬ k∈nI ((n,some o) :: r):=by simp [nI] at a ⊢;exact ⟨fun h=>b h.symm,a⟩
    rw [if_neg a,if_neg b,if_neg this]
 | (n,none) :: r,σ,k=>by
  simp only [js];rw [se r (D4 σ n) k,se r (D4 [] n) k,jU,jU]
  by_cases a:k∈nI r
  ·simp [nI] at a ⊢;simp [a]
  ·by_cases b:n=k
   ·subst b;simp [nI]
   ·have:¬ k∈nI ((n,none) :: r):=by simp [nI] at a ⊢;exact ⟨fun h=>b h.symm,a⟩
    rw [if_neg a,if_neg b,if_neg this]
theorem Rh {L b:Nat->Bool} {t:Nat}:∀ (c:List Rec) (i:Nat) (tm a:List (Nat×AV)),iz tm t=iz a t ->
  (∀ (m:Nat) (x:Rec),c[m]?=some x->L (i+m)≠b (i+m)->x.dst≠some t)->iz (Uo L c i tm) t=iz (Uo b c i a) t
 | [],_,_,_,h,_=>h
 | x :: r,i,tm,a,h,d=>by
  simp only [Uo];refine Rh r (i+1) _ _ ?_ (fun m y e f=>d (m+1) y (by simpa using e) (by grind))
  by_cases he:L i=b i
  ·grind [wj]
  ·have:=d 0 x aD (by simpa using he);have g:iz (Pk tm x.dst x.val) t=iz tm t:=by rw [wj,if_neg this]
   have j:iz (Pk a x.dst x.val) t=iz a t:=by rw [wj,if_neg this]
   grind
theorem Ny {L a:Nat->Bool} {k:Nat}:∀ (b:List Rec) (i:Nat) (σ gV:gp),aR σ k=aR gV k ->
  (∀ (m:Nat) (x:Rec),b[m]?=some x->L (i+m)≠a (i+m)->k ∉ nI x.upd)->aR (Ee L b i σ) k=aR (Ee a b i gV) k
 | [],_,_,_,h,_=>h
 | x :: r,i,σ,gV,h,c=>by
  simp only [Ee];refine Ny r (i+1) _ _ ?_ (fun m y d e=>c (m+1) y (by simpa using d) (by grind))
  by_cases he:L i=a i
  ·grind [se]
  ·have:=c 0 x aD (by simpa using he);have f:aR (js σ x.upd) k=aR σ k:=by rw [se,if_neg this]
   have g:aR (js gV x.upd) k=aR gV k:=by rw [se,if_neg this]
   grind
theorem adJ {L:Nat->Bool} {a:Nat} {x:Rec} {t:Nat}:∀ (f:List Rec) (i:Nat) (tm:List (Nat×AV)),i<=a->f[a - i]?=some x ->
  (∀ (m:Nat) (y:Rec),f[m]?=some y->a < i+m->x.dst=some t->y.dst≠some t) ->
  iz (Uo (fun q=>L q || Nat.beq q a) f i tm) t=if x.dst=some t then x.val else iz (Uo L f i tm) t
 | [],i,tm,_,h,_=>by simp at h
 | y :: r,i,tm,hi,h,k=>by
  simp only [Uo]
  by_cases he:i=a
  ·subst he;simp at h;subst h;rw [xc rfl,Bool.or_true];have g:∀ b c:List (Nat×AV),iz b t=iz c t->iz (Uo (fun q=>L q || Nat.beq q i) r (i+1) b) t=iz (Uo L r (i+1) c) t:=by
    intro b c j;refine Rh r (i+1) _ _ j ?_;intro m z d o;exfalso;apply o;rw [tz ad,Bool.or_false]
   by_cases e:y.dst=some t
   ·rw [if_pos e];have p:∀ (l:List Rec) (n:Nat) (tm:List (Nat×AV)) (M:Nat->Bool),(∀ (m:Nat) (z:Rec),l[m]?=some z->z.dst≠some t)->iz (Uo M l n tm) t=iz tm t:=by
     intro l
     induction l with
     | nil=>intro n tm M _;rfl
     | cons z l s =>
      intro n tm M d;simp only [Uo];rw [s _ _ _ (fun m u v=>d (m+1) u (by simpa using v))];split
      ·rw [wj,if_neg (d 0 z aD)]
      ·rfl
    rw [p r _ _ _ (fun m z d=>k (m+1) z (by simpa using d) ad e),wj,if_pos e]
   ·rw [if_neg e];refine g _ _ ?_;rw [wj,if_neg e];split
    ·rw [wj,if_neg e]
    ·rfl
  ·rw [tz he,Bool.or_false];refine adJ r (i+1) _ ad ?_ (fun m z d w=>k (m+1) z (by simpa using d) ad);rw [show a - i=(a - (i+1))+1 by omega] at h;simpa using h
theorem Zs {L:Nat->Bool} {c:Nat} {x:Rec} {k:Nat}:∀ (d:List Rec) (i:Nat) (σ:gp),i<=c->d[c - i]?=some x ->
  (∀ (m:Nat) (y:Rec),d[m]?=some y->c < i+m->L (i+m)=true->k∈nI x.upd->k ∉ nI y.upd) ->
  aR (Ee (fun q=>L q || Nat.beq q c) d i σ) k=if k∈nI x.upd then aR (js [] x.upd) k else aR (Ee L d i σ) k
 | [],i,σ,_,h,_=>by simp at h
 | y :: r,i,σ,hi,h,f=>by
  simp only [Ee]
  by_cases he:i=c
  ·subst he;simp at h;subst h;rw [xc rfl,Bool.or_true]
   by_cases b:k∈nI y.upd
   ·rw [if_pos b];have g:∀ (l:List Rec) (n:Nat) (σ:gp) (M:Nat->Bool),(∀ (m:Nat) (z:Rec),l[m]?=some z->M (n+m)=true->k ∉ nI z.upd)->aR (Ee M l n σ) k=aR σ k:=by
     intro l
     induction l with
     | nil=>intro n tm M _;rfl
     | cons z l j =>
      intro n σ M a;simp only [Ee];rw [j _ _ _ (fun m u o e=>a (m+1) u (by simpa using o) (by grind))];split
      ·rename_i e;rw [se,if_neg (a 0 z aD (by simpa using e))]
      ·rfl
    rw [g r _ _ _ ?_,se,if_pos b];intro m z a e;rw [tz ad,Bool.or_false] at e;exact f (m+1) z (by simpa using a) ad (by grind) b
   ·rw [if_neg b];refine Ny r (i+1) _ _ ?_ ?_
    ·rw [se,if_neg b];split
     ·rw [se,if_neg b]
     ·rfl
    ·intro m z a p;exfalso;apply p;rw [tz ad,Bool.or_false]
  ·rw [tz he,Bool.or_false];refine Zs r (i+1) _ ad ?_ (fun m z a s t=>f (m+1) z (by simpa using a) ad (by grind));grind
theorem adK:∀ (a:List Rec) (i:Nat) (tm:List (Nat×AV)) (L:Nat->Bool),(∀ m,m < a.length->L (i+m)=true)->Uo L a i tm=Pm a tm
 | [],_,_,_,_=>rfl
 | x :: r,i,tm,L,h=>by
  simp only [Uo,Pm];have:=h 0 aD;rw [Nat.add_zero] at this;rw [this,adK r (i+1) _ L (fun m hm=>by rw [show i+1+m=i+(m+1) by omega];simp_all)]
theorem Zt:∀ (a:List Rec) (i:Nat) (σ:gp) (L:Nat->Bool),(∀ m,m < a.length->L (i+m)=true)->Ee L a i σ=HO a σ
 | [],_,_,_,_=>rfl
 | x :: r,i,σ,L,h=>by
  simp only [Ee,HO];have:=h 0 aD;rw [Nat.add_zero] at this;rw [this,Zt r (i+1) _ L (fun m hm=>by rw [show i+1+m=i+(m+1) by omega];simp_all)]
theorem Ri:∀ (a:List Rec) (i:Nat) (tm:List (Nat×AV)) (L:Nat->Bool),(∀ m,m < a.length->L (i+m)=false)->Uo L a i tm=tm
 | [],_,_,_,_=>rfl
 | x :: r,i,tm,L,h=>by
  simp only [Uo];have:=h 0 aD;rw [Nat.add_zero] at this;rw [this,Ri r (i+1) _ L (fun m hm=>by rw [show i+1+m=i+(m+1) by omega];simp_all)]
theorem Nz:∀ (a:List Rec) (i:Nat) (σ:gp) (L:Nat->Bool),(∀ m,m < a.length->L (i+m)=false)->Ee L a i σ=σ
 | [],_,_,_,_=>rfl
 | x :: r,i,σ,L,h=>by
  simp only [Ee];have:=h 0 aD;rw [Nat.add_zero] at this;rw [this,Nz r (i+1) _ L (fun m hm=>by rw [show i+1+m=i+(m+1) by omega];simp_all)]
section
variable {P:Program}
theorem Vw {nt nk:Nat} {ops:List Oper} {orcs:List (Nat×tw)}:∀ (l:List Oper) (i:Nat) (tm:List (Nat×AV)) (σ:gp) (a:List Rec),A3 P nt ops nk orcs l i tm σ=some a ->
  a.length=l.length/\∀ (m:Nat) (x:Rec),a[m]?=some x->∃ o,l[m]?=some o /\
   J8 P nt ops (nk+16 * (i+m)) (Uo (fun q=>Nat.blt q (i+m)) a i tm) (Ee (fun q=>Nat.blt q (i+m)) a i σ) o (yB orcs (i+m))=some x
 | [],i,tm,σ,a,h=>by
  simp only [A3,bu] at h;simp_all
 | o :: r,i,tm,σ,a,h=>by
  simp only [A3] at h;split at h
  ·cases h
  ·rename_i n c;simp only [bE] at h;obtain ⟨e,f,rfl⟩:=h;obtain ⟨g,j⟩:=Vw r (i+1) _ _ e f;refine ⟨by simp [g],?_⟩;intro m x d;cases m with
   | zero =>
    simp at d;subst d;refine ⟨o,aD,?_⟩;simp only [Nat.add_zero,Uo,Ee];have b:Nat.blt i i=false:=Po ad;rw [b];rw [Ri,Nz]
    ·exact c
    ·intro m _;exact Po ad
    ·intro m _;exact Po ad
   | succ m =>
    obtain ⟨o',k,he⟩:=j m x (by simpa using d);refine ⟨o',by simpa using k,?_⟩;have b:Nat.blt i (i+(m+1))=true:=ahO ad;simp only [Uo,Ee];rw [b];rw [show i+(m+1)=i+1+m by omega];exact he
theorem WD {nk:Nat} {op:Op} {e b:Operand->AV} {orc:Option tw} {σ:gp} (he:∀ x∈op.operands.toList,b x=e x):HN P nk σ op b orc=HN P nk σ op e orc:=by
 unfold HN;split
 ·unfold L9;split
  ·rename_i f a d;have mem:∀ x,x∈f :: a.toList->b x=e x:=by
    intro x c;refine he x ?_;simp only [Op.operands,Call.operands] at *
    simpa using c
   rw [mem f aD,n5 mem,List.map_congr_left (fun x c=>by rw [mem x (List.mem_cons_of_mem _ c)]:∀ x∈a.toList,(b x).strip.1=(e x).strip.1)]
  ·rfl
 ·exact amy he
theorem NA {nk:Nat} {op:Op} {e:Operand->AV} {orc:Option tw} {σ gV:gp} {r:R} (h:HN P nk σ op e orc=some r) (a:∀ k∈r.rds,aR gV k=aR σ k):HN P nk gV op e orc=some r:=by
 unfold HN at h ⊢;split at h
 ·unfold L9 at h ⊢;grind
 ·exact afA h a
theorem afB {nt nk:Nat} {ops:List Oper} {tm a:List (Nat×AV)} {σ gV:gp} {o:Oper} {orc:Option tw} {x:Rec} (h:J8 P nt ops nk tm σ o orc=some x)
  (l:∀ t∈Rd ops o,iz a t=iz tm t) (e:∀ k∈x.rds,aR gV k=aR σ k):J8 P nt ops nk a gV o orc=some x:=by
 have he:∀ y∈o.op.operands.toList,GU a y=GU tm y:=by
  intro y m;cases y with
  | tmp t=>exact l t (by simp only [Rd,List.mem_append];exact .inl (Rf m))
  | _=>rfl
 unfold J8 at h ⊢;split at h
 ·cases h
 ·split at h
  ·simp only [bE] at h ⊢;obtain ⟨r,b,rfl⟩:=h;exact ⟨r,by rw [WD he];exact NA b e,rfl⟩
  ·rename_i j want f;split at h
   ·cases h
   ·rename_i d n;have i:iz a d=iz tm d:=l d (by simp [Rd,f,n]);rw [i];split at h
    ·split at h
     ·rename_i g r c b;split at h
      ·rename_i hu;cases h;rw [WD he,NA b e,c];simp [hu]
      ·cases h
     ·cases h
    ·split at h
     ·rename_i g r c b;cases h;rw [WD he,NA b e,c]
     ·cases h
    ·split at h
     ·rename_i g c;exact h
     ·cases h
theorem Kq {ops:List Oper} {L:Nat->Bool} (b:∀ j,L j=true->∀ o,ops[j]?=some o->∀ e∈y4 o,L e=true):∀ (n i j:Nat),Vv ops n i j=true ->
  (∀ o,ops[j]?=some o->∀ e∈y4 o,L e=true)->L i=true
 | 0,i,j,h,_=>by simp [Vv] at h
 | n+1,i,j,h,c=>by
  simp only [Vv] at h;split at h
  ·cases h
  ·rename_i o d;simp only [List.any_eq_true,Bool.or_eq_true] at h;obtain ⟨e,he,h | h⟩:=h
   ·simp_all
   ·exact Kq b n i e h fun o' f g a=>b e (c o d e he) o' f g a
def afC (ops:List Oper) (o p:Oper) (x y:Rec):Prop :=
 (∃ d,x.dst=some d/\d∈Rd ops p)\/(∃ d,y.dst=some d/\d∈Rd ops o)\/(∃ k,k∈nI x.upd/\(k∈y.rds\/k∈nI y.upd))\/∃ k,k∈x.rds/\k∈nI y.upd
theorem Jq {l m:List Nat} {k:Nat} (a:k∈l) (b:k∈m):meets l m=true:=List.any_eq_true.2 ⟨k,a,Rc.2 b⟩
theorem afC.Rg {ops:List Oper} {o p:Oper} {x y:Rec} (h:afC ops o p x y):Rg ops o p x y=true:=by
 unfold Ab.Rg;simp only [Bool.or_eq_true];rcases h with ⟨d,a,b⟩ | ⟨d,a,b⟩ | ⟨k,a,b⟩ | ⟨k,a,b⟩
 ·simp_all [Jq]
 ·simp_all [Jq]
 ·grind [Jq]
 grind [Jq]
theorem afC.symm {ops:List Oper} {o p:Oper} {x y:Rec} (h:afC ops o p x y):afC ops p o y x:=by
 rcases h with h | h | ⟨k,b,a | a⟩ | ⟨k,b,a⟩
 ·exact .inr (.inl h)
 ·exact .inl h
 ·exact .inr (.inr (.inr ⟨k,a,b⟩))
 ·exact .inr (.inr (.inl ⟨k,a,.inr b⟩))
 ·exact .inr (.inr (.inl ⟨k,a,.inl b⟩))
theorem count_set:∀ (l:List Bool) (i:Nat),l[i]?=some false->((l.set i true).filter (· == true)).length=(l.filter (· == true)).length+1
 | [],i,h=>by simp at h
 | b :: l,0,h=>by simp at h;subst h;simp
 | b :: l,i+1,h=>by
  have:=count_set l i (by simpa using h);cases b<;>simp_all
theorem abx {E:Env} {rd:Option Nat} {ds:List Deferred} {nt nk:Nat} {ops:Array Oper} {orcs:List (Nat×tw)} {A:List (Nat×AV)} {s:gp} {b:List Rec} {Q:Exit->Act->World->Prop} (hz:∀ i,Zo P E (yB orcs i)) (hm:E.m0<=nk)
  (htr:A3 P nt ops.toList nk orcs ops.toList 0 A s=some b) (hp:bO (Q8 b)) (YW:ahQ ops.toList b=true)
  (hQ:∀ a' w' S' gn,a'.tmps.size=nt->a'.defers=ds->Good E (HO b s) S' gn w'->(∀ k,nk+16 * ops.size<=k->gn k=none)->(∀ t,aE w' S' gn (a'.tmps.getD t undef) (iz (Pm b A) t))->Q .normal a' w') :
  ∀ (fuel:Nat) (cX:Array Bool) (a:Act) (w:World) (S:Nat->Prop) (μ:Mu),cX.size=ops.size->a.tmps.size=nt->a.defers=ds ->
   (∀ j,cX.getD j false=true->∀ o,ops.toList[j]?=some o->∀ e∈y4 o,cX.getD e false=true)->ops.size<=fuel+(cX.toList.filter (· == true)).length ->
   Good E (Ee (fun j=>cX.getD j false) b 0 s) S μ w->(∀ k,nk<=k->(∀ j,nk+16 * j<=k->k < nk+16 * j+16->cX.getD j false=false)->μ k=none) ->
   (∀ t,aE w S μ (a.tmps.getD t undef) (iz (Uo (fun j=>cX.getD j false) b 0 A) t)) ->
   wpAnyIn (FW rd) 0 P .any ops Q fuel cX a w:=by
 obtain ⟨O,yw⟩:=Vw ops.toList 0 A s b htr;simp only [Nat.zero_add] at yw;have Cu:∀ j,j < ops.size->WC ops.toList j=true/\∀ i,i < j->abv ops.toList b i j=true:=by
  intro j f;have:=List.all_eq_true.1 YW j (List.mem_range.2 (by simpa using f));simp only [cy] at this;exact ⟨this.1,fun i hi=>List.all_eq_true.1 this.2 i (List.mem_range.2 hi)⟩
 have aoe:∀ j o,ops.toList[j]?=some o->∀ e∈y4 o,e < j:=by
  intro j o u e he;have f:j < ops.size:=by simpa using (gW.1 u).1
  have d:=(Cu j f).1;unfold WC at d;rw [u] at d;exact ahP (List.all_eq_true.1 d e he)
 have R:∀ i j o p x y,i < j->ops.toList[i]?=some o->ops.toList[j]?=some p->b[i]?=some x->b[j]?=some y ->
   WB x.dst y.dst=false/\(Rg ops.toList o p x y=true->Vv ops.toList ops.toList.length i j=true):=by
  intro i j o p x y hij u F H B;have f:j < ops.size:=by simpa using (gW.1 F).1
  have d:=(Cu j f).2 i hij;unfold abv at d;rw [u,F,H,B] at d;simp only [cy,Bool.not_eq_true',Bool.or_eq_true] at d;refine ⟨d.1,fun hc=>?_⟩;rcases d.2 with z | z
  ·rw [hc] at z;cases z
  ·exact z
 -- what is ready
 have T:∀ (cX:Array Bool),cX.size=ops.size->∀ i,i∈Region.ready .any ops cX↔(i < ops.size/\cX.getD i false=false/\∀ o,ops.toList[i]?=some o->∀ e∈y4 o,cX.getD e false=true):=by
  intro cX c i;unfold Region.ready;simp only [List.mem_filter,List.mem_range,cy,Bool.not_eq_true'];constructor
  ·rintro ⟨d,z,h3⟩;have hl:i < cX.size:=ad;refine ⟨d,?_,?_⟩
   ·simp only [Aa,mT hl,Option.getD_some] at z ⊢;exact z
   ·intro o u e he;have I:ops[i]?=some o:=by simpa using u
    simp only [I,Option.map_some,Option.getD_some,Array.all_eq_true'] at h3;simp only [y4,List.mem_map,List.mem_filter] at he;obtain ⟨ed,⟨U,hbd⟩,rfl⟩:=he;have:=h3 ed (by simpa using U);rw [hbd] at this;simpa only [Bool.not_true,Bool.false_or] using this
  ·rintro ⟨d,z,h3⟩;have hl:i < cX.size:=ad;refine ⟨d,?_,?_⟩
   ·simp only [Aa,mT hl,Option.getD_some] at z ⊢;exact z
   ·have u:ops[i]?=some ops[i]:=mT d;simp only [u,Option.map_some,Option.getD_some,Array.all_eq_true'];intro ed U;simp only [Bool.or_eq_true,Bool.not_eq_true'];cases hb:Region.binds .any ed with
    | false=>exact .inl rfl
    | true =>
     right;exact h3 ops[i] aD ed.on (by simp only [y4,List.mem_map,List.mem_filter];exact ⟨ed,⟨by simpa using U,hb⟩,rfl⟩)
 intro fuel
 -- the end
 have fin:∀ (cX:Array Bool) (a:Act) (w:World) (S:Nat->Prop) (μ:Mu),cX.size=ops.size->a.tmps.size=nt->a.defers=ds->(∀ j,j < ops.size->cX.getD j false=true) ->
   Good E (Ee (fun j=>cX.getD j false) b 0 s) S μ w->(∀ k,nk<=k->(∀ j,nk+16 * j<=k->k < nk+16 * j+16->cX.getD j false=false)->μ k=none) ->
   (∀ t,aE w S μ (a.tmps.getD t undef) (iz (Uo (fun j=>cX.getD j false) b 0 A) t))->Q .normal a w:=by
  intro cX a w S μ c V D J g W X;have hL:∀ m,m < b.length->(fun j=>cX.getD j false) (0+m)=true:=fun m kZ=>by
   rw [Nat.zero_add];exact J m (by rw [O] at kZ;simpa using kZ)
  rw [Zt b 0 s _ hL] at g;refine hQ a w S μ V D g (fun k uD=>W k ad fun j f Y=>?_) (fun t=>by rw [<- adK b 0 A (fun j=>cX.getD j false) hL];exact X t);have:cX.size<=j:=ad;simp [Aa,Array.getElem?_eq_none this]
 have ase:∀ (cX:Array Bool),cX.size=ops.size->(∀ j,cX.getD j false=true->∀ o,ops.toList[j]?=some o->∀ e∈y4 o,cX.getD e false=true)->Region.ready .any ops cX=[]->∀ j,j < ops.size->cX.getD j false=true:=by
  intro cX c C hr j
  induction j using Nat.strongRecOn with
  | _ j ih =>
   intro f;cases hb:cX.getD j false with
   | true=>rfl
   | false =>
    have:j∈Region.ready .any ops cX:=(T cX c j).2 ⟨f,hb,fun o u e he=>ih e (aoe j o u e he) (by have:=aoe j o u e he;omega)⟩;rw [hr] at this;simp at this
 induction fuel with
 | zero =>
  intro cX a w S μ c V D C aog g W X;simp only [wpAnyIn];have J:∀ j,j < ops.size->cX.getD j false=true:=by
   have hle:(cX.toList.filter (· == true)).length=cX.toList.length:=by
    have d:=List.length_filter_le (· == true) cX.toList;simp at d aog ⊢;omega
   have z:=List.length_filter_eq_length_iff.1 hle;intro j f;have hl:j < cX.size:=ad;have:=z cX[j] aD;simp only [Aa,mT hl,Option.getD_some];simpa using this
  refine ⟨?_,fin cX a w S μ c V D J g W X⟩;cases hr:Region.ready .any ops cX with
  | nil=>rfl
  | cons i r =>
   have:=(T cX c i).1 (by rw [hr];simp);rw [J i this.1] at this;simp at this
 | succ fuel ih =>
  intro cX a w S μ c V D C aog g W X;simp only [wpAnyIn];refine ⟨fun hr=>fin cX a w S μ c V D (ase cX c C hr) g W X,?_⟩;intro i hi;obtain ⟨mV,Cv,Ql⟩:=(T cX c i).1 hi;have asf:i < b.length:=by rw [O];simpa using mV
  have H:b[i]?=some b[i]:=w9 asf;obtain ⟨o,u,hev⟩:=yw i _ H;generalize b[i]=x at H hev;have hpx:bO x.U6:=by
   have:∀ (l:List Rec) (i:Nat),bO (Q8 l)->l[i]?=some x->bO x.U6:=by
    intro l
    induction l with
    | nil=>intro i _ h;simp at h
    | cons y l ih =>
     intro i h hi;obtain ⟨d,z⟩:=bO.app h;cases i with
     | zero=>simp at hi;exact hi ▸ d
     | succ i=>exact ih i z (by simpa using hi)
   exact this b i hp H
  -- an operation that meets this one is carried out just if it stands before it
  have order:∀ (j:Nat) (p:Oper) (y:Rec),j≠i->ops.toList[j]?=some p->b[j]?=some y->afC ops.toList o p x y->Nat.blt j i=cX.getD j false:=by
   intro j p y K hpj hyj hc;rcases Nat.lt_or_gt_of_ne K with Z | hgt
   ·rw [ahO Z];exact (Kq (L:=fun j=>cX.getD j false) C _ j i ((R j i p o y x Z hpj u hyj H).2 hc.symm.Rg) (fun o' I e he=>by rw [u] at I;cases I;exact Ql o u e he)).symm
   ·rw [Po ad];cases hb:cX.getD j false with
    | false=>rfl
    | true =>
     have:=Kq (L:=fun j=>cX.getD j false) C _ i j ((R i j o p x y hgt u hpj H hyj).2 hc.Rg) (fun o' I e he=>C j hb o' I e he);have:cX.getD i false=true:=this;rw [Cv] at this;cases this
  have M:∀ (m:Nat) (y:Rec),b[m]?=some y->∃ p,ops.toList[m]?=some p:=fun m y B=>let ⟨p,F,_⟩:=yw m y B;⟨p,F⟩;have asg:J8 P nt ops.toList (nk+16 * i) (Uo (fun j=>cX.getD j false) b 0 A) (Ee (fun j=>cX.getD j false) b 0 s) o (yB orcs i)=some x:=by
   refine afB hev ?_ ?_
   ·intro t htl;refine Rh b 0 _ _ rfl ?_;intro m y B K auP;rw [Nat.zero_add] at K;obtain ⟨p,F⟩:=M m y B
    by_cases L0:m=i
    ·subst L0;exact K (by rw [Cv,Po ad])
    ·exact K (order m p y L0 F B (.inr (.inl ⟨t,auP,htl⟩))).symm
   ·intro k hkr;refine Ny b 0 _ _ rfl ?_;intro m y B K hku;rw [Nat.zero_add] at K;obtain ⟨p,F⟩:=M m y B
    by_cases L0:m=i
    ·subst L0;exact K (by rw [Cv,Po ad])
    ·exact K (order m p y L0 F B (.inr (.inr (.inr ⟨k,hkr,hku⟩)))).symm
  have apv:i < cX.size:=ad;have N:∀ j,(cX.setIfInBounds i true).getD j false=(cX.getD j false || Nat.beq j i):=by
   intro j
   by_cases G:j=i
   ·subst G;rw [xc rfl,Bool.or_true];simp [Aa,apv]
   ·rw [tz G,Bool.or_false];simp only [Aa];rw [Array.getElem?_setIfInBounds_ne (fun h=>G h.symm)]
  have ash:(fun j=>(cX.setIfInBounds i true).getD j false)=fun q=>cX.getD q false || Nat.beq q i:=funext N;have Va:∀ q,q < 16->μ (nk+16 * i+q)=none:=fun q hq=>W _ ad fun j f Y=>by
   have G:j=i:=ad;rw [G];exact Cv
  refine Vn (by simpa using u) X g Va ad (hz i) asg hpx ?_;intro v w' S' gn q1 q2 q3 q4;obtain ⟨d1,d2⟩:=Vo asg;refine ih _ _ w' S' gn (by simp [c]) (by rw [Zm];exact V) (by rw [Pn];exact D) ?_ ?_ ?_ ?_ ?_
  ·intro j f o' I e he;rw [N] at f ⊢;rw [Bool.or_eq_true] at f ⊢;rcases f with f | f
   ·exact .inl (C j f o' I e he)
   ·have:=dp f;subst this;exact .inl (Ql o' I e he)
  ·have hc:=count_set cX.toList i (by
    rw [Array.getElem?_toList,mT apv];simp only [Aa,mT apv,Option.getD_some] at Cv;rw [Cv])
   rw [Array.toList_setIfInBounds,hc];omega
  ·rw [ash];refine q2.congr ?_;intro k;rw [Zs b 0 s (Nat.zero_le _) (by simpa using H) ?_,se x.upd (Ee (fun j=>cX.getD j false) b 0 s)];intro m y B Z hL hku auR;rw [Nat.zero_add] at Z hL;obtain ⟨p,F⟩:=M m y B;have:=order m p y ad F B (.inr (.inr (.inl ⟨k,hku,.inr auR⟩)));rw [Po ad] at this;rw [<- this] at hL;cases hL
  ·intro k uD Ud;have hki:k < nk+16 * i\/nk+16 * i+16<=k:=by
    rcases Nat.lt_or_ge k (nk+16 * i) with d | d
    ·exact .inl d
    ·rcases Nat.lt_or_ge k (nk+16 * i+16) with z | z
     ·have:=Ud i d z;rw [N,xc rfl,Bool.or_true] at this;cases this
     ·exact .inr z
   refine q3 k hki (W k uD fun j f Y=>?_);have:=Ud j f Y;rw [N,Bool.or_eq_false_iff] at this;exact this.1
  ·intro t;rw [ash,adJ b 0 A (Nat.zero_le _) (by simpa using H) ?_,adI a x.dst v t (fun n hn=>by rw [V];exact d2 n (d1 ▸ hn))]
   ·split
    ·exact q4
    ·exact (X t).ext q1
   ·intro m y B Z hxd hyd;rw [Nat.zero_add] at Z;obtain ⟨p,F⟩:=M m y B;have:=(R i m o p x y Z u F H B).1;rw [hxd,hyd] at this;simp only [WB] at this;rw [xc rfl] at this;cases this
end
end Go.Ab
namespace Go.Ab
inductive Wd where
 | ak
 | sl (n:Nat) (g:Nat->List AV)
 | l5 (n:Nat)
 | tD (k:Nat)
 | pt (b:Bool) (cs:List AV)
 | nq (st:Option Bool) (d:Wd)
 | unq (d:Wd)
 | agg (ds:List Wd)
 | tup (ds:List Wd)
def Uf:List AV->List AV->Prop
 | [],[]=>True
 | a :: as,b :: bs=>(a=b\/(a=.nil/\∃ f,b=.sl 0 f))/\Uf as bs
 | _,_=>False
theorem Uf.len:∀ {as bs:List AV},Uf as bs->bs.length=as.length
 | [],[],_=>rfl
 | _ :: _,_ :: _,h=>congrArg (·+1) (Uf.len h.2)
theorem Uf.get:∀ {as bs:List AV} {j:Nat} {x:AV},Uf as bs->bs[j]?=some x->∃ a,as[j]?=some a/\(a=x\/(a=.nil/\∃ f,x=.sl 0 f))
 | [],[],_,_,_,c=>by simp at c
 | a :: _,b :: _,0,x,h,c=>by
  have:b=x:=by simpa using c
  subst this;exact ⟨a,rfl,h.1⟩
 | _ :: as,_ :: bs,j+1,x,h,c=>by
  have:=Uf.get (as:=as) (bs:=bs) (j:=j) (x:=x) h.2 (by simpa using c);simpa using this
theorem apw {w:World} {S:Nat->Prop} {μ:Mu} {v:Value} {a x:AV} (h:a=x\/(a=.nil/\∃ f,x=.sl 0 f)) (b:aE w S μ v a):aE w S μ v x:=by
 rcases h with rfl | ⟨rfl,f,rfl⟩
 ·exact b
 ·cases b;exact .sl 0 0 0 (fun _ _=>undef) (fun h=>absurd h ay) (fun i h=>absurd h (iq _)) (fun i j h=>absurd h (iq _)) (fun i j c h=>absurd h (iq _)) (aH _)
inductive Od where
 | ak (k:Nat)
 | arr (k:Nat) (n:Nat) (g:Nat->List AV)
 | arz (k:Nat) (n:Nat) (g:Nat->List AV)
 | var (k:Nat) (ds:List Wd)
 | mp (k:Nat) (cs:List AV)
 | Fm (k:Nat) (n:Nat) (l:List (Nat×Nat×Nat)) (b:Nat->List AV)
 | nim (g:Nat->List AV)
 | nil (sz:Nat) (g:Nat->List AV)
def Od.D6:Od->Option Nat
 | .ak k | .arr k _ _ | .arz k _ _ | .var k _ | .mp k _ | .Fm k _ _ _=>some k
 | .nil _ _ | .nim _=>none
def aJ:List (Nat×Nat×Nat)->(Nat->List AV)->Nat->List AV
 | [],b,m=>b m
 | (i,k,n) :: r,b,m=>if m=i then [.os k 0 n] else aJ r b m
def ahU (f:Nat->Option Nat):List (Nat×Nat×Nat)->Option (List (Nat×Nat×Nat))
 | []=>some []
 | (i,k,n) :: r=>match f k,ahU f r with
  | some k',some l=>some ((i,k',n) :: l)
  | _,_=>none
theorem Rj {f:Nat->Option Nat} {b:Nat->List AV} {m:Nat} (hb:gi (b m)=true):∀ {l a:List (Nat×Nat×Nat)},ahU f l=some a->AV.Dg f (aJ l b m)=aJ a b m
 | [],a,h=>by simp [ahU] at h;subst h;exact U7 hb
 | (i,k,n) :: r,a,h=>by
  simp only [ahU] at h;split at h
  ·rename_i k' e c d;cases h;simp only [aJ];split
   ·simp [AV.Dg,AV.oK,c]
   ·exact Rj hb d
  ·cases h
abbrev D2:=List (Nat×Od)
def CM (m0:Nat):D2->Nat->Option Nat
 | [],k=>match Nat.blt k m0 with
  | true=>some k
  | false=>none
 | (k',d) :: r,k=>match d.D6 with
  | some q=>match Nat.beq q k with
   | true=>some k'
   | false=>CM m0 r k
  | none=>CM m0 r k
def CN:D2->Nat->Option Od
 | [],_=>none
 | (k',d) :: r,k=>match Nat.beq k' k with
  | true=>some d
  | false=>CN r k
mutual
def Rk (σ:gp) (F:List Nat) (f:Nat->Option Nat) (iu:D2):Wd->AV->Option (List Prop×AV)
 | .ak,x=>some ([],x.oK f)
 | .sl n g,.sl n0 g0=>some ([n0=n,∀ i,i < n->g i=g0 i],.sl n g)
 | .sl n g,.os k off len=>match ahN F k,aR σ k with
  | true,some o=>match o.pr with
   | true=>some ([len=n,off+len<=o.len,∀ i,i < n->g i=o.get (eu off i)],.sl n g)
   | false=>none
  | _,_=>none
 | .sl n g,.nil=>some ([n=0],.sl n g)
 | .l5 n,.os k off len=>(f k).map fun k'=>([len=n],.os k' off n)
 | .tD k',.nil=>match CN iu k' with
  | some (.nil _ _)=>some ([],.os k' 0 0)
  | some (.nim _)=>some ([],.os k' 0 0)
  | _=>none
 | .pt b cs,.rp a off=>match off with
  | 0=>some ([b=true,cs=a],.pt b cs)
  | _+1=>none
 | .pt b cs,.atom v=>match v with
  | .pointer none=>some ([b=false],.pt b cs)
  | _=>none
 | .pt b cs,.pt b0 a=>some ([b=b0,b0=true->cs=a],.pt b cs)
 | .nq st d,.nq st0 y=>match y with
  | .nq _ _=>none
  | y=>(Rk σ F f iu d y).map fun (p,z)=>((st0=st) :: p,.nq st z)
 | .nq st d,.nil=>(Rk σ F f iu d .nil).map fun (p,z)=>((st≠some false) :: p,.nq st z)
 | .nq st d,y=>(Rk σ F f iu d y).map fun (p,z)=>((st=none) :: p,.nq st z)
 | .unq d,.nq _ y=>Rk σ F f iu d y
 | .agg ds,.agg cs=>(wkL σ F f iu ds cs).map fun (p,c)=>(p,.agg c)
 | .tup ds,.tup cs=>(wkL σ F f iu ds cs).map fun (p,c)=>(p,.tup c)
 | _,_=>none
def wkL (σ:gp) (F:List Nat) (f:Nat->Option Nat) (iu:D2):List Wd->List AV->Option (List Prop×List AV)
 | [],[]=>some ([],[])
 | d :: ds,c :: cs=>match Rk σ F f iu d c,wkL σ F f iu ds cs with
  | some (p,x),some (q,xs)=>some (p ++ q,x :: xs)
  | _,_=>none
 | _,_=>none
end
def FD (σ:gp) (F:List Nat) (f:Nat->Option Nat) (iu:D2):Od->Option (List Prop×Ob)
 | .ak k=>(aR σ k).map fun o=>([],o.oK f)
 | .arr k n g=>match aR σ k with
  | some o=>match o.pr && !o.var && Nat.ble 1 o.sz with
   | true=>some ([o.len=n,∀ i,i < n->g i=o.get i],⟨o.var,o.sz,n,true,g⟩)
   | false=>none
  | none=>none
 | .arz k n g=>match aR σ k with
  | some o=>match o.pr && !o.var && Nat.ble 1 o.sz with
   | true=>some ([n<=o.len,∀ i,i < n->Uf (o.get i) (g i)],⟨o.var,o.sz,n,true,g⟩)
   | false=>none
  | none=>none
 | .var k ds=>match aR σ k with
  | some o=>match o.var && Nat.beq o.len 1 && Nat.ble 1 o.sz,wkL σ F f iu ds (o.get 0) with
   | true,some (p,cs)=>some (p,⟨true,o.sz,1,AV.qL cs,fun _=>cs⟩)
   | _,_=>none
  | none=>none
 | .mp k cs=>match aR σ k with
  | some o=>match Nat.beq o.sz 0 && o.pr && Nat.beq o.len 0 with
   | true=>some ([cs=o.get 0],⟨o.var,o.sz,o.len,true,fun _=>cs⟩)
   | false=>none
  | none=>none
 | .Fm k n l b=>match aR σ k,ahU f l with
  | some o,some a=>match !o.var && Nat.ble 1 o.sz with
   | true=>some ([o.len=n,∀ i,i < n->aJ l b i=o.get i,∀ i,i < n->gi (b i)=true],⟨false,o.sz,n,false,aJ a b⟩)
   | false=>none
  | _,_=>none
 | .nim g=>some ([],⟨false,1,0,false,g⟩)
 | .nil sz g=>match Nat.ble 1 sz with
  | true=>some ([],⟨false,sz,0,true,g⟩)
  | false=>none
def Zu (σ:gp) (F:List Nat) (f:Nat->Option Nat) (iu:D2) (tm:List (Nat×AV)):List (Nat×Wd)->Option (List Prop×List (Nat×AV))
 | []=>some ([],[])
 | (t,d) :: r=>match Rk σ F f iu d (iz tm t),Zu σ F f iu tm r with
  | some (p,x),some (q,l)=>some (p ++ q,(t,x) :: l)
  | _,_=>none
def Zv (σ:gp) (F:List Nat) (f:Nat->Option Nat) (iu:D2):D2->Option (List Prop×gp)
 | []=>some ([],[])
 | (k,d) :: r=>match FD σ F f iu d,Zv σ F f iu r with
  | some (p,o),some (q,l)=>some (p ++ q,(k,o) :: l)
  | _,_=>none
def WE (m0 nk:Nat) (F:List Nat) (iu:D2):Bool :=
 sQ (iu.map (·.1)) && sQ (iu.filterMap (·.2.D6)) && (iu.all fun x=>Nat.blt x.1 nk && match x.2.D6 with
  | some k=>!ahN F k && (match Nat.blt k m0 with
   | true=>Nat.beq x.1 k || Nat.ble m0 x.1
   | false=>Nat.ble m0 x.1)
  | none=>Nat.ble m0 x.1) && Nat.ble m0 nk
def Kr (m0:Nat) (st:St) (F:List Nat) (a:List (Nat×Wd)) (iu:D2) (nk:Nat):Option (List Prop×St) :=
 match WE m0 nk F iu,Zu st.r8 F (CM m0 iu) iu st.tm a,Zv st.r8 F (CM m0 iu) iu iu with
 | true,some (p,tm),some (q,σ)=>some (p ++ q,⟨tm,σ,nk⟩)
 | _,_,_=>none
def Uq (m0:Nat) (μ:Mu) (iu:D2):Mu:=fun k =>
 if k < m0 then μ k else match CN iu k with
  | some (.nil sz _)=>some ⟨0,0,sz⟩
  | some (.nim _)=>some ⟨0,0,1⟩
  | some d=>d.D6.bind μ
  | none=>none
section
variable {P:Program} {E:Env} {σ:gp} {S:Nat->Prop} {μ:Mu} {w:World} {m0 nk:Nat} {F:List Nat} {iu:D2}
theorem Jr:∀ {iu:D2} {k:Nat} {d:Od},CN iu k=some d->(k,d)∈iu
 | [],k,d,h=>by simp [CN] at h
 | (k',a) :: r,k,d,h=>by
  simp only [CN] at h;split at h
  ·simp_all
  ·exact List.mem_cons_of_mem _ (Jr h)
theorem zs:∀ {iu:D2} {k:Nat} {d:Od},sQ (iu.map (·.1))=true->(k,d)∈iu->CN iu k=some d
 | [],k,d,_,h=>by simp at h
 | (k',e) :: r,k,d,a,h=>by
  simp only [List.map_cons,sQ,cy] at a;simp only [CN];rcases rJ.1 h with h | h
  ·cases h;rw [xc rfl]
  ·have c:¬ k'=k:=by
    rintro rfl;have b:idx (r.map (·.1)) k'=none:=by simpa using a.1
    obtain ⟨i,hi⟩:=List.getElem?_of_mem (List.mem_map.2 ⟨_,h,rfl⟩:k'∈r.map (·.1));exact sa _ _ b i hi
   rw [tz c];exact zs a.2 h
theorem Rl:∀ {iu:D2} {k k':Nat},CM m0 iu k=some k'->(∃ d,(k',d)∈iu/\d.D6=some k)\/(k < m0/\k'=k)
 | [],k,k',h=>by
  simp only [CM] at h;split at h
  ·simp_all
  ·cases h
 | (q,d) :: r,k,k',h=>by
  simp only [CM] at h;have step:CM m0 r k=some k'->(∃ a,(k',a)∈(q,d) :: r/\a.D6=some k)\/(k < m0/\k'=k):=fun h'=>by
   rcases Rl h' with ⟨a,b,e⟩ | b
   ·grind
   ·exact .inr b
  split at h
  ·rename_i o c;split at h
   ·rename_i hb;cases h;exact .inl ⟨d,aD,by rw [c,dp hb]⟩
   ·exact step h
  ·exact step h
structure Names (m0 nk:Nat) (F:List Nat) (iu:D2):Prop where
 nd:sQ (iu.map (·.1))=true
 od:sQ (iu.filterMap (·.2.D6))=true
 lt:∀ k d,(k,d)∈iu->k < nk
 fr:∀ k d q,(k,d)∈iu->d.D6=some q->q ∉ F
 lo:∀ k d q,(k,d)∈iu->d.D6=some q->q < m0->k=q\/m0<=k
 hi:∀ k d q,(k,d)∈iu->d.D6=some q->m0<=q->m0<=k
 no:∀ k d,(k,d)∈iu->d.D6=none->m0<=k
 m0:m0<=nk
theorem ahV (h:WE m0 nk F iu=true):Names m0 nk F iu:=by
 unfold WE at h;simp only [cy,Nat.ble_eq] at h;obtain ⟨⟨⟨b,c⟩,a⟩,e⟩:=h;have a:=fun k d (hm:(k,d)∈iu)=>List.all_eq_true.1 a (k,d) hm;simp only [cy] at a;refine ⟨b,c,fun k d hm=>ahP (a k d hm).1,?_,?_,?_,?_,e⟩
 ·intro k d q hm hq g;have:=(a k d hm).2;rw [hq] at this;simp only [cy,Bool.not_eq_true'] at this;grind [Rc]
 ·intro k d q hm hq i;have:=(a k d hm).2;simp_all [cy,ahO,Bool.or_eq_true_iff,dp,Nat.le_of_ble_eq_true]
 ·intro k d q hm hq f;have:=(a k d hm).2;simp_all [cy,Po,Nat.ble_eq]
 ·intro k d hm hq;have:=(a k d hm).2;rw [hq] at this;simpa only [Nat.ble_eq] using this
theorem Qo (N:Names m0 nk F iu) {k k':Nat} {pl:Place} (h:CM m0 iu k=some k') (hm:μ k=some pl):Uq m0 μ iu k'=some pl:=by
 rcases Rl h with ⟨d,a,b⟩ | ⟨a,rfl⟩
 ·unfold Uq
  by_cases c:k < m0
  ·rcases N.lo k' d k a b c with h | h
   ·simp_all
   ·rw [if_neg ad,zs N.nd a];grind [Od.D6]
  ·have:=N.hi k' d k a b ad;rw [if_neg ad,zs N.nd a];grind [Od.D6]
 simp_all [Uq,if_pos]
theorem Ks (N:Names m0 nk F iu) {k k':Nat} {d:Od} (h:(k',d)∈iu) (a:d.D6=some k):Uq m0 μ iu k'=μ k:=by
 unfold Uq
 by_cases b:k < m0
 ·rcases N.lo k' d k h a b with c | c
  ·simp_all
  ·rw [if_neg ad,zs N.nd h];grind [Od.D6]
 ·have:=N.hi k' d k h a ad;rw [if_neg ad,zs N.nd h];grind [Od.D6]
theorem adM (N:Names m0 nk F iu) {k':Nat} {g:Nat->List AV} (h:(k',Od.nim g)∈iu):Uq m0 μ iu k'=some ⟨0,0,1⟩:=by
 have:=N.no k' _ h rfl;unfold Uq;rw [if_neg ad,zs N.nd h]
theorem adN (N:Names m0 nk F iu) {k' sz:Nat} {g:Nat->List AV} (h:(k',Od.nil sz g)∈iu):Uq m0 μ iu k'=some ⟨0,0,sz⟩:=by
 have:=N.no k' _ h rfl;unfold Uq;rw [if_neg ad,zs N.nd h]
theorem adO (g:Good E σ S μ w) (N:Names m0 nk F iu):∀ (d:Wd) (x:AV) (v:Value) (ps:List Prop) (y:AV),aE w S μ v x->Rk σ F (CM m0 iu) iu d x=some (ps,y)->bO ps ->
  aE w (SF μ F σ S) (Uq m0 μ iu) v y:=by
 have mono:∀ {v:Value} {x:AV} {gn:Mu},aE w S gn v x->aE w (SF μ F σ S) gn v x:=fun h=>h.mono (fun _ h=>.inl h) (fun _ _=>rfl) (fun _ _ h=>h);intro d
 induction d using Wd.rec (motive_2:=fun ds=>∀ (cs:List AV) (ps:List Prop) (ys:List AV),wkL σ F (CM m0 iu) iu ds cs=some (ps,ys)->bO ps ->
   cs.length=ys.length/\∀ (j:Nat) c y v,cs[j]?=some c->ys[j]?=some y->aE w S μ v c->aE w (SF μ F σ S) (Uq m0 μ iu) v y) with
 | ak =>
  intro x v ps y h hw l;simp only [Rk,bu,bk] at hw;obtain ⟨rfl,rfl⟩:=hw;exact (mono h).oK fun k k' pl hk hm=>Qo N hk hm
 | sl n gt =>
  intro x v ps y h hw l;cases x<;>simp only [Rk] at hw<;>try (cases hw;done)
  case sl n0 g0 =>
   simp only [bu,bk] at hw;obtain ⟨rfl,rfl⟩:=hw;obtain ⟨rfl,p2,_⟩:=l;cases h with
   | sl b off sz f m r s L h5 =>
    exact .sl b off sz f (fun M=>⟨(m M).1,.inl (m M).2⟩) (fun i hi=>by simp_all) s (fun i j c hi C=>mono (L i j c hi (by simp_all))) h5
  case os k off len =>
   split at hw
   ·rename_i o hF Y;split at hw
    ·rename_i YT;simp only [bu,bk] at hw;obtain ⟨rfl,rfl⟩:=hw;obtain ⟨rfl,p2,Z,_⟩:=l;obtain ⟨pl,c,T,hm,D⟩:=g.rep.ob k o Y;cases h with
     | os oG kZ m r s =>
      rename_i cap a;rw [hm] at kZ;cases kZ;refine .sl pl.eC (off * pl.sz) o.sz (fun i j=>(c[(off+i) * o.sz+j]?).getD undef) ?_ (fun i hi=>by rw [Z i hi,fw];exact D.Co _ ad) ?_ ?_ r
      ·intro M;exact ⟨m ad,.inr ⟨k,o,pl,Rc.1 hF,Y,hm,ad,rfl⟩⟩
      ·intro i j hi hj;obtain ⟨v,t,G⟩:=fV D (i:=off+i) ad hj;rw [t,D.sz,<- eS,G];rfl
      ·intro i j O hi P;rw [Z i hi,fw] at P;obtain ⟨v,t,G⟩:=fV D (i:=off+i) ad (by have:=(gW.1 P).1;rwa [D.Co _ ad] at this);rw [t];have:=D.rep _ j O v ad P t;simp_all
    ·cases hw
   ·cases hw
  case nil =>
   simp only [bu,bk] at hw;obtain ⟨rfl,rfl⟩:=hw;obtain ⟨rfl,_⟩:=l;cases h;exact .sl 0 0 0 (fun _ _=>undef) (fun h=>absurd h ad) (fun i h=>absurd h ad) (fun i j h=>absurd h ad) (fun i j c h=>absurd h ad) (aH _)
 | l5 n =>
  intro x v ps y h hw l;cases x<;>simp only [Rk] at hw<;>try (cases hw;done)
  case os k off len =>
   simp only [bE,bk] at hw;obtain ⟨k',uD,rfl,rfl⟩:=hw;obtain ⟨rfl,_⟩:=l;cases h with
   | os pl hm m r s=>exact .os pl (Qo N uD hm) m r s
 | tD k' =>
  intro x v ps y h hw l;cases x<;>simp only [Rk] at hw<;>try (cases hw;done)
  case nil =>
   split at hw
   ·rename_i sz gt A;simp only [bu,bk] at hw;obtain ⟨rfl,rfl⟩:=hw;cases h;exact .os ⟨0,0,sz⟩ (adN N (Jr A)) (fun h=>absurd h ad) (aH _) aD
   ·rename_i gt A;simp only [bu,bk] at hw;obtain ⟨rfl,rfl⟩:=hw;cases h;exact .os ⟨0,0,1⟩ (adM N (Jr A)) (fun h=>absurd h ad) (aH _) aD
   ·cases hw
 | pt b cs =>
  intro x v ps y h hw l;have other:∀ {b:Bool} {cs:List AV} {v:Value},aE w S μ v (.pt b cs)->aE w (SF μ F σ S) (Uq m0 μ iu) v (.pt b cs):=fun h=>(mono h).pure rfl _;cases x<;>simp only [Rk] at hw<;>try (cases hw;done)
  case rp cs0 off =>
   split at hw
   ·simp only [bu,bk] at hw;obtain ⟨rfl,rfl⟩:=hw;obtain ⟨rfl,rfl,_⟩:=l;exact other (.pt (fun _=>h) (fun h=>by cases h))
   ·cases hw
  case atom v0 =>
   split at hw
   ·simp only [bu,bk] at hw;obtain ⟨rfl,rfl⟩:=hw;obtain ⟨rfl,_⟩:=l;exact other (.pt (fun h=>by cases h) (fun _=>gh h))
   ·cases hw
  case pt b0 cs0 =>
   simp only [bu,bk] at hw;obtain ⟨rfl,rfl⟩:=hw;obtain ⟨rfl,Q,_⟩:=l;cases h with
   | pt m r=>exact other (.pt (fun hb=>by rw [Q hb];exact m hb) r)
 | nq st d B =>
  intro x v ps y h hw l;have fin:∀ {x0:AV} {p:List Prop} {z:AV},aE w S μ v x0->Rk σ F (CM m0 iu) iu d x0=some (p,z)->bO p->(st=some true->v=.slice none 0 0)->(st=some false->agM v=false)->aE w (SF μ F σ S) (Uq m0 μ iu) v (.nq st z) :=
   fun J m r s L=>.nq (B _ _ _ _ J m r) s L
  cases x with
  | nq st0 R =>
   have U:∃ p z,Rk σ F (CM m0 iu) iu d R=some (p,z)/\ps=(st0=st) :: p/\y=.nq st z:=by
    cases R<;>simp only [Rk,bE,bk] at hw<;>grind
   obtain ⟨p,z,H,rfl,rfl⟩:=U;obtain ⟨rfl,I⟩:=l;cases h with
   | nq J m r=>exact fin J H I m r
  | nil =>
   simp only [Rk,bE,bk] at hw;obtain ⟨⟨p,z⟩,H,rfl,rfl⟩:=hw;obtain ⟨jr,I⟩:=l;cases h;exact fin .nil H I (fun _=>rfl) (fun e=>absurd e jr)
  | _ =>
   simp only [Rk,bE,bk] at hw;obtain ⟨⟨p,z⟩,H,rfl,rfl⟩:=hw;obtain ⟨rfl,I⟩:=l;grind
 | unq d B =>
  intro x v ps y h hw l;cases x with
  | nq st0 R =>
   simp only [Rk] at hw;cases h with
   | nq J _ _=>exact B _ _ _ _ J hw l
  | _=>grind [Rk]
 | agg ds B =>
  intro x v ps y h hw l;cases x<;>simp only [Rk] at hw<;>try (cases hw;done)
  case agg cs =>
   simp only [bE,bk] at hw;obtain ⟨⟨p,c⟩,m,rfl,rfl⟩:=hw;obtain ⟨t,G⟩:=B cs p c m l;cases h with
   | agg r s =>
    refine .agg (r.trans t) fun j y v u V=>?_;have K:j < cs.length:=by rw [t];exact (gW.1 u).1
    exact G j _ y v (w9 K) u (s j _ v (w9 K) V)
 | tup ds B =>
  intro x v ps y h hw l;cases x<;>simp only [Rk] at hw<;>try (cases hw;done)
  case tup cs =>
   simp only [bE,bk] at hw;obtain ⟨⟨p,c⟩,m,rfl,rfl⟩:=hw;obtain ⟨t,G⟩:=B cs p c m l;cases h with
   | tup r s =>
    refine .tup (r.trans t) fun j y v u V=>?_;have K:j < cs.length:=by rw [t];exact (gW.1 u).1
    exact G j _ y v (w9 K) u (s j _ v (w9 K) V)
 | nil =>
  rename_i cs ps ys h l;cases cs with
  | nil=>simp [wkL] at h;obtain ⟨_,rfl⟩:=h;exact ⟨rfl,fun j c y v C=>by simp at C⟩
  | cons=>simp [wkL] at h
 | cons d ds W X =>
  rename_i cs ps ys h l;cases cs with
  | nil=>simp [wkL] at h
  | cons c cs =>
   simp only [wkL] at h;split at h
   ·rename_i p x q xs H e2;simp only [bu,bk] at h;obtain ⟨rfl,rfl⟩:=h;obtain ⟨Cr,I⟩:=bO.app l;obtain ⟨r1,r2⟩:=X cs q xs e2 I;refine ⟨by simp [r1],?_⟩;intro j O y v C u hr;cases j with
    | zero=>simp at C u;subst C u;exact W c v p x hr H Cr
    | succ j=>exact r2 j O y v (by simpa using C) (by simpa using u) hr
   ·cases h
end
end Go.Ab
