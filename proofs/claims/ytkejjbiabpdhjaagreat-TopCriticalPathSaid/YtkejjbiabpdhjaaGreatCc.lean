/- Abstract values over the heap of the machine, and functions read off its code (part 3). No conditions. -/
import Derived.Test.YtkejjbiabpdhjaaGreatCb
import Derived.OrdersIn
import Derived.RangeFuncSeq
set_option linter.unusedVariables false
set_option linter.unusedSimpArgs false
namespace Go.Ab
def dT:List (Nat×AV)->Nat->AV
 | [],_=>.il
 | (k,x) :: r,n=>match Nat.beq k n with
  | true=>x
  | false=>dT r n
def Bh (tm:List (Nat×AV)):Operand->AV
 | .tmp t=>dT tm t
 | .const v=>ofConst v
 | .global g=>.atom (.pointer (some ⟨g,0,none⟩))
 | .func f=>.fn (.func f) [] []
def conds (e:Operand->AV):List Operand->List Prop
 | []=>[]
 | x :: r=>(e x).strip.2 ++ conds e r
def afU (b:Bool):List Prop->List Prop
 | []=>[]
 | p :: ps=>[b=true->bg (p :: ps)]
def afV (mx:Bool) (x y:AV):Option AV :=
 match x,y with
 | .atom (.int k a),.atom (.int k' b)=>match decide (k=k') with
  | true=>some (.atom (.int k (match mx with
   | true=>if b > a then b else a
   | false=>if b < a then b else a)))
  | false=>none
 | _,_=>none
def LJ (mx:Bool):AV->List AV->Option AV
 | a,[]=>some a
 | a,b :: r=>match afV mx a b with
  | some v=>LJ mx v r
  | none=>none
def yN (ps:List Prop) (x:Option AV):Option R:=x.map fun v=>⟨ps,v,[],[]⟩
def ano (l:List Nat) (k:Nat):Bool:=l.any fun x=>Nat.beq x k
def HO (P:Program) (nk:Nat) (σ:fe) (e:Operand->AV) (b:Builtin) (a:List Operand) (d:List TypeId):Option R :=
 let s:=fun x=>(e x).strip.1
 let c:=fun xs=>conds e xs
 match b,a,d with
 | .len,[x],[t]=>yN (c [x]) (afx P t (s x))
 | .append,[x,y],[t,t']=>match Nat.beq t t' with
  | true=>(xA P nk σ t (s x) (s y)).map fun (ps,v,rd,u)=>⟨c [x,y] ++ ps,v,rd,u⟩
  | false=>none
 | .min,x :: r,_=>yN (c (x :: r)) (LJ false (s x) (r.map s))
 | .max,x :: r,_=>yN (c (x :: r)) (LJ true (s x) (r.map s))
 | _,_,_=>none
def gq (P:Program) (nk:Nat) (σ:fe) (op:Op) (e:Operand->AV) (h:Option qE):Option R :=
 let s:=fun x=>(e x).strip.1
 let c:=fun xs=>conds e xs
 match op with
 | .move x | .assign x=>some ⟨[],e x,[],[]⟩
 | .pick q a b=>match s q,s a,s b with
  | .atom (.bool n),.atom (.bool x),.atom (.bool y) =>
   some ⟨(e q).strip.2 ++ (afU n (e a).strip.2 ++ afU (!n) (e b).strip.2),.atom (.bool (cond n x y)),[],[]⟩
  | _,_,_=>none
 | .alloc T=>(UH P nk T).map fun (v,u)=>⟨[],v,[],u⟩
 | .box _ x=>(afn nk (s x)).map fun (v,u)=>⟨c [x],v,[],u⟩
 | .build t parts=>yN (c (parts.toList.map (·.2))) (UI P t (parts.toList.map fun (i,x)=>(i,s x)))
 | .buildSlice t len parts=>match Nat.beq len 0 && !parts.toList.isEmpty with
  | true=>none
  | false=>(DW P nk t len (parts.toList.map fun (i,x)=>(i,s x))).map fun (v,u)=>⟨c (parts.toList.map (·.2)),v,[],u⟩
 | .load T a=>(F0 P σ T (s a)).map fun (ps,v,rd)=>⟨c [a] ++ ps,v,rd,[]⟩
 | .store T a x=>(HE P σ T (s a) (s x)).map fun (ps,u,rd)=>⟨c [a,x] ++ ps,.il,rd,u⟩
 | .nilCheck x=>match s x with
  | .op k i j=>some ⟨c [x],.op k i j,[],[]⟩
  | .rp cs j=>some ⟨c [x],.rp cs j,[],[]⟩
  | .pt b cs=>some ⟨c [x] ++ [b=true],.rp cs 0,[],[]⟩
  | _=>none
 | .binOp o t x y _=>(afl P o t (s x) (s y)).map fun (ps,v)=>⟨c [x,y] ++ ps,v,[],[]⟩
 | .unOp o _ x=>yN (c [x]) (am5 o (s x))
 | .convert g dst x=>match Zz P g dst (s x) with
  | some v=>some ⟨c [x],v,[],[]⟩
  | none=>(HK P σ g dst (s x)).map fun (ps,v,rd)=>⟨c [x] ++ ps,v,rd,[]⟩
 | .makeMap _ none=>some ⟨[],.mp nk,[],[(nk,some ⟨false,0,0,true,fun _=>[]⟩)]⟩
 | .lookup t m x ok=>match h with
  | some o=>(CF P σ t (s m) (s x) ok o).map fun (ps,v,rd)=>⟨c [m,x] ++ ps,v,rd,[]⟩
  | none=>none
 | .mapUpdate t m x y | .insert t m x y=>match h with
  | some o=>(CG P σ t (s m) (s x) (s y) o).map fun (ps,u,rd)=>⟨c [m,x,y] ++ ps,.il,rd,u⟩
  | none=>none
 | .makeFunc f first cap=>some ⟨c (first.toList ++ cap.toList),.fn f (first.toList.map s) (cap.toList.map s),[],[]⟩
 | .makeSlice t l m=>(ZD P nk t (s l) (s m)).map fun (ps,v,u)=>⟨c [l,m] ++ ps,v,[],u⟩
 | .slice t x lo hi none=>(HF P σ t (s x) (lo.map s) (hi.map s)).map fun (ps,v,rd)=>⟨c (x :: (lo.toList ++ hi.toList)) ++ ps,v,rd,[]⟩
 | .fieldAddr T x f=>yN (c [x]) (F3 P T (s x) f)
 | .field T x f=>yN (c [x]) (UM P T (s x) f)
 | .indexAddr T x i=>(uR P σ T (s x) (s i)).map fun (ps,v,rd)=>⟨c [x,i] ++ ps,v,rd,[]⟩
 | .index T x i=>(UO P T (s x) (s i)).map fun (ps,v)=>⟨c [x,i] ++ ps,v,[],[]⟩
 | .extract x i=>match s x with
  | .tup cs=>yN (c [x]) cs[i]?
  | _=>none
 | .call ⟨.value f,d,_⟩=>match h with
  | some o=>(PM P nk σ (s f) (d.toList.map s) o).map fun r=>{ r with SY:=r.SY ++ c (f :: d.toList) }
  | none=>none
 | .call ⟨.builtin b,d,p⟩=>HO P nk σ e b d.toList p.toList
 | _=>none
section
variable {P:Program} {E:Env} {nk:Nat} {σ:fe} {S:Nat->Prop} {μ:Mu} {w:World}
theorem HP {e:Operand->AV}:∀ {xs:List Operand},bg (conds e xs)->∀ x∈xs,bg (e x).strip.2
 | [],_,x,a=>by simp at a
 | y :: r,h,x,a=>by
  obtain ⟨h1,h2⟩:=bg.app h;rcases kY.1 a with rfl | a
  ·exact h1
  ·exact HP h2 x a
theorem TS {b:Bool} {ps:List Prop} (h:bg (afU b ps)) (a:b=true):bg ps:=by
 cases ps with
 | nil=>trivial
 | cons p ps=>exact h.1 a
theorem ZQ {mx:Bool} {d:Operand->Value} {e:Operand->AV}:∀ (l:List Operand) (c:Value) (a r:AV),av w S μ c a->(∀ x∈l,av w S μ (d x) ((e x).strip.1)) ->
  LJ mx a (l.map fun x=>(e x).strip.1)=some r->∃ z,((l.map d).foldlM (match mx with | true=>Builtin.max2 | false=>Builtin.min2) c:Sem Value).run P w=.ok z w/\av w S μ z r
 | [],c,a,r,f,_,h=>by
  simp only [List.map_nil,LJ,aX] at h;simp_all
 | x :: l,c,a,r,f,g,h=>by
  simp only [List.map_cons,LJ] at h;split at h
  ·rename_i v b;have i:=g x ao;obtain ⟨u,h1,h2⟩:∃ u,((match mx with | true=>Builtin.max2 | false=>Builtin.min2) c (d x):Sem Value).run P w=.ok u w/\av w S μ u v:=by
    unfold afV at b;split at b
    ·rename_i k p k' q s n;rw [n] at i;have j:=eH i;have m:=eH f;split at b
     ·cases b;cases mx with
      | true=>exact ⟨_,by simp [m,j,Builtin.max2],.atom _⟩
      | false=>exact ⟨_,by simp [m,j,Builtin.min2],.atom _⟩
     ·cases b
    ·cases b
   obtain ⟨z,h3,h4⟩:=ZQ l u v r h2 (fun y o=>g y (by simp [o])) h;simp_all
  ·cases h
theorem akI {v:Value} {b:Bool} {cs:List AV} (h:av w S μ v (.pt b cs)) (a:b=true):av w S μ v (.rp cs 0):=by
 cases h with
 | pt h1 _=>exact h1 a
def afW (E:Env) (nk:Nat) (σ:fe) (S:Nat->Prop) (μ:Mu) (w:World) (r:R) (K:Value->World->Prop):Prop :=
 ∀ v w' S' ey,Ext w S μ w' S' ey->Good E (iC σ r.pD) S' ey w'->(∀ k,(k < nk\/nk+16<=k)->μ k=none->ey k=none)->av w' S' ey v r.val->K v w'
theorem TU {a:Operand->Value} {e:Operand->AV} {parts:Array (Nat×Operand)} (he:∀ x∈(parts.toList.map (·.2)),av w S μ (a x) ((e x).strip.1)) :
  (parts.map fun (i,x)=>(i,a x)).toList.map (·.1)=(parts.toList.map fun (i,x)=>(i,(e x).strip.1)).map (·.1) /\
  ∀ (j:Nat) x y,(parts.toList.map fun (i,x)=>(i,(e x).strip.1))[j]?=some x->(parts.map fun (i,x)=>(i,a x)).toList[j]?=some y->av w S μ y.2 x.2:=by
 refine ⟨ao,?_⟩;grind
theorem PS {a:Operand->Value} {e:Operand->AV} {xs:Array Operand} (he:∀ x∈xs.toList,av w S μ (a x) ((e x).strip.1)) :
  RL w S μ (xs.map a) (xs.toList.map fun x=>(e x).strip.1):=by
 refine ⟨ao,?_⟩;grind
theorem XH {o:Oper} {a:Act} {e:Operand->AV} {bC:Option qE} {r:R} {next:Act->World->Prop} {Q:Exit->Act->World->Prop}
  (he:∀ x∈o.op.operands.toList,av w S μ (a.eval x) (e x)) (g:Good E σ S μ w) (IU:∀ j,j < 16->μ (nk+j)=none) (hm:E.m0<=nk)
  (K:∀ x,bC=some x->x.E8=true->∀ b,¬ E.fp b) (h:gq P nk σ o.op e bC=some r) (n:bg r.SY) (L:afW E nk σ S μ w r fun v w'=>next (a.put o.dst v) w'):o.wp P a w next Q:=by
 have V:μ nk=none:=IU 0 ad
 -- a value without a change
 have G:∀ (s:Sem Value),execOp a.eval o=(do pure (.value (<- s)):Sem Next)->r.pD=[]->(∃ v,s.run P w=.ok v w/\av w S μ v r.val)->o.wp P a w next Q:=by
  rintro s W hu ⟨v,h1,h2⟩;unfold Oper.wp;rw [W];simp only [cb,h1,eM,Sem.run_pure];exact L v w S μ (Ext.refl _ _ _) (by rw [hu];exact g) (fun _ _ h=>h) h2
 have J:∀ (v:Value),execOp a.eval o=pure (.value v)->r.pD=[]->av w S μ v r.val->o.wp P a w next Q:=by
  intro v W hu h2;unfold Oper.wp;rw [W];exact L v w S μ (Ext.refl _ _ _) (by rw [hu];exact g) (fun _ _ h=>h) h2
 have M:∀ (s:Sem Value),execOp a.eval o=(do pure (.value (<- s)):Sem Next)->Step P E nk σ S μ w s r.val r.pD->o.wp P a w next Q:=by
  rintro s W ⟨v,w',S',ey,h1,h2,h3,h4,h5⟩;unfold Oper.wp;rw [W];simp only [cb,h1,eM,Sem.run_pure];exact L v w' S' ey h2 h3 (fun k kn=>h4 k ad) h5
 have st:∀ (xs:List Operand),bg (conds e xs)->(∀ x∈xs,x∈o.op.operands.toList)->∀ x∈xs,av w S μ (a.eval x) ((e x).strip.1) :=
  fun xs h1 h2 x H=>(he x (h2 x H)).strip (HP h1 x H)
 obtain ⟨dst,op,ty,pos,F,guard⟩:=o;simp only at he h L G J M st ⊢;cases op with
 | move x =>
  simp only [gq,aX] at h;subst h;exact J (a.eval x) rfl rfl (he x (by simp [Op.operands]))
 | assign x =>
  simp only [gq,aX] at h;subst h;exact J (a.eval x) rfl rfl (he x (by simp [Op.operands]))
 | pick q x y =>
  simp only [gq] at h;split at h
  ·rename_i qb xb yb N H D;cases h;obtain ⟨B,A⟩:=bg.app n;obtain ⟨A,p3⟩:=bg.app A;have l:=(he q (by simp [Op.operands])).strip B;rw [N] at l;have l:=eH l;refine G (do pure (if <- asBool (a.eval q) then a.eval x else a.eval y)) (by simp [execOp]) rfl ?_;cases qb with
   | true =>
    have e2:=(he x (by simp [Op.operands])).strip (TS A rfl);simp_all [asBool]
   | false =>
    have e2:=(he y (by simp [Op.operands])).strip (TS p3 rfl);simp_all [asBool]
  ·cases h
 | alloc T =>
  simp only [gq,a4] at h;obtain ⟨⟨v,u⟩,h1,rfl⟩:=h;exact M _ rfl (afm g V hm h1)
 | box T x =>
  simp only [gq,a4] at h;obtain ⟨⟨v,u⟩,h1,rfl⟩:=h;exact M _ rfl (am6 g V hm (st [x] n (by simp [Op.operands]) x ao) h1)
 | build t parts =>
  simp only [gq,yN,a4] at h;obtain ⟨v,h1,rfl⟩:=h;have X:=TU (st _ n (by simp [Op.operands]));exact G _ rfl rfl (afp X.1 X.2 h1)
 | buildSlice t len parts =>
  simp only [gq] at h;split at h
  ·cases h
  ·rename_i Xr;simp only [a4] at h;obtain ⟨⟨v,u⟩,h1,rfl⟩:=h;have X:=TU (st _ n (by simp [Op.operands]));refine M _ rfl (S8 g V hm X.1 X.2 h1 ?_);intro K;subst K;simp only [Bool.and_eq_false_iff] at Xr;rcases Xr with h0 | h0
   ·simp at h0
   ·simp only [Bool.not_eq_false',List.isEmpty_iff] at h0;simp [h0]
 | load T x =>
  simp only [gq,a4] at h;obtain ⟨⟨ps,v,rd⟩,h1,rfl⟩:=h;obtain ⟨B,A⟩:=bg.app n;exact G _ rfl rfl (UJ g (st [x] B (by simp [Op.operands]) x ao) h1 A)
 | store T x y =>
  simp only [gq,a4] at h;obtain ⟨⟨ps,u,rd⟩,h1,rfl⟩:=h;obtain ⟨B,A⟩:=bg.app n;have s:=st [x,y] B (by simp [Op.operands]);obtain ⟨w',O,U,Y⟩:=afs g (s x ao) (s y ao) h1 A;unfold Oper.wp;have ex:execOp a.eval ⟨dst,.store T x y,ty,pos,F,guard⟩=(do Instr.storeAt T (a.eval x) (a.eval y);pure .skip:Sem Next):=rfl;rw [ex];simp only [cb,O,eM,Sem.run_pure];exact L undef w' S μ U Y (fun _ _ h=>h) .il
 | nilCheck x =>
  simp only [gq] at h;split at h
  ·rename_i k i j H;cases h;have l:=st [x] n (by simp [Op.operands]) x ao;rw [H] at l;cases I:a.eval x with
   | pointer q =>
    rw [I] at l;cases q with
    | none=>cases l
    | some q=>exact J (.pointer (some q)) (by simp [execOp,I]) rfl l
   | _=>rw [I] at l;cases l
  ·rename_i cs j H;cases h;have l:=st [x] n (by simp [Op.operands]) x ao;rw [H] at l;cases I:a.eval x with
   | pointer q =>
    rw [I] at l;cases q with
    | none=>cases l
    | some q=>exact J (.pointer (some q)) (by simp [execOp,I]) rfl l
   | _=>rw [I] at l;cases l
  ·rename_i b cs H;cases h;obtain ⟨n,Z,_⟩:=bg.app n;have l:=st [x] n (by simp [Op.operands]) x ao;rw [H] at l;have l:=akI l Z;cases I:a.eval x with
   | pointer q =>
    rw [I] at l;cases q with
    | none=>cases l
    | some q=>exact J (.pointer (some q)) (by simp [execOp,I]) rfl l
   | _=>rw [I] at l;cases l
  ·cases h
 | binOp o' t x y yt =>
  simp only [gq,a4] at h;obtain ⟨⟨ps,v⟩,h1,rfl⟩:=h;obtain ⟨B,A⟩:=bg.app n;have s:=st [x,y] B (by simp [Op.operands]);exact G (do eqGuard o' t x y (a.eval x) (a.eval y);binOp o' t (a.eval x) (a.eval y)) rfl rfl (am4 (s x ao) (s y ao) h1 A)
 | unOp o' t x =>
  simp only [gq,yN,a4] at h;obtain ⟨v,h1,rfl⟩:=h;exact G _ rfl rfl (apt (st [x] n (by simp [Op.operands]) x ao) h1)
 | convert src dt x =>
  simp only [gq] at h;split at h
  ·rename_i v h1;cases h;exact G _ rfl rfl (akj (st [x] n (by simp [Op.operands]) x ao) h1)
  ·simp only [a4] at h;obtain ⟨⟨ps,v,rd⟩,h1,rfl⟩:=h;obtain ⟨B,A⟩:=bg.app n;exact M _ rfl (afO g (st [x] B (by simp [Op.operands]) x ao) h1 A)
 | makeMap t hint =>
  cases hint with
  | some _=>simp [gq] at h
  | none =>
   simp only [gq,aX] at h;subst h;have ga:=g.allocMap V hm;refine M (Instr.makeMap t none) rfl ⟨_,_,_,_,Go.RowKit.run_makeMap t w,ga.1,ga.2,fun k kn hn=>by rw [rM _ kn];exact hn,?_⟩;exact av.mp (μ:=di μ nk ⟨w.heap.size,1,0⟩) ⟨w.heap.size,1,0⟩ (by simp [di])
 | lookup t m x ok =>
  simp only [gq] at h;split at h
  ·simp only [a4] at h;obtain ⟨⟨ps,v,rd⟩,h1,rfl⟩:=h;obtain ⟨B,A⟩:=bg.app n;have s:=st [m,x] B (by simp [Op.operands]);exact G _ rfl rfl (adY g (s m ao) (s x ao) h1 A)
  ·cases h
 | mapUpdate t m x y =>
  simp only [gq] at h;split at h
  ·simp only [a4] at h;obtain ⟨⟨ps,u,rd⟩,h1,rfl⟩:=h;obtain ⟨B,A⟩:=bg.app n;have s:=st [m,x,y] B (by simp [Op.operands]);obtain ⟨w',O,U,Y⟩:=TQ g (s m ao) (s x ao) (s y ao) h1 A;unfold Oper.wp;have ex:execOp a.eval ⟨dst,.mapUpdate t m x y,ty,pos,F,guard⟩=(do Instr.mapUpdate t (a.eval m) (a.eval x) (a.eval y);pure .skip:Sem Next):=rfl;rw [ex];simp only [cb,O,eM,Sem.run_pure];exact L undef w' S μ U Y (fun _ _ h=>h) .il
  ·cases h
 | insert t m x y =>
  simp only [gq] at h;split at h
  ·simp only [a4] at h;obtain ⟨⟨ps,u,rd⟩,h1,rfl⟩:=h;obtain ⟨B,A⟩:=bg.app n;have s:=st [m,x,y] B (by simp [Op.operands]);obtain ⟨w',O,U,Y⟩:=TQ g (s m ao) (s x ao) (s y ao) h1 A;unfold Oper.wp;have ex:execOp a.eval ⟨dst,.insert t m x y,ty,pos,F,guard⟩=(do Instr.mapUpdate t (a.eval m) (a.eval x) (a.eval y);pure .skip:Sem Next):=rfl;rw [ex];simp only [cb,O,eM,Sem.run_pure];exact L undef w' S μ U Y (fun _ _ h=>h) .il
  ·cases h
 | makeFunc f first cap =>
  simp only [gq,aX] at h;subst h;have s:=st (first.toList ++ cap.toList) n (by simp [Op.operands]);have l1:=PS (xs:=first) (fun x H=>s x (by simp only [List.mem_append];exact .inl H));have l2:=PS (xs:=cap) (fun x H=>s x (by simp only [List.mem_append];exact .inr H));exact G _ rfl rfl ⟨_,by simp [Instr.makeFunc],.fn l1.1 l2.1 l1.2 l2.2⟩
 | makeSlice t x y =>
  simp only [gq,a4] at h;obtain ⟨⟨ps,v,u⟩,h1,rfl⟩:=h;obtain ⟨B,A⟩:=bg.app n;have s:=st [x,y] B (by simp [Op.operands]);exact M _ rfl (akl g V hm (s x ao) (s y ao) h1 A)
 | slice t x lo hi mx =>
  cases mx with
  | some _=>simp [gq] at h
  | none =>
   simp only [gq,a4] at h;obtain ⟨⟨ps,v,rd⟩,h1,rfl⟩:=h;obtain ⟨B,A⟩:=bg.app n;have s:=st (x :: (lo.toList ++ hi.toList)) B (by
    intro y D;simp only [kY,List.mem_append,Option.mem_toList] at D;simp only [Op.operands];rcases D with rfl | D | D
    ·simp
    ·simp [D]
    ·simp [D])
   refine G (Instr.sliceAt t (a.eval x) (lo.map a.eval) (hi.map a.eval) none) rfl rfl (afw g (s x ao) ?_ ?_ h1 A)
   ·refine ⟨ao,?_⟩;intro p q ue N;simp only [a4] at ue N;obtain ⟨y,D,rfl⟩:=ue;obtain ⟨z,K,rfl⟩:=N;rw [D] at K;cases K;exact s y (by simp [D])
   ·refine ⟨ao,?_⟩;intro p q ue N;simp only [a4] at ue N;obtain ⟨y,D,rfl⟩:=ue;obtain ⟨z,K,rfl⟩:=N;rw [D] at K;cases K;exact s y (by simp [D])
 | fieldAddr T x f =>
  simp only [gq,yN,a4] at h;obtain ⟨v,h1,rfl⟩:=h;exact G _ rfl rfl (UL (st [x] n (by simp [Op.operands]) x ao) h1)
 | field T x f =>
  simp only [gq,yN,a4] at h;obtain ⟨v,h1,rfl⟩:=h;exact G _ rfl rfl (afu (st [x] n (by simp [Op.operands]) x ao) h1)
 | indexAddr T x i =>
  simp only [gq,a4] at h;obtain ⟨⟨ps,v,rd⟩,h1,rfl⟩:=h;obtain ⟨B,A⟩:=bg.app n;have s:=st [x,i] B (by simp [Op.operands]);exact G _ rfl rfl (UN g (s x ao) (s i ao) h1 A)
 | index T x i =>
  simp only [gq,a4] at h;obtain ⟨⟨ps,v⟩,h1,rfl⟩:=h;obtain ⟨B,A⟩:=bg.app n;have s:=st [x,i] B (by simp [Op.operands]);exact G _ rfl rfl (afv (s x ao) (s i ao) h1 A)
 | extract x i =>
  simp only [gq] at h;split at h
  ·rename_i cs H;simp only [yN,a4] at h;obtain ⟨v,h1,rfl⟩:=h;have l:=st [x] n (by simp [Op.operands]) x ao;rw [H] at l;refine G _ rfl rfl ?_;cases I:a.eval x with
   | tuple vs =>
    rw [I] at l;cases l with
    | tup q1 q2 =>
     have jA:i < vs.size:=by rw [q1];exact (eK.1 h1).1
     exact ⟨vs[i],by simp [Instr.extract,hH jA],q2 i v _ h1 (hH jA)⟩
   | _=>rw [I] at l;cases l
  ·cases h
 | call c =>
  obtain ⟨callee,C,argTypes⟩:=c;cases callee with
  | invoke=>simp [gq] at h
  | value f =>
   simp only [gq] at h;split at h
   ·rename_i o';simp only [a4] at h;obtain ⟨r',h1,rfl⟩:=h;obtain ⟨B,A⟩:=bg.app n;have s:=st (f :: C.toList) A (by simp [Op.operands,Call.operands]);have l1:=PS (xs:=C) (fun x H=>s x (List.mem_cons_of_mem _ H));obtain ⟨gid,vs,O,U⟩:=ZP g IU hm (s f ao) l1 (K _ rfl) h1 B;unfold Oper.wp;have ex:execOp a.eval ⟨dst,.call ⟨.value f,C,argTypes⟩,ty,pos,F,guard⟩=(do let d <- Deferred.ofValue (a.eval f) (C.map a.eval);invoke d.target d.args:Sem Next):=rfl;rw [ex,O];simp only [Oper.upon];refine U.mono ?_;rintro e' w' ⟨v,S',ey,rfl,q1,q2,q3,q4⟩;exact L v w' S' ey q1 q2 q3 q4
   ·cases h
  | builtin b =>
   simp only [gq] at h;unfold HO at h;split at h
   case h_1 x t ha ht =>
    obtain ⟨rfl⟩:C=#[x]:=Array.toList_inj.1 (by rw [ha]);obtain ⟨rfl⟩:argTypes=#[t]:=Array.toList_inj.1 (by rw [ht]);simp only [yN,a4] at h;obtain ⟨v,h1,rfl⟩:=h;have s:=st [x] n (by simp [Op.operands,Call.operands]);exact G (Builtin.len_ #[t] ty #[a.eval x]) (by simp [execOp,resolve,invoke,builtin]) rfl (anf (s x ao) h1 ty)
   case h_2 x y t t' ha ht =>
    obtain ⟨rfl⟩:C=#[x,y]:=Array.toList_inj.1 (by rw [ha]);obtain ⟨rfl⟩:argTypes=#[t,t']:=Array.toList_inj.1 (by rw [ht]);split at h
    ·rename_i Z;have Z:=bZ Z;subst Z;simp only [a4] at h;obtain ⟨⟨ps,v,rd,u⟩,h1,rfl⟩:=h;obtain ⟨B,A⟩:=bg.app n;have s:=st [x,y] B (by simp [Op.operands,Call.operands]);exact M (Builtin.append_ #[t,t] ty #[a.eval x,a.eval y]) (by simp [execOp,resolve,invoke,builtin]) (TH g V hm (s x ao) (s y ao) h1 A)
    ·cases h
   case h_3 x r ha =>
    simp only [yN,a4] at h;obtain ⟨v,h1,rfl⟩:=h;have s:=st (x :: r) n (by intro y D;simpa [Op.operands,Call.operands,ha] using D);refine G (Builtin.min_ argTypes ty (C.map a.eval)) (by simp [execOp,resolve,invoke,builtin]) rfl ?_;obtain ⟨z,h3,h4⟩:=ZQ (P:=P) r (a.eval x) _ v (s x ao) (fun y D=>s y (by simp [D])) h1;refine ⟨z,?_,h4⟩;unfold Builtin.min_;rw [Array.toList_map,ha,List.map_cons];exact h3
   case h_4 x r ha =>
    simp only [yN,a4] at h;obtain ⟨v,h1,rfl⟩:=h;have s:=st (x :: r) n (by intro y D;simpa [Op.operands,Call.operands,ha] using D);refine G (Builtin.max_ argTypes ty (C.map a.eval)) (by simp [execOp,resolve,invoke,builtin]) rfl ?_;obtain ⟨z,h3,h4⟩:=ZQ (P:=P) r (a.eval x) _ v (s x ao) (fun y D=>s y (by simp [D])) h1;refine ⟨z,?_,h4⟩;unfold Builtin.max_;rw [Array.toList_map,ha,List.map_cons];exact h3
   case h_5=>cases h
 | _=>simp [gq] at h
def asm:Option qE->Option qE
 | some o=>match o.same with
  | false=>some o
  | true=>none
 | none=>none
def HQ (P:Program) (σ:fe) (T:TypeId) (a x:AV):Option (List Prop×AV×List Nat) :=
 match a,P.underlying T,AM P T with
 | .op k i j,some d,some n=>match d.isRow,Nat.beq n 1,ay σ k with
  | false,true,some o=>some ([i < o.len,(o.get i)[j]?=some x],x,[k])
  | _,_,_=>none
 | _,_,_=>none
theorem afX (g:Good E σ S μ w) {T:TypeId} {a x:AV} {b:Value} (e:av w S μ b a) {ps:List Prop} {y:AV} {rd:List Nat} (h:HQ P σ T a x=some (ps,y,rd)) (f:bg ps) :
  ∃ v,(Instr.loadAt T b).run P w=.ok v w/\av w S μ v y:=by
 unfold HQ at h;split at h
 case h_2=>cases h
 rename_i k i j d n l m;split at h
 case h_2=>cases h
 rename_i o h1 h2 p;simp only [aX,aQ] at h;obtain ⟨rfl,rfl,rfl⟩:=h;obtain ⟨hi,c,_⟩:=f;have q:=bZ h2;subst q;refine UJ (T:=T) g e (ps:=[i < o.len]) (rd:=[k]) ?_ ⟨hi,trivial⟩;unfold F0;simp only [l,m,p,h1];unfold ldv;have:Nat.ble (j+1) (o.get i).length=true:=by rw [Nat.ble_eq];exact (eK.1 c).1
 rw [this];simp [c]
def UT (σ:fe) (k q i:Nat):Option (List Prop×x8) :=
 match ay σ k,ay σ q with
 | some o,some a=>match !o.var && !a.var && a.pr && Nat.ble 1 a.sz && !Nat.beq k q with
  | true=>some ([i < o.len,o.get i=[.os q 0 a.len],∀ j,j < a.len->qF (a.get j)=true],[(q,none),(k,some ⟨false,o.sz,o.len,false,fun m=>if m=i then [.mr a.sz a.len a.get] else o.get m⟩)])
  | false=>none
 | _,_=>none
theorem TV {k q i:Nat} {ps:List Prop} {u:x8} (h:UT σ k q i=some (ps,u)) (c:bg ps) (g:Good E σ S μ w):Good E (iC σ u) S μ w:=by
 unfold UT at h;split at h
 case h_2=>cases h
 rename_i o d f a;split at h
 case h_2=>cases h
 rename_i b;simp only [aX,aQ] at h;obtain ⟨rfl,rfl⟩:=h;simp only [bd,Bool.not_eq_true',Nat.ble_eq] at b;obtain ⟨⟨⟨⟨h1,h2⟩,h3⟩,h4⟩,t⟩:=b;obtain ⟨l,m,n,_⟩:=c;refine g.cls f a (fun e=>?_) h1 h2 h3 h4 l m fun j=>?_
 ·simp_all
 ·cases p:rowOf d j with
  | none=>rfl
  | some x =>
   obtain ⟨_,r,s⟩:=dS p;have:=n j r;rw [s] at this;cases this
def apL:AV->Nat
 | .os _ _ len=>len
 | _=>0
def zK (P:Program) (nk:Nat) (σ:fe) (t:TypeId) (s x:AV) (b:qE):Option (List Prop×AV×List Nat×x8) :=
 match b.ks,xA P nk σ t s x with
 | [q],some (ps,v,rd,u)=>match ano (rd ++ u.map (·.1)) q,UT (iC σ u) nk q (apL s) with
  | false,some (a,u2)=>some (ps ++ a,v,q :: rd,u ++ u2)
  | _,_=>none
 | _,_=>none
theorem ZR (g:Good E σ S μ w) (a:μ nk=none) (hm:E.m0<=nk) {t ty:TypeId} {s x:AV} {b:qE} {vs vx:Value} (c:av w S μ vs s) (d:av w S μ vx x) {ps:List Prop} {val:AV} {rd:List Nat} {pD:x8}
  (h:zK P nk σ t s x b=some (ps,val,rd,pD)) (e:bg ps):Step P E nk σ S μ w (Builtin.append_ #[t,t] ty #[vs,vx]) val pD:=by
 unfold zK at h;split at h
 case h_2=>cases h
 rename_i q l v f u m i;split at h
 case h_2=>cases h
 rename_i n u2 _ o;simp only [aX,aQ] at h;obtain ⟨rfl,rfl,rfl,rfl⟩:=h;obtain ⟨j,p⟩:=bg.app e;obtain ⟨v',w',S',ey,h1,h2,h3,h4,k⟩:=TH (ty:=ty) g a hm c d i j;exact ⟨v',w',S',ey,h1,h2,by grind [jV,TV],h4,k⟩
def PT (P:Program) (T:TypeId) (x lo hi mx:AV):Option (List Prop×AV×List Nat) :=
 match P.underlying T,x,lo,hi,mx with
 | some (.slice e),.os _ _ len,.atom (.int _ l),.atom (.int _ h),.atom (.int _ m)=>match AM P e with
  | some _=>some ([0<=l/\l<=h/\h<=m/\m<=len],.il,[])
  | none=>none
 | _,_,_,_,_=>none
theorem adZ {T:TypeId} {x lo hi mx:AV} {v c d f:Value} (g:av w S μ v x) (i:av w S μ c lo) (j:av w S μ d hi) (hm:av w S μ f mx) {ps:List Prop} {r:AV} {rd:List Nat}
  (h:PT P T x lo hi mx=some (ps,r,rd)) (n:bg ps):∃ u,(Instr.sliceAt T v (some c) (some d) (some f)).run P w=.ok u w/\av w S μ u r:=by
 unfold PT at h;split at h
 case h_2=>cases h
 rename_i e k off len o l p b q m hu;split at h
 case h_2=>cases h
 rename_i sz s;simp only [aX,aQ] at h;obtain ⟨rfl,rfl,rfl⟩:=h;obtain ⟨⟨E,F,G,H⟩,_⟩:=n;have t:=eH i;have y:=eH j;have z:=eH hm;subst t y z;cases g with
 | os pl I h1 h2 h3 =>
  rename_i cap a;have A:0<=m/\m<=(cap:Int):=ad;have B:0<=b/\b<=(m.toNat:Int):=ad;have C:0<=l/\l<=(b.toNat:Int):=ad;have D:(Instr.sliceBounds true len cap (some (.int o l)) (some (.int p b)) (some (.int q m))).run P w=.ok (l.toNat,b.toNat,m.toNat) w:=by
   simp only [Instr.sliceBounds,Instr.sliceBound,asIntOf,cb,Sem.run_pure,eM,Sem.run_ite,if_pos A,if_pos B,if_pos C]
  exact ⟨.slice (if m.toNat=l.toNat then a else a.map (·.add (l.toNat * sz))) (b.toNat - l.toNat) (m.toNat - l.toNat),by simp [Instr.sliceAt,Instr.slice,run_underlying hu,D,ij s],.il⟩
def CH (P:Program) (σ:fe) (T:TypeId) (x:AV) (lo hi:Option AV):Option (List Prop×AV×List Nat) :=
 match P.underlying T,x with
 | some (.slice e),.os k off len=>match AM P e,bound 0 lo,bound len hi,ay σ k with
  | some sz,some l,some h,some o=>match Nat.beq o.sz sz with
   | true=>some ((l<=h/\off+h<=o.len) :: (BI lo ++ BI hi),.os k (da off l) (h - l),[k])
   | false=>none
  | _,_,_,_=>none
 | _,_=>none
theorem ad0 (g:Good E σ S μ w) {T:TypeId} {x:AV} {v:Value} (t:av w S μ v x) {lo hi:Option AV} {vlo vhi:Option Value}
  (d:(vlo=none↔lo=none)/\∀ a b,lo=some a->vlo=some b->av w S μ b a)
  (f:(vhi=none↔hi=none)/\∀ a b,hi=some a->vhi=some b->av w S μ b a) {ps:List Prop} {r:AV} {rd:List Nat} (h:CH P σ T x lo hi=some (ps,r,rd)) (y:bg ps) :
  ∃ u,(Instr.sliceAt T v vlo vhi none).run P w=.ok u w/\av w S μ u r:=by
 unfold CH at h;split at h
 case h_2=>cases h
 rename_i e k off len hu;split at h
 case h_2=>cases h
 rename_i sz l n o z A i B;split at h
 case h_2=>cases h
 rename_i j;have j:=bZ j;simp only [aX,aQ] at h;obtain ⟨rfl,rfl,rfl⟩:=h;obtain ⟨⟨C,F⟩,D⟩:=y;obtain ⟨pl,c,G,hm,p⟩:=g.rep.ob k o B;cases t with
 | os lL q h1 h2 h3 =>
  rename_i cap a;rw [hm] at q;cases q;have s:n<=cap:=by have:=p.len;omega
  have m:=DX (P:=P) (w:=w) true (cap:=cap) d f A i C s D;refine ⟨.slice (if cap=l then a else a.map (·.add (l * sz))) (n - l) (cap - l),?_,?_⟩
  ·simp [Instr.sliceAt,Instr.slice,run_underlying hu,m,ij z]
  ·refine .os pl hm ?_ ad (by rw [fk];omega);intro s;have:=h1 ad;subst this;rw [if_neg ad];simp only [Option.map_some,Addr.add_mid];rw [fk,p.sz,j,dq]
def LK (P:Program) (σ:fe) (t:TypeId) (s x:AV):Option (List Prop×AV×List Nat×x8) :=
 match qS P t with
 | some e=>match AM P e,DT P e,yL P e,s,x with
  | some sz,some _,some _,.os k 0 len,.os k' off n=>match Nat.beq k k',ay σ k with
   | true,some o=>match Nat.ble 1 sz && Nat.beq o.sz sz && !o.var with
    | true=>some ([0 < o.len/\len+n<=o.len,off+n<=o.len,∀ i,i < o.len->AV.vH (o.get i)=true],.os k 0 (len+n),[k],
      [(k,some ⟨false,sz,o.len,o.pr,fun m=>if m < len then o.get m else if m < len+n then o.get (da off (m - len)) else o.get m⟩)])
    | false=>none
   | _,_=>none
  | _,_,_,_,_=>none
 | none=>none
theorem TW {o:Ob} (h:∀ i,i < o.len->AV.vH (o.get i)=true) (i:Nat):rowOf o i=none:=by
 cases a:rowOf o i with
 | none=>rfl
 | some x =>
  obtain ⟨_,b,c⟩:=dS a;have:=h i b;rw [c] at this;cases this
theorem akJ (g:Good E σ S μ w) {t ty:TypeId} {s x:AV} {vs vx:Value} (V:av w S μ vs s) (f:av w S μ vx x) {ps:List Prop} {val:AV} {rd:List Nat} {pD:x8}
  (h:LK P σ t s x=some (ps,val,rd,pD)) (W:bg ps):Step P E nk σ S μ w (Builtin.append_ #[t,t] ty #[vs,vx]) val pD:=by
 unfold LK at h;split at h
 case h_2=>cases h
 rename_i e he;have he:=oG he;split at h
 case h_2=>cases h
 rename_i sz b z k len k' off n X Y Z;obtain ⟨d,Lz,rfl,rfl,hze⟩:=DU X Y Z;split at h
 case h_2=>cases h
 rename_i o r C;have r:=bZ r;subst r;split at h
 case h_2=>cases h
 rename_i H;simp only [bd,Nat.ble_eq,Bool.not_eq_true'] at H;obtain ⟨⟨b1,l⟩,Ik⟩:=H;have l:=bZ l;simp only [aX,aQ] at h;obtain ⟨rfl,rfl,rfl,rfl⟩:=h;obtain ⟨⟨p0,p1⟩,p2,A,_⟩:=W;obtain ⟨news,y⟩:=F4 (P:=P) (sz:=d.size) (n:=n) (gt:=fun i=>o.get (da off i)) (pr:=o.pr) (ps:=[off+n<=o.len,∀ i,i < n->AV.vH (o.get (da off i))=true]) (rd:=[k]) g f
  (by unfold CA;simp only [C,uQ l]) ⟨p2,fun i hi=>A _ (by rw [fk];omega),trivial⟩
 obtain ⟨pl,c,T',D,p⟩:=g.rep.ob k o C;cases V with
 | os lL I h1 h2 h3 =>
  rename_i cap a;rw [D] at I;cases I;have hol:=p.len;have J:=h1 ad;simp only [Nat.zero_mul] at J;subst J;have K:0 < pl.cap:=ad;have L:len+n<=cap:=ad;have FA:len * d.size+news.length<=c.size:=by
   have e1:(len+n) * d.size<=pl.cap * d.size:=fy _ ad;have M:=p.cap;rw [l] at M;rw [y.size,<- dq];omega
  have N:=PD (P:=P) (w:=w) (ty:=ty) he Lz ((p.df K).trans (by rw [jf ad])) y.len y.cells y.one L FA;generalize O:(c.toList.take (len * d.size) ++ news ++ c.toList.drop (len * d.size+news.length)).toArray=B at N;have Q:(c.toList.take (len * d.size)).length=len * d.size:=by simp;omega
  have UK:B.size=c.size:=by
   rw [<- O];simp;omega
  have tk:∀ m,B[m]?=if m < len * d.size then c[m]? else if m < len * d.size+news.length then news[m - len * d.size]? else c[m]?:=by
   intro m;rw [<- O];simp only [List.getElem?_toArray]
   by_cases h1:m < len * d.size
   ·rw [lx (by simp;omega),lx ad,vE,if_pos h1,if_pos h1];simp
   ·rw [if_neg h1]
    by_cases h2:m < len * d.size+news.length
    ·rw [lx (by simp;omega),og ad,Q,if_pos h2]
    ·rw [if_neg h2,og (by simp;omega)];simp only [oi,Q,ud];rw [show len * d.size+news.length+(m - (len * d.size+news.length))=m by omega];simp
  have R:∀ i,i < o.len->(if i < len then o.get i else if i < len+n then o.get (da off (i - len)) else o.get i).length=d.size:=by
   intro i hi;split
   ·rw [p.zF i hi,l]
   ·split
    ·rw [p.zF _ (by rw [fk];omega),l]
    ·rw [p.zF i hi,l]
  have Oh:=TW A;have T:=g.write C D K p ad ⟨false,d.size,o.len,o.pr,fun m=>if m < len then o.get m else if m < len+n then o.get (da off (m - len)) else o.get m⟩ B l.symm UK p.len R (by
   intro i j x v hi f q;have hi:i < o.len:=hi;have f:(if i < len then o.get i else if i < len+n then o.get (da off (i - len)) else o.get i)[j]?=some x:=f;have hj:j < d.size:=by
    have e1:=(eK.1 f).1;have M:=R i hi;omega
   have q:B[i * d.size+j]?=some v:=q;rw [tk] at q
   by_cases F:i < len
   ·have U:(i+1) * d.size<=len * d.size:=fy _ F;rw [dq] at U;rw [if_pos ad] at q;rw [if_pos F] at f;exact p.rep i j x v hi f (by rw [l];exact q)
   ·have U:len * d.size<=i * d.size:=fy _ ad;rw [if_neg ad,y.size] at q;rw [if_neg F] at f
    by_cases G:i < len+n
    ·have u:(i+1) * d.size<=(len+n) * d.size:=fy _ G;rw [dq,dq] at u;rw [if_pos ad] at q;rw [if_pos G] at f;refine y.rep (i - len) j x v ad f ?_;rw [<- q,Nat.sub_mul];congr 1;omega
    ·have u:(len+n) * d.size<=i * d.size:=fy _ ad;rw [dq] at u;rw [if_neg ad] at q;rw [if_neg G] at f;exact p.rep i j x v hi f (by rw [l];exact q))
   (fun i x f=>absurd f (by
    rw [TW (o:=⟨false,d.size,o.len,o.pr,fun m=>if m < len then o.get m else if m < len+n then o.get (da off (m - len)) else o.get m⟩) (fun i hi=>by
     show AV.vH (if i < len then o.get i else if i < len+n then o.get (da off (i - len)) else o.get i)=true;have hi:i < o.len:=hi;split
     ·exact A i hi
     ·split
      ·exact A _ (by rw [fk];omega)
      ·exact A i hi)]
    intro h;cases h))
  exact ⟨_,_,S,μ,N,T.1,T.2,fun _ _ h=>h,av.os pl D ao L h3⟩
theorem afY {o:Ob} (h:∀ i,i < o.len->qF (o.get i)=true) (i:Nat):rowOf o i=none:=by
 cases a:rowOf o i with
 | none=>rfl
 | some x =>
  obtain ⟨_,b,c⟩:=dS a;have:=h i b;rw [c] at this;cases this
theorem XI {l:List AV} (h:AV.vH l=true):qF l=true:=by
 induction l with
 | nil=>rfl
 | cons x l a =>
  simp only [AV.vH,bd] at h;simp only [qF,bd];refine ⟨?_,a h.2⟩;cases x<;>first | rfl | cases h.1
theorem Good.afZ (g:Good E σ S μ w) {k:Nat} {o:Ob} (H:ay σ k=some o) {pl:Place} {c:Array Value} {I:TypeId} (J:μ k=some pl) (d:kg w S μ o pl c I) (K:0 < pl.cap) {sz p n:Nat}
  {gt:Nat->List AV} {pr:Bool} {v:Value} {news:List Value} (q:Src P w S μ sz v n gt pr news) (l:o.sz=sz) (U:1<=sz) (L:p+n<=o.len) (A:∀ i,i < o.len->qF (o.get i)=true) {e:Array Value}
  (B:(c.toList.take (p * sz) ++ news ++ c.toList.drop (p * sz+news.length)).toArray=e):p * sz+news.length<=c.size /\
  Ext w S μ (w.setRow pl.df e) S μ/\Good E (sset σ k ⟨false,sz,o.len,o.pr && pr,fun m=>if m < p then o.get m else if m < p+n then gt (m - p) else o.get m⟩) S μ (w.setRow pl.df e):=by
 have M:=d.len;have N:p * sz+news.length<=c.size:=by
  have O:(p+n) * sz<=pl.cap * sz:=fy _ ad;have C:=d.cap;rw [l] at C;rw [q.size,<- dq];omega
 have D:(c.toList.take (p * sz)).length=p * sz:=by simp;omega
 have Q:e.size=c.size:=by
  rw [<- B];simp;omega
 have R:∀ m,e[m]?=if m < p * sz then c[m]? else if m < p * sz+news.length then news[m - p * sz]? else c[m]?:=by
  intro m;rw [<- B];simp only [List.getElem?_toArray]
  by_cases h1:m < p * sz
  ·rw [lx (by simp;omega),lx ad,vE,if_pos h1,if_pos h1];simp
  ·rw [if_neg h1]
   by_cases h2:m < p * sz+news.length
   ·rw [lx (by simp;omega),og ad,D,if_pos h2]
   ·rw [if_neg h2,og (by simp;omega)];simp only [oi,D,ud];rw [show p * sz+news.length+(m - (p * sz+news.length))=m by omega];simp
 have F:∀ i,i < o.len->(if i < p then o.get i else if i < p+n then gt (i - p) else o.get i).length=sz:=by
  intro i hi;split
  ·rw [d.zF i hi,l]
  ·split
   ·exact q.zF _ ad
   ·rw [d.zF i hi,l]
 have r:∀ {u:Value} {x:AV},av w S (if o.pr then kf else μ) u x->av w S (if (o.pr && pr)=true then kf else μ) u x:=by
  intro u x s;cases T:pr
  ·rw [Bool.and_false];exact ln s
  ·rw [Bool.and_true];exact s
 have t:∀ {u:Value} {x:AV},av w S (if pr then kf else μ) u x->av w S (if (o.pr && pr)=true then kf else μ) u x:=by
  intro u x s;cases T:o.pr
  ·rw [Bool.false_and];exact ln s
  ·rw [Bool.true_and];exact s
 refine ⟨N,g.write H J K d ad ⟨false,sz,o.len,o.pr && pr,fun m=>if m < p then o.get m else if m < p+n then gt (m - p) else o.get m⟩ e l.symm Q d.len F (by
   intro i j x v hi a b;have hi:i < o.len:=hi;have a:(if i < p then o.get i else if i < p+n then gt (i - p) else o.get i)[j]?=some x:=a;have V:j < sz:=by
    have O:=(eK.1 a).1;have C:=F i hi;omega
   have b:e[i * sz+j]?=some v:=b;rw [R] at b
   by_cases y:i < p
   ·have G:(i+1) * sz<=p * sz:=fy _ y;rw [dq] at G;rw [if_pos ad] at b;rw [if_pos y] at a;exact r (d.rep i j x v hi a (by rw [l];exact b))
   ·have G:p * sz<=i * sz:=fy _ ad;rw [if_neg ad,q.size] at b;rw [if_neg y] at a
    by_cases z:i < p+n
    ·have f:(i+1) * sz<=(p+n) * sz:=fy _ z;rw [dq,dq] at f;rw [if_pos ad] at b;rw [if_pos z] at a;refine t (q.rep (i - p) j x v ad a ?_);rw [<- b,Nat.sub_mul];congr 1;omega
    ·have f:(p+n) * sz<=i * sz:=fy _ ad;rw [dq] at f;rw [if_neg ad] at b;rw [if_neg z] at a;exact r (d.rep i j x v hi a (by rw [l];exact b)))
   (fun i x a=>absurd a (by
    rw [afY (o:=⟨false,sz,o.len,o.pr && pr,fun m=>if m < p then o.get m else if m < p+n then gt (m - p) else o.get m⟩) (fun i hi=>by
     show qF (if i < p then o.get i else if i < p+n then gt (i - p) else o.get i)=true;have hi:i < o.len:=hi;split
     ·exact A i hi
     ·split
      ·exact XI (q.akq _ ad)
      ·exact A i hi)]
    intro h;cases h))⟩
def LL (P:Program) (σ:fe) (t:TypeId) (s x:AV):Option (List Prop×AV×List Nat×x8) :=
 match qS P t with
 | some e=>match AM P e,s,x with
  | some sz,.os k a nd,.os k' b c=>match Nat.beq k k',ay σ k with
   | true,some o=>match Nat.ble 1 sz && Nat.beq o.sz sz && !o.var with
    | true=>some ([nd<=c,a+nd<=o.len,b+nd<=o.len,∀ i,i < o.len->AV.vH (o.get i)=true],.atom (.int .i64 nd),[k],
      [(k,some ⟨false,sz,o.len,o.pr,fun m=>if m < a then o.get m else if m < a+nd then o.get (da b (m - a)) else o.get m⟩)])
    | false=>none
   | _,_=>none
  | _,_,_=>none
 | none=>none
theorem akK (g:Good E σ S μ w) {t t' ty:TypeId} {s x:AV} {vs vx:Value} (R:av w S μ vs s) (T:av w S μ vx x) {ps:List Prop} {val:AV} {rd:List Nat} {pD:x8}
  (h:LL P σ t s x=some (ps,val,rd,pD)) (U:bg ps):Step P E nk σ S μ w (Builtin.copy_ #[t,t'] ty #[vs,vx]) val pD:=by
 unfold LL at h;split at h
 case h_2=>cases h
 rename_i e he;have he:=oG he;split at h
 case h_2=>cases h
 rename_i sz k b nd k' d r V;obtain ⟨f,F,rfl⟩:∃ f,P.info? e=some f/\f.size=sz:=by
  unfold AM at V;simp_all
 split at h
 case h_2=>cases h
 rename_i o j G;have j:=bZ j;subst j;split at h
 case h_2=>cases h
 rename_i H;simp only [bd,Nat.ble_eq,Bool.not_eq_true'] at H;obtain ⟨⟨W,p⟩,X⟩:=H;have p:=bZ p;simp only [aX,aQ] at h;obtain ⟨rfl,rfl,rfl,rfl⟩:=h;obtain ⟨Y,Z,p2,I,_⟩:=U;obtain ⟨pl,c,T',u,y⟩:=g.rep.ob k o G;cases R with
 | os lL J h1 h2 h3 =>
  rename_i cap a;rw [u] at J;cases J;cases T with
  | os x7 K L g2 g3 =>
   rename_i z M;rw [u] at K;cases K;rcases Nat.eq_zero_or_pos nd with N | N
   ·subst N;have A:(Builtin.copy_ #[t,t'] ty #[.slice a 0 cap,.slice M r z]).run P w=.ok (goInt 0) w:=by
     have e0:Nat.min r 0=0:=ao;cases a<;>cases M<;>simp [Builtin.copy_,run_underlying he,Builtin.lenOf,Builtin.firstCells,sizeOf,typeInfo,F,storeCells,loadCells,loadCellsFrom]
    have eo:(⟨false,f.size,o.len,o.pr,fun m=>if m < b then o.get m else if m < b+0 then o.get (da d (m - b)) else o.get m⟩:Ob)=o:=by
     have:(fun m=>if m < b then o.get m else if m < b+0 then o.get (da d (m - b)) else o.get m)=o.get:=by
      funext m;split
      ·rfl
      ·split
       ·omega
       ·rfl
     rw [this,<- p,<- X]
    refine ⟨_,w,S,μ,A,Ext.refl _ _ _,g.congr fun n=>?_,fun _ _ h=>h,.atom _⟩;show ay (sset σ k _) n=_;grind [bz]
   ·have ha:=h1 ad;have B:=L ad;subst ha B;have O:0 < pl.cap:=by have:=y.len;omega
    obtain ⟨news,C⟩:=F4 (P:=P) (sz:=f.size) (x:=.os k d nd) (v:=.slice (some ⟨pl.df,d * pl.sz,none⟩) nd z) (n:=nd) (gt:=fun i=>o.get (da d i)) (pr:=o.pr) (ps:=[d+nd<=o.len,∀ i,i < nd->AV.vH (o.get (da d i))=true]) (rd:=[k]) g
     (.os pl u L ad g3) (by grind [CA,uQ]) ⟨p2,fun i hi=>I _ (by rw [fk];omega),trivial⟩
    obtain ⟨FA,D,q⟩:=g.afZ G u y O C p W Z (fun i hi=>XI (I i hi)) rfl;have Q:=run_storeCells_at P pl.df (b * f.size) T' news 0 c w ((y.df O).trans (by rw [jf ad])) (by simpa using FA) C.one;simp only [Nat.add_zero] at Q;have l:=C.cells w rfl;simp only [Builtin.firstCells] at l;have AN:Nat.min r nd=nd:=Nat.min_eq_right Y;have A:(Builtin.copy_ #[t,t'] ty #[.slice (some ⟨pl.df,b * pl.sz,none⟩) nd cap,.slice (some ⟨pl.df,d * pl.sz,none⟩) r z]).run P w=.ok (goInt nd) (w.setRow pl.df (c.toList.take (b * f.size) ++ news ++ c.toList.drop (b * f.size+news.length)).toArray):=by
     rw [y.sz,p] at l ⊢;simp [Builtin.copy_,run_underlying he,Builtin.lenOf,Builtin.firstCells,sizeOf,typeInfo,F,AN,l,Q]
    rw [Bool.and_self] at q;exact ⟨_,_,S,μ,A,D,q,fun _ _ h=>h,.atom _⟩
def LO (P:Program) (σ:fe) (t:TypeId) (s x:AV):Option (List Prop×AV×List Nat×x8) :=
 match qS P t with
 | some e=>match AM P e,DT P e,yL P e,s with
  | some sz,some _,some _,.os k off m=>match CA σ sz x,ay σ k with
   | some (n,gt,pr,ps,rd),some o=>match Nat.ble 1 sz && Nat.beq o.sz sz && !o.var with
    | true=>some ((0 < n/\da off m+n<=o.len) :: (∀ i,i < o.len->qF (o.get i)=true) :: ps,.os k off (m+n),k :: rd,
      [(k,some ⟨false,sz,o.len,o.pr && pr,fun j=>if j < da off m then o.get j else if j < da off m+n then gt (j - da off m) else o.get j⟩)])
    | false=>none
   | _,_=>none
  | _,_,_,_=>none
 | none=>none
theorem akL (g:Good E σ S μ w) {t ty:TypeId} {s x:AV} {vs vx:Value} (D:av w S μ vs s) (F:av w S μ vx x) {ps:List Prop} {val:AV} {rd:List Nat} {pD:x8}
  (h:LO P σ t s x=some (ps,val,rd,pD)) (G:bg ps):Step P E nk σ S μ w (Builtin.append_ #[t,t] ty #[vs,vx]) val pD:=by
 unfold LO at h;split at h
 case h_2=>cases h
 rename_i e he;have he:=oG he;split at h
 case h_2=>cases h
 rename_i sz b z k off m H I J;obtain ⟨r,K,rfl,rfl,L⟩:=DU H I J;split at h
 case h_2=>cases h
 rename_i n gt pr M N o O u;split at h
 case h_2=>cases h
 rename_i v;simp only [bd,Nat.ble_eq,Bool.not_eq_true'] at v;obtain ⟨⟨Q,f⟩,X⟩:=v;have f:=bZ f;simp only [aX,aQ] at h;obtain ⟨rfl,rfl,rfl,rfl⟩:=h;obtain ⟨⟨Y,R⟩,T,U⟩:=G;obtain ⟨news,i⟩:=F4 (P:=P) g F O U;obtain ⟨pl,c,Z,l,j⟩:=g.rep.ob k o u;cases D with
 | os lL y h1 h2 h3 =>
  rename_i cap a;rw [l] at y;cases y;have V:=j.len;have A:da off m=off+m:=fk _ _;have d:pl.sz=r.size:=j.sz.trans f;have B:=h1 ad;rw [d] at B;subst B;obtain ⟨W,p,q⟩:=g.afZ u l j ad i f Q R T rfl;have C:=ZF (P:=P) (w:=w) (ty:=ty) he K ((j.df ad).trans (by rw [jf ad])) i.len i.cells i.one (b:=off * r.size) (sLen:=m) (sCap:=cap) ad (by rw [<- dq,<- A];exact W);rw [<- dq,<- A] at C;exact ⟨_,_,S,μ,C,p,q,fun _ _ h=>h,av.os pl l (fun _=>by rw [d]) ad h3⟩
def LP (P:Program) (nk:Nat) (σ:fe) (t:TypeId) (s x:AV):Option (List Prop×AV×List Nat×x8) :=
 match qS P t with
 | some e=>match AM P e,DT P e,yL P e,s with
  | some sz,some b,some z,.Ll k off m=>match CA σ sz x,ay σ k with
   | some (n,gt,pr,ps,rd),some o=>match Nat.ble 1 sz && Nat.ble 1 b && Nat.beq z.cells.size sz && Nat.beq o.sz sz && !o.var with
    | true=>some ((0 < n/\da off m=o.len) :: ((m+n) * b<=140737488355328) :: (∀ i,i < o.len->AV.vH (o.get i)=true) :: ps,.os nk 0 (m+n),k :: rd,
      [(nk,some ⟨false,sz,m+n,o.pr && pr,fun j=>if j < m then o.get (da off j) else gt (j - m)⟩)])
    | false=>none
   | _,_=>none
  | _,_,_,_=>none
 | none=>none
theorem akM (g:Good E σ S μ w) (F:μ nk=none) (hm:E.m0<=nk) {t ty:TypeId} {s x:AV} {vs vx:Value} (O:av w S μ vs s) (f:av w S μ vx x) {ps:List Prop} {val:AV} {rd:List Nat} {pD:x8}
  (h:LP P nk σ t s x=some (ps,val,rd,pD)) (A:bg ps):Step P E nk σ S μ w (Builtin.append_ #[t,t] ty #[vs,vx]) val pD:=by
 unfold LP at h;split at h
 case h_2=>cases h
 rename_i e he;have he:=oG he;split at h
 case h_2=>cases h
 rename_i sz b z k off m Q R T;obtain ⟨d,U,rfl,rfl,B⟩:=DU Q R T;split at h
 case h_2=>cases h
 rename_i n gt pr V W o X Y;split at h
 case h_2=>cases h
 rename_i G;simp only [bd,Nat.ble_eq,Bool.not_eq_true'] at G;obtain ⟨⟨⟨⟨b1,Z⟩,C⟩,D⟩,Ik⟩:=G;have D:=bZ D;have C:=bZ C;simp only [aX,aQ] at h;obtain ⟨rfl,rfl,rfl,rfl⟩:=h;obtain ⟨⟨p0,HD⟩,p1,H,p3⟩:=A;rw [fk] at HD;obtain ⟨news,l⟩:=F4 (P:=P) g f X p3;obtain ⟨pl,c,T',I,dr⟩:=g.rep.ob k o Y;cases O with
 | Ll lL J h1 h2 =>
  rename_i a;rw [I] at J;cases J;obtain ⟨olds,p⟩:=F4 (P:=P) (sz:=d.size) (x:=.os k off m) (v:=.slice a m m) (n:=m) (gt:=fun i=>o.get (da off i)) (pr:=o.pr) (ps:=[off+m<=o.len,∀ i,i < m->AV.vH (o.get (da off i))=true]) (rd:=[k]) g
   (.os pl I h1 (aV _) h2) (by grind [CA,uQ]) ⟨ad,fun i hi=>H _ (by rw [fk];omega),trivial⟩
  have me:=DY (P:=P) (w:=w) (ty:=ty) he U B p.cells l.len l.cells ad Z p1;have K:=PE w (m+n) m e;have L:∀ i,i < m+n->((fun q=>if q < m then o.get (da off q) else gt (q - m)) i).length=d.size:=by
   intro i hi;show (if i < m then o.get (da off i) else gt (i - m)).length=_;split
   ·rw [dr.zF (da off i) (by rw [fk];omega),D]
   ·exact l.zF _ ad
  have M:=g.grow (e:=e) F hm (sz:=d.size) (n:=n) (len:=m) (cap:=grownCap w (m+n) m e) (olds:=olds) (news:=news)
   (rest:=Builtin.zeroCells z.cells (grownCap w (m+n) m e - (m+n))) (pr:=o.pr && pr) (get:=fun q=>if q < m then o.get (da off q) else gt (q - m))
   p.size l.size (by rw [size_zeroCells,C]) K L (by
    intro i j x u hi f r;have f:(if i < m then o.get (da off i) else gt (i - m))[j]?=some x:=f;have hj:j < d.size:=by
     have e1:=(eK.1 f).1;have e2:(if i < m then o.get (da off i) else gt (i - m)).length=d.size:=L i hi;omega
    by_cases y:i < m
    ·have N:(i+1) * d.size<=m * d.size:=fy _ y;rw [dq] at N;rw [if_pos y] at f;rw [lx (by rw [p.size];omega)] at r;have:=p.rep i j x u y f r;cases A:pr
     ·rw [Bool.and_false];exact ln this
     ·rw [Bool.and_true];exact this
    ·have N:m * d.size<=i * d.size:=fy _ ad;rw [if_neg y] at f;rw [og (by rw [p.size];omega),p.size] at r;have:=l.rep (i - m) j x u ad f (by rw [<- r,Nat.sub_mul];congr 1;omega);cases A:o.pr
     ·rw [Bool.false_and];exact ln this
     ·rw [Bool.true_and];exact this) ad
   (g.Xm F _ _ (fun _=>aV _) (vI fun i hi=>by
    have hi:i < m+n:=hi;show AV.vH (if i < m then o.get (da off i) else gt (i - m))=true;split
    ·exact H _ (by rw [fk];omega)
    ·exact l.akq _ ad) (fun b h=>gI (w:=w.drew) h) (fun _ h=>h) (fun _ h=>.inl h))
  refine ⟨_,_,S,_,me,M.1,M.2,fun k kn hn=>by rw [rM _ kn];exact hn,?_⟩;exact av.os ⟨w.heap.size,grownCap w (m+n) m e,d.size⟩ (by simp [di]) ao K ao
def HR (P:Program) (σ:fe) (t:TypeId) (x:AV):Option (List Prop×AV×List Nat×x8) :=
 match qS P t with
 | some e=>match AM P e,DT P e,yL P e,x with
  | some sz,some _,some z,.os k off n=>match ay σ k with
   | some o=>match Nat.ble 1 sz && Nat.beq o.sz sz && !o.var && Nat.beq z.cells.size sz && z.cells.toList.all (·.oneCell') with
    | true=>some ([0 < n/\off+n<=o.len],.il,[k],[(k,some ⟨false,sz,off,o.pr,o.get⟩)])
    | false=>none
   | none=>none
  | _,_,_,_=>none
 | none=>none
theorem af0 (g:Good E σ S μ w) {t ty:TypeId} {x:AV} {vx:Value} (f:av w S μ vx x) {ps:List Prop} {val:AV} {rd:List Nat} {pD:x8}
  (h:HR P σ t x=some (ps,val,rd,pD)) (W:bg ps):Step P E nk σ S μ w (Builtin.clear_ #[t] ty #[vx]) val pD:=by
 unfold HR at h;split at h
 case h_2=>cases h
 rename_i e he;have he:=oG he;split at h
 case h_2=>cases h
 rename_i sz b z k off n X Y Z;obtain ⟨d,Lz,rfl,rfl,y⟩:=DU X Y Z;split at h
 case h_2=>cases h
 rename_i o G;split at h
 case h_2=>cases h
 rename_i H;simp only [bd,Nat.ble_eq,Bool.not_eq_true'] at H;obtain ⟨⟨⟨⟨b1,l⟩,Ik⟩,A⟩,I⟩:=H;have l:=bZ l;have A:=bZ A;simp only [aX,aQ] at h;obtain ⟨rfl,rfl,rfl,rfl⟩:=h;obtain ⟨⟨p0,p1⟩,_⟩:=W;obtain ⟨pl,c,T',J,p⟩:=g.rep.ob k o G;cases f with
 | os lL K h1 h2 h3 =>
  rename_i cap a;rw [J] at K;cases K;have hol:=p.len;have ha:=h1 ad;subst ha;have L:0 < pl.cap:=ad;have B:(Builtin.zeroCells z.cells n).toList.length=n * d.size:=by simp [Builtin.zeroCells,A]
  have S9:∀ u∈(Builtin.zeroCells z.cells n).toList,u.oneCell'=true:=by
   intro u M;simp only [Builtin.zeroCells,Array.toList_map,List.mem_map] at M;obtain ⟨i,hi,rfl⟩:=M;have N:i % z.cells.size < z.cells.size:=Nat.mod_lt _ ad;rw [getElem!_pos z.cells (i % z.cells.size) N];rw [List.all_eq_true] at I;exact I _ (Array.mem_toList_iff.2 (Array.getElem_mem N))
  have O:off * d.size+(Builtin.zeroCells z.cells n).toList.length<=c.size:=by
   have C:(off+n) * d.size<=pl.cap * d.size:=fy _ ad;have e2:=p.cap;rw [l] at e2;rw [B,<- dq];omega
  have D:=run_storeCells_at P pl.df (off * d.size) T' (Builtin.zeroCells z.cells n).toList 0 c w ((p.df L).trans (by rw [jf ad])) (by simpa using O) S9;simp only [Nat.add_zero] at D;generalize Q:(c.toList.take (off * d.size) ++ (Builtin.zeroCells z.cells n).toList ++ c.toList.drop (off * d.size+(Builtin.zeroCells z.cells n).toList.length)).toArray=q at D;have me:(Builtin.clear_ #[t] ty #[.slice (some ⟨pl.df,off * pl.sz,none⟩) n cap]).run P w=.ok (.tuple #[]) (w.setRow pl.df q):=by
   rw [p.sz,l];obtain ⟨m,rfl⟩:∃ m,n=m+1:=⟨n - 1,ad⟩;simp [Builtin.clear_,run_underlying he,zeroValue,typeInfo,Lz,y,D]
  have F1:(c.toList.take (off * d.size)).length=off * d.size:=by simp;omega
  have UK:q.size=c.size:=by
   rw [<- Q];simp only [List.size_toArray,oi,F1,Bf,Array.length_toList];rw [Array.length_toList] at O;omega
  have R:∀ m,m < off * d.size->q[m]?=c[m]?:=by
   intro m h1;rw [<- Q];simp only [List.getElem?_toArray];rw [lx (by simp;omega),lx ad,vE,if_pos h1];simp
  have T:∀ i x,rowOf ⟨false,d.size,off,o.pr,o.get⟩ i=some x->rowOf o i=some x/\i < off:=fun i x f=>by
   obtain ⟨_,F,q3⟩:=dS f;have F:i < off:=F;exact ⟨nL Ik ad q3,F⟩
  have r:∀ i,i < off->∀ j,j < d.size->i * d.size+j < off * d.size:=fun i hi j U=>by
   have pY:(i+1) * d.size<=off * d.size:=fy _ hi;rw [dq] at pY;omega
  have V:=g.write G J L p ad ⟨false,d.size,off,o.pr,o.get⟩ q l.symm UK (show off<=pl.cap by omega) (fun i hi=>by
   have hi:i < off:=hi;show (o.get i).length=d.size;rw [p.zF i ad,l]) (by
   intro i j x v hi f s;have hi:i < off:=hi;have f:(o.get i)[j]?=some x:=f;have U:j < d.size:=by
    have C:=(eK.1 f).1;rw [p.zF i ad,l] at C;exact C
   have s:q[i * d.size+j]?=some v:=s;rw [R _ (r i hi j U)] at s;exact p.rep i j x v ad f (by rw [l];exact s)) (fun i x f=>⟨(T i x f).1,by
    rw [l];exact R _ (by have:=r i (T i x f).2 0 ad;omega)⟩)
  exact ⟨_,_,S,μ,me,V.1,V.2,fun _ _ h=>h,.il⟩
def Gb (P:Program) (nk:Nat) (σ:fe) (op:Op) (e:Operand->AV) (d:Option qE):Option R :=
 match asm d with
 | none=>gq P nk σ op e d
 | some q=>match op with
  | .load T a=>(HQ P σ T ((e a).strip.1) q.res).map fun (ps,v,rd)=>⟨conds e [a] ++ ps,v,rd,[]⟩
  | .call ⟨.builtin .append,b,c⟩=>match b.toList,c.toList with
   | [x,y],[t,t']=>match Nat.beq t t' with
    | true=>(match q.ks,q.res with
     | [],.il=>LK P σ t ((e x).strip.1) ((e y).strip.1)
     | [],.nil=>LO P σ t ((e x).strip.1) ((e y).strip.1)
     | [],_=>LP P nk σ t ((e x).strip.1) ((e y).strip.1)
     | _,_=>zK P nk σ t ((e x).strip.1) ((e y).strip.1) q).map fun (ps,v,rd,u)=>⟨conds e [x,y] ++ ps,v,rd,u⟩
    | false=>none
   | _,_=>none
  | .call ⟨.builtin .copy,b,c⟩=>match b.toList,c.toList with
   | [x,y],[t,_]=>(LL P σ t ((e x).strip.1) ((e y).strip.1)).map fun (ps,v,rd,u)=>⟨conds e [x,y] ++ ps,v,rd,u⟩
   | _,_=>none
  | .call ⟨.builtin .clear,b,c⟩=>match b.toList,c.toList with
   | [x],[t]=>(HR P σ t ((e x).strip.1)).map fun (ps,v,rd,u)=>⟨conds e [x] ++ ps,v,rd,u⟩
   | _,_=>none
  | .slice t x lo hi mx=>match mx with
   | none=>(CH P σ t ((e x).strip.1) (lo.map fun y=>(e y).strip.1) (hi.map fun y=>(e y).strip.1)).map fun (ps,v,rd)=>⟨conds e (x :: (lo.toList ++ hi.toList)) ++ ps,v,rd,[]⟩
   | some m=>match lo,hi with
    | some l,some h=>(PT P t ((e x).strip.1) ((e l).strip.1) ((e h).strip.1) ((e m).strip.1)).map fun (ps,v,rd)=>⟨conds e [x,l,h,m] ++ ps,v,rd,[]⟩
    | _,_=>none
  | op=>gq P nk σ op e d
theorem TX {o:Oper} {a:Act} {e:Operand->AV} {V:Option qE} {r:R} {next:Act->World->Prop} {Q:Exit->Act->World->Prop}
  (he:∀ x∈o.op.operands.toList,av w S μ (a.eval x) (e x)) (g:Good E σ S μ w) (O:∀ j,j < 16->μ (nk+j)=none) (hm:E.m0<=nk)
  (D:∀ x,V=some x->x.E8=true->∀ b,¬ E.fp b) (h:Gb P nk σ o.op e V=some r) (F:bg r.SY) (C:afW E nk σ S μ w r fun v w'=>next (a.put o.dst v) w'):o.wp P a w next Q:=by
 unfold Gb at h;split at h
 ·exact XH he g O hm D h F C
 ·have W:μ nk=none:=O 0 ad;have st:∀ (xs:List Operand),bg (conds e xs)->(∀ x∈xs,x∈o.op.operands.toList)->∀ x∈xs,av w S μ (a.eval x) ((e x).strip.1) :=
   fun xs h1 h2 x X=>(he x (h2 x X)).strip (HP h1 x X)
  obtain ⟨dst,op,ty,pos,c,guard⟩:=o;simp only at he h C st ⊢;split at h
  ·rename_i T x;simp only [a4] at h;obtain ⟨⟨ps,v,rd⟩,h1,rfl⟩:=h;obtain ⟨n,f⟩:=bg.app F;obtain ⟨u,A,B⟩:=afX g (st [x] n (by simp [Op.operands]) x ao) h1 f;unfold Oper.wp;have ex:execOp a.eval ⟨dst,.load T x,ty,pos,c,guard⟩=(do pure (.value (<- Instr.loadAt T (a.eval x))):Sem Next):=rfl;rw [ex];simp only [cb,A,eM,Sem.run_pure];exact C u w S μ (Ext.refl _ _ _) g (fun _ _ h=>h) B
  ·rename_i d G;split at h
   case h_2=>cases h
   rename_i x y t t' H I;split at h
   case h_2=>cases h
   rename_i U;have U:=bZ U;subst U;obtain ⟨rfl⟩:d=#[x,y]:=Array.toList_inj.1 (by rw [H]);obtain ⟨rfl⟩:G=#[t,t]:=Array.toList_inj.1 (by rw [I]);simp only [a4] at h;obtain ⟨⟨ps,v,rd,u⟩,h1,rfl⟩:=h;obtain ⟨n,f⟩:=bg.app F;have s:=st [x,y] n (by simp [Op.operands,Call.operands]);have Ln:Step P E nk σ S μ w (Builtin.append_ #[t,t] ty #[a.eval x,a.eval y]) v u:=by
    split at h1
    ·exact akJ (ty:=ty) g (s x ao) (s y ao) h1 f
    ·exact akL (ty:=ty) g (s x ao) (s y ao) h1 f
    ·exact akM (ty:=ty) g W hm (s x ao) (s y ao) h1 f
    ·exact ZR (ty:=ty) g W hm (s x ao) (s y ao) h1 f
   obtain ⟨v',w',S',ey,A,B,J,K,L⟩:=Ln;unfold Oper.wp;have ex:execOp a.eval ⟨dst,.call ⟨.builtin .append,#[x,y],#[t,t]⟩,ty,pos,c,guard⟩=(do pure (.value (<- Builtin.append_ #[t,t] ty #[a.eval x,a.eval y])):Sem Next):=by simp [execOp,resolve,invoke,builtin]
   rw [ex];simp only [cb,A,eM,Sem.run_pure];exact C v' w' S' ey B J (fun k Y=>K k ad) L
  ·rename_i d G;split at h
   case h_2=>cases h
   rename_i x y t t' H I;obtain ⟨rfl⟩:d=#[x,y]:=Array.toList_inj.1 (by rw [H]);obtain ⟨rfl⟩:G=#[t,t']:=Array.toList_inj.1 (by rw [I]);simp only [a4] at h;obtain ⟨⟨ps,v,rd,u⟩,h1,rfl⟩:=h;obtain ⟨n,f⟩:=bg.app F;have s:=st [x,y] n (by simp [Op.operands,Call.operands]);obtain ⟨v',w',S',ey,A,B,J,K,L⟩:=akK (nk:=nk) (t':=t') (ty:=ty) g (s x ao) (s y ao) h1 f;unfold Oper.wp;have ex:execOp a.eval ⟨dst,.call ⟨.builtin .copy,#[x,y],#[t,t']⟩,ty,pos,c,guard⟩=(do pure (.value (<- Builtin.copy_ #[t,t'] ty #[a.eval x,a.eval y])):Sem Next):=by simp [execOp,resolve,invoke,builtin]
   rw [ex];simp only [cb,A,eM,Sem.run_pure];exact C v' w' S' ey B J (fun k Y=>K k ad) L
  ·rename_i d G;split at h
   case h_2=>cases h
   rename_i x t H I;obtain ⟨rfl⟩:d=#[x]:=Array.toList_inj.1 (by rw [H]);obtain ⟨rfl⟩:G=#[t]:=Array.toList_inj.1 (by rw [I]);simp only [a4] at h;obtain ⟨⟨ps,v,rd,u⟩,h1,rfl⟩:=h;obtain ⟨n,f⟩:=bg.app F;have s:=st [x] n (by simp [Op.operands,Call.operands]);obtain ⟨v',w',S',ey,A,B,J,K,L⟩:=af0 (nk:=nk) (ty:=ty) g (s x ao) h1 f;unfold Oper.wp;have ex:execOp a.eval ⟨dst,.call ⟨.builtin .clear,#[x],#[t]⟩,ty,pos,c,guard⟩=(do pure (.value (<- Builtin.clear_ #[t] ty #[a.eval x])):Sem Next):=by simp [execOp,resolve,invoke,builtin]
   rw [ex];simp only [cb,A,eM,Sem.run_pure];exact C v' w' S' ey B J (fun k Y=>K k ad) L
  ·rename_i t x lo hi mx;have ex:∀ y,execOp a.eval ⟨dst,.slice t x lo hi y,ty,pos,c,guard⟩=(do pure (.value (<- Instr.sliceAt t (a.eval x) (lo.map a.eval) (hi.map a.eval) (y.map a.eval))):Sem Next):=fun y=>rfl;cases mx with
   | none =>
    simp only [a4] at h;obtain ⟨⟨ps,v,rd⟩,h1,rfl⟩:=h;obtain ⟨n,f⟩:=bg.app F;have s:=st (x :: (lo.toList ++ hi.toList)) n (by
     intro y i;simp only [kY,List.mem_append,Option.mem_toList] at i;simp only [Op.operands];rcases i with rfl | i | i
     ·simp
     ·simp [i]
     ·simp [i])
    obtain ⟨u,A,B⟩:=ad0 (P:=P) (vlo:=lo.map a.eval) (vhi:=hi.map a.eval) g (s x ao) (by
     refine ⟨ao,?_⟩;intro p q M N;simp only [a4] at M N;obtain ⟨y,i,rfl⟩:=M;obtain ⟨z,D,rfl⟩:=N;rw [i] at D;cases D;exact s y (by simp [i])) (by
     refine ⟨ao,?_⟩;intro p q M N;simp only [a4] at M N;obtain ⟨y,i,rfl⟩:=M;obtain ⟨z,D,rfl⟩:=N;rw [i] at D;cases D;exact s y (by simp [i])) h1 f
    unfold Oper.wp;rw [ex none];simp only [Option.map_none,cb,A,eM,Sem.run_pure];exact C u w S μ (Ext.refl _ _ _) g (fun _ _ h=>h) B
   | some m =>
    simp only at h;split at h
    case h_2=>cases h
    rename_i l Z;simp only [a4] at h;obtain ⟨⟨ps,v,rd⟩,h1,rfl⟩:=h;obtain ⟨n,f⟩:=bg.app F;have s:=st [x,l,Z,m] n (by simp [Op.operands]);obtain ⟨u,A,B⟩:=adZ (P:=P) (s x ao) (s l ao) (s Z ao) (s m ao) h1 f;unfold Oper.wp;rw [ex (some m)];simp only [Option.map_some,cb,A,eM,Sem.run_pure];exact C u w S μ (Ext.refl _ _ _) g (fun _ _ h=>h) B
  ·exact XH (o:=⟨dst,op,ty,pos,c,guard⟩) he g O hm D h F C
def SF (μ:Mu) (F:List Nat) (σ:fe) (S:Nat->Prop) (b:Nat):Prop:=S b\/∃ k o pl,k∈F/\ay σ k=some o/\μ k=some pl/\0 < pl.cap/\pl.df=b
theorem Good.freeze (g:Good E σ S μ w) (F:List Nat) (C:∀ b,¬ E.fp b):Good E (iC σ (CC true F)) (SF μ F σ S) μ w:=by
 have sg:∀ n o,ay (iC σ (CC true F)) n=some o->ay σ n=some o/\n ∉ F:=fun n o h=>by
  rw [qH] at h;simp_all
 have e:Ext w S μ w (SF μ F σ S) μ:=⟨aV _,fun _ h=>.inl h,fun _ _=>rfl,fun _ _ h=>h⟩;refine ⟨g.fr,fun b h=>.inl (g.S0 b h),?_,?_,⟨?_,?_⟩,?_,g.Lm,?_⟩
 ·rintro b (h1 | ⟨a,o1,m,d,f,j,l,rfl⟩)
  ·exact g.S1 b h1
  ·obtain ⟨lL,c,T,u,q⟩:=g.rep.ob a o1 f;rw [j] at u;cases u;exact ft (q.df l)
 ·rintro b (h1 | ⟨a,o1,m,d,f,j,l,rfl⟩)
  ·exact g.S2 b h1
  ·rcases g.own a o1 m f j l with h2 | h2
   ·exact (C _ h2).elim
   ·exact .inr h2
 ·intro k o r;obtain ⟨y,s⟩:=sg k o r;obtain ⟨pl,c,T,z,A⟩:=g.rep.ob k o y;refine ⟨pl,c,T,z,A.ext e (fun _=>rfl) ?_⟩;rintro B (h1 | ⟨a,o1,m,d,f,j,l,p⟩)
  ·exact A.out B h1
  ·exact g.rep.ne a k o1 o m pl (fun h=>s (h ▸ d)) f y j z l B p
 ·intro k k' o o' pl lL D h1 h2 h3 h4 G H;exact g.rep.ne k k' o o' pl lL D (sg _ _ h1).1 (sg _ _ h2).1 h3 h4 G H
 ·exact fun k o pl h1 h2 h3=>g.own k o pl (sg _ _ h1).1 h2 h3
 ·have t:∀ k i x v,kj w μ (iC σ (CC true F)) k i x v->kj w μ σ k i x v:=fun k i x v ⟨o,pl,h1,h2,h3,h4⟩=>⟨o,pl,(sg _ _ h1).1,h2,h3,h4⟩;refine g.mx.tr (fun k=>k) t (fun _ _ _ _ _ _ _ _ _ _ h=>h) (fun _ h=>.inl h) (fun _ _=>rfl) (fun k i x v b _ h p=>⟨rfl,?_,fun h=>h⟩) (fun k o pl h1 h2 h3=>.inl ⟨k,o,pl,(sg _ _ h1).1,h2,h3,rfl⟩);rintro (h1 | ⟨a,o1,m,_,f,j,l,h1⟩)
  ·exact (g.mx.df h p).2.1 h1
  ·exact g.mx.obj _ _ _ _ _ h p a o1 m f j l h1
def fzS (σ:fe):fe->Option (List Prop)
 | []=>some []
 | (k,o') :: r=>match ay σ k,fzS σ r with
  | some o,some ps=>match o.pr with
   | true=>some ((o'.len<=o.len) :: (∀ i,i < o'.len->o'.get i=o.get i) :: ps)
   | false=>none
  | _,_=>none
mutual
def fzA (a:fe):AV->AV
 | .os k off len=>match off,ay a k with
  | 0,some o=>.sl o.len o.get
  | _,_=>.os k off len
 | .agg cs=>.agg (fzL a cs)
 | x=>x
def fzL (a:fe):List AV->List AV
 | []=>[]
 | c :: cs=>fzA a c :: fzL a cs
end
mutual
def fzP (a:fe):AV->List Prop
 | .os k off len=>match off,ay a k with
  | 0,some o=>[len=o.len]
  | _,_=>[]
 | .agg cs=>akP a cs
 | _=>[]
def akP (a:fe):List AV->List Prop
 | []=>[]
 | c :: cs=>fzP a c ++ akP a cs
end
def fzC (a:fe) (e:Operand->AV):List Operand->List Prop
 | []=>[]
 | x :: r=>fzP a (e x) ++ fzC a e r
theorem acf:∀ {a:fe} {ps:List Prop},fzS σ a=some ps->bg ps->∀ {k:Nat} {o':Ob},ay a k=some o'->k∈a.map (·.1)/\∃ o,ay σ k=some o/\o.pr=true/\o'.len<=o.len/\∀ i,i < o'.len->o'.get i=o.get i
 | [],ps,_,_,k,o',h=>by simp [ay] at h
 | (f,g) :: r,ps,h,c,k,o',b=>by
  simp only [fzS] at h;split at h
  ·rename_i o j l d;split at h
   ·rename_i m;cases h;obtain ⟨n,p,e⟩:=c;simp only [ay] at b;split at b
    ·simp_all
    ·obtain ⟨q,s⟩:=acf d e b;simp_all
   ·cases h
  ·cases h
theorem oj {ey:Mu} {v:Value} {x:AV} {F:List Nat} (h:av w S ey v x):av w (SF μ F σ S) ey v x:=h.mono (fun _ h=>.inl h) (fun _ _=>rfl) (fun _ _ h=>h)
theorem apO (g:Good E σ S μ w) {d:fe} {l:List Prop} (r:fzS σ d=some l) (s:bg l) {k off len:Nat} {v:Value} (h:av w S μ v (.os k off len)) (e:bg (fzP d (.os k off len))):av w (SF μ (d.map (·.1)) σ S) μ v (fzA d (.os k off len)):=by
 simp only [fzA,fzP] at e ⊢;split at e
 ·rename_i o' t;obtain ⟨rfl,_⟩:=e;obtain ⟨u,o,m,A,B,n⟩:=acf r s t;obtain ⟨pl,c,T,hm,b⟩:=g.rep.ob k o m;cases h with
  | os lL p h1 h2 h3 =>
   rename_i cap a;rw [hm] at p;cases p;refine .sl pl.df (0 * pl.sz) o.sz (fun i j=>(c[(0+i) * o.sz+j]?).getD undef) ?_ (fun i hi=>by rw [n i hi];exact b.zF _ ad) ?_ ?_ h2
   ·intro C;exact ⟨h1 ad,.inr ⟨k,o,pl,u,m,hm,ad,rfl⟩⟩
   ·intro i j hi x;obtain ⟨v,f,y⟩:=dg b (i:=0+i) ad x;simp_all
   ·intro i j z hi q;rw [n i hi] at q;obtain ⟨v,f,y⟩:=dg b (i:=0+i) ad (by have:=(eK.1 q).1;rw [b.zF _ ad] at this;exact this);rw [f];have:=b.rep _ j z v ad (by simp_all) f;grind [oj]
 ·exact oj h
mutual
theorem af3 (g:Good E σ S μ w) {a:fe} {d:List Prop} (e:fzS σ a=some d) (f:bg d):∀ (x:AV) (v:Value),av w S μ v x->bg (fzP a x)->av w (SF μ (a.map (·.1)) σ S) μ v (fzA a x)
 | .os _ _ _,_,h,b=>apO g e f h b
 | .agg cs,v,h,b=>by
  simp only [fzA,fzP] at b ⊢;obtain ⟨vs,rfl,h1,h2⟩:=sN h;obtain ⟨i,k⟩:=acg g e f cs b;refine .agg (h1.trans i.symm) fun j c v l m=>?_;grind
 | .nil,_,h,_=>oj h
 | .atom _,_,h,_=>oj h
 | .tup _,_,h,_=>oj h
 | .sl _ _,_,h,_=>oj h
 | .rp _ _,_,h,_=>oj h
 | .op _ _ _,_,h,_=>oj h
 | .fn _ _ _,_,h,_=>oj h
 | .when _ _,_,h,_=>oj h
 | .mp _,_,h,_=>oj h
 | .bn _,_,h,_=>oj h
 | .pt _ _,_,h,_=>oj h
 | .ov _ _ _ _ _,_,h,_=>oj h
 | .Ll _ _ _,_,h,_=>oj h
 | .nq _ _,_,h,_=>oj h
 | .il,_,h,_=>oj h
 | .mr _ _ _,_,h,_=>oj h
theorem acg (g:Good E σ S μ w) {b:fe} {e:List Prop} (f:fzS σ b=some e) (i:bg e):∀ (cs:List AV),bg (akP b cs)->(fzL b cs).length=cs.length /\
  ∀ (j:Nat) c y v,cs[j]?=some c->(fzL b cs)[j]?=some y->av w S μ v c->av w (SF μ (b.map (·.1)) σ S) μ v y
 | [],_=>⟨rfl,fun j c y v a=>by simp at a⟩
 | c :: cs,k=>by
  simp only [akP] at k;obtain ⟨l,m⟩:=bg.app k;obtain ⟨n,o⟩:=acg g f i cs m;refine ⟨by simp [fzL,n],fun j p y v a d h=>?_⟩;cases j with
  | zero =>
   simp only [fzL,List.getElem?_cons_zero,aX] at a d;subst a d;exact af3 g f i c v h l
  | succ j =>
   simp only [fzL,J9] at a d;exact o j p y v a d h
end
def af4 (op:Op):Option qE->Option fe
 | none=>none
 | some q=>match q.E8,op with
  | true,.buildSlice _ _ _=>some q.mg
  | true,.build _ _=>some q.mg
  | true,.box _ _=>some q.mg
  | true,.store _ _ _=>some q.mg
  | _,_=>none
theorem ZS {c:Call} (a:Option qE):af4 (.defer c) a=none:=by
 cases a with
 | none=>rfl
 | some q=>grind [af4]
theorem af5 {op:Op} {a:Option qE} {b:fe} (h:af4 op a=some b):∃ x,a=some x/\x.E8=true:=by
 unfold af4 at h;grind
def Iz (P:Program) (nk:Nat) (σ:fe) (op:Op) (e:Operand->AV) (b:Option qE):Option R :=
 match af4 op b with
 | none=>Gb P nk σ op e b
 | some a=>match fzS σ a,Gb P nk (iC σ (CC true (a.map (·.1)))) op (fun x=>fzA a (e x)) b with
  | some ps,some r=>some ⟨ps ++ (fzC a e op.operands.toList ++ r.SY),r.val,a.map (·.1) ++ r.Xe,CC true (a.map (·.1)) ++ r.pD⟩
  | _,_=>none
theorem ach {b:fe} {e:Operand->AV}:∀ {xs:List Operand},bg (fzC b e xs)->∀ x∈xs,bg (fzP b (e x))
 | [],_,x,a=>by simp at a
 | y :: r,h,x,a=>by
  obtain ⟨h1,h2⟩:=bg.app h;rcases kY.1 a with rfl | a
  ·exact h1
  ·exact ach h2 x a
theorem ad1 {o:Oper} {a:Act} {e:Operand->AV} {i:Option qE} {r:R} {next:Act->World->Prop} {Q:Exit->Act->World->Prop}
  (he:∀ x∈o.op.operands.toList,av w S μ (a.eval x) (e x)) (g:Good E σ S μ w) (m:∀ j,j < 16->μ (nk+j)=none) (hm:E.m0<=nk)
  (k:∀ x,i=some x->x.E8=true->∀ b,¬ E.fp b) (h:Iz P nk σ o.op e i=some r) (n:bg r.SY) (p:afW E nk σ S μ w r fun v w'=>next (a.put o.dst v) w'):o.wp P a w next Q:=by
 unfold Iz at h;split at h
 ·grind [TX]
 ·rename_i c d;split at h
  ·rename_i ps H h1 h2;cases h;obtain ⟨s,f⟩:=bg.app n;obtain ⟨t,u⟩:=bg.app f;obtain ⟨q,y,z⟩:=af5 d;have A:=g.freeze (c.map (·.1)) (k q y z);have B:Ext w S μ w (SF μ (c.map (·.1)) σ S) μ:=⟨aV _,fun _ h=>.inl h,fun _ _=>rfl,fun _ _ h=>h⟩;refine TX (e:=fun x=>fzA c (e x)) (fun x l=>af3 g h1 s _ _ (he x l) (ach t x l)) A m hm k h2 u ?_;intro v w' S' ey C D F G;exact p v w' S' ey (B.trans C) (by rw [jV];exact D) F G
  ·cases h
end
end Go.Ab
namespace Go.Ab
structure St where
 tm:List (Nat×AV)
 mg:fe
 nk:Nat
def BN:AV->Bool->Option Bool
 | .atom (.bool b),a=>some (match a with
  | true=>b
  | false=>!b)
 | .when g x,a=>(BN x a).map fun b=>g && b
 | _,_=>none
structure Rec where
 SY:List Prop
 dst:Option Nat
 val:AV
 Xe:List Nat
 pD:x8
def Kj (σ:fe) (op:Op) (e:Operand->AV) (y:YC):Option R :=
 match op with
 | .call ⟨.value f,a,_⟩=>match (e f).strip.1,ay σ y.k with
  | .atom (.func (.yield l) vs ws),some o=>some ⟨(l=y.l/\vs=#[]/\ws=#[]/\a.toList.map (fun x=>(e x).strip.1)=y.as/\o=y.o) :: conds e (f :: a.toList),.atom (.bool true),[y.k],[(y.k,some y.o')]⟩
  | _,_=>none
 | _=>none
def Gc (P:Program) (nk:Nat) (σ:fe) (op:Op) (e:Operand->AV) (a:Option qE):Option R :=
 match ar9 a with
 | some y=>Kj σ op e y
 | none=>Iz P nk σ op e a
def under (g:Bool):List Prop->List Prop
 | []=>[]
 | p :: ps=>[g=true->bg (p :: ps)]
def af6 (ops:List Oper) (j:Nat):Option Nat:=(ops[j]?).bind (·.dst)
def amk (nt:Nat):Option Nat->Bool
 | none=>true
 | some d=>Nat.blt d nt
def Fe (P:Program) (nt:Nat) (ops:List Oper) (nk:Nat) (tm:List (Nat×AV)) (σ:fe) (o:Oper) (b:Option qE):Option Rec :=
 match amk nt o.dst with
 | false=>none
 | true=>match o.guard with
  | none=>(Gc P nk σ o.op (Bh tm) b).map fun r=>⟨r.SY,o.dst,r.val,r.Xe,r.pD⟩
  | some (j,a)=>match af6 ops j with
   | none=>none
   | some d=>match asa b with
    | 0=>match BN (dT tm d) a,Gc P nk σ o.op (Bh tm) b with
     | some g,some r=>match r.pD with
      | []=>some ⟨under g r.SY,o.dst,.when g r.val,r.Xe,[]⟩
      | _ :: _=>none
     | _,_=>none
    | 1=>match BN (dT tm d) a,Gc P nk σ o.op (Bh tm) b with
     | some g,some r=>some ⟨(g=true) :: r.SY,o.dst,r.val,r.Xe,r.pD⟩
     | _,_=>none
    | _=>match BN (dT tm d) a with
     | some g=>some ⟨[g=false],o.dst,.when g (asb b),[],[]⟩
     | none=>none
def Ff (tm:List (Nat×AV)) (d:Option Nat) (x:AV):List (Nat×AV) :=
 match d with
 | none=>tm
 | some d=>(d,x) :: tm
def qi:List (Nat×qE)->Nat->Option qE
 | [],_=>none
 | (k,o) :: r,n=>match Nat.beq k n with
  | true=>some o
  | false=>qi r n
def ug (P:Program) (nt:Nat) (ops:List Oper) (nk:Nat) (orcs:List (Nat×qE)):List Oper->Nat->List (Nat×AV)->fe->Option (List Rec)
 | [],_,_,_=>some []
 | o :: r,i,tm,σ=>match Fe P nt ops (nk+16 * i) tm σ o (qi orcs i) with
  | none=>none
  | some x=>(ug P nt ops nk orcs r (i+1) (Ff tm x.dst x.val) (iC σ x.pD)).map fun l=>x :: l
def CI:List Rec->List (Nat×AV)->List (Nat×AV)
 | [],tm=>tm
 | x :: r,tm=>CI r (Ff tm x.dst x.val)
def wT:List Rec->fe->fe
 | [],σ=>σ
 | x :: r,σ=>wT r (iC σ x.pD)
def D5:List Rec->List Prop
 | []=>[]
 | x :: r=>x.SY ++ D5 r
def SZ (E:Env) (st:St) (tm:Array Value) (w:World):Prop :=
 ∃ S μ,Good E st.mg S μ w/\(∀ k,st.nk<=k->μ k=none)/\E.m0<=st.nk/\∀ t,av w S μ (tm.getD t undef) (dT st.tm t)
theorem sP {tm:List (Nat×AV)} {d:Option Nat} {x:AV} (t:Nat):dT (Ff tm d x) t=if d=some t then x else dT tm t:=by
 cases d with
 | none=>simp [Ff]
 | some d =>
  simp only [Ff,dT,aX]
  by_cases h:d=t
  ·rw [uQ h,if_pos h]
  ·rw [rL h,if_neg h]
theorem Kk (a:Act) (d:Option Nat) (v:Value) (t:Nat) (h:∀ n,d=some n->n < a.tmps.size):(a.put d v).tmps.getD t undef=if d=some t then v else a.tmps.getD t undef:=by
 cases d with
 | none=>simp [Act.put]
 | some d =>
  simp only [Act.put,aX];have b:=h d rfl
  by_cases c:d=t
  ·simp_all
  simp_all
theorem Gd (a:Act) (d:Option Nat) (v:Value):(a.put d v).tmps.size=a.tmps.size:=by cases d<;>simp [Act.put]
theorem xD (a:Act) (d:Option Nat) (v:Value):(a.put d v).defers=a.defers:=by cases d<;>simp [Act.put]
theorem HS {w:World} {S:Nat->Prop} {μ:Mu} {a:Act} {tm:List (Nat×AV)} (h:∀ t,av w S μ (a.tmps.getD t undef) (dT tm t)) (x:Operand):av w S μ (a.eval x) (Bh tm x):=by
 cases x with
 | tmp t=>exact h t
 | const v=>exact Tz w S μ v
 | global g=>exact .atom _
 | func f=>exact .fn ao ao (fun j c v b=>by simp at b) (fun j c v b=>by simp at b)
def PW:Value->Option Bool
 | .bool b=>some b
 | _=>none
theorem XK {w:World} {S:Nat->Prop} {μ:Mu} {v:Value} {x:AV} (h:av w S μ v x):∀ {a g:Bool},BN x a=some g->(PW v == some a)=g:=by
 induction h with
 | atom v =>
  intro a g c;cases v with
  | bool b =>
   simp only [BN,aX] at c;subst c;cases b<;>cases a<;>rfl
  | _=>simp [BN] at c
 | @when μ b v x h1 e f =>
  intro a g c;simp only [BN,a4] at c;obtain ⟨i,d,rfl⟩:=c;cases b with
  | true=>simpa using f rfl d
  | false =>
   rw [e rfl];simp [undef,PW]
 | _=>grind [BN]
section
variable {P:Program} {E:Env} {σ:fe} {S:Nat->Prop} {μ:Mu} {w:World}
def FW (rd:Option Nat):Fence:={ Fence.wide with round:=rd }
theorem akQ {rd:Option Nat} {o:Oper} {a:Act} {next:Act->World->Prop} {Q:Exit->Act->World->Prop} {r:Result Next} (h:o.upon P a next Q r):o.uponIn (FW rd) 0 P a next Q r:=by
 cases r with
 | ok x w' =>
  cases x with
  | value v=>exact h
  | skip=>exact h
  | defer d=>exact h
  | enter f b=>exact ⟨fun e=>by simp [FW,Fence.wide] at e,(callsIn_wide (n:=0)).2 h⟩
  | row row b=>exact ⟨fun e=>by simp [FW,Fence.wide] at e,fun c cs _=>let ⟨v,w',g,i⟩:=h c cs;⟨v,w',g,stepsIn_wide.2 i⟩⟩
  | _=>exact h.elim
 | halt x w' =>
  cases x with
  | panic v=>exact h
  | _=>exact h.elim
def YOK (P:Program) (E:Env) (y:YC):Prop:=∀ (w:World) (S:Nat->Prop) (μ:Mu) (σ:fe) (vs:Array Value),Good E σ S μ w->RL w S μ vs y.as->ay σ y.k=some y.o ->
 YieldAt Fence.wide 0 P y.l vs w fun e w'=>e=.returned (.bool true)/\∃ S',Ext w S μ w' S' μ/\Good E (sset σ y.k y.o') S' μ w'
def PX (P:Program) (E:Env) (a:Option qE):Prop:=(∀ x,a=some x->x.E8=true->∀ b,¬ E.fp b)/\∀ x y,a=some x->x.y=some y->YOK P E y
theorem XL {rd:Option Nat} {o:Oper} {a:Act} {e:Operand->AV} {y:YC} {r:R} {next:Act->World->Prop} {Q:Exit->Act->World->Prop}
  (he:∀ x∈o.op.operands.toList,av w S μ (a.eval x) (e x)) (g:Good E σ S μ w) {nk:Nat} (C:YOK P E y) (h:Kj σ o.op e y=some r) (D:bg r.SY)
  (G:afW E nk σ S μ w r fun v w'=>next (a.put o.dst v) w'):o.wpIn (FW rd) 0 P a w next Q:=by
 obtain ⟨dst,op,ty,pos,i,guard⟩:=o;unfold Kj at h;simp only at h he;split at h
 case h_2=>cases h
 rename_i f b p;split at h
 case h_2=>cases h
 rename_i l vs ws o1 q H;simp only [aX] at h;subst h;obtain ⟨⟨rfl,rfl,rfl,has,rfl⟩,m⟩:=D;have s:=HP m;have mem:∀ x,x∈f :: b.toList->x∈(Op.call ⟨.value f,b,p⟩).operands.toList:=by
  intro x k;simp only [Op.operands,Call.operands] at *
  simpa using k
 have z:∀ x,x∈f :: b.toList->av w S μ (a.eval x) ((e x).strip.1):=fun x k=>(he x (mem x k)).strip (s x k);have n:=z f ao;rw [q] at n;have n:=eH n;have t:RL w S μ (b.map a.eval) y.as:=by
  rw [<- has];refine ⟨ao,fun j c v m A=>?_⟩;simp only [List.getElem?_map,a4,Array.getElem?_map] at m A;obtain ⟨x,k,rfl⟩:=m;obtain ⟨x',B,rfl⟩:=A;rw [<- Array.getElem?_toList,k] at B;cases B;exact z x (List.mem_cons_of_mem _ (List.mem_of_getElem? k))
 obtain ⟨fn,tmps,assign,body,I,u⟩:=C w S μ σ _ g t H;refine ⟨fun _ _=>trivial,?_⟩;have ex:(Oper.semAt (FW rd).round a.eval ⟨dst,.call ⟨.value f,b,p⟩,ty,pos,i,guard⟩).run P w=.ok (.round y.l fn tmps assign body) w:=by
  rw [Oper.semAt_eq _ _ _ (fun c=>ao)];have:execOp a.eval ⟨dst,.call ⟨.value f,b,p⟩,ty,pos,i,guard⟩=(do let d <- Deferred.ofValue (a.eval f) (b.map a.eval);invoke d.target d.args:Sem Next):=rfl;rw [this,n];simpa [Deferred.ofValue,invoke] using I
 rw [ex];refine ⟨fun J=>by simp [FW,Fence.wide] at J,RoundIn.mono (F:=Fence.wide) u ?_⟩;rintro L w' ⟨rfl,S',k,K⟩;exact G _ w' S' μ k (by simpa [iC] using K) (fun _ _ h=>h) (.atom _)
theorem LR {rd:Option Nat} {o:Oper} {a:Act} {e:Operand->AV} {b:Option qE} {r:R} {nk:Nat} {next:Act->World->Prop} {Q:Exit->Act->World->Prop}
  (he:∀ x∈o.op.operands.toList,av w S μ (a.eval x) (e x)) (g:Good E σ S μ w) (l:∀ j,j < 16->μ (nk+j)=none) (hm:E.m0<=nk)
  (d:PX P E b) (h:Gc P nk σ o.op e b=some r) (f:bg r.SY) (i:afW E nk σ S μ w r fun v w'=>next (a.put o.dst v) w'):o.wpIn (FW rd) 0 P a w next Q:=by
 unfold Gc at h;split at h
 ·rename_i y k;have:∃ x,b=some x/\x.y=some y:=by
   cases b with
   | none=>cases k
   | some x=>exact ⟨x,rfl,k⟩
  obtain ⟨x,h1,h2⟩:=this;exact XL (nk:=nk) he g (d.2 x y h1 h2) h f i
 ·refine ⟨fun _ _=>trivial,?_⟩;have m:∀ c,o.op≠.defer c:=fun c n=>by grind [Iz,ZS,Gb,gq]
  rw [Oper.semAt_eq _ _ _ m];exact akQ (ad1 he g l hm d.1 h f i)
theorem LS {rd:Option Nat} {nt nk:Nat} {ops:Array Oper} {i:Nat} {o:Oper} {a:Act} {tm:List (Nat×AV)} {A:Option qE} {x:Rec} {K:Act->World->Prop} {Q:Exit->Act->World->Prop}
  (hi:ops[i]?=some o) (s:∀ t,av w S μ (a.tmps.getD t undef) (dT tm t)) (g:Good E σ S μ w) (u:∀ j,j < 16->μ (nk+j)=none) (hm:E.m0<=nk)
  (y:PX P E A) (h:Fe P nt ops.toList nk tm σ o A=some x) (l:bg x.SY)
  (m:∀ v w' S' ey,Ext w S μ w' S' ey->Good E (iC σ x.pD) S' ey w'->(∀ k,(k < nk\/nk+16<=k)->μ k=none->ey k=none)->av w' S' ey v x.val->K (a.put x.dst v) w') :
  wpOpIn (FW rd) 0 P ops Q i K a w:=by
 unfold Fe at h;split at h
 ·cases h
 ·split at h
  ·rename_i n;simp only [a4] at h;obtain ⟨r,h1,rfl⟩:=h;unfold wpOpIn;rw [hi];simp only [Region.wanted,n,if_true];exact LR (fun x _=>HS s x) g u hm y h1 l m
  ·rename_i j q n;split at h
   ·cases h
   ·rename_i d B;have c:∀ b,BN (dT tm d) q=some b->Region.wanted o (yielded ops a.tmps)=b:=fun b f=>by
     have L:yielded ops a.tmps j=PW (a.tmps.getD d undef):=by
      unfold yielded;unfold af6 at B;have z:(ops[j]?).bind (·.dst)=some d:=by simpa using B
      rw [z];simp only [dc,ke];cases a.tmps[d]? with
      | none=>simp [undef,PW]
      | some v=>cases v<;>simp [PW]
     grind [Region.wanted,XK]
    split at h
    rotate_left
    ·split at h
     ·rename_i b r f h1;cases h;unfold wpOpIn;rw [hi];have hw:=c b f;obtain ⟨e,D⟩:=l;subst e;simp only [hw,if_true];exact LR (fun x _=>HS s x) g u hm y h1 D m
     ·cases h
    ·split at h
     ·rename_i b f;cases h;unfold wpOpIn;rw [hi];have hw:=c b f;obtain ⟨e,-⟩:=l;subst e;simp only [hw,Bool.false_eq_true,if_false];refine ⟨fun _ _=>trivial,?_⟩;exact m undef w S μ (Ext.refl _ _ _) g (fun _ _ h=>h) (.when (fun h=>by cases h) (fun _=>rfl))
     ·cases h
    split at h
    ·rename_i b r f h1;split at h
     ·rename_i hu;cases h;unfold wpOpIn;rw [hi];have hw:Region.wanted o (yielded ops a.tmps)=b:=c b f;simp only [hw];cases b with
      | true =>
       simp only [if_true];have F:bg r.SY:=by
        cases G:r.SY with
        | nil=>trivial
        | cons p ps =>
         rw [G] at l;exact l.1 rfl
       refine LR (fun x _=>HS s x) g u hm y h1 F ?_;intro v w' S' ey H C I J;rw [hu] at C;exact m v w' S' ey H C I (.when (fun _=>J) (fun h=>by cases h))
      | false =>
       simp only [Bool.false_eq_true,if_false];refine ⟨fun _ _=>trivial,?_⟩;exact m undef w S μ (Ext.refl _ _ _) g (fun _ _ h=>h) (.when (fun h=>by cases h) (fun _=>rfl))
     ·cases h
    ·cases h
theorem LU {nt nk:Nat} {ops:List Oper} {tm:List (Nat×AV)} {o:Oper} {b:Option qE} {x:Rec} (h:Fe P nt ops nk tm σ o b=some x):x.dst=o.dst/\∀ n,o.dst=some n->n < nt:=by
 unfold Fe at h;split at h
 ·cases h
 ·rename_i a;have h2:∀ n,o.dst=some n->n < nt:=fun n c=>by
   rw [c] at a;simp only [amk,Nat.blt,Nat.ble_eq] at a;exact a
  split at h
  ·simp only [a4] at h;grind
  grind
theorem LV {rd:Option Nat} {ds:List Deferred} {nt nk:Nat} {ops:Array Oper} {orcs:List (Nat×qE)} (y:∀ i,PX P E (qi orcs i)) (hm:E.m0<=nk) {Q:Exit->Act->World->Prop}:∀ (l:List Oper) (i:Nat) (a:Act) (w:World) (tm:List (Nat×AV)) (σ:fe) (S:Nat->Prop) (μ:Mu) (b:List Rec),
  ops.toList.drop i=l->i+l.length=ops.size->a.tmps.size=nt->a.defers=ds->Good E σ S μ w->(∀ k,nk+16 * i<=k->μ k=none)->(∀ t,av w S μ (a.tmps.getD t undef) (dT tm t)) ->
  ug P nt ops.toList nk orcs l i tm σ=some b->bg (D5 b) ->
  (∀ c w' S' ey,c.tmps.size=nt->c.defers=ds->Good E (wT b σ) S' ey w'->(∀ k,nk+16 * ops.size<=k->ey k=none)->(∀ t,av w' S' ey (c.tmps.getD t undef) (dT (CI b tm) t))->Q .normal c w') ->
  wpOpsIn (FW rd) 0 P ops Q (List.range' i l.length) a w
 | [],i,a,w,tm,σ,S,μ,b,m,p,d,q,g,e,f,h,z,s=>by
  simp only [ug,aX] at h;subst h;simp only [List.length_nil,List.range'_zero,wpOpsIn];refine s a w S μ d q g (fun k B=>e k (by simp at p;omega)) f
 | o :: r,i,a,w,tm,σ,S,μ,b,m,p,d,q,g,e,f,h,z,s=>by
  simp only [ug] at h;split at h
  ·cases h
  ·rename_i x A;simp only [a4] at h;obtain ⟨C,h2,rfl⟩:=h;obtain ⟨D,F⟩:=bg.app z;have hi:ops[i]?=some o:=by
    have:(ops.toList.drop i)[0]?=some o:=by rw [m];rfl
    rw [ud] at this;simpa using this
   have u:ops.toList.drop (i+1)=r:=by
    rw [<- List.tail_drop,m];rfl
   obtain ⟨G,H⟩:=LU A;simp only [xm,List.range'_succ];rw [wpOpsIn_cons];refine LS hi f g (fun j N=>e _ ad) ad (y i) A D ?_;intro v w' S' ey I J K L;refine LV y hm r (i+1) _ w' _ _ S' ey C u (by simp at p;omega) (by rw [Gd];exact d) (by rw [xD];exact q) J (fun k B=>K k ad (e k ad)) ?_ h2 F s;intro t;rw [Kk a x.dst v t (fun n M=>by rw [d];exact H n (G ▸ M)),sP];split
   ·exact L
   ·exact (f t).ext I
end
end Go.Ab
namespace Go.Ab
def mP (u:x8):List Nat:=u.map (·.1)
section
variable {P:Program} {nk:Nat} {σ fo:fe}
theorem ni {e a:Operand->AV}:∀ {xs:List Operand},(∀ x∈xs,a x=e x)->conds a xs=conds e xs
 | [],_=>rfl
 | x :: r,h=>by simp only [conds];rw [h x ao,ni fun y b=>h y (by simp [b])]
theorem af7 {op:Op} {e g:Operand->AV} {n:Option qE} (he:∀ x∈op.operands.toList,g x=e x):gq P nk σ op g n=gq P nk σ op e n:=by
 cases op with
 | move x=>grind [gq,Op.operands]
 | assign x=>grind [gq,Op.operands]
 | pick q a b=>grind [gq,Op.operands]
 | alloc T=>rfl
 | box T x=>grind [gq,conds,Op.operands]
 | build t parts =>
  simp only [gq];have h1:∀ x∈parts.toList.map (·.2),g x=e x:=fun x j=>he x (by grind [Op.operands]);rw [ni h1];congr 2;apply List.map_congr_left;grind
 | buildSlice t len parts =>
  simp only [gq];have h1:∀ x∈parts.toList.map (·.2),g x=e x:=fun x j=>he x (by grind [Op.operands]);rw [ni h1];have h2:(parts.toList.map fun p=>(p.1,(g p.2).strip.1))=(parts.toList.map fun p=>(p.1,(e p.2).strip.1)):=by
   apply List.map_congr_left;intro p u;grind
  rw [h2]
 | load T x=>grind [gq,conds,Op.operands]
 | store T x y=>grind [gq,conds,Op.operands]
 | nilCheck x=>grind [gq,conds,Op.operands]
 | binOp o t x y v=>grind [gq,conds,Op.operands]
 | unOp o t x=>grind [gq,conds,Op.operands]
 | convert s d x=>grind [gq,conds,Op.operands]
 | makeMap t r=>cases r<;>simp [gq]
 | lookup t m x ok=>simp_all [gq,conds,Op.operands]
 | mapUpdate t m x y=>simp_all [gq,conds,Op.operands]
 | insert t m x y=>simp_all [gq,conds,Op.operands]
 | makeFunc f first cap =>
  simp only [gq];have h1:∀ x∈first.toList ++ cap.toList,g x=e x:=fun x j=>he x (by simpa [Op.operands] using j)
  rw [ni h1];congr 3
  ·apply List.map_congr_left;intro x j;rw [h1 x (by simp only [List.mem_append];exact .inl j)]
  ·apply List.map_congr_left;intro x j;rw [h1 x (by simp only [List.mem_append];exact .inr j)]
 | makeSlice t x y=>grind [gq,conds,Op.operands]
 | slice t x lo hi mx =>
  cases mx with
  | some _=>simp [gq]
  | none =>
   simp only [gq];have h1:∀ y∈x :: (lo.toList ++ hi.toList),g y=e y:=fun y k=>he y (by
    simp only [kY,List.mem_append,Option.mem_toList] at k;simp only [Op.operands];simp_all)
   rw [ni h1,h1 x ao];have h2:(lo.map fun x=>(g x).strip.1)=lo.map fun x=>(e x).strip.1:=by
    cases lo with
    | none=>rfl
    | some y=>simp [h1 y ao]
   have h3:(hi.map fun x=>(g x).strip.1)=hi.map fun x=>(e x).strip.1:=by
    cases hi with
    | none=>rfl
    | some y=>simp [h1 y ao]
   rw [h2,h3]
 | fieldAddr T x f=>grind [gq,conds,Op.operands]
 | field T x f=>grind [gq,conds,Op.operands]
 | indexAddr T x i=>grind [gq,conds,Op.operands]
 | index T x i=>grind [gq,conds,Op.operands]
 | extract x i=>grind [gq,conds,Op.operands]
 | call c =>
  obtain ⟨callee,h,argTypes⟩:=c;cases callee with
  | invoke=>simp [gq]
  | value f =>
   simp only [gq];have h1:∀ x∈f :: h.toList,g x=e x:=fun x j=>he x (by simpa [Op.operands,Call.operands] using j);rw [ni h1,h1 f ao];have h2:(h.toList.map fun x=>(g x).strip.1)=h.toList.map fun x=>(e x).strip.1:=by
    apply List.map_congr_left;intro x j;rw [h1 x (by simp [j])]
   rw [h2]
  | builtin b =>
   simp only [gq];have h1:∀ x∈h.toList,g x=e x:=fun x j=>he x (by grind [Op.operands,Call.operands]);unfold HO;split
   ·grind [conds]
   ·grind [conds]
   ·rename_i x r l;rw [l] at h1;dsimp only;rw [ni h1,h1 x ao];have h2:(r.map fun x=>(g x).strip.1)=r.map fun x=>(e x).strip.1:=by
     apply List.map_congr_left;intro y k;rw [h1 y (by simp [k])]
    rw [h2]
   ·rename_i x r l;rw [l] at h1;dsimp only;rw [ni h1,h1 x ao];have h2:(r.map fun x=>(g x).strip.1)=r.map fun x=>(e x).strip.1:=by
     apply List.map_congr_left;intro y k;rw [h1 y (by simp [k])]
    rw [h2]
   ·rfl
 | _=>simp [gq]
theorem af8 {T:TypeId} {a:AV} {ps:List Prop} {x:AV} {rd:List Nat} (h:F0 P σ T a=some (ps,x,rd)) (b:∀ k∈rd,ay fo k=ay σ k):F0 P fo T a=some (ps,x,rd):=by
 unfold F0 at h ⊢;split at h
 ·split at h
  ·rename_i k i j;split at h
   ·rename_i o c;simp only [a4,aQ] at h;grind
   ·cases h
  ·exact h
  ·grind
  ·cases h
 ·cases h
theorem ZU {T:TypeId} {a x:AV} {ps:List Prop} {u:x8} {rd:List Nat} (h:tE P σ T a x=some (ps,u,rd)) (b:∀ k∈rd,ay fo k=ay σ k):tE P fo T a x=some (ps,u,rd):=by
 unfold tE at h ⊢;grind
theorem ad2 {T:TypeId} {a x:AV} {ps:List Prop} {u:x8} {rd:List Nat} (h:HE P σ T a x=some (ps,u,rd)) (b:∀ k∈rd,ay fo k=ay σ k):HE P fo T a x=some (ps,u,rd):=by
 unfold HE at h ⊢;split at h
 ·grind
 ·exact ZU h b
theorem Ta {T:TypeId} {x i:AV} {ps:List Prop} {v:AV} {rd:List Nat} (h:uR P σ T x i=some (ps,v,rd)) (a:∀ k∈rd,ay fo k=ay σ k):uR P fo T x i=some (ps,v,rd):=by
 unfold uR at h ⊢;split at h
 ·split at h
  ·grind
  ·cases h
 ·omega
 ·cases h
theorem ad3 {T:TypeId} {x:AV} {lo hi:Option AV} {ps:List Prop} {v:AV} {rd:List Nat} (h:HF P σ T x lo hi=some (ps,v,rd)) (a:∀ k∈rd,ay fo k=ay σ k):HF P fo T x lo hi=some (ps,v,rd):=by
 unfold HF at h ⊢;split at h
 ·exact h
 ·split at h
  ·grind
  ·cases h
 ·cases h
theorem Kl {sz:Nat} {x:AV} {n:Nat} {g:Nat->List AV} {pr:Bool} {ps:List Prop} {rd:List Nat} (h:CA σ sz x=some (n,g,pr,ps,rd)) (a:∀ k∈rd,ay fo k=ay σ k):CA fo sz x=some (n,g,pr,ps,rd):=by
 unfold CA at h ⊢;grind
theorem ad4 {a dst:TypeId} {x:AV} {ps:List Prop} {v:AV} {rd:List Nat} (h:HK P σ a dst x=some (ps,v,rd)) (b:∀ k∈rd,ay fo k=ay σ k):HK P fo a dst x=some (ps,v,rd):=by
 unfold HK at h ⊢;split at h
 ·exact h
 ·split at h
  ·rename_i n gt pr e c he d;simp only [aX,aQ] at h;obtain ⟨rfl,rfl,rfl⟩:=h;rw [Kl d b,he]
  ·cases h
 ·cases h
theorem PY {t:TypeId} {s x:AV} {ps:List Prop} {v:AV} {rd:List Nat} {u:x8} (h:xA P nk σ t s x=some (ps,v,rd,u)) (d:∀ k∈rd,ay fo k=ay σ k):xA P nk fo t s x=some (ps,v,rd,u):=by
 unfold xA at h ⊢;split at h
 ·split at h
  ·rename_i sz b z h1 h2 h3;split at h
   ·rename_i n g pr j c f i;split at h
    ·have a:rd=c:=by simp only [aX,aQ] at h;exact h.2.2.1.symm
     rw [Kl i (fun k e=>d k (a ▸ e))];simp only [f];exact h
    ·rename_i k len;split at h
     ·rename_i o l;split at h
      ·rename_i m;have a:rd=k :: c:=by simp only [aX,aQ] at h;exact h.2.2.1.symm
       rw [Kl i (fun k e=>d k (by rw [a];simp [e]))];simp only [f,d k (by simp [a]),l,m];exact h
      ·cases h
     ·cases h
    ·cases h
   ·cases h
  ·cases h
 ·cases h
mutual
theorem af9 {ks:List Nat}:∀ (x y:AV) (bs:List Nat) (ps:List Prop),x.jQ σ ks=some (y,bs,ps)->(∀ k∈bs,ay fo k=ay σ k)->x.jQ fo ks=some (y,bs,ps)
 | .op k i j,y,bs,ps,h,_=>by simpa [AV.jQ] using h
 | .mp k,y,bs,ps,h,_=>by simpa [AV.jQ] using h
 | .ov _ _ _ _ _,y,bs,ps,h,_=>by simp [AV.jQ] at h
 | .Ll _ _ _,y,bs,ps,h,_=>by simp [AV.jQ] at h
 | .nq _ _,y,bs,ps,h,_=>by simp [AV.jQ] at h
 | .bn _,y,bs,ps,h,_=>by simpa [AV.jQ] using h
 | .pt _ _,y,bs,ps,h,_=>by simpa [AV.jQ] using h
 | .os k off len,y,bs,ps,h,d=>by
  simp only [AV.jQ] at h ⊢;split at h
  ·rename_i n l;exact h
  ·rename_i l;split at h
   ·rename_i o m;split at h
    ·rename_i p;have q:bs=[k]:=by simp only [aX,aQ] at h;exact h.2.1.symm
     simp only [d k (by simp [q]),m,p];exact h
    ·cases h
   ·cases h
 | .agg cs,y,bs,ps,h,d=>by
  simp only [AV.jQ,a4] at h ⊢;obtain ⟨⟨a,b,c⟩,h,e⟩:=h;simp only [aQ] at e;obtain ⟨rfl,rfl,rfl⟩:=e;exact ⟨(a,b,c),zL cs a b c h d,rfl⟩
 | .tup cs,y,bs,ps,h,d=>by
  simp only [AV.jQ,a4] at h ⊢;obtain ⟨⟨a,b,c⟩,h,e⟩:=h;simp only [aQ] at e;obtain ⟨rfl,rfl,rfl⟩:=e;exact ⟨(a,b,c),zL cs a b c h d,rfl⟩
 | .fn g x z,y,bs,ps,h,d=>by
  simp only [AV.jQ] at h ⊢;split at h
  ·rename_i a b c r s t u v;simp only [aX,aQ] at h;obtain ⟨rfl,rfl,rfl⟩:=h;rw [zL x a b c u (fun k f=>d k (by simp [f])),zL z r s t v (fun k f=>d k (by simp [f]))]
  ·cases h
 | .when _ _,y,bs,ps,h,_=>by simp [AV.jQ] at h
 | .mr _ _ _,y,bs,ps,h,_=>by simp [AV.jQ] at h
 | .atom _,y,bs,ps,h,_=>by simpa [AV.jQ] using h
 | .sl _ _,y,bs,ps,h,_=>by simpa [AV.jQ] using h
 | .rp _ _,y,bs,ps,h,_=>by simpa [AV.jQ] using h
 | .nil,y,bs,ps,h,_=>by simpa [AV.jQ] using h
 | .il,y,bs,ps,h,_=>by simpa [AV.jQ] using h
theorem zL {ks:List Nat}:∀ (xs ys:List AV) (bs:List Nat) (ps:List Prop),AV.wH σ ks xs=some (ys,bs,ps)->(∀ k∈bs,ay fo k=ay σ k)->AV.wH fo ks xs=some (ys,bs,ps)
 | [],ys,bs,ps,h,_=>by simpa [AV.wH] using h
 | c :: cs,ys,bs,ps,h,e=>by
  simp only [AV.wH] at h ⊢;split at h
  ·rename_i a b p f g i j l;simp only [aX,aQ] at h;obtain ⟨rfl,rfl,rfl⟩:=h;rw [af9 c a b p j (fun k d=>e k (by simp [d])),zL cs f g i l (fun k d=>e k (by simp [d]))]
  ·cases h
end
theorem TY {ks:List Nat}:∀ (l:List Nat) (i:Nat),(∀ k∈l,ay fo k=ay σ k)->canon fo ks i l=canon σ ks i l
 | [],i,_=>rfl
 | k :: r,i,h=>by simp only [canon];rw [h k ao,TY r (i+1) fun k a=>h k (by simp [a])]
theorem IW {ks:List Nat} {lone:Bool}:∀ (l:List Nat),(∀ k∈l,ay fo k=ay σ k)->F8 fo ks lone l=F8 σ ks lone l
 | [],_=>rfl
 | k :: r,h=>by simp only [F8];rw [h k ao,IW r fun k a=>h k (by simp [a])]
theorem aga {f:AV} {b:List AV} {a:qE} {r:R} (h:PM P nk σ f b a=some r) (d:∀ k∈r.Xe,ay fo k=ay σ k):PM P nk fo f b a=some r:=by
 unfold PM Ke at h ⊢;split at h
 case h_2=>cases h
 rename_i gid first cap
 split at h
 case h_2=>cases h
 rename_i as bs ps g h1 h2 h3;split at h
 case h_2=>cases h
 rename_i h4;have e:r.Xe=a.ks ++ bs:=by
  split at h
  ·split at h
   ·split at h
    ·cases h;rfl
    ·cases h
   ·split at h
    ·cases h;rfl
    ·cases h
  ·split at h
   ·cases h;rfl
   ·cases h
 rw [e] at d;simp only [h1,zL _ _ _ _ h2 (fun k c=>d k (by simp [c])),TY a.ks 0 (fun k c=>d k (by simp [c])),IW (ks:=a.ks) (lone:=bs.isEmpty || a.E8) a.ks (fun k c=>d k (by simp [c])),IW (ks:=a.ks) (lone:=true) a.ks (fun k c=>d k (by simp [c])),h3,h4];exact h
theorem ZV {t:TypeId} {m x:AV} {ok:Bool} {a:qE} {ps:List Prop} {v:AV} {rd:List Nat} (h:CF P σ t m x ok a=some (ps,v,rd)) (b:∀ k∈rd,ay fo k=ay σ k):CF P fo t m x ok a=some (ps,v,rd):=by
 unfold CF at h ⊢;grind
theorem PZ {t:TypeId} {m x y:AV} {a:qE} {ps:List Prop} {u:x8} {rd:List Nat} (h:CG P σ t m x y a=some (ps,u,rd)) (b:∀ k∈rd,ay fo k=ay σ k):CG P fo t m x y a=some (ps,u,rd):=by
 unfold CG at h ⊢;grind
theorem XM {op:Op} {e:Operand->AV} {d:Option qE} {r:R} (h:gq P nk σ op e d=some r) (a:∀ k∈r.Xe,ay fo k=ay σ k):gq P nk fo op e d=some r:=by
 cases op with
 | load T x =>
  simp only [gq,a4] at h ⊢;obtain ⟨⟨ps,v,rd⟩,h1,rfl⟩:=h;exact ⟨_,af8 h1 a,rfl⟩
 | store T x y =>
  simp only [gq,a4] at h ⊢;obtain ⟨⟨ps,v,rd⟩,h1,rfl⟩:=h;exact ⟨_,ad2 h1 a,rfl⟩
 | indexAddr T x i =>
  simp only [gq,a4] at h ⊢;obtain ⟨⟨ps,v,rd⟩,h1,rfl⟩:=h;exact ⟨_,Ta h1 a,rfl⟩
 | slice t x lo hi mx =>
  cases mx with
  | some _=>simp [gq] at h
  | none =>
   simp only [gq,a4] at h ⊢;obtain ⟨⟨ps,v,rd⟩,h1,rfl⟩:=h;exact ⟨_,ad3 h1 a,rfl⟩
 | convert j dst x =>
  simp only [gq] at h ⊢;split at h
  ·omega
  ·rename_i l;simp only [a4] at h ⊢;obtain ⟨⟨ps,v,rd⟩,h1,rfl⟩:=h;exact ⟨_,ad4 h1 a,rfl⟩
 | makeMap t r=>cases r with
  | none=>exact h
  | some _=>simp [gq] at h
 | lookup t m x ok =>
  simp only [gq] at h ⊢;split at h
  ·simp only [a4] at h ⊢;obtain ⟨⟨ps,v,rd⟩,h1,rfl⟩:=h;exact ⟨_,ZV h1 a,rfl⟩
  ·cases h
 | mapUpdate t m x y =>
  simp only [gq] at h ⊢;split at h
  ·simp only [a4] at h ⊢;obtain ⟨⟨ps,u,rd⟩,h1,rfl⟩:=h;exact ⟨_,PZ h1 a,rfl⟩
  ·cases h
 | insert t m x y =>
  simp only [gq] at h ⊢;split at h
  ·simp only [a4] at h ⊢;obtain ⟨⟨ps,u,rd⟩,h1,rfl⟩:=h;exact ⟨_,PZ h1 a,rfl⟩
  ·cases h
 | call c =>
  obtain ⟨callee,g,argTypes⟩:=c;cases callee with
  | invoke=>simp [gq] at h
  | value f =>
   simp only [gq] at h ⊢;split at h
   ·simp only [a4] at h ⊢;obtain ⟨n,h1,rfl⟩:=h;exact ⟨_,aga h1 a,rfl⟩
   ·cases h
  | builtin b =>
   simp only [gq] at h ⊢;unfold HO at h ⊢;split at h
   ·exact h
   ·split at h
    ·simp only [a4] at h ⊢;obtain ⟨⟨ps,v,rd,u⟩,h1,rfl⟩:=h;exact ⟨_,PY h1 a,rfl⟩
    ·cases h
   ·exact h
   ·exact h
   ·cases h
 | _=>exact h
theorem akR {op:Op} {e b:Operand->AV} {c:Option qE} (he:∀ x∈op.operands.toList,b x=e x):Gb P nk σ op b c=Gb P nk σ op e c:=by
 unfold Gb;split
 ·exact af7 he
 ·split
  ·grind [conds,Op.operands]
  ·grind [Op.operands,Call.operands,conds]
  ·grind [Op.operands,Call.operands,conds]
  ·grind [Op.operands,Call.operands,conds]
  ·rename_i t x lo hi mx;have h1:b x=e x:=he x (by simp [Op.operands]);have h2:∀ y∈lo,b y=e y:=fun y a=>he y (by cases a;simp [Op.operands]);have h3:∀ y∈hi,b y=e y:=fun y a=>he y (by cases a;simp [Op.operands]);have h4:∀ y∈mx,b y=e y:=fun y a=>he y (by cases a;simp [Op.operands]);split
   ·have d:(lo.map fun y=>(b y).strip.1)=lo.map fun y=>(e y).strip.1:=by
     cases lo with
     | none=>rfl
     | some y=>simp only [Option.map_some];rw [h2 y rfl]
    have f:(hi.map fun y=>(b y).strip.1)=hi.map fun y=>(e y).strip.1:=by
     cases hi with
     | none=>rfl
     | some y=>simp only [Option.map_some];rw [h3 y rfl]
    have g:conds b (x :: (lo.toList ++ hi.toList))=conds e (x :: (lo.toList ++ hi.toList)):=ni fun y a=>by
     simp only [kY,List.mem_append,Option.mem_toList] at a;rcases a with rfl | a | a
     ·exact h1
     ·exact h2 _ a
     ·exact h3 _ a
    rw [h1,d,f,g]
   ·split
    ·rename_i l h;simp only [conds];rw [h1,h2 l rfl,h3 h rfl,h4 _ rfl]
    ·rfl
  ·exact af7 he
theorem ad5 {T:TypeId} {a x:AV} {ps:List Prop} {y:AV} {rd:List Nat} (h:HQ P σ T a x=some (ps,y,rd)) (b:∀ k∈rd,ay fo k=ay σ k):HQ P fo T a x=some (ps,y,rd):=by
 unfold HQ at h ⊢;grind
theorem UU:∀ (u:x8) (n:Nat),(∀ a b:fe,ay (iC a u) n=ay (iC b u) n)\/∀ a:fe,ay (iC a u) n=ay a n
 | [],n=>.inr fun _=>rfl
 | (k,some o) :: u,n=>by
  simp only [iC];rcases UU u n with h | h
  ·grind
  ·by_cases c:k=n
   ·simp_all [bz,if_pos]
   simp_all [bz,if_neg]
 | (k,none) :: u,n=>by
  simp only [iC];rcases UU u n with h | h
  ·grind
  ·by_cases c:k=n
   ·simp_all [iE,if_pos]
   simp_all [iE,if_neg]
theorem akS {b a:fe} {k q i:Nat} (h1:ay a k=ay b k) (h2:ay a q=ay b q):UT a k q i=UT b k q i:=by
 unfold UT;rw [h1,h2]
theorem XN {t:TypeId} {s x:AV} {d:qE} {ps:List Prop} {v:AV} {rd:List Nat} {u:x8} (h:zK P nk σ t s x d=some (ps,v,rd,u)) (e:∀ k∈rd,ay fo k=ay σ k):zK P nk fo t s x d=some (ps,v,rd,u):=by
 unfold zK at h ⊢;split at h
 case h_2=>cases h
 rename_i q l v' b u1 m a;split at h
 case h_2=>cases h
 rename_i n u2 p r;have c:rd=q :: b:=by simp only [aX,aQ] at h;exact h.2.2.1.symm
 have w:=PY a (fun k f=>e k (by rw [c];simp [f]));have g:ay (iC fo u1) nk=ay (iC σ u1) nk:=by
  have i:∃ o,u1=[(nk,some o)]\/∃ k,u1=[(k,none),(nk,some o)]:=by
   unfold xA at a;split at a
   ·split at a
    ·grind
    ·cases a
   ·cases a
  obtain ⟨o,rfl | ⟨k,rfl⟩⟩:=i<;>simp only [iC]<;>rw [bz,bz,if_pos rfl,if_pos rfl]
 have j:ay (iC fo u1) q=ay (iC σ u1) q:=by
  rcases UU u1 q with h1 | h1
  ·exact h1 _ _
  ·simp_all
 grind [akS]
theorem ZW {T:TypeId} {x:AV} {lo hi:Option AV} {ps:List Prop} {v:AV} {rd:List Nat} (h:CH P σ T x lo hi=some (ps,v,rd)) (a:∀ k∈rd,ay fo k=ay σ k):CH P fo T x lo hi=some (ps,v,rd):=by
 unfold CH at h ⊢;split at h
 case h_2=>cases h
 grind
theorem agb {t:TypeId} {s x:AV} {ps:List Prop} {v:AV} {rd:List Nat} {u:x8} (h:LK P σ t s x=some (ps,v,rd,u)) (a:∀ k∈rd,ay fo k=ay σ k):LK P fo t s x=some (ps,v,rd,u):=by
 unfold LK at h ⊢;split at h
 case h_2=>cases h
 grind
theorem agc {t:TypeId} {s x:AV} {ps:List Prop} {v:AV} {rd:List Nat} {u:x8} (h:LL P σ t s x=some (ps,v,rd,u)) (a:∀ k∈rd,ay fo k=ay σ k):LL P fo t s x=some (ps,v,rd,u):=by
 unfold LL at h ⊢;split at h
 case h_2=>cases h
 grind
theorem agd {t:TypeId} {s x:AV} {ps:List Prop} {v:AV} {rd:List Nat} {u:x8} (h:LO P σ t s x=some (ps,v,rd,u)) (d:∀ k∈rd,ay fo k=ay σ k):LO P fo t s x=some (ps,v,rd,u):=by
 unfold LO at h ⊢;split at h
 case h_2=>cases h
 rename_i e he;split at h
 case h_2=>cases h
 rename_i sz b z k off m j l p;split at h
 case h_2=>cases h
 rename_i n gt pr f a o g q;split at h
 case h_2=>cases h
 rename_i r;have c:rd=k :: a:=by simp only [aX,aQ] at h;exact h.2.2.1.symm
 rw [Kl g (fun k i=>d k (by rw [c];simp [i]))];grind
theorem age {t:TypeId} {s x:AV} {ps:List Prop} {v:AV} {rd:List Nat} {u:x8} (h:LP P nk σ t s x=some (ps,v,rd,u)) (d:∀ k∈rd,ay fo k=ay σ k):LP P nk fo t s x=some (ps,v,rd,u):=by
 unfold LP at h ⊢;split at h
 case h_2=>cases h
 rename_i e he;split at h
 case h_2=>cases h
 rename_i sz b z k off m j l p;split at h
 case h_2=>cases h
 rename_i n gt pr f a o g q;split at h
 case h_2=>cases h
 rename_i r;have c:rd=k :: a:=by simp only [aX,aQ] at h;exact h.2.2.1.symm
 rw [Kl g (fun k i=>d k (by rw [c];simp [i]))];grind
theorem ad6 {t:TypeId} {x:AV} {ps:List Prop} {v:AV} {rd:List Nat} {u:x8} (h:HR P σ t x=some (ps,v,rd,u)) (a:∀ k∈rd,ay fo k=ay σ k):HR P fo t x=some (ps,v,rd,u):=by
 unfold HR at h ⊢;split at h
 case h_2=>cases h
 grind
theorem TZ {op:Op} {e:Operand->AV} {d:Option qE} {r:R} (h:Gb P nk σ op e d=some r) (a:∀ k∈r.Xe,ay fo k=ay σ k):Gb P nk fo op e d=some r:=by
 unfold Gb at h ⊢;split at h
 ·exact XM h a
 ·rename_i q g;split at h
  ·simp only [a4] at h ⊢;obtain ⟨⟨ps,v,rd⟩,h1,rfl⟩:=h;exact ⟨_,ad5 h1 a,rfl⟩
  ·split at h
   ·rename_i x y t t' b c;split at h
    ·rename_i f;simp only [a4] at h;obtain ⟨⟨ps,v,rd,u⟩,h1,rfl⟩:=h;simp only [b,c,f,a4];refine ⟨⟨ps,v,rd,u⟩,?_,rfl⟩;split at h1
     ·exact agb h1 a
     ·exact agd h1 a
     ·exact age h1 a
     ·exact XN h1 a
    ·cases h
   ·cases h
  ·split at h
   ·rename_i x y t t' b c;simp only [a4] at h;obtain ⟨⟨ps,v,rd,u⟩,h1,rfl⟩:=h;simp only [b,c,a4];exact ⟨_,agc h1 a,rfl⟩
   ·cases h
  ·split at h
   ·rename_i x t b c;simp only [a4] at h;obtain ⟨⟨ps,v,rd,u⟩,h1,rfl⟩:=h;simp only [b,c,a4];exact ⟨_,ad6 h1 a,rfl⟩
   ·cases h
  ·split at h
   ·simp only [a4] at h ⊢;obtain ⟨⟨ps,v,rd⟩,h1,rfl⟩:=h;exact ⟨_,ZW h1 a,rfl⟩
   ·exact h
  ·exact XM h a
theorem T0 {a:fe} {e b:Operand->AV}:∀ {xs:List Operand},(∀ x∈xs,b x=e x)->fzC a b xs=fzC a e xs
 | [],_=>rfl
 | x :: r,h=>by simp only [fzC];rw [h x ao,T0 fun y c=>h y (by simp [c])]
theorem T4:∀ {a:fe} {ps:List Prop},fzS σ a=some ps->(∀ k∈a.map (·.1),ay fo k=ay σ k)->fzS fo a=some ps
 | [],ps,h,_=>h
 | (k,o') :: r,ps,h,b=>by
  simp only [fzS] at h ⊢;split at h
  ·rename_i o e c d;rw [b k ao,c,T4 d fun k f=>b k (by simp_all)];exact h
  ·cases h
theorem akT {op:Op} {e a:Operand->AV} {b:Option qE} (he:∀ x∈op.operands.toList,a x=e x):Iz P nk σ op a b=Iz P nk σ op e b:=by
 simp_all [Iz,akR,T0,fzA]
theorem ad7 {op:Op} {e:Operand->AV} {c:Option qE} {r:R} (h:Iz P nk σ op e c=some r) (a:∀ k∈r.Xe,ay fo k=ay σ k):Iz P nk fo op e c=some r:=by
 unfold Iz at h ⊢;split at h
 ·exact TZ h a
 ·split at h
  ·rename_i ps d h1 h2;cases h;rw [T4 h1 fun k b=>a k (List.mem_append_left _ b),TZ h2 fun k b=>by rw [qH,qH,a k (List.mem_append_right _ b)]]
  ·cases h
end
end Go.Ab
namespace Go.Ab
def agf (l:List Nat) (k:Nat):Bool:=l.any fun x=>Nat.beq x k
theorem P0 {l:List Nat} {k:Nat}:agf l k=true↔k∈l:=by
 simp only [agf,List.any_eq_true];simp
theorem aci {a b:Nat} (h:a < b):Nat.blt a b=true:=by
 simp_all
theorem Fg {a b:Nat} (h:¬ a < b):Nat.blt a b=false:=by
 cases c:Nat.blt a b with
 | false=>rfl
 | true=>simp only [Nat.blt,Nat.ble_eq] at c;exact (h c).elim
theorem LW {a b:Nat} (h:Nat.blt a b=true):a < b:=by
 simp_all
def tmpsOf:List Operand->List Nat
 | []=>[]
 | .tmp t :: r=>t :: tmpsOf r
 | _ :: r=>tmpsOf r
def P1 (ops:List Oper) (o:Oper):List Nat :=
 tmpsOf o.op.operands.toList ++ (match o.guard with
  | some (j,_)=>(af6 ops j).toList
  | none=>[])
theorem P2:∀ {l:List Operand} {t:Nat},Operand.tmp t∈l->t∈tmpsOf l
 | [],_,h=>by simp at h
 | x :: r,t,h=>by
  rcases kY.1 h with rfl | a
  ·simp [tmpsOf]
  ·have:=P2 a;cases x<;>simp [tmpsOf,this]
def gJ (o:Oper):List Nat:=(o.after.toList.filter (Region.binds .any ·)).map (·.on)
def NJ (ops:List Oper):Nat->Nat->Nat->Bool
 | 0,_,_=>false
 | n+1,i,j=>match ops[j]? with
  | none=>false
  | some o=>(gJ o).any fun e=>Nat.beq e i || NJ ops n i e
def Km:Option Nat->Option Nat->Bool
 | some a,some b=>Nat.beq a b
 | _,_=>false
def meets (l m:List Nat):Bool:=l.any fun k=>agf m k
def IA (ops:List Oper) (o p:Oper) (x y:Rec):Bool :=
 meets x.dst.toList (P1 ops p) || meets y.dst.toList (P1 ops o) || meets (mP x.pD) (y.Xe ++ mP y.pD) || meets x.Xe (mP y.pD)
def LX (ops:List Oper) (a:List Rec) (i j:Nat):Bool :=
 match ops[i]?,ops[j]?,a[i]?,a[j]? with
 | some o,some p,some x,some y=>!Km x.dst y.dst && (!IA ops o p x y || NJ ops ops.length i j)
 | _,_,_,_=>false
def xn (ops:List Oper) (j:Nat):Bool :=
 match ops[j]? with
 | some o=>(gJ o).all fun e=>Nat.blt e j
 | none=>false
def agh (ops:List Oper) (a:List Rec):Bool :=
 (List.range ops.length).all fun j=>xn ops j && (List.range j).all fun i=>LX ops a i j
def Oj (L:Nat->Bool):List Rec->Nat->List (Nat×AV)->List (Nat×AV)
 | [],_,tm=>tm
 | x :: r,i,tm=>Oj L r (i+1) (match L i with
  | true=>Ff tm x.dst x.val
  | false=>tm)
def ya (L:Nat->Bool):List Rec->Nat->fe->fe
 | [],_,σ=>σ
 | x :: r,i,σ=>ya L r (i+1) (match L i with
  | true=>iC σ x.pD
  | false=>σ)
theorem pO:∀ (u:x8) (σ:fe) (k:Nat),ay (iC σ u) k=if k∈mP u then ay (iC [] u) k else ay σ k
 | [],σ,k=>by simp [mP,iC]
 | (n,some o) :: r,σ,k=>by
  simp only [iC];rw [pO r (sset σ n o) k,pO r (sset [] n o) k,bz,bz]
  by_cases h1:k∈mP r
  ·simp [mP] at h1 ⊢;simp [h1]
  ·by_cases h2:n=k
   ·subst h2;simp [mP]
   ·have:¬ k∈mP ((n,some o) :: r):=by simp [mP] at h1 ⊢;exact ⟨fun h=>h2 h.symm,h1⟩
    rw [if_neg h1,if_neg h2,if_neg this]
 | (n,none) :: r,σ,k=>by
  simp only [iC];rw [pO r (wE σ n) k,pO r (wE [] n) k,iE,iE]
  by_cases h1:k∈mP r
  ·simp [mP] at h1 ⊢;simp [h1]
  ·by_cases h2:n=k
   ·subst h2;simp [mP]
   ·have:¬ k∈mP ((n,none) :: r):=by simp [mP] at h1 ⊢;exact ⟨fun h=>h2 h.symm,h1⟩
    rw [if_neg h1,if_neg h2,if_neg this]
theorem Kn {L b:Nat->Bool} {t:Nat}:∀ (c:List Rec) (i:Nat) (tm a:List (Nat×AV)),dT tm t=dT a t ->
  (∀ (m:Nat) (x:Rec),c[m]?=some x->L (i+m)≠b (i+m)->x.dst≠some t)->dT (Oj L c i tm) t=dT (Oj b c i a) t
 | [],_,_,_,h,_=>h
 | x :: r,i,tm,a,h,d=>by
  simp only [Oj];refine Kn r (i+1) _ _ ?_ (fun m y e f=>d (m+1) y (by simpa using e) (by grind))
  by_cases he:L i=b i
  ·grind [sP]
  ·have:=d 0 x ao (by simpa using he);have g:dT (Ff tm x.dst x.val) t=dT tm t:=by rw [sP,if_neg this]
   have j:dT (Ff a x.dst x.val) t=dT a t:=by rw [sP,if_neg this]
   grind
theorem HT {L a:Nat->Bool} {k:Nat}:∀ (b:List Rec) (i:Nat) (σ fo:fe),ay σ k=ay fo k ->
  (∀ (m:Nat) (x:Rec),b[m]?=some x->L (i+m)≠a (i+m)->k ∉ mP x.pD)->ay (ya L b i σ) k=ay (ya a b i fo) k
 | [],_,_,_,h,_=>h
 | x :: r,i,σ,fo,h,c=>by
  simp only [ya];refine HT r (i+1) _ _ ?_ (fun m y d e=>c (m+1) y (by simpa using d) (by grind))
  by_cases he:L i=a i
  ·grind [pO]
  ·have:=c 0 x ao (by simpa using he);have f:ay (iC σ x.pD) k=ay σ k:=by rw [pO,if_neg this]
   have g:ay (iC fo x.pD) k=ay fo k:=by rw [pO,if_neg this]
   grind
theorem UW {L:Nat->Bool} {a:Nat} {x:Rec} {t:Nat}:∀ (f:List Rec) (i:Nat) (tm:List (Nat×AV)),i<=a->f[a - i]?=some x ->
  (∀ (m:Nat) (y:Rec),f[m]?=some y->a < i+m->x.dst=some t->y.dst≠some t) ->
  dT (Oj (fun q=>L q || Nat.beq q a) f i tm) t=if x.dst=some t then x.val else dT (Oj L f i tm) t
 | [],i,tm,_,h,_=>by simp at h
 | y :: r,i,tm,hi,h,k=>by
  simp only [Oj]
  by_cases he:i=a
  ·subst he;simp at h;subst h;rw [uQ rfl,Bool.or_true];have g:∀ b c:List (Nat×AV),dT b t=dT c t->dT (Oj (fun q=>L q || Nat.beq q i) r (i+1) b) t=dT (Oj L r (i+1) c) t:=by
    intro b c j;refine Kn r (i+1) _ _ j ?_;intro m z d o;exfalso;apply o;rw [rL ad,Bool.or_false]
   by_cases e:y.dst=some t
   ·rw [if_pos e];have p:∀ (l:List Rec) (n:Nat) (tm:List (Nat×AV)) (M:Nat->Bool),(∀ (m:Nat) (z:Rec),l[m]?=some z->z.dst≠some t)->dT (Oj M l n tm) t=dT tm t:=by
     intro l
     induction l with
     | nil=>intro n tm M _;rfl
     | cons z l s =>
      intro n tm M d;simp only [Oj];rw [s _ _ _ (fun m u v=>d (m+1) u (by simpa using v))];split
      ·rw [sP,if_neg (d 0 z ao)]
      ·rfl
    rw [p r _ _ _ (fun m z d=>k (m+1) z (by simpa using d) ad e),sP,if_pos e]
   ·rw [if_neg e];refine g _ _ ?_;rw [sP,if_neg e];split
    ·rw [sP,if_neg e]
    ·rfl
  ·rw [rL he,Bool.or_false];refine UW r (i+1) _ ad ?_ (fun m z d w=>k (m+1) z (by simpa using d) ad);rw [show a - i=(a - (i+1))+1 by omega] at h;simpa using h
theorem P3 {L:Nat->Bool} {c:Nat} {x:Rec} {k:Nat}:∀ (d:List Rec) (i:Nat) (σ:fe),i<=c->d[c - i]?=some x ->
  (∀ (m:Nat) (y:Rec),d[m]?=some y->c < i+m->L (i+m)=true->k∈mP x.pD->k ∉ mP y.pD) ->
  ay (ya (fun q=>L q || Nat.beq q c) d i σ) k=if k∈mP x.pD then ay (iC [] x.pD) k else ay (ya L d i σ) k
 | [],i,σ,_,h,_=>by simp at h
 | y :: r,i,σ,hi,h,f=>by
  simp only [ya]
  by_cases he:i=c
  ·subst he;simp at h;subst h;rw [uQ rfl,Bool.or_true]
   by_cases b:k∈mP y.pD
   ·rw [if_pos b];have g:∀ (l:List Rec) (n:Nat) (σ:fe) (M:Nat->Bool),(∀ (m:Nat) (z:Rec),l[m]?=some z->M (n+m)=true->k ∉ mP z.pD)->ay (ya M l n σ) k=ay σ k:=by
     intro l
     induction l with
     | nil=>intro n tm M _;rfl
     | cons z l j =>
      intro n σ M a;simp only [ya];rw [j _ _ _ (fun m u o e=>a (m+1) u (by simpa using o) (by grind))];split
      ·rename_i e;rw [pO,if_neg (a 0 z ao (by simpa using e))]
      ·rfl
    rw [g r _ _ _ ?_,pO,if_pos b];intro m z a e;rw [rL ad,Bool.or_false] at e;exact f (m+1) z (by simpa using a) ad (by grind) b
   ·rw [if_neg b];refine HT r (i+1) _ _ ?_ ?_
    ·rw [pO,if_neg b];split
     ·rw [pO,if_neg b]
     ·rfl
    ·intro m z a p;exfalso;apply p;rw [rL ad,Bool.or_false]
  ·rw [rL he,Bool.or_false];refine P3 r (i+1) _ ad ?_ (fun m z a s t=>f (m+1) z (by simpa using a) ad (by grind));grind
theorem UX:∀ (a:List Rec) (i:Nat) (tm:List (Nat×AV)) (L:Nat->Bool),(∀ m,m < a.length->L (i+m)=true)->Oj L a i tm=CI a tm
 | [],_,_,_,_=>rfl
 | x :: r,i,tm,L,h=>by
  simp only [Oj,CI];have:=h 0 ao;rw [Nat.add_zero] at this;rw [this,UX r (i+1) _ L (fun m hm=>by rw [show i+1+m=i+(m+1) by omega];simp_all)]
theorem P4:∀ (a:List Rec) (i:Nat) (σ:fe) (L:Nat->Bool),(∀ m,m < a.length->L (i+m)=true)->ya L a i σ=wT a σ
 | [],_,_,_,_=>rfl
 | x :: r,i,σ,L,h=>by
  simp only [ya,wT];have:=h 0 ao;rw [Nat.add_zero] at this;rw [this,P4 r (i+1) _ L (fun m hm=>by rw [show i+1+m=i+(m+1) by omega];simp_all)]
theorem Ko:∀ (a:List Rec) (i:Nat) (tm:List (Nat×AV)) (L:Nat->Bool),(∀ m,m < a.length->L (i+m)=false)->Oj L a i tm=tm
 | [],_,_,_,_=>rfl
 | x :: r,i,tm,L,h=>by
  simp only [Oj];have:=h 0 ao;rw [Nat.add_zero] at this;rw [this,Ko r (i+1) _ L (fun m hm=>by rw [show i+1+m=i+(m+1) by omega];simp_all)]
theorem HU:∀ (a:List Rec) (i:Nat) (σ:fe) (L:Nat->Bool),(∀ m,m < a.length->L (i+m)=false)->ya L a i σ=σ
 | [],_,_,_,_=>rfl
 | x :: r,i,σ,L,h=>by
  simp only [ya];have:=h 0 ao;rw [Nat.add_zero] at this;rw [this,HU r (i+1) _ L (fun m hm=>by rw [show i+1+m=i+(m+1) by omega];simp_all)]
section
variable {P:Program}
theorem LY {nt nk:Nat} {ops:List Oper} {orcs:List (Nat×qE)}:∀ (l:List Oper) (i:Nat) (tm:List (Nat×AV)) (σ:fe) (a:List Rec),ug P nt ops nk orcs l i tm σ=some a ->
  a.length=l.length/\∀ (m:Nat) (x:Rec),a[m]?=some x->∃ o,l[m]?=some o /\
   Fe P nt ops (nk+16 * (i+m)) (Oj (fun q=>Nat.blt q (i+m)) a i tm) (ya (fun q=>Nat.blt q (i+m)) a i σ) o (qi orcs (i+m))=some x
 | [],i,tm,σ,a,h=>by
  simp only [ug,aX] at h;simp_all
 | o :: r,i,tm,σ,a,h=>by
  simp only [ug] at h;split at h
  ·cases h
  ·rename_i g d;simp only [a4] at h;obtain ⟨e,h2,rfl⟩:=h;obtain ⟨h3,h4⟩:=LY r (i+1) _ _ e h2;refine ⟨by simp [h3],?_⟩;intro m x c;cases m with
   | zero =>
    simp at c;subst c;refine ⟨o,ao,?_⟩;simp only [Nat.add_zero,Oj,ya];have b:Nat.blt i i=false:=Fg ad;rw [b];rw [Ko,HU]
    ·exact d
    ·intro m _;exact Fg ad
    ·intro m _;exact Fg ad
   | succ m =>
    obtain ⟨o',f,he⟩:=h4 m x (by simpa using c);refine ⟨o',by simpa using f,?_⟩;have b:Nat.blt i (i+(m+1))=true:=aci ad;simp only [Oj,ya];rw [b];rw [show i+(m+1)=i+1+m by omega];exact he
theorem UY {nk:Nat} {op:Op} {e b:Operand->AV} {d:Option qE} {σ:fe} (he:∀ x∈op.operands.toList,b x=e x):Gc P nk σ op b d=Gc P nk σ op e d:=by
 unfold Gc;split
 ·unfold Kj;split
  ·rename_i f a g;have mem:∀ x,x∈f :: a.toList->b x=e x:=by
    intro x c;refine he x ?_;simp only [Op.operands,Call.operands] at *
    simpa using c
   rw [mem f ao,ni mem,List.map_congr_left (fun x c=>by rw [mem x (List.mem_cons_of_mem _ c)]:∀ x∈a.toList,(b x).strip.1=(e x).strip.1)]
  ·rfl
 ·exact akT he
theorem LZ {nk:Nat} {op:Op} {e:Operand->AV} {a:Option qE} {σ fo:fe} {r:R} (h:Gc P nk σ op e a=some r) (b:∀ k∈r.Xe,ay fo k=ay σ k):Gc P nk fo op e a=some r:=by
 unfold Gc at h ⊢;split at h
 ·unfold Kj at h ⊢;grind
 ·exact ad7 h b
theorem T5 {nt nk:Nat} {ops:List Oper} {tm a:List (Nat×AV)} {σ fo:fe} {o:Oper} {i:Option qE} {x:Rec} (h:Fe P nt ops nk tm σ o i=some x)
  (l:∀ t∈P1 ops o,dT a t=dT tm t) (c:∀ k∈x.Xe,ay fo k=ay σ k):Fe P nt ops nk a fo o i=some x:=by
 have he:∀ y∈o.op.operands.toList,Bh a y=Bh tm y:=by
  intro y m;cases y with
  | tmp t=>exact l t (by simp only [P1,List.mem_append];exact .inl (P2 m))
  | _=>rfl
 unfold Fe at h ⊢;split at h
 ·cases h
 ·split at h
  ·simp only [a4] at h ⊢;obtain ⟨r,h1,rfl⟩:=h;exact ⟨r,by rw [UY he];exact LZ h1 c,rfl⟩
  ·rename_i j want e;split at h
   ·cases h
   ·rename_i d n;have f:dT a d=dT tm d:=l d (by simp [P1,e,n]);rw [f];split at h
    ·split at h
     ·rename_i g r b h1;split at h
      ·rename_i hu;cases h;rw [UY he,LZ h1 c,b];simp [hu]
      ·cases h
     ·cases h
    ·split at h
     ·rename_i g r b h1;cases h;rw [UY he,LZ h1 c,b]
     ·cases h
    ·split at h
     ·rename_i g b;exact h
     ·cases h
theorem wU {ops:List Oper} {L:Nat->Bool} (b:∀ j,L j=true->∀ o,ops[j]?=some o->∀ e∈gJ o,L e=true):∀ (n i j:Nat),NJ ops n i j=true ->
  (∀ o,ops[j]?=some o->∀ e∈gJ o,L e=true)->L i=true
 | 0,i,j,h,_=>by simp [NJ] at h
 | n+1,i,j,h,c=>by
  simp only [NJ] at h;split at h
  ·cases h
  ·rename_i o d;simp only [List.any_eq_true,Bool.or_eq_true] at h;obtain ⟨e,he,h | h⟩:=h
   ·simp_all
   ·exact wU b n i e h fun o' f g a=>b e (c o d e he) o' f g a
def ZY (ops:List Oper) (o p:Oper) (x y:Rec):Prop :=
 (∃ d,x.dst=some d/\d∈P1 ops p)\/(∃ d,y.dst=some d/\d∈P1 ops o)\/(∃ k,k∈mP x.pD/\(k∈y.Xe\/k∈mP y.pD))\/∃ k,k∈x.Xe/\k∈mP y.pD
theorem HV {l m:List Nat} {k:Nat} (h1:k∈l) (h2:k∈m):meets l m=true:=List.any_eq_true.2 ⟨k,h1,P0.2 h2⟩
theorem ZY.IA {ops:List Oper} {o p:Oper} {x y:Rec} (h:ZY ops o p x y):IA ops o p x y=true:=by
 unfold Ab.IA;simp only [Bool.or_eq_true];rcases h with ⟨d,h1,h2⟩ | ⟨d,h1,h2⟩ | ⟨k,h1,h2⟩ | ⟨k,h1,h2⟩
 ·simp_all [HV]
 ·simp_all [HV]
 ·grind [HV]
 grind [HV]
theorem ZY.symm {ops:List Oper} {o p:Oper} {x y:Rec} (h:ZY ops o p x y):ZY ops p o y x:=by
 rcases h with h | h | ⟨k,h1,h2 | h2⟩ | ⟨k,h1,h2⟩
 ·exact .inr (.inl h)
 ·exact .inl h
 ·exact .inr (.inr (.inr ⟨k,h2,h1⟩))
 ·exact .inr (.inr (.inl ⟨k,h2,.inr h1⟩))
 ·exact .inr (.inr (.inl ⟨k,h2,.inl h1⟩))
theorem count_set:∀ (l:List Bool) (i:Nat),l[i]?=some false->((l.set i true).filter (· == true)).length=(l.filter (· == true)).length+1
 | [],i,h=>by simp at h
 | b :: l,0,h=>by simp at h;subst h;simp
 | b :: l,i+1,h=>by
  have:=count_set l i (by simpa using h);cases b<;>simp_all
theorem ZZ {E:Env} {rd:Option Nat} {ds:List Deferred} {nt nk:Nat} {ops:Array Oper} {orcs:List (Nat×qE)} {F:List (Nat×AV)} {A:fe} {b:List Rec} {Q:Exit->Act->World->Prop} (hz:∀ i,PX P E (qi orcs i)) (hm:E.m0<=nk)
  (htr:ug P nt ops.toList nk orcs ops.toList 0 F A=some b) (hp:bg (D5 b)) (O7:agh ops.toList b=true)
  (hQ:∀ a' w' S' ey,a'.tmps.size=nt->a'.defers=ds->Good E (wT b A) S' ey w'->(∀ k,nk+16 * ops.size<=k->ey k=none)->(∀ t,av w' S' ey (a'.tmps.getD t undef) (dT (CI b F) t))->Q .normal a' w') :
  ∀ (fuel:Nat) (an:Array Bool) (a:Act) (w:World) (S:Nat->Prop) (μ:Mu),an.size=ops.size->a.tmps.size=nt->a.defers=ds ->
   (∀ j,an.getD j false=true->∀ o,ops.toList[j]?=some o->∀ e∈gJ o,an.getD e false=true)->ops.size<=fuel+(an.toList.filter (· == true)).length ->
   Good E (ya (fun j=>an.getD j false) b 0 A) S μ w->(∀ k,nk<=k->(∀ j,nk+16 * j<=k->k < nk+16 * j+16->an.getD j false=false)->μ k=none) ->
   (∀ t,av w S μ (a.tmps.getD t undef) (dT (Oj (fun j=>an.getD j false) b 0 F) t)) ->
   wpAnyIn (FW rd) 0 P .any ops Q fuel an a w:=by
 obtain ⟨G,tk⟩:=LY ops.toList 0 F A b htr;simp only [Nat.zero_add] at tk;have rH:∀ j,j < ops.size->xn ops.toList j=true/\∀ i,i < j->LX ops.toList b i j=true:=by
  intro j c;have:=List.all_eq_true.1 O7 j (qh.2 (by simpa using c));simp only [bd] at this;exact ⟨this.1,fun i hi=>List.all_eq_true.1 this.2 i (qh.2 hi)⟩
 have XP:∀ j o,ops.toList[j]?=some o->∀ e∈gJ o,e < j:=by
  intro j o d e he;have c:j < ops.size:=by simpa using (eK.1 d).1
  have h1:=(rH j c).1;unfold xn at h1;rw [d] at h1;exact LW (List.all_eq_true.1 h1 e he)
 have P5:∀ i j o p x y,i < j->ops.toList[i]?=some o->ops.toList[j]?=some p->b[i]?=some x->b[j]?=some y ->
   Km x.dst y.dst=false/\(IA ops.toList o p x y=true->NJ ops.toList ops.toList.length i j=true):=by
  intro i j o p x y hij d s z f;have c:j < ops.size:=by simpa using (eK.1 s).1
  have h1:=(rH j c).2 i hij;unfold LX at h1;rw [d,s,z,f] at h1;simp only [bd,Bool.not_eq_true',Bool.or_eq_true] at h1;refine ⟨h1.1,fun T=>?_⟩;rcases h1.2 with h2 | h2
  ·rw [T] at h2;cases h2
  ·exact h2
 -- what is ready
 have Gf:∀ (an:Array Bool),an.size=ops.size->∀ i,i∈Region.ready .any ops an↔(i < ops.size/\an.getD i false=false/\∀ o,ops.toList[i]?=some o->∀ e∈gJ o,an.getD e false=true):=by
  intro an u i;unfold Region.ready;simp only [List.mem_filter,qh,bd,Bool.not_eq_true'];constructor
  ·rintro ⟨h1,h2,h3⟩;have X:i < an.size:=ad;refine ⟨h1,?_,?_⟩
   ·simp only [ke,hH X,Option.getD_some] at h2 ⊢;exact h2
   ·intro o d e he;have B:ops[i]?=some o:=by simpa using d
    simp only [B,Option.map_some,Option.getD_some,Array.all_eq_true'] at h3;simp only [gJ,List.mem_map,List.mem_filter] at he;obtain ⟨Y,⟨H,hbd⟩,rfl⟩:=he;have:=h3 Y (by simpa using H);rw [hbd] at this;simpa only [Bool.not_true,Bool.false_or] using this
  ·rintro ⟨h1,h2,h3⟩;have X:i < an.size:=ad;refine ⟨h1,?_,?_⟩
   ·simp only [ke,hH X,Option.getD_some] at h2 ⊢;exact h2
   ·have d:ops[i]?=some ops[i]:=hH h1;simp only [d,Option.map_some,Option.getD_some,Array.all_eq_true'];intro Y H;simp only [Bool.or_eq_true,Bool.not_eq_true'];cases Z:Region.binds .any Y with
    | false=>exact .inl rfl
    | true =>
     right;exact h3 ops[i] ao Y.on (by simp only [gJ,List.mem_map,List.mem_filter];exact ⟨Y,⟨by simpa using H,Z⟩,rfl⟩)
 intro fuel
 -- the end
 have fin:∀ (an:Array Bool) (a:Act) (w:World) (S:Nat->Prop) (μ:Mu),an.size=ops.size->a.tmps.size=nt->a.defers=ds->(∀ j,j < ops.size->an.getD j false=true) ->
   Good E (ya (fun j=>an.getD j false) b 0 A) S μ w->(∀ k,nk<=k->(∀ j,nk+16 * j<=k->k < nk+16 * j+16->an.getD j false=false)->μ k=none) ->
   (∀ t,av w S μ (a.tmps.getD t undef) (dT (Oj (fun j=>an.getD j false) b 0 F) t))->Q .normal a w:=by
  intro an a w S μ u I U C g J K;have V:∀ m,m < b.length->(fun j=>an.getD j false) (0+m)=true:=fun m iq=>by
   rw [Nat.zero_add];exact C m (by rw [G] at iq;simpa using iq)
  rw [P4 b 0 A _ V] at g;refine hQ a w S μ I U g (fun k kn=>J k ad fun j c M=>?_) (fun t=>by rw [<- UX b 0 F (fun j=>an.getD j false) V];exact K t);have:an.size<=j:=ad;simp [ke,Array.getElem?_eq_none this]
 have agi:∀ (an:Array Bool),an.size=ops.size->(∀ j,an.getD j false=true->∀ o,ops.toList[j]?=some o->∀ e∈gJ o,an.getD e false=true)->Region.ready .any ops an=[]->∀ j,j < ops.size->an.getD j false=true:=by
  intro an u N hr j
  induction j using Nat.strongRecOn with
  | _ j ih =>
   intro c;cases Z:an.getD j false with
   | true=>rfl
   | false =>
    have:j∈Region.ready .any ops an:=(Gf an u j).2 ⟨c,Z,fun o d e he=>ih e (XP j o d e he) (by have:=XP j o d e he;omega)⟩;rw [hr] at this;simp at this
 induction fuel with
 | zero =>
  intro an a w S μ u I U N XQ g J K;simp only [wpAnyIn];have C:∀ j,j < ops.size->an.getD j false=true:=by
   have hle:(an.toList.filter (· == true)).length=an.toList.length:=by
    have h1:=List.length_filter_le (· == true) an.toList;simp at h1 XQ ⊢;omega
   have h2:=List.length_filter_eq_length_iff.1 hle;intro j c;have X:j < an.size:=ad;have:=h2 an[j] ao;simp only [ke,hH X,Option.getD_some];simpa using this
  refine ⟨?_,fin an a w S μ u I U C g J K⟩;cases hr:Region.ready .any ops an with
  | nil=>rfl
  | cons i r =>
   have:=(Gf an u i).1 (by rw [hr];simp);rw [C i this.1] at this;simp at this
 | succ fuel ih =>
  intro an a w S μ u I U N XQ g J K;simp only [wpAnyIn];refine ⟨fun hr=>fin an a w S μ u I U (agi an u N hr) g J K,?_⟩;intro i hi;obtain ⟨mf,W,Lz⟩:=(Gf an u i).1 hi;have agj:i < b.length:=by rw [G];simpa using mf
  have z:b[i]?=some b[i]:=ub agj;obtain ⟨o,d,hev⟩:=tk i _ z;generalize b[i]=x at z hev;have hpx:bg x.SY:=by
   have:∀ (l:List Rec) (i:Nat),bg (D5 l)->l[i]?=some x->bg x.SY:=by
    intro l
    induction l with
    | nil=>intro i _ h;simp at h
    | cons y l ih =>
     intro i h hi;obtain ⟨h1,h2⟩:=bg.app h;cases i with
     | zero=>simp at hi;exact hi ▸ h1
     | succ i=>exact ih i h2 (by simpa using hi)
   exact this b i hp z
  -- an operation that meets this one is carried out just if it stands before it
  have order:∀ (j:Nat) (p:Oper) (y:Rec),j≠i->ops.toList[j]?=some p->b[j]?=some y->ZY ops.toList o p x y->Nat.blt j i=an.getD j false:=by
   intro j p y D hpj hyj T;rcases Nat.lt_or_gt_of_ne D with O | hgt
   ·rw [aci O];exact (wU (L:=fun j=>an.getD j false) N _ j i ((P5 j i p o y x O hpj d hyj z).2 T.symm.IA) (fun o' B e he=>by rw [d] at B;cases B;exact Lz o d e he)).symm
   ·rw [Fg ad];cases Z:an.getD j false with
    | false=>rfl
    | true =>
     have:=wU (L:=fun j=>an.getD j false) N _ i j ((P5 i j o p x y hgt d hpj z hyj).2 T.IA) (fun o' B e he=>N j Z o' B e he);have:an.getD i false=true:=this;rw [W] at this;cases this
  have Kp:∀ (m:Nat) (y:Rec),b[m]?=some y->∃ p,ops.toList[m]?=some p:=fun m y f=>let ⟨p,s,_⟩:=tk m y f;⟨p,s⟩;have agk:Fe P nt ops.toList (nk+16 * i) (Oj (fun j=>an.getD j false) b 0 F) (ya (fun j=>an.getD j false) b 0 A) o (qi orcs i)=some x:=by
   refine T5 hev ?_ ?_
   ·intro t htl;refine Kn b 0 _ _ rfl ?_;intro m y f D anv;rw [Nat.zero_add] at D;obtain ⟨p,s⟩:=Kp m y f
    by_cases F2:m=i
    ·subst F2;exact D (by rw [W,Fg ad])
    ·exact D (order m p y F2 s f (.inr (.inl ⟨t,anv,htl⟩))).symm
   ·intro k hkr;refine HT b 0 _ _ rfl ?_;intro m y f D R;rw [Nat.zero_add] at D;obtain ⟨p,s⟩:=Kp m y f
    by_cases F2:m=i
    ·subst F2;exact D (by rw [W,Fg ad])
    ·exact D (order m p y F2 s f (.inr (.inr (.inr ⟨k,hkr,R⟩)))).symm
  have Z0:i < an.size:=ad;have xC:∀ j,(an.setIfInBounds i true).getD j false=(an.getD j false || Nat.beq j i):=by
   intro j
   by_cases Ix:j=i
   ·subst Ix;rw [uQ rfl,Bool.or_true];simp [ke,Z0]
   ·rw [rL Ix,Bool.or_false];simp only [ke];rw [Array.getElem?_setIfInBounds_ne (fun h=>Ix h.symm)]
  have agl:(fun j=>(an.setIfInBounds i true).getD j false)=fun q=>an.getD q false || Nat.beq q i:=funext xC;have TL:∀ q,q < 16->μ (nk+16 * i+q)=none:=fun q hq=>J _ ad fun j c M=>by
   have Ix:j=i:=ad;rw [Ix];exact W
  refine LS (by simpa using d) K g TL ad (hz i) agk hpx ?_;intro v w' S' ey q1 q2 q3 q4;obtain ⟨d1,d2⟩:=LU agk;refine ih _ _ w' S' ey (by simp [u]) (by rw [Gd];exact I) (by rw [xD];exact U) ?_ ?_ ?_ ?_ ?_
  ·intro j c o' B e he;rw [xC] at c ⊢;rw [Bool.or_eq_true] at c ⊢;rcases c with c | c
   ·exact .inl (N j c o' B e he)
   ·have:=bZ c;subst this;exact .inl (Lz o' B e he)
  ·have T:=count_set an.toList i (by
    rw [Array.getElem?_toList,hH Z0];simp only [ke,hH Z0,Option.getD_some] at W;rw [W])
   rw [Array.toList_setIfInBounds,T];omega
  ·rw [agl];refine q2.congr ?_;intro k;rw [P3 b 0 A (Nat.zero_le _) (by simpa using z) ?_,pO x.pD (ya (fun j=>an.getD j false) b 0 A)];intro m y f O V R anz;rw [Nat.zero_add] at O V;obtain ⟨p,s⟩:=Kp m y f;have:=order m p y ad s f (.inr (.inr (.inl ⟨k,R,.inr anz⟩)));rw [Fg ad] at this;rw [<- this] at V;cases V
  ·intro k kn Oh;have hki:k < nk+16 * i\/nk+16 * i+16<=k:=by
    rcases Nat.lt_or_ge k (nk+16 * i) with h1 | h1
    ·exact .inl h1
    ·rcases Nat.lt_or_ge k (nk+16 * i+16) with h2 | h2
     ·have:=Oh i h1 h2;rw [xC,uQ rfl,Bool.or_true] at this;cases this
     ·exact .inr h2
   refine q3 k hki (J k kn fun j c M=>?_);have:=Oh j c M;rw [xC,Bool.or_eq_false_iff] at this;exact this.1
  ·intro t;rw [agl,UW b 0 F (Nat.zero_le _) (by simpa using z) ?_,Kk a x.dst v t (fun n hn=>by rw [I];exact d2 n (d1 ▸ hn))]
   ·split
    ·exact q4
    ·exact (K t).ext q1
   ·intro m y f O hxd hyd;rw [Nat.zero_add] at O;obtain ⟨p,s⟩:=Kp m y f;have:=(P5 i m o p x y O d s z f).1;rw [hxd,hyd] at this;simp only [Km] at this;rw [uQ rfl] at this;cases this
end
end Go.Ab
namespace Go.Ab
inductive Wd where
 | aj
 | sl (n:Nat) (g:Nat->List AV)
 | mM (n:Nat)
 | xE (k:Nat)
 | pt (b:Bool) (cs:List AV)
 | nq (st:Option Bool) (d:Wd)
 | unq (d:Wd)
 | agg (ds:List Wd)
 | tup (ds:List Wd)
def S4:List AV->List AV->Prop
 | [],[]=>True
 | a :: as,b :: bs=>(a=b\/(a=.nil/\∃ f,b=.sl 0 f))/\S4 as bs
 | _,_=>False
theorem S4.len:∀ {as bs:List AV},S4 as bs->bs.length=as.length
 | [],[],_=>rfl
 | _ :: _,_ :: _,h=>congrArg (·+1) (S4.len h.2)
theorem S4.get:∀ {as bs:List AV} {j:Nat} {x:AV},S4 as bs->bs[j]?=some x->∃ a,as[j]?=some a/\(a=x\/(a=.nil/\∃ f,x=.sl 0 f))
 | [],[],_,_,_,c=>by simp at c
 | a :: _,b :: _,0,x,h,c=>by
  have:b=x:=by simpa using c
  subst this;exact ⟨a,rfl,h.1⟩
 | _ :: as,_ :: bs,j+1,x,h,c=>by
  have:=S4.get (as:=as) (bs:=bs) (j:=j) (x:=x) h.2 (by simpa using c);simpa using this
theorem anA {w:World} {S:Nat->Prop} {μ:Mu} {v:Value} {a x:AV} (h:a=x\/(a=.nil/\∃ f,x=.sl 0 f)) (b:av w S μ v a):av w S μ v x:=by
 rcases h with rfl | ⟨rfl,f,rfl⟩
 ·exact b
 ·cases b;exact .sl 0 0 0 (fun _ _=>undef) (fun h=>absurd h ak) (fun i h=>absurd h (dX _)) (fun i j h=>absurd h (dX _)) (fun i j c h=>absurd h (dX _)) (aV _)
inductive Od where
 | aj (k:Nat)
 | arr (k:Nat) (n:Nat) (g:Nat->List AV)
 | arz (k:Nat) (n:Nat) (g:Nat->List AV)
 | var (k:Nat) (ds:List Wd)
 | mp (k:Nat) (cs:List AV)
 | AO (k:Nat) (n:Nat) (l:List (Nat×Nat×Nat)) (b:Nat->List AV)
 | nim (g:Nat->List AV)
 | nil (sz:Nat) (g:Nat->List AV)
def Od.Fy:Od->Option Nat
 | .aj k | .arr k _ _ | .arz k _ _ | .var k _ | .mp k _ | .AO k _ _ _=>some k
 | .nil _ _ | .nim _=>none
def au:List (Nat×Nat×Nat)->(Nat->List AV)->Nat->List AV
 | [],b,m=>b m
 | (i,k,n) :: r,b,m=>if m=i then [.os k 0 n] else au r b m
def agm (f:Nat->Option Nat):List (Nat×Nat×Nat)->Option (List (Nat×Nat×Nat))
 | []=>some []
 | (i,k,n) :: r=>match f k,agm f r with
  | some k',some l=>some ((i,k',n) :: l)
  | _,_=>none
theorem P6 {f:Nat->Option Nat} {b:Nat->List AV} {m:Nat} (c:dA (b m)=true):∀ {l a:List (Nat×Nat×Nat)},agm f l=some a->AV.BJ f (au l b m)=au a b m
 | [],a,h=>by simp [agm] at h;subst h;exact TI c
 | (i,k,n) :: r,a,h=>by
  simp only [agm] at h;split at h
  ·rename_i k' g d e;cases h;simp only [au];split
   ·simp [AV.BJ,AV.nR,d]
   ·exact P6 c e
  ·cases h
abbrev FV:=List (Nat×Od)
def Bi (m0:Nat):FV->Nat->Option Nat
 | [],k=>match Nat.blt k m0 with
  | true=>some k
  | false=>none
 | (k',d) :: r,k=>match d.Fy with
  | some q=>match Nat.beq q k with
   | true=>some k'
   | false=>Bi m0 r k
  | none=>Bi m0 r k
def Bj:FV->Nat->Option Od
 | [],_=>none
 | (k',d) :: r,k=>match Nat.beq k' k with
  | true=>some d
  | false=>Bj r k
mutual
def P7 (σ:fe) (F:List Nat) (f:Nat->Option Nat) (gV:FV):Wd->AV->Option (List Prop×AV)
 | .aj,x=>some ([],x.nR f)
 | .sl n g,.sl n0 g0=>some ([n0=n,∀ i,i < n->g i=g0 i],.sl n g)
 | .sl n g,.os k off len=>match agf F k,ay σ k with
  | true,some o=>match o.pr with
   | true=>some ([len=n,off+len<=o.len,∀ i,i < n->g i=o.get (da off i)],.sl n g)
   | false=>none
  | _,_=>none
 | .sl n g,.nil=>some ([n=0],.sl n g)
 | .mM n,.os k off len=>(f k).map fun k'=>([len=n],.os k' off n)
 | .xE k',.nil=>match Bj gV k' with
  | some (.nil _ _)=>some ([],.os k' 0 0)
  | some (.nim _)=>some ([],.os k' 0 0)
  | _=>none
 | .pt b cs,.rp a off=>match off with
  | 0=>some ([b=true,cs=a],.pt b cs)
  | _+1=>none
 | .pt b cs,.atom v=>match v with
  | .pointer none=>some ([b=false],.pt b cs)
  | _=>none
 | .pt b cs,.pt h a=>some ([b=h,h=true->cs=a],.pt b cs)
 | .nq st d,.nq e y=>match y with
  | .nq _ _=>none
  | y=>(P7 σ F f gV d y).map fun (p,z)=>((e=st) :: p,.nq st z)
 | .nq st d,.nil=>(P7 σ F f gV d .nil).map fun (p,z)=>((st≠some false) :: p,.nq st z)
 | .nq st d,y=>(P7 σ F f gV d y).map fun (p,z)=>((st=none) :: p,.nq st z)
 | .unq d,.nq _ y=>P7 σ F f gV d y
 | .agg ds,.agg cs=>(wkL σ F f gV ds cs).map fun (p,c)=>(p,.agg c)
 | .tup ds,.tup cs=>(wkL σ F f gV ds cs).map fun (p,c)=>(p,.tup c)
 | _,_=>none
def wkL (σ:fe) (F:List Nat) (f:Nat->Option Nat) (gV:FV):List Wd->List AV->Option (List Prop×List AV)
 | [],[]=>some ([],[])
 | d :: ds,c :: cs=>match P7 σ F f gV d c,wkL σ F f gV ds cs with
  | some (p,x),some (q,xs)=>some (p ++ q,x :: xs)
  | _,_=>none
 | _,_=>none
end
def D6 (σ:fe) (F:List Nat) (f:Nat->Option Nat) (gV:FV):Od->Option (List Prop×Ob)
 | .aj k=>(ay σ k).map fun o=>([],o.nR f)
 | .arr k n g=>match ay σ k with
  | some o=>match o.pr && !o.var && Nat.ble 1 o.sz with
   | true=>some ([o.len=n,∀ i,i < n->g i=o.get i],⟨o.var,o.sz,n,true,g⟩)
   | false=>none
  | none=>none
 | .arz k n g=>match ay σ k with
  | some o=>match o.pr && !o.var && Nat.ble 1 o.sz with
   | true=>some ([n<=o.len,∀ i,i < n->S4 (o.get i) (g i)],⟨o.var,o.sz,n,true,g⟩)
   | false=>none
  | none=>none
 | .var k ds=>match ay σ k with
  | some o=>match o.var && Nat.beq o.len 1 && Nat.ble 1 o.sz,wkL σ F f gV ds (o.get 0) with
   | true,some (p,cs)=>some (p,⟨true,o.sz,1,AV.pX cs,fun _=>cs⟩)
   | _,_=>none
  | none=>none
 | .mp k cs=>match ay σ k with
  | some o=>match Nat.beq o.sz 0 && o.pr && Nat.beq o.len 0 with
   | true=>some ([cs=o.get 0],⟨o.var,o.sz,o.len,true,fun _=>cs⟩)
   | false=>none
  | none=>none
 | .AO k n l b=>match ay σ k,agm f l with
  | some o,some a=>match !o.var && Nat.ble 1 o.sz with
   | true=>some ([o.len=n,∀ i,i < n->au l b i=o.get i,∀ i,i < n->dA (b i)=true],⟨false,o.sz,n,false,au a b⟩)
   | false=>none
  | _,_=>none
 | .nim g=>some ([],⟨false,1,0,false,g⟩)
 | .nil sz g=>match Nat.ble 1 sz with
  | true=>some ([],⟨false,sz,0,true,g⟩)
  | false=>none
def XR (σ:fe) (F:List Nat) (f:Nat->Option Nat) (gV:FV) (tm:List (Nat×AV)):List (Nat×Wd)->Option (List Prop×List (Nat×AV))
 | []=>some ([],[])
 | (t,d) :: r=>match P7 σ F f gV d (dT tm t),XR σ F f gV tm r with
  | some (p,x),some (q,l)=>some (p ++ q,(t,x) :: l)
  | _,_=>none
def XS (σ:fe) (F:List Nat) (f:Nat->Option Nat) (gV:FV):FV->Option (List Prop×fe)
 | []=>some ([],[])
 | (k,d) :: r=>match D6 σ F f gV d,XS σ F f gV r with
  | some (p,o),some (q,l)=>some (p ++ q,(k,o) :: l)
  | _,_=>none
def UZ (m0 nk:Nat) (F:List Nat) (gV:FV):Bool :=
 q0 (gV.map (·.1)) && q0 (gV.filterMap (·.2.Fy)) && (gV.all fun x=>Nat.blt x.1 nk && match x.2.Fy with
  | some k=>!agf F k && (match Nat.blt k m0 with
   | true=>Nat.beq x.1 k || Nat.ble m0 x.1
   | false=>Nat.ble m0 x.1)
  | none=>Nat.ble m0 x.1) && Nat.ble m0 nk
def Ol (m0:Nat) (st:St) (F:List Nat) (a:List (Nat×Wd)) (gV:FV) (nk:Nat):Option (List Prop×St) :=
 match UZ m0 nk F gV,XR st.mg F (Bi m0 gV) gV st.tm a,XS st.mg F (Bi m0 gV) gV gV with
 | true,some (p,tm),some (q,σ)=>some (p ++ q,⟨tm,σ,nk⟩)
 | _,_,_=>none
def Tb (m0:Nat) (μ:Mu) (gV:FV):Mu:=fun k =>
 if k < m0 then μ k else match Bj gV k with
  | some (.nil sz _)=>some ⟨0,0,sz⟩
  | some (.nim _)=>some ⟨0,0,1⟩
  | some d=>d.Fy.bind μ
  | none=>none
section
variable {P:Program} {E:Env} {σ:fe} {S:Nat->Prop} {μ:Mu} {w:World} {m0 nk:Nat} {F:List Nat} {gV:FV}
theorem HW:∀ {gV:FV} {k:Nat} {d:Od},Bj gV k=some d->(k,d)∈gV
 | [],k,d,h=>by simp [Bj] at h
 | (k',a) :: r,k,d,h=>by
  simp only [Bj] at h;split at h
  ·simp_all
  ·exact List.mem_cons_of_mem _ (HW h)
theorem xF:∀ {gV:FV} {k:Nat} {d:Od},q0 (gV.map (·.1))=true->(k,d)∈gV->Bj gV k=some d
 | [],k,d,_,h=>by simp at h
 | (k',e) :: r,k,d,a,h=>by
  simp only [List.map_cons,q0,bd] at a;simp only [Bj];rcases kY.1 h with h | h
  ·cases h;rw [uQ rfl]
  ·have c:¬ k'=k:=by
    rintro rfl;have b:idx (r.map (·.1)) k'=none:=by simpa using a.1
    obtain ⟨i,hi⟩:=List.getElem?_of_mem (List.mem_map.2 ⟨_,h,rfl⟩:k'∈r.map (·.1));exact qG _ _ b i hi
   rw [rL c];exact xF a.2 h
theorem P8:∀ {gV:FV} {k k':Nat},Bi m0 gV k=some k'->(∃ d,(k',d)∈gV/\d.Fy=some k)\/(k < m0/\k'=k)
 | [],k,k',h=>by
  simp only [Bi] at h;split at h
  ·simp_all
  ·cases h
 | (q,d) :: r,k,k',h=>by
  simp only [Bi] at h;have step:Bi m0 r k=some k'->(∃ a,(k',a)∈(q,d) :: r/\a.Fy=some k)\/(k < m0/\k'=k):=fun b=>by
   rcases P8 b with ⟨a,h1,h2⟩ | h1
   ·grind
   ·exact .inr h1
  split at h
  ·rename_i o c;split at h
   ·rename_i e;cases h;exact .inl ⟨d,ao,by rw [c,bZ e]⟩
   ·exact step h
  ·exact step h
structure Names (m0 nk:Nat) (F:List Nat) (gV:FV):Prop where
 nd:q0 (gV.map (·.1))=true
 od:q0 (gV.filterMap (·.2.Fy))=true
 lt:∀ k d,(k,d)∈gV->k < nk
 fr:∀ k d q,(k,d)∈gV->d.Fy=some q->q ∉ F
 lo:∀ k d q,(k,d)∈gV->d.Fy=some q->q < m0->k=q\/m0<=k
 hi:∀ k d q,(k,d)∈gV->d.Fy=some q->m0<=q->m0<=k
 no:∀ k d,(k,d)∈gV->d.Fy=none->m0<=k
 m0:m0<=nk
theorem agn (h:UZ m0 nk F gV=true):Names m0 nk F gV:=by
 unfold UZ at h;simp only [bd,Nat.ble_eq] at h;obtain ⟨⟨⟨h1,h2⟩,h3⟩,h4⟩:=h;have h3:=fun k d (hm:(k,d)∈gV)=>List.all_eq_true.1 h3 (k,d) hm;simp only [bd] at h3;refine ⟨h1,h2,fun k d hm=>LW (h3 k d hm).1,?_,?_,?_,?_,h4⟩
 ·intro k d q hm a c;have:=(h3 k d hm).2;rw [a] at this;simp only [bd,Bool.not_eq_true'] at this;grind [P0]
 ·intro k d q hm a e;have:=(h3 k d hm).2;simp_all [bd,aci,Bool.or_eq_true_iff,bZ,Nat.le_of_ble_eq_true]
 ·intro k d q hm a b;have:=(h3 k d hm).2;simp_all [bd,Fg,Nat.ble_eq]
 ·intro k d hm a;have:=(h3 k d hm).2;rw [a] at this;simpa only [Nat.ble_eq] using this
theorem O9 (N:Names m0 nk F gV) {k k':Nat} {pl:Place} (h:Bi m0 gV k=some k') (hm:μ k=some pl):Tb m0 μ gV k'=some pl:=by
 rcases P8 h with ⟨d,h1,h2⟩ | ⟨h1,rfl⟩
 ·unfold Tb
  by_cases a:k < m0
  ·rcases N.lo k' d k h1 h2 a with h | h
   ·simp_all
   ·rw [if_neg ad,xF N.nd h1];grind [Od.Fy]
  ·have:=N.hi k' d k h1 h2 ad;rw [if_neg ad,xF N.nd h1];grind [Od.Fy]
 simp_all [Tb,if_pos]
theorem IX (N:Names m0 nk F gV) {k k':Nat} {d:Od} (h:(k',d)∈gV) (a:d.Fy=some k):Tb m0 μ gV k'=μ k:=by
 unfold Tb
 by_cases b:k < m0
 ·rcases N.lo k' d k h a b with h1 | h1
  ·simp_all
  ·rw [if_neg ad,xF N.nd h];grind [Od.Fy]
 ·have:=N.hi k' d k h a ad;rw [if_neg ad,xF N.nd h];grind [Od.Fy]
theorem ack (N:Names m0 nk F gV) {k':Nat} {g:Nat->List AV} (h:(k',Od.nim g)∈gV):Tb m0 μ gV k'=some ⟨0,0,1⟩:=by
 have:=N.no k' _ h rfl;unfold Tb;rw [if_neg ad,xF N.nd h]
theorem acm (N:Names m0 nk F gV) {k' sz:Nat} {g:Nat->List AV} (h:(k',Od.nil sz g)∈gV):Tb m0 μ gV k'=some ⟨0,0,sz⟩:=by
 have:=N.no k' _ h rfl;unfold Tb;rw [if_neg ad,xF N.nd h]
theorem acn (g:Good E σ S μ w) (N:Names m0 nk F gV):∀ (d:Wd) (x:AV) (v:Value) (ps:List Prop) (y:AV),av w S μ v x->P7 σ F (Bi m0 gV) gV d x=some (ps,y)->bg ps ->
  av w (SF μ F σ S) (Tb m0 μ gV) v y:=by
 have mono:∀ {v:Value} {x:AV} {ey:Mu},av w S ey v x->av w (SF μ F σ S) ey v x:=fun h=>h.mono (fun _ h=>.inl h) (fun _ _=>rfl) (fun _ _ h=>h);intro d
 induction d using Wd.rec (motive_2:=fun ds=>∀ (cs:List AV) (ps:List Prop) (ys:List AV),wkL σ F (Bi m0 gV) gV ds cs=some (ps,ys)->bg ps ->
   cs.length=ys.length/\∀ (j:Nat) c y v,cs[j]?=some c->ys[j]?=some y->av w S μ v c->av w (SF μ F σ S) (Tb m0 μ gV) v y) with
 | aj =>
  intro x v ps y h hw l;simp only [P7,aX,aQ] at hw;obtain ⟨rfl,rfl⟩:=hw;exact (mono h).nR fun k k' pl hk hm=>O9 N hk hm
 | sl n gt =>
  intro x v ps y h hw l;cases x<;>simp only [P7] at hw<;>try (cases hw;done)
  case sl n0 g0 =>
   simp only [aX,aQ] at hw;obtain ⟨rfl,rfl⟩:=hw;obtain ⟨rfl,p2,_⟩:=l;cases h with
   | sl b off sz f h1 h2 h3 h4 h5 =>
    exact .sl b off sz f (fun J=>⟨(h1 J).1,.inl (h1 J).2⟩) (fun i hi=>by simp_all) h3 (fun i j c hi u=>mono (h4 i j c hi (by simp_all))) h5
  case os k off len =>
   split at hw
   ·rename_i o hF V;split at hw
    ·rename_i Xt;simp only [aX,aQ] at hw;obtain ⟨rfl,rfl⟩:=hw;obtain ⟨rfl,p2,W,_⟩:=l;obtain ⟨pl,c,T,hm,A⟩:=g.rep.ob k o V;cases h with
     | os lL X h1 h2 h3 =>
      rename_i cap a;rw [hm] at X;cases X;refine .sl pl.df (off * pl.sz) o.sz (fun i j=>(c[(off+i) * o.sz+j]?).getD undef) ?_ (fun i hi=>by rw [W i hi,fk];exact A.zF _ ad) ?_ ?_ h2
      ·intro J;exact ⟨h1 ad,.inr ⟨k,o,pl,P0.1 hF,V,hm,ad,rfl⟩⟩
      ·intro i j hi hj;obtain ⟨v,m,B⟩:=dg A (i:=off+i) ad hj;rw [m,A.sz,<- dq,B];rfl
      ·intro i j K hi L;rw [W i hi,fk] at L;obtain ⟨v,m,B⟩:=dg A (i:=off+i) ad (by have:=(eK.1 L).1;rwa [A.zF _ ad] at this);rw [m];have:=A.rep _ j K v ad L m;simp_all
    ·cases hw
   ·cases hw
  case nil =>
   simp only [aX,aQ] at hw;obtain ⟨rfl,rfl⟩:=hw;obtain ⟨rfl,_⟩:=l;cases h;exact .sl 0 0 0 (fun _ _=>undef) (fun h=>absurd h ad) (fun i h=>absurd h ad) (fun i j h=>absurd h ad) (fun i j c h=>absurd h ad) (aV _)
 | mM n =>
  intro x v ps y h hw l;cases x<;>simp only [P7] at hw<;>try (cases hw;done)
  case os k off len =>
   simp only [a4,aQ] at hw;obtain ⟨k',kn,rfl,rfl⟩:=hw;obtain ⟨rfl,_⟩:=l;cases h with
   | os pl hm h1 h2 h3=>exact .os pl (O9 N kn hm) h1 h2 h3
 | xE k' =>
  intro x v ps y h hw l;cases x<;>simp only [P7] at hw<;>try (cases hw;done)
  case nil =>
   split at hw
   ·rename_i sz gt s;simp only [aX,aQ] at hw;obtain ⟨rfl,rfl⟩:=hw;cases h;exact .os ⟨0,0,sz⟩ (acm N (HW s)) (fun h=>absurd h ad) (aV _) ao
   ·rename_i gt s;simp only [aX,aQ] at hw;obtain ⟨rfl,rfl⟩:=hw;cases h;exact .os ⟨0,0,1⟩ (ack N (HW s)) (fun h=>absurd h ad) (aV _) ao
   ·cases hw
 | pt b cs =>
  intro x v ps y h hw l;have other:∀ {b:Bool} {cs:List AV} {v:Value},av w S μ v (.pt b cs)->av w (SF μ F σ S) (Tb m0 μ gV) v (.pt b cs):=fun h=>(mono h).pure rfl _;cases x<;>simp only [P7] at hw<;>try (cases hw;done)
  case rp cs0 off =>
   split at hw
   ·simp only [aX,aQ] at hw;obtain ⟨rfl,rfl⟩:=hw;obtain ⟨rfl,rfl,_⟩:=l;exact other (.pt (fun _=>h) (fun h=>by cases h))
   ·cases hw
  case atom v0 =>
   split at hw
   ·simp only [aX,aQ] at hw;obtain ⟨rfl,rfl⟩:=hw;obtain ⟨rfl,_⟩:=l;exact other (.pt (fun h=>by cases h) (fun _=>eH h))
   ·cases hw
  case pt b0 cs0 =>
   simp only [aX,aQ] at hw;obtain ⟨rfl,rfl⟩:=hw;obtain ⟨rfl,M,_⟩:=l;cases h with
   | pt h1 h2=>exact other (.pt (fun Y=>by rw [M Y];exact h1 Y) h2)
 | nq st d t =>
  intro x v ps y h hw l;have fin:∀ {Z:AV} {p:List Prop} {z:AV},av w S μ v Z->P7 σ F (Bi m0 gV) gV d Z=some (p,z)->bg p->(st=some true->v=.slice none 0 0)->(st=some false->afg v=false)->av w (SF μ F σ S) (Tb m0 μ gV) v (.nq st z) :=
   fun G h1 h2 h3 h4=>.nq (t _ _ _ _ G h1 h2) h3 h4
  cases x with
  | nq H O =>
   have P:∃ p z,P7 σ F (Bi m0 gV) gV d O=some (p,z)/\ps=(H=st) :: p/\y=.nq st z:=by
    cases O<;>simp only [P7,a4,aQ] at hw<;>grind
   obtain ⟨p,z,C,rfl,rfl⟩:=P;obtain ⟨rfl,D⟩:=l;cases h with
   | nq G h1 h2=>exact fin G C D h1 h2
  | nil =>
   simp only [P7,a4,aQ] at hw;obtain ⟨⟨p,z⟩,C,rfl,rfl⟩:=hw;obtain ⟨gU,D⟩:=l;cases h;exact fin .nil C D (fun _=>rfl) (fun e=>absurd e gU)
  | _ =>
   simp only [P7,a4,aQ] at hw;obtain ⟨⟨p,z⟩,C,rfl,rfl⟩:=hw;obtain ⟨rfl,D⟩:=l;grind
 | unq d t =>
  intro x v ps y h hw l;cases x with
  | nq H O =>
   simp only [P7] at hw;cases h with
   | nq G _ _=>exact t _ _ _ _ G hw l
  | _=>grind [P7]
 | agg ds t =>
  intro x v ps y h hw l;cases x<;>simp only [P7] at hw<;>try (cases hw;done)
  case agg cs =>
   simp only [a4,aQ] at hw;obtain ⟨⟨p,c⟩,h1,rfl,rfl⟩:=hw;obtain ⟨m,B⟩:=t cs p c h1 l;cases h with
   | agg h2 h3 =>
    refine .agg (h2.trans m) fun j y v r Q=>?_;have I:j < cs.length:=by rw [m];exact (eK.1 r).1
    exact B j _ y v (ub I) r (h3 j _ v (ub I) Q)
 | tup ds t =>
  intro x v ps y h hw l;cases x<;>simp only [P7] at hw<;>try (cases hw;done)
  case tup cs =>
   simp only [a4,aQ] at hw;obtain ⟨⟨p,c⟩,h1,rfl,rfl⟩:=hw;obtain ⟨m,B⟩:=t cs p c h1 l;cases h with
   | tup h2 h3 =>
    refine .tup (h2.trans m) fun j y v r Q=>?_;have I:j < cs.length:=by rw [m];exact (eK.1 r).1
    exact B j _ y v (ub I) r (h3 j _ v (ub I) Q)
 | nil =>
  rename_i cs ps ys h l;cases cs with
  | nil=>simp [wkL] at h;obtain ⟨_,rfl⟩:=h;exact ⟨rfl,fun j c y v u=>by simp at u⟩
  | cons=>simp [wkL] at h
 | cons d ds R U =>
  rename_i cs ps ys h l;cases cs with
  | nil=>simp [wkL] at h
  | cons c cs =>
   simp only [wkL] at h;split at h
   ·rename_i p x q xs C e2;simp only [aX,aQ] at h;obtain ⟨rfl,rfl⟩:=h;obtain ⟨D1,D⟩:=bg.app l;obtain ⟨r1,r2⟩:=U cs q xs e2 D;refine ⟨by simp [r1],?_⟩;intro j K y v u r hr;cases j with
    | zero=>simp at u r;subst u r;exact R c v p x hr C D1
    | succ j=>exact r2 j K y v (by simpa using u) (by simpa using r) hr
   ·cases h
end
end Go.Ab
