/- Abstract values over the heap of the machine, and functions read off its code (part 3). No conditions. -/
import Derived.Test.YtakkcneiophofaaGreatCb
import Derived.ProofKit
import Derived.Deep.Slices
import Derived.OpenShut
import Derived.ChangeOld
import Derived.SizedLaws
set_option linter.unusedVariables false
set_option linter.unusedSimpArgs false
namespace Go.Ab
def keysOf (u:Upd):List Nat:=u.map (·.1)
section
variable {P:Program} {nk:Nat} {σ σ':Sto}
theorem conds_congr {e e':Operand→AV}:∀ {xs:List Operand},(∀ x∈xs,e' x=e x)→conds e' xs=conds e xs
 | [],_=>rfl
 | x :: r,h=>by simp only [conds];rw [h x (by simp),conds_congr fun y hy=>h y (by simp [hy])]
theorem evOp_e {op:Op} {e e':Operand→AV} {orc:Option Orc} (he:∀ x∈op.operands.toList,e' x=e x):evOp P nk σ op e' orc=evOp P nk σ op e orc:=by
 cases op with
 | move x=>simp only [evOp];rw [he x (by simp [Op.operands])]
 | assign x=>simp only [evOp];rw [he x (by simp [Op.operands])]
 | pick q a b=>simp only [evOp];rw [he q (by simp [Op.operands]),he a (by simp [Op.operands]),he b (by simp [Op.operands])]
 | alloc T=>rfl
 | box T x=>simp only [evOp,conds];rw [he x (by simp [Op.operands])]
 | build t parts =>
  simp only [evOp]
  have h1:∀ x∈parts.toList.map (·.2),e' x=e x:=fun x hx=>he x (by simpa [Op.operands] using hx)
  rw [conds_congr h1]
  congr 2
  apply List.map_congr_left
  intro p hp
  rw [h1 p.2 (List.mem_map.2 ⟨p,hp,rfl⟩)]
 | buildSlice t len parts =>
  simp only [evOp]
  have h1:∀ x∈parts.toList.map (·.2),e' x=e x:=fun x hx=>he x (by simpa [Op.operands] using hx)
  rw [conds_congr h1]
  have h2:(parts.toList.map fun p=>(p.1,(e' p.2).strip.1))=(parts.toList.map fun p=>(p.1,(e p.2).strip.1)):=by
   apply List.map_congr_left
   intro p hp
   rw [h1 p.2 (List.mem_map.2 ⟨p,hp,rfl⟩)]
  rw [h2]
 | load T x=>simp only [evOp,conds];rw [he x (by simp [Op.operands])]
 | store T x y=>simp only [evOp,conds];rw [he x (by simp [Op.operands]),he y (by simp [Op.operands])]
 | nilCheck x=>simp only [evOp,conds];rw [he x (by simp [Op.operands])]
 | binOp o t x y yt=>simp only [evOp,conds];rw [he x (by simp [Op.operands]),he y (by simp [Op.operands])]
 | unOp o t x=>simp only [evOp,conds];rw [he x (by simp [Op.operands])]
 | convert s d x=>simp only [evOp,conds];rw [he x (by simp [Op.operands])]
 | makeMap t r=>cases r<;>simp [evOp]
 | lookup t m x ok=>simp only [evOp,conds];rw [he m (by simp [Op.operands]),he x (by simp [Op.operands])]
 | mapUpdate t m x y=>simp only [evOp,conds];rw [he m (by simp [Op.operands]),he x (by simp [Op.operands]),he y (by simp [Op.operands])]
 | insert t m x y=>simp only [evOp,conds];rw [he m (by simp [Op.operands]),he x (by simp [Op.operands]),he y (by simp [Op.operands])]
 | makeFunc f first cap =>
  simp only [evOp]
  have h1:∀ x∈first.toList ++ cap.toList,e' x=e x:=fun x hx=>he x (by simpa [Op.operands] using hx)
  rw [conds_congr h1]
  congr 3
  ·apply List.map_congr_left;intro x hx;rw [h1 x (by simp only [List.mem_append];exact .inl hx)]
  ·apply List.map_congr_left;intro x hx;rw [h1 x (by simp only [List.mem_append];exact .inr hx)]
 | makeSlice t x y=>simp only [evOp,conds];rw [he x (by simp [Op.operands]),he y (by simp [Op.operands])]
 | slice t x lo hi mx =>
  cases mx with
  | some _=>simp [evOp]
  | none =>
   simp only [evOp]
   have h1:∀ y∈x :: (lo.toList ++ hi.toList),e' y=e y:=fun y hy=>he y (by
    simp only [List.mem_cons,List.mem_append,Option.mem_toList] at hy
    simp only [Op.operands]
    rcases hy with rfl | hy | hy
    ·simp
    ·simp [hy]
    ·simp [hy])
   rw [conds_congr h1,h1 x (by simp)]
   have h2:(lo.map fun x=>(e' x).strip.1)=lo.map fun x=>(e x).strip.1:=by
    cases lo with
    | none=>rfl
    | some y=>simp [h1 y (by simp)]
   have h3:(hi.map fun x=>(e' x).strip.1)=hi.map fun x=>(e x).strip.1:=by
    cases hi with
    | none=>rfl
    | some y=>simp [h1 y (by simp)]
   rw [h2,h3]
 | fieldAddr T x f=>simp only [evOp,conds];rw [he x (by simp [Op.operands])]
 | field T x f=>simp only [evOp,conds];rw [he x (by simp [Op.operands])]
 | indexAddr T x i=>simp only [evOp,conds];rw [he x (by simp [Op.operands]),he i (by simp [Op.operands])]
 | index T x i=>simp only [evOp,conds];rw [he x (by simp [Op.operands]),he i (by simp [Op.operands])]
 | extract x i=>simp only [evOp,conds];rw [he x (by simp [Op.operands])]
 | call c =>
  obtain ⟨callee,args,argTypes⟩:=c
  cases callee with
  | invoke=>simp [evOp]
  | value f =>
   simp only [evOp]
   have h1:∀ x∈f :: args.toList,e' x=e x:=fun x hx=>he x (by simpa [Op.operands,Call.operands] using hx)
   rw [conds_congr h1,h1 f (by simp)]
   have h2:(args.toList.map fun x=>(e' x).strip.1)=args.toList.map fun x=>(e x).strip.1:=by
    apply List.map_congr_left;intro x hx;rw [h1 x (by simp [hx])]
   rw [h2]
  | builtin b =>
   simp only [evOp]
   have h1:∀ x∈args.toList,e' x=e x:=fun x hx=>he x (by simpa [Op.operands,Call.operands] using hx)
   unfold evBuiltin
   split
   ·rename_i x t ha ht
    rw [ha] at h1
    simp only [conds];rw [h1 x (by simp)]
   ·rename_i x y t t' ha ht
    rw [ha] at h1
    simp only [conds];rw [h1 x (by simp),h1 y (by simp)]
   ·rename_i x r ha
    rw [ha] at h1
    dsimp only
    rw [conds_congr h1,h1 x (by simp)]
    have h2:(r.map fun x=>(e' x).strip.1)=r.map fun x=>(e x).strip.1:=by
     apply List.map_congr_left;intro y hy;rw [h1 y (by simp [hy])]
    rw [h2]
   ·rename_i x r ha
    rw [ha] at h1
    dsimp only
    rw [conds_congr h1,h1 x (by simp)]
    have h2:(r.map fun x=>(e' x).strip.1)=r.map fun x=>(e x).strip.1:=by
     apply List.map_congr_left;intro y hy;rw [h1 y (by simp [hy])]
    rw [h2]
   ·rfl
 | _=>simp [evOp]
theorem load_loc {T:TypeId} {a:AV} {ps:List Prop} {x:AV} {rd:List Nat} (h:evLoad P σ T a=some (ps,x,rd)) (hs:∀ k∈rd,sget σ' k=sget σ k):evLoad P σ' T a=some (ps,x,rd):=by
 unfold evLoad at h ⊢
 split at h
 ·split at h
  ·rename_i k i j
   split at h
   ·rename_i o ho
    simp only [Option.map_eq_some_iff,Prod.mk.injEq] at h
    obtain ⟨y,hy,rfl,rfl,rfl⟩:=h
    simp [hs k (by simp),ho,hy]
   ·cases h
  ·exact h
  ·rename_i k i j m q
   have h':=h
   split at h
   ·rename_i o kd ho
    split at h
    ·split at h
     ·rename_i hbq
      simp only [Option.some.injEq,Prod.mk.injEq] at h
      simp only [hs k (by rw [← h.2.2];simp)]
      simp only [hbq] at h'
      exact h'
     ·cases h
    ·cases h
   ·rename_i o ho
    split at h
    ·split at h
     ·rename_i hbq
      simp only [Option.some.injEq,Prod.mk.injEq] at h
      simp only [hs k (by rw [← h.2.2];simp)]
      simp only [hbq] at h'
      exact h'
     ·cases h
    ·cases h
   ·cases h
  ·cases h
 ·cases h
theorem store_loc0 {T:TypeId} {a x:AV} {ps:List Prop} {u:Upd} {rd:List Nat} (h:evStore0 P σ T a x=some (ps,u,rd)) (hs:∀ k∈rd,sget σ' k=sget σ k):evStore0 P σ' T a x=some (ps,u,rd):=by
 unfold evStore0 at h ⊢
 split at h
 ·rename_i k i j ns n h1 h2
  split at h
  ·rename_i o ho
   split at h
   ·rename_i hb
    have h':=h
    simp only [Option.some.injEq,Prod.mk.injEq] at h
    obtain ⟨rfl,rfl,rfl⟩:=h
    simp only [hs k (by simp),ho,hb]
   ·cases h
  ·cases h
 ·cases h
theorem store_loc {T:TypeId} {a x:AV} {ps:List Prop} {u:Upd} {rd:List Nat} (h:evStore P σ T a x=some (ps,u,rd)) (hs:∀ k∈rd,sget σ' k=sget σ k):evStore P σ' T a x=some (ps,u,rd):=by
 unfold evStore at h ⊢
 split at h
 ·rename_i k i j m q
  have h':=h
  split at h
  ·split at h
   ·split at h
    ·simp only [Option.some.injEq,Prod.mk.injEq] at h
     simp only [hs k (by rw [← h.2.2];simp)]
     exact h'
    ·cases h
   ·cases h
  ·split at h
   ·split at h
    ·simp only [Option.some.injEq,Prod.mk.injEq] at h
     simp only [hs k (by rw [← h.2.2];simp)]
     exact h'
    ·cases h
   ·cases h
  ·cases h
 ·exact store_loc0 h hs
theorem indexAddr_loc {T:TypeId} {x i:AV} {ps:List Prop} {v:AV} {rd:List Nat} (h:evIndexAddr P σ T x i=some (ps,v,rd)) (hs:∀ k∈rd,sget σ' k=sget σ k):evIndexAddr P σ' T x i=some (ps,v,rd):=by
 unfold evIndexAddr at h ⊢
 split at h
 ·split at h
  ·rename_i sz hsz
   split at h
   ·rename_i k off len
    split at h
    ·rename_i o ho
     split at h
     ·rename_i hb
      simp only [Option.some.injEq,Prod.mk.injEq] at h
      obtain ⟨rfl,rfl,rfl⟩:=h
      simp only [hs k (by simp),ho,hb]
     ·cases h
    ·cases h
   ·rename_i len get
    exact h
   ·cases h
  ·cases h
 ·split at h
  ·rename_i sz hsz
   exact h
  ·cases h
 ·cases h
theorem slice_loc {T:TypeId} {x:AV} {lo hi:Option AV} {ps:List Prop} {v:AV} {rd:List Nat} (h:evSlice P σ T x lo hi=some (ps,v,rd)) (hs:∀ k∈rd,sget σ' k=sget σ k):evSlice P σ' T x lo hi=some (ps,v,rd):=by
 unfold evSlice at h ⊢
 split at h
 ·exact h
 ·split at h
  ·rename_i sz hsz
   split at h
   ·rename_i k off len
    split at h
    ·rename_i l hh o h1 h2 h3
     split at h
     ·rename_i hb
      simp only [Option.some.injEq,Prod.mk.injEq] at h
      obtain ⟨rfl,rfl,rfl⟩:=h
      simp only [hs k (by simp),h1,h2,h3,hb]
     ·cases h
    ·cases h
   ·exact h
   ·cases h
  ·cases h
 ·cases h
theorem src_loc {sz:Nat} {x:AV} {n:Nat} {g:Nat→List AV} {pr:Bool} {ps:List Prop} {rd:List Nat} (h:srcOf σ sz x=some (n,g,pr,ps,rd)) (hs:∀ k∈rd,sget σ' k=sget σ k):srcOf σ' sz x=some (n,g,pr,ps,rd):=by
 unfold srcOf at h ⊢
 split at h
 ·exact h
 ·exact h
 ·rename_i k off n'
  split at h
  ·rename_i o ho
   split at h
   ·rename_i hb
    have hrd:rd=[k]:=by simp only [Option.some.injEq,Prod.mk.injEq] at h;exact h.2.2.2.2.symm
    simp only [hs k (by simp [hrd]),ho,hb]
    exact h
   ·cases h
  ·cases h
 ·cases h
theorem convM_loc {src dst:TypeId} {x:AV} {ps:List Prop} {v:AV} {rd:List Nat} (h:evConvM P σ src dst x=some (ps,v,rd)) (hs:∀ k∈rd,sget σ' k=sget σ k):evConvM P σ' src dst x=some (ps,v,rd):=by
 unfold evConvM at h ⊢
 split at h
 ·exact h
 ·split at h
  ·rename_i n gt pr qs rd' he hsrc
   simp only [Option.some.injEq,Prod.mk.injEq] at h
   obtain ⟨rfl,rfl,rfl⟩:=h
   rw [src_loc hsrc hs,he]
  ·cases h
 ·cases h
theorem append_loc {t:TypeId} {s x:AV} {ps:List Prop} {v:AV} {rd:List Nat} {u:Upd} (h:evAppend P nk σ t s x=some (ps,v,rd,u)) (hs:∀ k∈rd,sget σ' k=sget σ k):evAppend P nk σ' t s x=some (ps,v,rd,u):=by
 unfold evAppend at h ⊢
 split at h
 ·split at h
  ·rename_i sz b z h1 h2 h3
   split at h
   ·rename_i n g pr ps' rd' hb hsrc
    split at h
    ·have hrd:rd=rd':=by simp only [Option.some.injEq,Prod.mk.injEq] at h;exact h.2.2.1.symm
     rw [src_loc hsrc (fun k hk=>hs k (hrd ▸ hk))]
     simp only [hb]
     exact h
    ·rename_i k len
     split at h
     ·rename_i o ho
      split at h
      ·rename_i hos
       have hrd:rd=k :: rd':=by simp only [Option.some.injEq,Prod.mk.injEq] at h;exact h.2.2.1.symm
       rw [src_loc hsrc (fun k hk=>hs k (by rw [hrd];simp [hk]))]
       simp only [hb,hs k (by simp [hrd]),ho,hos]
       exact h
      ·cases h
     ·cases h
    ·cases h
   ·cases h
  ·cases h
 ·cases h
mutual
theorem lend_loc {ks:List Nat}:∀ (x y:AV) (bs:List Nat) (ps:List Prop),x.lend σ ks=some (y,bs,ps)→(∀ k∈bs,sget σ' k=sget σ k)→x.lend σ' ks=some (y,bs,ps)
 | .op k i j,y,bs,ps,h,_=>by simpa [AV.lend] using h
 | .mp k,y,bs,ps,h,_=>by simpa [AV.lend] using h
 | .ov _ _ _ _ _,y,bs,ps,h,_=>by simp [AV.lend] at h
 | .bn _,y,bs,ps,h,_=>by simpa [AV.lend] using h
 | .pt _ _,y,bs,ps,h,_=>by simpa [AV.lend] using h
 | .os k off len,y,bs,ps,h,hs=>by
  simp only [AV.lend] at h ⊢
  split at h
  ·rename_i n hn;exact h
  ·rename_i hn
   split at h
   ·rename_i o ho
    split at h
    ·rename_i hp
     have hb:bs=[k]:=by simp only [Option.some.injEq,Prod.mk.injEq] at h;exact h.2.1.symm
     simp only [hs k (by simp [hb]),ho,hp]
     exact h
    ·cases h
   ·cases h
 | .agg cs,y,bs,ps,h,hs=>by
  simp only [AV.lend,Option.map_eq_some_iff] at h ⊢
  obtain ⟨⟨a,b,c⟩,h,e⟩:=h
  simp only [Prod.mk.injEq] at e
  obtain ⟨rfl,rfl,rfl⟩:=e
  exact ⟨(a,b,c),lendL_loc cs a b c h hs,rfl⟩
 | .tup cs,y,bs,ps,h,hs=>by
  simp only [AV.lend,Option.map_eq_some_iff] at h ⊢
  obtain ⟨⟨a,b,c⟩,h,e⟩:=h
  simp only [Prod.mk.injEq] at e
  obtain ⟨rfl,rfl,rfl⟩:=e
  exact ⟨(a,b,c),lendL_loc cs a b c h hs,rfl⟩
 | .fn g x z,y,bs,ps,h,hs=>by
  simp only [AV.lend] at h ⊢
  split at h
  ·rename_i a b c a' b' c' e1 e2
   simp only [Option.some.injEq,Prod.mk.injEq] at h
   obtain ⟨rfl,rfl,rfl⟩:=h
   rw [lendL_loc x a b c e1 (fun k hk=>hs k (by simp [hk])),lendL_loc z a' b' c' e2 (fun k hk=>hs k (by simp [hk]))]
  ·cases h
 | .when _ _,y,bs,ps,h,_=>by simp [AV.lend] at h
 | .mr _ _ _,y,bs,ps,h,_=>by simp [AV.lend] at h
 | .atom _,y,bs,ps,h,_=>by simpa [AV.lend] using h
 | .sl _ _,y,bs,ps,h,_=>by simpa [AV.lend] using h
 | .rp _ _,y,bs,ps,h,_=>by simpa [AV.lend] using h
 | .nil,y,bs,ps,h,_=>by simpa [AV.lend] using h
 | .unk,y,bs,ps,h,_=>by simpa [AV.lend] using h
theorem lendL_loc {ks:List Nat}:∀ (xs ys:List AV) (bs:List Nat) (ps:List Prop),AV.lendL σ ks xs=some (ys,bs,ps)→(∀ k∈bs,sget σ' k=sget σ k)→AV.lendL σ' ks xs=some (ys,bs,ps)
 | [],ys,bs,ps,h,_=>by simpa [AV.lendL] using h
 | c :: cs,ys,bs,ps,h,hs=>by
  simp only [AV.lendL] at h ⊢
  split at h
  ·rename_i a b p a' b' p' e1 e2
   simp only [Option.some.injEq,Prod.mk.injEq] at h
   obtain ⟨rfl,rfl,rfl⟩:=h
   rw [lend_loc c a b p e1 (fun k hk=>hs k (by simp [hk])),lendL_loc cs a' b' p' e2 (fun k hk=>hs k (by simp [hk]))]
  ·cases h
end
theorem canon_loc {ks:List Nat}:∀ (l:List Nat) (i:Nat),(∀ k∈l,sget σ' k=sget σ k)→canon σ' ks i l=canon σ ks i l
 | [],i,_=>rfl
 | k :: r,i,h=>by simp only [canon];rw [h k (by simp),canon_loc r (i+1) fun k hk=>h k (by simp [hk])]
theorem sameOk_loc {ks:List Nat} {lone:Bool}:∀ (l:List Nat),(∀ k∈l,sget σ' k=sget σ k)→sameOk σ' ks lone l=sameOk σ ks lone l
 | [],_=>rfl
 | k :: r,h=>by simp only [sameOk];rw [h k (by simp),sameOk_loc r fun k hk=>h k (by simp [hk])]
theorem call_loc {f:AV} {args:List AV} {orc:Orc} {r:R} (h:evCall P nk σ f args orc=some r) (hs:∀ k∈r.rds,sget σ' k=sget σ k):evCall P nk σ' f args orc=some r:=by
 unfold evCall evCallG at h ⊢
 split at h
 case h_2=>cases h
 rename_i gid first cap
 split at h
 case h_2=>cases h
 rename_i as bs ps σc h1 h2 h3
 split at h
 case h_2=>cases h
 rename_i h4
 have hr:r.rds=orc.ks ++ bs:=by
  split at h
  ·split at h
   ·cases h;rfl
   ·cases h
  ·split at h
   ·cases h;rfl
   ·cases h
 rw [hr] at hs
 simp only [h1,lendL_loc _ _ _ _ h2 (fun k hk=>hs k (by simp [hk])),canon_loc orc.ks 0 (fun k hk=>hs k (by simp [hk])),sameOk_loc (ks:=orc.ks) (lone:=bs.isEmpty || orc.frz) orc.ks (fun k hk=>hs k (by simp [hk])),h3,h4]
 exact h
theorem lookup_loc {t:TypeId} {m x:AV} {ok:Bool} {orc:Orc} {ps:List Prop} {v:AV} {rd:List Nat} (h:evLookup P σ t m x ok orc=some (ps,v,rd)) (hs:∀ k∈rd,sget σ' k=sget σ k):evLookup P σ' t m x ok orc=some (ps,v,rd):=by
 unfold evLookup at h ⊢
 split at h
 ·rename_i k kt et ht
  split at h
  ·rename_i d o z hd ho hz
   split at h
   ·rename_i hb
    have hk:sget σ' k=some o:=by
     rw [← ho]
     refine hs k ?_
     split at h
     ·simp only [Option.some.injEq,Prod.mk.injEq] at h;obtain ⟨_,_,rfl⟩:=h;simp
     ·simp only [Option.some.injEq,Prod.mk.injEq] at h;obtain ⟨_,_,rfl⟩:=h;simp
    simp only [ht,hd,hk,hz,hb]
    exact h
   ·cases h
  ·cases h
 ·cases h
theorem mapUpd_loc {t:TypeId} {m x y:AV} {orc:Orc} {ps:List Prop} {u:Upd} {rd:List Nat} (h:evMapUpd P σ t m x y orc=some (ps,u,rd)) (hs:∀ k∈rd,sget σ' k=sget σ k):evMapUpd P σ' t m x y orc=some (ps,u,rd):=by
 unfold evMapUpd at h ⊢
 split at h
 ·rename_i k kt et cs ht hres
  split at h
  ·rename_i d o hd ho
   split at h
   ·rename_i hb
    have hk:sget σ' k=some o:=by
     rw [← ho]
     refine hs k ?_
     simp only [Option.some.injEq,Prod.mk.injEq] at h;obtain ⟨_,_,rfl⟩:=h;simp
    simp only [ht,hres,hd,hk,hb]
    exact h
   ·cases h
  ·cases h
 ·cases h
theorem evOp_loc {op:Op} {e:Operand→AV} {orc:Option Orc} {r:R} (h:evOp P nk σ op e orc=some r) (hs:∀ k∈r.rds,sget σ' k=sget σ k):evOp P nk σ' op e orc=some r:=by
 cases op with
 | load T x =>
  simp only [evOp,Option.map_eq_some_iff] at h ⊢
  obtain ⟨⟨ps,v,rd⟩,h1,rfl⟩:=h
  exact ⟨_,load_loc h1 hs,rfl⟩
 | store T x y =>
  simp only [evOp,Option.map_eq_some_iff] at h ⊢
  obtain ⟨⟨ps,v,rd⟩,h1,rfl⟩:=h
  exact ⟨_,store_loc h1 hs,rfl⟩
 | indexAddr T x i =>
  simp only [evOp,Option.map_eq_some_iff] at h ⊢
  obtain ⟨⟨ps,v,rd⟩,h1,rfl⟩:=h
  exact ⟨_,indexAddr_loc h1 hs,rfl⟩
 | slice t x lo hi mx =>
  cases mx with
  | some _=>simp [evOp] at h
  | none =>
   simp only [evOp,Option.map_eq_some_iff] at h ⊢
   obtain ⟨⟨ps,v,rd⟩,h1,rfl⟩:=h
   exact ⟨_,slice_loc h1 hs,rfl⟩
 | convert src dst x =>
  simp only [evOp] at h ⊢
  split at h
  ·rename_i v h1
   exact h
  ·rename_i h0
   simp only [Option.map_eq_some_iff] at h ⊢
   obtain ⟨⟨ps,v,rd⟩,h1,rfl⟩:=h
   exact ⟨_,convM_loc h1 hs,rfl⟩
 | makeMap t r=>cases r with
  | none=>exact h
  | some _=>simp [evOp] at h
 | lookup t m x ok =>
  simp only [evOp] at h ⊢
  split at h
  ·simp only [Option.map_eq_some_iff] at h ⊢
   obtain ⟨⟨ps,v,rd⟩,h1,rfl⟩:=h
   exact ⟨_,lookup_loc h1 hs,rfl⟩
  ·cases h
 | mapUpdate t m x y =>
  simp only [evOp] at h ⊢
  split at h
  ·simp only [Option.map_eq_some_iff] at h ⊢
   obtain ⟨⟨ps,u,rd⟩,h1,rfl⟩:=h
   exact ⟨_,mapUpd_loc h1 hs,rfl⟩
  ·cases h
 | insert t m x y =>
  simp only [evOp] at h ⊢
  split at h
  ·simp only [Option.map_eq_some_iff] at h ⊢
   obtain ⟨⟨ps,u,rd⟩,h1,rfl⟩:=h
   exact ⟨_,mapUpd_loc h1 hs,rfl⟩
  ·cases h
 | call c =>
  obtain ⟨callee,args,argTypes⟩:=c
  cases callee with
  | invoke=>simp [evOp] at h
  | value f =>
   simp only [evOp] at h ⊢
   split at h
   ·simp only [Option.map_eq_some_iff] at h ⊢
    obtain ⟨r',h1,rfl⟩:=h
    exact ⟨_,call_loc h1 hs,rfl⟩
   ·cases h
  | builtin b =>
   simp only [evOp] at h ⊢
   unfold evBuiltin at h ⊢
   split at h
   ·exact h
   ·split at h
    ·simp only [Option.map_eq_some_iff] at h ⊢
     obtain ⟨⟨ps,v,rd,u⟩,h1,rfl⟩:=h
     exact ⟨_,append_loc h1 hs,rfl⟩
    ·cases h
   ·exact h
   ·exact h
   ·cases h
 | _=>exact h
theorem evOpM_e {op:Op} {e e':Operand→AV} {orc:Option Orc} (he:∀ x∈op.operands.toList,e' x=e x):evOpM P nk σ op e' orc=evOpM P nk σ op e orc:=by
 unfold evOpM
 split
 ·exact evOp_e he
 ·split
  ·rename_i T x
   simp only [conds];rw [he x (by simp [Op.operands])]
  ·rename_i args tys
   have h1:∀ x∈args.toList,e' x=e x:=fun x hx=>he x (by simpa [Op.operands,Call.operands] using hx)
   split
   ·rename_i x y t t' ha ht
    rw [ha] at h1
    simp only [conds];rw [h1 x (by simp),h1 y (by simp)]
   ·rfl
  ·rename_i args tys
   have h1:∀ x∈args.toList,e' x=e x:=fun x hx=>he x (by simpa [Op.operands,Call.operands] using hx)
   split
   ·rename_i x t ha ht
    rw [ha] at h1
    simp only [conds];rw [h1 x (by simp)]
   ·rfl
  ·rename_i t x lo hi mx
   have h1:e' x=e x:=he x (by simp [Op.operands])
   have h2:∀ y∈lo,e' y=e y:=fun y hy=>he y (by cases hy;simp [Op.operands])
   have h3:∀ y∈hi,e' y=e y:=fun y hy=>he y (by cases hy;simp [Op.operands])
   have h4:∀ y∈mx,e' y=e y:=fun y hy=>he y (by cases hy;simp [Op.operands])
   split
   ·have e2:(lo.map fun y=>(e' y).strip.1)=lo.map fun y=>(e y).strip.1:=by
     cases lo with
     | none=>rfl
     | some y=>simp only [Option.map_some];rw [h2 y rfl]
    have e3:(hi.map fun y=>(e' y).strip.1)=hi.map fun y=>(e y).strip.1:=by
     cases hi with
     | none=>rfl
     | some y=>simp only [Option.map_some];rw [h3 y rfl]
    have e4:conds e' (x :: (lo.toList ++ hi.toList))=conds e (x :: (lo.toList ++ hi.toList)):=conds_congr fun y hy=>by
     simp only [List.mem_cons,List.mem_append,Option.mem_toList] at hy
     rcases hy with rfl | hy | hy
     ·exact h1
     ·exact h2 _ hy
     ·exact h3 _ hy
    rw [h1,e2,e3,e4]
   ·split
    ·rename_i l h
     simp only [conds];rw [h1,h2 l rfl,h3 h rfl,h4 _ rfl]
    ·rfl
  ·exact evOp_e he
theorem loadO_loc {T:TypeId} {a x:AV} {ps:List Prop} {y:AV} {rd:List Nat} (h:evLoadO P σ T a x=some (ps,y,rd)) (hs:∀ k∈rd,sget σ' k=sget σ k):evLoadO P σ' T a x=some (ps,y,rd):=by
 unfold evLoadO at h ⊢
 split at h
 case h_2=>cases h
 rename_i k i j d n hd hn
 split at h
 case h_2=>cases h
 rename_i o h1 h2 ho
 have hrd:rd=[k]:=by simp only [Option.some.injEq,Prod.mk.injEq] at h;exact h.2.2.symm
 simp only [hd,hn,h1,h2,hs k (by simp [hrd]),ho]
 exact h
theorem supd_at:∀ (u:Upd) (n:Nat),(∀ τ τ':Sto,sget (supd τ u) n=sget (supd τ' u) n)∨∀ τ:Sto,sget (supd τ u) n=sget τ n
 | [],n=>.inr fun _=>rfl
 | (k,some o) :: u,n=>by
  simp only [supd]
  rcases supd_at u n with h | h
  ·exact .inl fun τ τ'=>h _ _
  ·by_cases hk:k=n
   ·exact .inl fun τ τ'=>by rw [h,h,sget_sset,sget_sset,if_pos hk,if_pos hk]
   ·exact .inr fun τ=>by rw [h,sget_sset,if_neg hk]
 | (k,none) :: u,n=>by
  simp only [supd]
  rcases supd_at u n with h | h
  ·exact .inl fun τ τ'=>h _ _
  ·by_cases hk:k=n
   ·exact .inl fun τ τ'=>by rw [h,h,sget_sdel,sget_sdel,if_pos hk,if_pos hk]
   ·exact .inr fun τ=>by rw [h,sget_sdel,if_neg hk]
theorem cls_loc {τ τ':Sto} {k q i:Nat} (h1:sget τ' k=sget τ k) (h2:sget τ' q=sget τ q):clsP τ' k q i=clsP τ k q i:=by
 unfold clsP;rw [h1,h2]
theorem appendC_loc {t:TypeId} {s x:AV} {orc:Orc} {ps:List Prop} {v:AV} {rd:List Nat} {u:Upd} (h:evAppendC P nk σ t s x orc=some (ps,v,rd,u)) (hs:∀ k∈rd,sget σ' k=sget σ k):evAppendC P nk σ' t s x orc=some (ps,v,rd,u):=by
 unfold evAppendC at h ⊢
 split at h
 case h_2=>cases h
 rename_i q p1 v' rd' u1 hq ha
 split at h
 case h_2=>cases h
 rename_i p2 u2 hb hc
 have hrd:rd=q :: rd':=by simp only [Option.some.injEq,Prod.mk.injEq] at h;exact h.2.2.1.symm
 have ha':=append_loc ha (fun k hk=>hs k (by rw [hrd];simp [hk]))
 have hnk:sget (supd σ' u1) nk=sget (supd σ u1) nk:=by
  have hu:∃ o,u1=[(nk,some o)]∨∃ k,u1=[(k,none),(nk,some o)]:=by
   unfold evAppend at ha
   split at ha
   ·split at ha
    ·split at ha
     ·split at ha
      ·simp only [Option.some.injEq,Prod.mk.injEq] at ha
       exact ⟨_,.inl ha.2.2.2.symm⟩
      ·split at ha
       ·split at ha
        ·simp only [Option.some.injEq,Prod.mk.injEq] at ha
         exact ⟨_,.inr ⟨_,ha.2.2.2.symm⟩⟩
        ·cases ha
       ·cases ha
      ·cases ha
     ·cases ha
    ·cases ha
   ·cases ha
  obtain ⟨o,rfl | ⟨k,rfl⟩⟩:=hu<;>simp only [supd]<;>rw [sget_sset,sget_sset,if_pos rfl,if_pos rfl]
 have hqq:sget (supd σ' u1) q=sget (supd σ u1) q:=by
  rcases supd_at u1 q with h1 | h1
  ·exact h1 _ _
  ·rw [h1,h1];exact hs q (by simp [hrd])
 simp only [hq,ha',hb,cls_loc hnk hqq,hc]
 exact h
theorem sliceC_loc {T:TypeId} {x:AV} {lo hi:Option AV} {ps:List Prop} {v:AV} {rd:List Nat} (h:evSliceC P σ T x lo hi=some (ps,v,rd)) (hs:∀ k∈rd,sget σ' k=sget σ k):evSliceC P σ' T x lo hi=some (ps,v,rd):=by
 unfold evSliceC at h ⊢
 split at h
 case h_2=>cases h
 rename_i e k off len hu
 split at h
 case h_2=>cases h
 rename_i sz l hh o hsz hl hh' ho
 split at h
 case h_2=>cases h
 rename_i hb
 have hrd:rd=[k]:=by simp only [Option.some.injEq,Prod.mk.injEq] at h;exact h.2.2.symm
 simp only [hsz,hl,hh',hs k (by simp [hrd]),ho,hb]
 exact h
theorem appI_loc {t:TypeId} {s x:AV} {ps:List Prop} {v:AV} {rd:List Nat} {u:Upd} (h:evAppI P σ t s x=some (ps,v,rd,u)) (hs:∀ k∈rd,sget σ' k=sget σ k):evAppI P σ' t s x=some (ps,v,rd,u):=by
 unfold evAppI at h ⊢
 split at h
 case h_2=>cases h
 rename_i e he
 split at h
 case h_2=>cases h
 rename_i sz b z k len k' off n hsz hb hz
 split at h
 case h_2=>cases h
 rename_i o hkk ho
 split at h
 case h_2=>cases h
 rename_i hbb
 have hrd:rd=[k]:=by simp only [Option.some.injEq,Prod.mk.injEq] at h;exact h.2.2.1.symm
 simp only [he,hsz,hb,hz,hkk,hs k (by simp [hrd]),ho,hbb]
 exact h
theorem clear_loc {t:TypeId} {x:AV} {ps:List Prop} {v:AV} {rd:List Nat} {u:Upd} (h:evClear P σ t x=some (ps,v,rd,u)) (hs:∀ k∈rd,sget σ' k=sget σ k):evClear P σ' t x=some (ps,v,rd,u):=by
 unfold evClear at h ⊢
 split at h
 case h_2=>cases h
 rename_i e he
 split at h
 case h_2=>cases h
 rename_i sz b z k off n hsz hb hz
 split at h
 case h_2=>cases h
 rename_i o ho
 split at h
 case h_2=>cases h
 rename_i hbb
 have hrd:rd=[k]:=by simp only [Option.some.injEq,Prod.mk.injEq] at h;exact h.2.2.1.symm
 simp only [he,hsz,hb,hz,hs k (by simp [hrd]),ho,hbb]
 exact h
theorem evOpM_loc {op:Op} {e:Operand→AV} {orc:Option Orc} {r:R} (h:evOpM P nk σ op e orc=some r) (hs:∀ k∈r.rds,sget σ' k=sget σ k):evOpM P nk σ' op e orc=some r:=by
 unfold evOpM at h ⊢
 split at h
 ·exact evOp_loc h hs
 ·rename_i q h0
  split at h
  ·simp only [Option.map_eq_some_iff] at h ⊢
   obtain ⟨⟨ps,v,rd⟩,h1,rfl⟩:=h
   exact ⟨_,loadO_loc h1 hs,rfl⟩
  ·split at h
   ·rename_i x y t t' ha ht
    split at h
    ·rename_i hb
     simp only [Option.map_eq_some_iff] at h
     obtain ⟨⟨ps,v,rd,u⟩,h1,rfl⟩:=h
     simp only [ha,ht,hb,Option.map_eq_some_iff]
     refine ⟨⟨ps,v,rd,u⟩,?_,rfl⟩
     split at h1
     ·exact appI_loc h1 hs
     ·exact appendC_loc h1 hs
    ·cases h
   ·cases h
  ·split at h
   ·rename_i x t ha ht
    simp only [Option.map_eq_some_iff] at h
    obtain ⟨⟨ps,v,rd,u⟩,h1,rfl⟩:=h
    simp only [ha,ht,Option.map_eq_some_iff]
    exact ⟨_,clear_loc h1 hs,rfl⟩
   ·cases h
  ·split at h
   ·simp only [Option.map_eq_some_iff] at h ⊢
    obtain ⟨⟨ps,v,rd⟩,h1,rfl⟩:=h
    exact ⟨_,sliceC_loc h1 hs,rfl⟩
   ·exact h
  ·exact evOp_loc h hs
end
end Go.Ab
namespace Go.Ab
def hasK (l:List Nat) (k:Nat):Bool:=l.any fun x=>Nat.beq x k
theorem hasK_iff {l:List Nat} {k:Nat}:hasK l k=true↔k∈l:=by
 simp only [hasK,List.any_eq_true]
 constructor
 ·rintro ⟨x,hx,hb⟩;exact Nat.eq_of_beq_eq_true hb ▸ hx
 ·intro h;exact ⟨k,h,beq_t rfl⟩
theorem blt_t {a b:Nat} (h:a < b):Nat.blt a b=true:=by
 simp only [Nat.blt,Nat.ble_eq];exact h
theorem blt_f {a b:Nat} (h:¬ a < b):Nat.blt a b=false:=by
 cases hb:Nat.blt a b with
 | false=>rfl
 | true=>simp only [Nat.blt,Nat.ble_eq] at hb;exact (h hb).elim
theorem blt_lt {a b:Nat} (h:Nat.blt a b=true):a < b:=by
 simp only [Nat.blt,Nat.ble_eq] at h;exact h
def tmpsOf:List Operand→List Nat
 | []=>[]
 | .tmp t :: r=>t :: tmpsOf r
 | _ :: r=>tmpsOf r
def looks (ops:List Oper) (o:Oper):List Nat :=
 tmpsOf o.op.operands.toList ++ (match o.guard with
  | some (j,_)=>(dstOf ops j).toList
  | none=>[])
theorem mem_tmpsOf:∀ {l:List Operand} {t:Nat},Operand.tmp t∈l→t∈tmpsOf l
 | [],_,h=>by simp at h
 | x :: r,t,h=>by
  rcases List.mem_cons.1 h with rfl | h'
  ·simp [tmpsOf]
  ·have:=mem_tmpsOf h'
   cases x<;>simp [tmpsOf,this]
def edgesOf (o:Oper):List Nat:=(o.after.toList.filter (Region.binds .any ·)).map (·.on)
def isAnc (ops:List Oper):Nat→Nat→Nat→Bool
 | 0,_,_=>false
 | n+1,i,j=>match ops[j]? with
  | none=>false
  | some o=>(edgesOf o).any fun e=>Nat.beq e i || isAnc ops n i e
def sameDst:Option Nat→Option Nat→Bool
 | some a,some b=>Nat.beq a b
 | _,_=>false
def meets (l m:List Nat):Bool:=l.any fun k=>hasK m k
def clash (ops:List Oper) (o p:Oper) (x y:Rec):Bool :=
 meets x.dst.toList (looks ops p) || meets y.dst.toList (looks ops o) || meets (keysOf x.upd) (y.rds ++ keysOf y.upd) || meets x.rds (keysOf y.upd)
def pairOk (ops:List Oper) (recs:List Rec) (i j:Nat):Bool :=
 match ops[i]?,ops[j]?,recs[i]?,recs[j]? with
 | some o,some p,some x,some y=>!sameDst x.dst y.dst && (!clash ops o p x y || isAnc ops ops.length i j)
 | _,_,_,_=>false
def edgesOk (ops:List Oper) (j:Nat):Bool :=
 match ops[j]? with
 | some o=>(edgesOf o).all fun e=>Nat.blt e j
 | none=>false
def drawOk (ops:List Oper) (recs:List Rec):Bool :=
 (List.range ops.length).all fun j=>edgesOk ops j && (List.range j).all fun i=>pairOk ops recs i j
def tmL (L:Nat→Bool):List Rec→Nat→List (Nat×AV)→List (Nat×AV)
 | [],_,tm=>tm
 | x :: r,i,tm=>tmL L r (i+1) (match L i with
  | true=>putTm tm x.dst x.val
  | false=>tm)
def stoL (L:Nat→Bool):List Rec→Nat→Sto→Sto
 | [],_,σ=>σ
 | x :: r,i,σ=>stoL L r (i+1) (match L i with
  | true=>supd σ x.upd
  | false=>σ)
theorem supd_get:∀ (u:Upd) (σ:Sto) (k:Nat),sget (supd σ u) k=if k∈keysOf u then sget (supd [] u) k else sget σ k
 | [],σ,k=>by simp [keysOf,supd]
 | (n,some o) :: r,σ,k=>by
  simp only [supd]
  rw [supd_get r (sset σ n o) k,supd_get r (sset [] n o) k,sget_sset,sget_sset]
  by_cases h1:k∈keysOf r
  ·simp [keysOf] at h1 ⊢;simp [h1]
  ·by_cases h2:n=k
   ·subst h2;simp [keysOf]
   ·have:¬ k∈keysOf ((n,some o) :: r):=by simp [keysOf] at h1 ⊢;exact ⟨fun h=>h2 h.symm,h1⟩
    rw [if_neg h1,if_neg h2,if_neg this]
 | (n,none) :: r,σ,k=>by
  simp only [supd]
  rw [supd_get r (sdel σ n) k,supd_get r (sdel [] n) k,sget_sdel,sget_sdel]
  by_cases h1:k∈keysOf r
  ·simp [keysOf] at h1 ⊢;simp [h1]
  ·by_cases h2:n=k
   ·subst h2;simp [keysOf]
   ·have:¬ k∈keysOf ((n,none) :: r):=by simp [keysOf] at h1 ⊢;exact ⟨fun h=>h2 h.symm,h1⟩
    rw [if_neg h1,if_neg h2,if_neg this]
theorem tm_agree {L L':Nat→Bool} {t:Nat}:∀ (recs:List Rec) (i:Nat) (tm tm':List (Nat×AV)),getTm tm t=getTm tm' t →
  (∀ (m:Nat) (x:Rec),recs[m]?=some x→L (i+m)≠L' (i+m)→x.dst≠some t)→getTm (tmL L recs i tm) t=getTm (tmL L' recs i tm') t
 | [],_,_,_,h,_=>h
 | x :: r,i,tm,tm',h,hd=>by
  simp only [tmL]
  refine tm_agree r (i+1) _ _ ?_ (fun m y hy hne=>hd (m+1) y (by simpa using hy) (by rw [show i+(m+1)=i+1+m by omega];exact hne))
  by_cases he:L i=L' i
  ·rw [he]
   split
   ·rw [getTm_put,getTm_put]
    split
    ·rfl
    ·exact h
   ·exact h
  ·have:=hd 0 x (by simp) (by simpa using he)
   have e1:getTm (putTm tm x.dst x.val) t=getTm tm t:=by rw [getTm_put,if_neg this]
   have e2:getTm (putTm tm' x.dst x.val) t=getTm tm' t:=by rw [getTm_put,if_neg this]
   split<;>split<;>simp [e1,e2,h]
theorem sto_agree {L L':Nat→Bool} {k:Nat}:∀ (recs:List Rec) (i:Nat) (σ σ':Sto),sget σ k=sget σ' k →
  (∀ (m:Nat) (x:Rec),recs[m]?=some x→L (i+m)≠L' (i+m)→k ∉ keysOf x.upd)→sget (stoL L recs i σ) k=sget (stoL L' recs i σ') k
 | [],_,_,_,h,_=>h
 | x :: r,i,σ,σ',h,hd=>by
  simp only [stoL]
  refine sto_agree r (i+1) _ _ ?_ (fun m y hy hne=>hd (m+1) y (by simpa using hy) (by rw [show i+(m+1)=i+1+m by omega];exact hne))
  by_cases he:L i=L' i
  ·rw [he]
   split
   ·rw [supd_get,supd_get x.upd σ']
    split
    ·rfl
    ·exact h
   ·exact h
  ·have:=hd 0 x (by simp) (by simpa using he)
   have e1:sget (supd σ x.upd) k=sget σ k:=by rw [supd_get,if_neg this]
   have e2:sget (supd σ' x.upd) k=sget σ' k:=by rw [supd_get,if_neg this]
   split<;>split<;>simp [e1,e2,h]
theorem tm_more {L:Nat→Bool} {i0:Nat} {x:Rec} {t:Nat}:∀ (recs:List Rec) (i:Nat) (tm:List (Nat×AV)),i≤i0→recs[i0 - i]?=some x →
  (∀ (m:Nat) (y:Rec),recs[m]?=some y→i0 < i+m→x.dst=some t→y.dst≠some t) →
  getTm (tmL (fun q=>L q || Nat.beq q i0) recs i tm) t=if x.dst=some t then x.val else getTm (tmL L recs i tm) t
 | [],i,tm,_,h,_=>by simp at h
 | y :: r,i,tm,hi,h,hd=>by
  simp only [tmL]
  by_cases he:i=i0
  ·subst he
   simp at h;subst h
   rw [beq_t rfl,Bool.or_true]
   have hlater:∀ tm1 tm2:List (Nat×AV),getTm tm1 t=getTm tm2 t→getTm (tmL (fun q=>L q || Nat.beq q i) r (i+1) tm1) t=getTm (tmL L r (i+1) tm2) t:=by
    intro tm1 tm2 h12
    refine tm_agree r (i+1) _ _ h12 ?_
    intro m z hz hne
    exfalso
    apply hne
    rw [beq_f (by omega),Bool.or_false]
   by_cases hx:y.dst=some t
   ·rw [if_pos hx]
    have hno:∀ (l:List Rec) (n:Nat) (tm:List (Nat×AV)) (M:Nat→Bool),(∀ (m:Nat) (z:Rec),l[m]?=some z→z.dst≠some t)→getTm (tmL M l n tm) t=getTm tm t:=by
     intro l
     induction l with
     | nil=>intro n tm M _;rfl
     | cons z l ih =>
      intro n tm M hz
      simp only [tmL]
      rw [ih _ _ _ (fun m u hu=>hz (m+1) u (by simpa using hu))]
      split
      ·rw [getTm_put,if_neg (hz 0 z (by simp))]
      ·rfl
    rw [hno r _ _ _ (fun m z hz=>hd (m+1) z (by simpa using hz) (by omega) hx),getTm_put,if_pos hx]
   ·rw [if_neg hx]
    refine hlater _ _ ?_
    rw [getTm_put,if_neg hx]
    split
    ·rw [getTm_put,if_neg hx]
    ·rfl
  ·rw [beq_f he,Bool.or_false]
   refine tm_more r (i+1) _ (by omega) ?_ (fun m z hz hlt=>hd (m+1) z (by simpa using hz) (by omega))
   rw [show i0 - i=(i0 - (i+1))+1 by omega] at h
   simpa using h
theorem sto_more {L:Nat→Bool} {i0:Nat} {x:Rec} {k:Nat}:∀ (recs:List Rec) (i:Nat) (σ:Sto),i≤i0→recs[i0 - i]?=some x →
  (∀ (m:Nat) (y:Rec),recs[m]?=some y→i0 < i+m→L (i+m)=true→k∈keysOf x.upd→k ∉ keysOf y.upd) →
  sget (stoL (fun q=>L q || Nat.beq q i0) recs i σ) k=if k∈keysOf x.upd then sget (supd [] x.upd) k else sget (stoL L recs i σ) k
 | [],i,σ,_,h,_=>by simp at h
 | y :: r,i,σ,hi,h,hd=>by
  simp only [stoL]
  by_cases he:i=i0
  ·subst he
   simp at h;subst h
   rw [beq_t rfl,Bool.or_true]
   by_cases hx:k∈keysOf y.upd
   ·rw [if_pos hx]
    have hno:∀ (l:List Rec) (n:Nat) (σ:Sto) (M:Nat→Bool),(∀ (m:Nat) (z:Rec),l[m]?=some z→M (n+m)=true→k ∉ keysOf z.upd)→sget (stoL M l n σ) k=sget σ k:=by
     intro l
     induction l with
     | nil=>intro n tm M _;rfl
     | cons z l ih =>
      intro n σ M hz
      simp only [stoL]
      rw [ih _ _ _ (fun m u hu hM=>hz (m+1) u (by simpa using hu) (by rw [show n+(m+1)=n+1+m by omega];exact hM))]
      split
      ·rename_i hM
       rw [supd_get,if_neg (hz 0 z (by simp) (by simpa using hM))]
      ·rfl
    rw [hno r _ _ _ ?_,supd_get,if_pos hx]
    intro m z hz hM
    rw [beq_f (by omega),Bool.or_false] at hM
    exact hd (m+1) z (by simpa using hz) (by omega) (by rw [show i+(m+1)=i+1+m by omega];exact hM) hx
   ·rw [if_neg hx]
    refine sto_agree r (i+1) _ _ ?_ ?_
    ·rw [supd_get,if_neg hx]
     split
     ·rw [supd_get,if_neg hx]
     ·rfl
    ·intro m z hz hne
     exfalso
     apply hne
     rw [beq_f (by omega),Bool.or_false]
  ·rw [beq_f he,Bool.or_false]
   refine sto_more r (i+1) _ (by omega) ?_ (fun m z hz hlt hL=>hd (m+1) z (by simpa using hz) (by omega) (by rw [show i+(m+1)=i+1+m by omega];exact hL))
   rw [show i0 - i=(i0 - (i+1))+1 by omega] at h
   simpa using h
theorem tmL_all:∀ (recs:List Rec) (i:Nat) (tm:List (Nat×AV)) (L:Nat→Bool),(∀ m,m < recs.length→L (i+m)=true)→tmL L recs i tm=tmAll recs tm
 | [],_,_,_,_=>rfl
 | x :: r,i,tm,L,h=>by
  simp only [tmL,tmAll]
  have:=h 0 (by simp)
  rw [Nat.add_zero] at this
  rw [this,tmL_all r (i+1) _ L (fun m hm=>by rw [show i+1+m=i+(m+1) by omega];exact h (m+1) (by simpa using hm))]
theorem stoL_all:∀ (recs:List Rec) (i:Nat) (σ:Sto) (L:Nat→Bool),(∀ m,m < recs.length→L (i+m)=true)→stoL L recs i σ=stoAll recs σ
 | [],_,_,_,_=>rfl
 | x :: r,i,σ,L,h=>by
  simp only [stoL,stoAll]
  have:=h 0 (by simp)
  rw [Nat.add_zero] at this
  rw [this,stoL_all r (i+1) _ L (fun m hm=>by rw [show i+1+m=i+(m+1) by omega];exact h (m+1) (by simpa using hm))]
theorem tmL_none:∀ (recs:List Rec) (i:Nat) (tm:List (Nat×AV)) (L:Nat→Bool),(∀ m,m < recs.length→L (i+m)=false)→tmL L recs i tm=tm
 | [],_,_,_,_=>rfl
 | x :: r,i,tm,L,h=>by
  simp only [tmL]
  have:=h 0 (by simp)
  rw [Nat.add_zero] at this
  rw [this,tmL_none r (i+1) _ L (fun m hm=>by rw [show i+1+m=i+(m+1) by omega];exact h (m+1) (by simpa using hm))]
theorem stoL_none:∀ (recs:List Rec) (i:Nat) (σ:Sto) (L:Nat→Bool),(∀ m,m < recs.length→L (i+m)=false)→stoL L recs i σ=σ
 | [],_,_,_,_=>rfl
 | x :: r,i,σ,L,h=>by
  simp only [stoL]
  have:=h 0 (by simp)
  rw [Nat.add_zero] at this
  rw [this,stoL_none r (i+1) _ L (fun m hm=>by rw [show i+1+m=i+(m+1) by omega];exact h (m+1) (by simpa using hm))]
section
variable {P:Program}
theorem trace_get {nt nk:Nat} {ops:List Oper} {orcs:List (Nat×Orc)}:∀ (l:List Oper) (i:Nat) (tm:List (Nat×AV)) (σ:Sto) (recs:List Rec),evTrace P nt ops nk orcs l i tm σ=some recs →
  recs.length=l.length∧∀ (m:Nat) (x:Rec),recs[m]?=some x→∃ o,l[m]?=some o ∧
   evOne P nt ops (nk+16 * (i+m)) (tmL (fun q=>Nat.blt q (i+m)) recs i tm) (stoL (fun q=>Nat.blt q (i+m)) recs i σ) o (getOrc orcs (i+m))=some x
 | [],i,tm,σ,recs,h=>by
  simp only [evTrace,Option.some.injEq] at h
  subst h
  exact ⟨rfl,fun m x hx=>by simp at hx⟩
 | o :: r,i,tm,σ,recs,h=>by
  simp only [evTrace] at h
  split at h
  ·cases h
  ·rename_i x0 hx0
   simp only [Option.map_eq_some_iff] at h
   obtain ⟨l',h2,rfl⟩:=h
   obtain ⟨h3,h4⟩:=trace_get r (i+1) _ _ l' h2
   refine ⟨by simp [h3],?_⟩
   intro m x hx
   cases m with
   | zero =>
    simp at hx;subst hx
    refine ⟨o,by simp,?_⟩
    simp only [Nat.add_zero,tmL,stoL]
    have hii:Nat.blt i i=false:=blt_f (by omega)
    rw [hii]
    rw [tmL_none,stoL_none]
    ·exact hx0
    ·intro m _;exact blt_f (by omega)
    ·intro m _;exact blt_f (by omega)
   | succ m =>
    obtain ⟨o',ho',he⟩:=h4 m x (by simpa using hx)
    refine ⟨o',by simpa using ho',?_⟩
    have hii:Nat.blt i (i+(m+1))=true:=blt_t (by omega)
    simp only [tmL,stoL]
    rw [hii]
    rw [show i+(m+1)=i+1+m by omega]
    exact he
theorem evOpY_e {nk:Nat} {op:Op} {e e':Operand→AV} {orc:Option Orc} {σ:Sto} (he:∀ x∈op.operands.toList,e' x=e x):evOpY P nk σ op e' orc=evOpY P nk σ op e orc:=by
 unfold evOpY
 split
 ·unfold evYield
  split
  ·rename_i f args tys
   have mem:∀ x,x∈f :: args.toList→e' x=e x:=by
    intro x hx
    refine he x ?_
    simp only [Op.operands,Call.operands] at *
    simpa using hx
   rw [mem f (by simp),conds_congr mem,List.map_congr_left (fun x hx=>by rw [mem x (List.mem_cons_of_mem _ hx)]:∀ x∈args.toList,(e' x).strip.1=(e x).strip.1)]
  ·rfl
 ·exact evOpM_e he
theorem evOpY_loc {nk:Nat} {op:Op} {e:Operand→AV} {orc:Option Orc} {σ σ':Sto} {r:R} (h:evOpY P nk σ op e orc=some r) (hs:∀ k∈r.rds,sget σ' k=sget σ k):evOpY P nk σ' op e orc=some r:=by
 unfold evOpY at h ⊢
 split at h
 ·unfold evYield at h ⊢
  split at h
  ·split at h
   ·rename_i h1 h2
    cases h
    rw [hs _ (by simp),h1,h2]
   ·cases h
  ·cases h
 ·exact evOpM_loc h hs
theorem evOne_loc {nt nk:Nat} {ops:List Oper} {tm tm':List (Nat×AV)} {σ σ':Sto} {o:Oper} {orc:Option Orc} {x:Rec} (h:evOne P nt ops nk tm σ o orc=some x)
  (ht:∀ t∈looks ops o,getTm tm' t=getTm tm t) (hs:∀ k∈x.rds,sget σ' k=sget σ k):evOne P nt ops nk tm' σ' o orc=some x:=by
 have he:∀ y∈o.op.operands.toList,evOpd tm' y=evOpd tm y:=by
  intro y hy
  cases y with
  | tmp t=>exact ht t (by simp only [looks,List.mem_append];exact .inl (mem_tmpsOf hy))
  | _=>rfl
 unfold evOne at h ⊢
 split at h
 ·cases h
 ·split at h
  ·simp only [Option.map_eq_some_iff] at h ⊢
   obtain ⟨r,h1,rfl⟩:=h
   exact ⟨r,by rw [evOpY_e he];exact evOpY_loc h1 hs,rfl⟩
  ·rename_i j want hgd
   split at h
   ·cases h
   ·rename_i d hd
    have htd:getTm tm' d=getTm tm d:=ht d (by simp [looks,hgd,hd])
    rw [htd]
    split at h
    ·split at h
     ·rename_i g r hg h1
      split at h
      ·rename_i hu
       cases h
       rw [evOpY_e he,evOpY_loc h1 hs,hg]
       simp [hu]
      ·cases h
     ·cases h
    ·split at h
     ·rename_i g r hg h1
      cases h
      rw [evOpY_e he,evOpY_loc h1 hs,hg]
     ·cases h
    ·split at h
     ·rename_i g hg
      exact h
     ·cases h
theorem anc_listed {ops:List Oper} {L:Nat→Bool} (hd:∀ j,L j=true→∀ o,ops[j]?=some o→∀ e∈edgesOf o,L e=true):∀ (n i j:Nat),isAnc ops n i j=true →
  (∀ o,ops[j]?=some o→∀ e∈edgesOf o,L e=true)→L i=true
 | 0,i,j,h,_=>by simp [isAnc] at h
 | n+1,i,j,h,hj=>by
  simp only [isAnc] at h
  split at h
  ·cases h
  ·rename_i o ho
   simp only [List.any_eq_true,Bool.or_eq_true] at h
   obtain ⟨e,he,h | h⟩:=h
   ·rw [← Nat.eq_of_beq_eq_true h];exact hj o ho e he
   ·exact anc_listed hd n i e h fun o' ho' e' he'=>hd e (hj o ho e he) o' ho' e' he'
def Meet (ops:List Oper) (o p:Oper) (x y:Rec):Prop :=
 (∃ d,x.dst=some d∧d∈looks ops p)∨(∃ d,y.dst=some d∧d∈looks ops o)∨(∃ k,k∈keysOf x.upd∧(k∈y.rds∨k∈keysOf y.upd))∨∃ k,k∈x.rds∧k∈keysOf y.upd
theorem meets_iff {l m:List Nat} {k:Nat} (h1:k∈l) (h2:k∈m):meets l m=true:=List.any_eq_true.2 ⟨k,h1,hasK_iff.2 h2⟩
theorem Meet.clash {ops:List Oper} {o p:Oper} {x y:Rec} (h:Meet ops o p x y):clash ops o p x y=true:=by
 unfold Ab.clash
 simp only [Bool.or_eq_true]
 rcases h with ⟨d,h1,h2⟩ | ⟨d,h1,h2⟩ | ⟨k,h1,h2⟩ | ⟨k,h1,h2⟩
 ·exact .inl (.inl (.inl (meets_iff (k:=d) (by simp [h1]) h2)))
 ·exact .inl (.inl (.inr (meets_iff (k:=d) (by simp [h1]) h2)))
 ·exact .inl (.inr (meets_iff h1 (by simpa using h2)))
 ·exact .inr (meets_iff h1 h2)
theorem Meet.symm {ops:List Oper} {o p:Oper} {x y:Rec} (h:Meet ops o p x y):Meet ops p o y x:=by
 rcases h with h | h | ⟨k,h1,h2 | h2⟩ | ⟨k,h1,h2⟩
 ·exact .inr (.inl h)
 ·exact .inl h
 ·exact .inr (.inr (.inr ⟨k,h2,h1⟩))
 ·exact .inr (.inr (.inl ⟨k,h2,.inr h1⟩))
 ·exact .inr (.inr (.inl ⟨k,h2,.inl h1⟩))
theorem count_set:∀ (l:List Bool) (i:Nat),l[i]?=some false→((l.set i true).filter (· == true)).length=(l.filter (· == true)).length+1
 | [],i,h=>by simp at h
 | b :: l,0,h=>by simp at h;subst h;simp
 | b :: l,i+1,h=>by
  have:=count_set l i (by simpa using h)
  cases b<;>simp_all
theorem draw_sound {E:Env} {rd:Option Nat} {ds:List Deferred} {nt nk:Nat} {ops:Array Oper} {orcs:List (Nat×Orc)} {tm0:List (Nat×AV)} {σ0:Sto} {recs:List Rec} {Q:Exit→Act→World→Prop} (hz:∀ i,OrcOk P E (getOrc orcs i)) (hm:E.m0≤nk)
  (htr:evTrace P nt ops.toList nk orcs ops.toList 0 tm0 σ0=some recs) (hp:AllP (oblAll recs)) (hok:drawOk ops.toList recs=true)
  (hQ:∀ a' w' S' μ',a'.tmps.size=nt→a'.defers=ds→Good E (stoAll recs σ0) S' μ' w'→(∀ k,nk+16 * ops.size≤k→μ' k=none)→(∀ t,RepX w' S' μ' (a'.tmps.getD t undef) (getTm (tmAll recs tm0) t))→Q .normal a' w') :
  ∀ (fuel:Nat) (listed:Array Bool) (a:Act) (w:World) (S:Nat→Prop) (μ:Mu),listed.size=ops.size→a.tmps.size=nt→a.defers=ds →
   (∀ j,listed.getD j false=true→∀ o,ops.toList[j]?=some o→∀ e∈edgesOf o,listed.getD e false=true)→ops.size≤fuel+(listed.toList.filter (· == true)).length →
   Good E (stoL (fun j=>listed.getD j false) recs 0 σ0) S μ w→(∀ k,nk≤k→(∀ j,nk+16 * j≤k→k < nk+16 * j+16→listed.getD j false=false)→μ k=none) →
   (∀ t,RepX w S μ (a.tmps.getD t undef) (getTm (tmL (fun j=>listed.getD j false) recs 0 tm0) t)) →
   wpAnyIn (FW rd) 0 P .any ops Q fuel listed a w:=by
 obtain ⟨hlen,hget⟩:=trace_get ops.toList 0 tm0 σ0 recs htr
 simp only [Nat.zero_add] at hget
 have hall:∀ j,j < ops.size→edgesOk ops.toList j=true∧∀ i,i < j→pairOk ops.toList recs i j=true:=by
  intro j hj
  have:=List.all_eq_true.1 hok j (List.mem_range.2 (by simpa using hj))
  simp only [Bool.and_eq_true] at this
  exact ⟨this.1,fun i hi=>List.all_eq_true.1 this.2 i (List.mem_range.2 hi)⟩
 have hedge:∀ j o,ops.toList[j]?=some o→∀ e∈edgesOf o,e < j:=by
  intro j o ho e he
  have hj:j < ops.size:=by simpa using (List.getElem?_eq_some_iff.1 ho).1
  have h1:=(hall j hj).1
  unfold edgesOk at h1
  rw [ho] at h1
  exact blt_lt (List.all_eq_true.1 h1 e he)
 have hpair:∀ i j o p x y,i < j→ops.toList[i]?=some o→ops.toList[j]?=some p→recs[i]?=some x→recs[j]?=some y →
   sameDst x.dst y.dst=false∧(clash ops.toList o p x y=true→isAnc ops.toList ops.toList.length i j=true):=by
  intro i j o p x y hij ho hp' hx hy
  have hj:j < ops.size:=by simpa using (List.getElem?_eq_some_iff.1 hp').1
  have h1:=(hall j hj).2 i hij
  unfold pairOk at h1
  rw [ho,hp',hx,hy] at h1
  simp only [Bool.and_eq_true,Bool.not_eq_true',Bool.or_eq_true] at h1
  refine ⟨h1.1,fun hc=>?_⟩
  rcases h1.2 with h2 | h2
  ·rw [hc] at h2;cases h2
  ·exact h2
 -- what is ready
 have hready:∀ (listed:Array Bool),listed.size=ops.size→∀ i,i∈Region.ready .any ops listed↔(i < ops.size∧listed.getD i false=false∧∀ o,ops.toList[i]?=some o→∀ e∈edgesOf o,listed.getD e false=true):=by
  intro listed hls i
  unfold Region.ready
  simp only [List.mem_filter,List.mem_range,Bool.and_eq_true,Bool.not_eq_true']
  constructor
  ·rintro ⟨h1,h2,h3⟩
   have hl:i < listed.size:=by omega
   refine ⟨h1,?_,?_⟩
   ·simp only [Array.getD_eq_getD_getElem?,Array.getElem?_eq_getElem hl,Option.getD_some] at h2 ⊢;exact h2
   ·intro o ho e he
    have ho':ops[i]?=some o:=by simpa using ho
    simp only [ho',Option.map_some,Option.getD_some,Array.all_eq_true'] at h3
    simp only [edgesOf,List.mem_map,List.mem_filter] at he
    obtain ⟨ed,⟨hed,hbd⟩,rfl⟩:=he
    have:=h3 ed (by simpa using hed)
    rw [hbd] at this
    simpa only [Bool.not_true,Bool.false_or] using this
  ·rintro ⟨h1,h2,h3⟩
   have hl:i < listed.size:=by omega
   refine ⟨h1,?_,?_⟩
   ·simp only [Array.getD_eq_getD_getElem?,Array.getElem?_eq_getElem hl,Option.getD_some] at h2 ⊢;exact h2
   ·have ho:ops[i]?=some ops[i]:=Array.getElem?_eq_getElem h1
    simp only [ho,Option.map_some,Option.getD_some,Array.all_eq_true']
    intro ed hed
    simp only [Bool.or_eq_true,Bool.not_eq_true']
    cases hb:Region.binds .any ed with
    | false=>exact .inl rfl
    | true =>
     right
     exact h3 ops[i] (by simp) ed.on (by simp only [edgesOf,List.mem_map,List.mem_filter];exact ⟨ed,⟨by simpa using hed,hb⟩,rfl⟩)
 intro fuel
 -- the end
 have fin:∀ (listed:Array Bool) (a:Act) (w:World) (S:Nat→Prop) (μ:Mu),listed.size=ops.size→a.tmps.size=nt→a.defers=ds→(∀ j,j < ops.size→listed.getD j false=true) →
   Good E (stoL (fun j=>listed.getD j false) recs 0 σ0) S μ w→(∀ k,nk≤k→(∀ j,nk+16 * j≤k→k < nk+16 * j+16→listed.getD j false=false)→μ k=none) →
   (∀ t,RepX w S μ (a.tmps.getD t undef) (getTm (tmL (fun j=>listed.getD j false) recs 0 tm0) t))→Q .normal a w:=by
  intro listed a w S μ hls hs hdf hal g hk ht
  have hL:∀ m,m < recs.length→(fun j=>listed.getD j false) (0+m)=true:=fun m hm'=>by
   rw [Nat.zero_add];exact hal m (by rw [hlen] at hm';simpa using hm')
  rw [stoL_all recs 0 σ0 _ hL] at g
  refine hQ a w S μ hs hdf g (fun k hk'=>hk k (by omega) fun j hj hj2=>?_) (fun t=>by rw [← tmL_all recs 0 tm0 (fun j=>listed.getD j false) hL];exact ht t)
  have:listed.size≤j:=by omega
  simp [Array.getD_eq_getD_getElem?,Array.getElem?_eq_none this]
 have allOf:∀ (listed:Array Bool),listed.size=ops.size→(∀ j,listed.getD j false=true→∀ o,ops.toList[j]?=some o→∀ e∈edgesOf o,listed.getD e false=true)→Region.ready .any ops listed=[]→∀ j,j < ops.size→listed.getD j false=true:=by
  intro listed hls hdc hr j
  induction j using Nat.strongRecOn with
  | _ j ih =>
   intro hj
   cases hb:listed.getD j false with
   | true=>rfl
   | false =>
    have:j∈Region.ready .any ops listed:=(hready listed hls j).2 ⟨hj,hb,fun o ho e he=>ih e (hedge j o ho e he) (by have:=hedge j o ho e he;omega)⟩
    rw [hr] at this;simp at this
 induction fuel with
 | zero =>
  intro listed a w S μ hls hs hdf hdc hfuel g hk ht
  simp only [wpAnyIn]
  have hal:∀ j,j < ops.size→listed.getD j false=true:=by
   have hle:(listed.toList.filter (· == true)).length=listed.toList.length:=by
    have h1:=List.length_filter_le (· == true) listed.toList
    simp at h1 hfuel ⊢;omega
   have h2:=List.length_filter_eq_length_iff.1 hle
   intro j hj
   have hl:j < listed.size:=by omega
   have:=h2 listed[j] (by simp)
   simp only [Array.getD_eq_getD_getElem?,Array.getElem?_eq_getElem hl,Option.getD_some]
   simpa using this
  refine ⟨?_,fin listed a w S μ hls hs hdf hal g hk ht⟩
  cases hr:Region.ready .any ops listed with
  | nil=>rfl
  | cons i r =>
   have:=(hready listed hls i).1 (by rw [hr];simp)
   rw [hal i this.1] at this
   simp at this
 | succ fuel ih =>
  intro listed a w S μ hls hs hdf hdc hfuel g hk ht
  simp only [wpAnyIn]
  refine ⟨fun hr=>fin listed a w S μ hls hs hdf (allOf listed hls hdc hr) g hk ht,?_⟩
  intro i hi
  obtain ⟨hin,hil,hie⟩:=(hready listed hls i).1 hi
  have hirec:i < recs.length:=by rw [hlen];simpa using hin
  have hx:recs[i]?=some recs[i]:=List.getElem?_eq_getElem hirec
  obtain ⟨o,ho,hev⟩:=hget i _ hx
  generalize recs[i]=x at hx hev
  have hpx:AllP x.obl:=by
   have:∀ (l:List Rec) (i:Nat),AllP (oblAll l)→l[i]?=some x→AllP x.obl:=by
    intro l
    induction l with
    | nil=>intro i _ h;simp at h
    | cons y l ih =>
     intro i h hi
     obtain ⟨h1,h2⟩:=AllP.app h
     cases i with
     | zero=>simp at hi;exact hi ▸ h1
     | succ i=>exact ih i h2 (by simpa using hi)
   exact this recs i hp hx
  -- an operation that meets this one is carried out just if it stands before it
  have order:∀ (j:Nat) (p:Oper) (y:Rec),j≠i→ops.toList[j]?=some p→recs[j]?=some y→Meet ops.toList o p x y→Nat.blt j i=listed.getD j false:=by
   intro j p y hne hpj hyj hc
   rcases Nat.lt_or_gt_of_ne hne with hlt | hgt
   ·rw [blt_t hlt]
    exact (anc_listed (L:=fun j=>listed.getD j false) hdc _ j i ((hpair j i p o y x hlt hpj ho hyj hx).2 hc.symm.clash) (fun o' ho' e he=>by rw [ho] at ho';cases ho';exact hie o ho e he)).symm
   ·rw [blt_f (by omega)]
    cases hb:listed.getD j false with
    | false=>rfl
    | true =>
     have:=anc_listed (L:=fun j=>listed.getD j false) hdc _ i j ((hpair i j o p x y hgt ho hpj hx hyj).2 hc.clash) (fun o' ho' e he=>hdc j hb o' ho' e he)
     have:listed.getD i false=true:=this
     rw [hil] at this;cases this
  have recOp:∀ (m:Nat) (y:Rec),recs[m]?=some y→∃ p,ops.toList[m]?=some p:=fun m y hy=>let ⟨p,hp',_⟩:=hget m y hy;⟨p,hp'⟩
  have hloc:evOne P nt ops.toList (nk+16 * i) (tmL (fun j=>listed.getD j false) recs 0 tm0) (stoL (fun j=>listed.getD j false) recs 0 σ0) o (getOrc orcs i)=some x:=by
   refine evOne_loc hev ?_ ?_
   ·intro t htl
    refine tm_agree recs 0 _ _ rfl ?_
    intro m y hy hne hdst
    rw [Nat.zero_add] at hne
    obtain ⟨p,hp'⟩:=recOp m y hy
    by_cases hmi:m=i
    ·subst hmi;exact hne (by rw [hil,blt_f (by omega)])
    ·exact hne (order m p y hmi hp' hy (.inr (.inl ⟨t,hdst,htl⟩))).symm
   ·intro k hkr
    refine sto_agree recs 0 _ _ rfl ?_
    intro m y hy hne hku
    rw [Nat.zero_add] at hne
    obtain ⟨p,hp'⟩:=recOp m y hy
    by_cases hmi:m=i
    ·subst hmi;exact hne (by rw [hil,blt_f (by omega)])
    ·exact hne (order m p y hmi hp' hy (.inr (.inr (.inr ⟨k,hkr,hku⟩)))).symm
  have hls':i < listed.size:=by omega
  have hset:∀ j,(listed.setIfInBounds i true).getD j false=(listed.getD j false || Nat.beq j i):=by
   intro j
   by_cases hji:j=i
   ·subst hji
    rw [beq_t rfl,Bool.or_true]
    simp [Array.getD_eq_getD_getElem?,hls']
   ·rw [beq_f hji,Bool.or_false]
    simp only [Array.getD_eq_getD_getElem?]
    rw [Array.getElem?_setIfInBounds_ne (fun h=>hji h.symm)]
  have hfun:(fun j=>(listed.setIfInBounds i true).getD j false)=fun q=>listed.getD q false || Nat.beq q i:=funext hset
  have hfree:∀ q,q < 16→μ (nk+16 * i+q)=none:=fun q hq=>hk _ (by omega) fun j hj hj2=>by
   have hji:j=i:=by omega
   rw [hji];exact hil
  refine one_sound (by simpa using ho) ht g hfree (by omega) (hz i) hloc hpx ?_
  intro v w' S' μ' q1 q2 q3 q4
  obtain ⟨d1,d2⟩:=evOne_dst hloc
  refine ih _ _ w' S' μ' (by simp [hls]) (by rw [put_size];exact hs) (by rw [put_defers'];exact hdf) ?_ ?_ ?_ ?_ ?_
  ·intro j hj o' ho' e he
   rw [hset] at hj ⊢
   rw [Bool.or_eq_true] at hj ⊢
   rcases hj with hj | hj
   ·exact .inl (hdc j hj o' ho' e he)
   ·have:=Nat.eq_of_beq_eq_true hj
    subst this
    exact .inl (hie o' ho' e he)
  ·have hc:=count_set listed.toList i (by
    rw [Array.getElem?_toList,Array.getElem?_eq_getElem hls']
    simp only [Array.getD_eq_getD_getElem?,Array.getElem?_eq_getElem hls',Option.getD_some] at hil
    rw [hil])
   rw [Array.toList_setIfInBounds,hc]
   omega
  ·rw [hfun]
   refine q2.congr ?_
   intro k
   rw [sto_more recs 0 σ0 (Nat.zero_le _) (by simpa using hx) ?_,supd_get x.upd (stoL (fun j=>listed.getD j false) recs 0 σ0)]
   intro m y hy hlt hL hku hku'
   rw [Nat.zero_add] at hlt hL
   obtain ⟨p,hp'⟩:=recOp m y hy
   have:=order m p y (by omega) hp' hy (.inr (.inr (.inl ⟨k,hku,.inr hku'⟩)))
   rw [blt_f (by omega)] at this
   rw [← this] at hL;cases hL
  ·intro k hk' hno
   have hki:k < nk+16 * i∨nk+16 * i+16≤k:=by
    rcases Nat.lt_or_ge k (nk+16 * i) with h1 | h1
    ·exact .inl h1
    ·rcases Nat.lt_or_ge k (nk+16 * i+16) with h2 | h2
     ·have:=hno i h1 h2
      rw [hset,beq_t rfl,Bool.or_true] at this
      cases this
     ·exact .inr h2
   refine q3 k hki (hk k hk' fun j hj hj2=>?_)
   have:=hno j hj hj2
   rw [hset,Bool.or_eq_false_iff] at this
   exact this.1
  ·intro t
   rw [hfun,tm_more recs 0 tm0 (Nat.zero_le _) (by simpa using hx) ?_,put_get a x.dst v t (fun n hn=>by rw [hs];exact d2 n (d1 ▸ hn))]
   ·split
    ·exact q4
    ·exact (ht t).ext q1
   ·intro m y hy hlt hxd hyd
    rw [Nat.zero_add] at hlt
    obtain ⟨p,hp'⟩:=recOp m y hy
    have:=(hpair i m o p x y hlt ho hp' hx hy).1
    rw [hxd,hyd] at this
    simp only [sameDst] at this
    rw [beq_t rfl] at this;cases this
end
end Go.Ab
namespace Go.Ab
inductive Wd where
 | keep
 | sl (n:Nat) (g:Nat→List AV)
 | osl (n:Nat)
 | nilos (k:Nat)
 | pt (b:Bool) (cs:List AV)
 | agg (ds:List Wd)
 | tup (ds:List Wd)
def UpL:List AV→List AV→Prop
 | [],[]=>True
 | a :: as,b :: bs=>(a=b∨(a=.nil∧∃ f,b=.sl 0 f))∧UpL as bs
 | _,_=>False
theorem UpL.len:∀ {as bs:List AV},UpL as bs→bs.length=as.length
 | [],[],_=>rfl
 | _ :: _,_ :: _,h=>congrArg (·+1) (UpL.len h.2)
theorem UpL.get:∀ {as bs:List AV} {j:Nat} {x:AV},UpL as bs→bs[j]?=some x→∃ a,as[j]?=some a∧(a=x∨(a=.nil∧∃ f,x=.sl 0 f))
 | [],[],_,_,_,hx=>by simp at hx
 | a :: _,b :: _,0,x,h,hx=>by
  have:b=x:=by simpa using hx
  subst this
  exact ⟨a,rfl,h.1⟩
 | _ :: as,_ :: bs,j+1,x,h,hx=>by
  have:=UpL.get (as:=as) (bs:=bs) (j:=j) (x:=x) h.2 (by simpa using hx)
  simpa using this
theorem nil_sl {w:World} {S:Nat→Prop} {μ:Mu} {v:Value} {a x:AV} (h:a=x∨(a=.nil∧∃ f,x=.sl 0 f)) (hv:RepX w S μ v a):RepX w S μ v x:=by
 rcases h with rfl | ⟨rfl,f,rfl⟩
 ·exact hv
 ·cases hv
  exact .sl 0 0 0 (fun _ _=>undef) (fun h=>absurd h (by decide)) (fun i h=>absurd h (Nat.not_lt_zero _)) (fun i j h=>absurd h (Nat.not_lt_zero _)) (fun i j c h=>absurd h (Nat.not_lt_zero _)) (Nat.le_refl _)
inductive Od where
 | keep (k:Nat)
 | arr (k:Nat) (n:Nat) (g:Nat→List AV)
 | arz (k:Nat) (n:Nat) (g:Nat→List AV)
 | var (k:Nat) (ds:List Wd)
 | mp (k:Nat) (cs:List AV)
 | mat (k:Nat) (n:Nat) (l:List (Nat×Nat×Nat)) (b:Nat→List AV)
 | nim (g:Nat→List AV)
 | nil (sz:Nat) (g:Nat→List AV)
def Od.old:Od→Option Nat
 | .keep k | .arr k _ _ | .arz k _ _ | .var k _ | .mp k _ | .mat k _ _ _=>some k
 | .nil _ _ | .nim _=>none
def matGet:List (Nat×Nat×Nat)→(Nat→List AV)→Nat→List AV
 | [],b,m=>b m
 | (i,k,n) :: r,b,m=>if m=i then [.os k 0 n] else matGet r b m
def renO (f:Nat→Option Nat):List (Nat×Nat×Nat)→Option (List (Nat×Nat×Nat))
 | []=>some []
 | (i,k,n) :: r=>match f k,renO f r with
  | some k',some l=>some ((i,k',n) :: l)
  | _,_=>none
theorem renO_get {f:Nat→Option Nat} {b:Nat→List AV} {m:Nat} (hb:isMrL (b m)=true):∀ {l l':List (Nat×Nat×Nat)},renO f l=some l'→AV.renL f (matGet l b m)=matGet l' b m
 | [],l',h=>by simp [renO] at h;subst h;exact isMrL_ren hb
 | (i,k,n) :: r,l',h=>by
  simp only [renO] at h
  split at h
  ·rename_i k' l2 hk hl
   cases h
   simp only [matGet]
   split
   ·simp [AV.renL,AV.ren,hk]
   ·exact renO_get hb hl
  ·cases h
abbrev Ods:=List (Nat×Od)
def toNew (m0:Nat):Ods→Nat→Option Nat
 | [],k=>match Nat.blt k m0 with
  | true=>some k
  | false=>none
 | (k',d) :: r,k=>match d.old with
  | some q=>match Nat.beq q k with
   | true=>some k'
   | false=>toNew m0 r k
  | none=>toNew m0 r k
def getOd:Ods→Nat→Option Od
 | [],_=>none
 | (k',d) :: r,k=>match Nat.beq k' k with
  | true=>some d
  | false=>getOd r k
mutual
def wkV (σ:Sto) (F:List Nat) (f:Nat→Option Nat) (ods:Ods):Wd→AV→Option (List Prop×AV)
 | .keep,x=>some ([],x.ren f)
 | .sl n g,.sl n0 g0=>some ([n0=n,∀ i,i < n→g i=g0 i],.sl n g)
 | .sl n g,.os k off len=>match hasK F k,sget σ k with
  | true,some o=>match o.pr with
   | true=>some ([len=n,off+len≤o.len,∀ i,i < n→g i=o.get (addz off i)],.sl n g)
   | false=>none
  | _,_=>none
 | .sl n g,.nil=>some ([n=0],.sl n g)
 | .osl n,.os k off len=>(f k).map fun k'=>([len=n],.os k' off n)
 | .nilos k',.nil=>match getOd ods k' with
  | some (.nil _ _)=>some ([],.os k' 0 0)
  | some (.nim _)=>some ([],.os k' 0 0)
  | _=>none
 | .pt b cs,.rp cs0 off=>match off with
  | 0=>some ([b=true,cs=cs0],.pt b cs)
  | _+1=>none
 | .pt b cs,.atom v=>match v with
  | .pointer none=>some ([b=false],.pt b cs)
  | _=>none
 | .pt b cs,.pt b0 cs0=>some ([b=b0,b0=true→cs=cs0],.pt b cs)
 | .agg ds,.agg cs=>(wkL σ F f ods ds cs).map fun (p,c)=>(p,.agg c)
 | .tup ds,.tup cs=>(wkL σ F f ods ds cs).map fun (p,c)=>(p,.tup c)
 | _,_=>none
def wkL (σ:Sto) (F:List Nat) (f:Nat→Option Nat) (ods:Ods):List Wd→List AV→Option (List Prop×List AV)
 | [],[]=>some ([],[])
 | d :: ds,c :: cs=>match wkV σ F f ods d c,wkL σ F f ods ds cs with
  | some (p,x),some (q,xs)=>some (p ++ q,x :: xs)
  | _,_=>none
 | _,_=>none
end
def wkOb (σ:Sto) (F:List Nat) (f:Nat→Option Nat) (ods:Ods):Od→Option (List Prop×Ob)
 | .keep k=>(sget σ k).map fun o=>([],o.ren f)
 | .arr k n g=>match sget σ k with
  | some o=>match o.pr && !o.var && Nat.ble 1 o.sz with
   | true=>some ([o.len=n,∀ i,i < n→g i=o.get i],⟨o.var,o.sz,n,true,g⟩)
   | false=>none
  | none=>none
 | .arz k n g=>match sget σ k with
  | some o=>match o.pr && !o.var && Nat.ble 1 o.sz with
   | true=>some ([o.len=n,∀ i,i < n→UpL (o.get i) (g i)],⟨o.var,o.sz,n,true,g⟩)
   | false=>none
  | none=>none
 | .var k ds=>match sget σ k with
  | some o=>match o.var && Nat.beq o.len 1 && Nat.ble 1 o.sz,wkL σ F f ods ds (o.get 0) with
   | true,some (p,cs)=>some (p,⟨true,o.sz,1,AV.pureL cs,fun _=>cs⟩)
   | _,_=>none
  | none=>none
 | .mp k cs=>match sget σ k with
  | some o=>match Nat.beq o.sz 0 && o.pr && Nat.beq o.len 0 with
   | true=>some ([cs=o.get 0],⟨o.var,o.sz,o.len,true,fun _=>cs⟩)
   | false=>none
  | none=>none
 | .mat k n l b=>match sget σ k,renO f l with
  | some o,some l'=>match !o.var && Nat.ble 1 o.sz with
   | true=>some ([o.len=n,∀ i,i < n→matGet l b i=o.get i,∀ i,i < n→isMrL (b i)=true],⟨false,o.sz,n,false,matGet l' b⟩)
   | false=>none
  | _,_=>none
 | .nim g=>some ([],⟨false,1,0,false,g⟩)
 | .nil sz g=>match Nat.ble 1 sz with
  | true=>some ([],⟨false,sz,0,true,g⟩)
  | false=>none
def wkTms (σ:Sto) (F:List Nat) (f:Nat→Option Nat) (ods:Ods) (tm:List (Nat×AV)):List (Nat×Wd)→Option (List Prop×List (Nat×AV))
 | []=>some ([],[])
 | (t,d) :: r=>match wkV σ F f ods d (getTm tm t),wkTms σ F f ods tm r with
  | some (p,x),some (q,l)=>some (p ++ q,(t,x) :: l)
  | _,_=>none
def wkObs (σ:Sto) (F:List Nat) (f:Nat→Option Nat) (ods:Ods):Ods→Option (List Prop×Sto)
 | []=>some ([],[])
 | (k,d) :: r=>match wkOb σ F f ods d,wkObs σ F f ods r with
  | some (p,o),some (q,l)=>some (p ++ q,(k,o) :: l)
  | _,_=>none
def namesOk (m0 nk:Nat) (F:List Nat) (ods:Ods):Bool :=
 nodupB (ods.map (·.1)) && nodupB (ods.filterMap (·.2.old)) && (ods.all fun x=>Nat.blt x.1 nk && match x.2.old with
  | some k=>!hasK F k && (match Nat.blt k m0 with
   | true=>Nat.beq x.1 k || Nat.ble m0 x.1
   | false=>Nat.ble m0 x.1)
  | none=>Nat.ble m0 x.1) && Nat.ble m0 nk
def wkSt (m0:Nat) (st:St) (F:List Nat) (tms:List (Nat×Wd)) (ods:Ods) (nk:Nat):Option (List Prop×St) :=
 match namesOk m0 nk F ods,wkTms st.sto F (toNew m0 ods) ods st.tm tms,wkObs st.sto F (toNew m0 ods) ods ods with
 | true,some (p,tm),some (q,σ)=>some (p ++ q,⟨tm,σ,nk⟩)
 | _,_,_=>none
def muW (m0:Nat) (μ:Mu) (ods:Ods):Mu:=fun k =>
 if k < m0 then μ k else match getOd ods k with
  | some (.nil sz _)=>some ⟨0,0,sz⟩
  | some (.nim _)=>some ⟨0,0,1⟩
  | some d=>d.old.bind μ
  | none=>none
section
variable {P:Program} {E:Env} {σ:Sto} {S:Nat→Prop} {μ:Mu} {w:World} {m0 nk:Nat} {F:List Nat} {ods:Ods}
theorem getOd_mem:∀ {ods:Ods} {k:Nat} {d:Od},getOd ods k=some d→(k,d)∈ods
 | [],k,d,h=>by simp [getOd] at h
 | (k',d') :: r,k,d,h=>by
  simp only [getOd] at h
  split at h
  ·rename_i hb;cases h;rw [Nat.eq_of_beq_eq_true hb];simp
  ·exact List.mem_cons_of_mem _ (getOd_mem h)
theorem getOd_of:∀ {ods:Ods} {k:Nat} {d:Od},nodupB (ods.map (·.1))=true→(k,d)∈ods→getOd ods k=some d
 | [],k,d,_,h=>by simp at h
 | (k',d') :: r,k,d,hn,h=>by
  simp only [List.map_cons,nodupB,Bool.and_eq_true] at hn
  simp only [getOd]
  rcases List.mem_cons.1 h with h | h
  ·cases h;rw [beq_t rfl]
  ·have hne:¬ k'=k:=by
    rintro rfl
    have hnone:idx (r.map (·.1)) k'=none:=by simpa using hn.1
    obtain ⟨i,hi⟩:=List.getElem?_of_mem (List.mem_map.2 ⟨_,h,rfl⟩:k'∈r.map (·.1))
    exact idx_none _ _ hnone i hi
   rw [beq_f hne]
   exact getOd_of hn.2 h
theorem toNew_spec:∀ {ods:Ods} {k k':Nat},toNew m0 ods k=some k'→(∃ d,(k',d)∈ods∧d.old=some k)∨(k < m0∧k'=k)
 | [],k,k',h=>by
  simp only [toNew] at h
  split at h
  ·rename_i hb;cases h;exact .inr ⟨blt_lt hb,rfl⟩
  ·cases h
 | (q,d) :: r,k,k',h=>by
  simp only [toNew] at h
  have step:toNew m0 r k=some k'→(∃ d',(k',d')∈(q,d) :: r∧d'.old=some k)∨(k < m0∧k'=k):=fun h'=>by
   rcases toNew_spec h' with ⟨d',h1,h2⟩ | h1
   ·exact .inl ⟨d',List.mem_cons_of_mem _ h1,h2⟩
   ·exact .inr h1
  split at h
  ·rename_i o ho
   split at h
   ·rename_i hb
    cases h
    exact .inl ⟨d,by simp,by rw [ho,Nat.eq_of_beq_eq_true hb]⟩
   ·exact step h
  ·exact step h
structure Names (m0 nk:Nat) (F:List Nat) (ods:Ods):Prop where
 nd:nodupB (ods.map (·.1))=true
 od:nodupB (ods.filterMap (·.2.old))=true
 lt:∀ k d,(k,d)∈ods→k < nk
 fr:∀ k d q,(k,d)∈ods→d.old=some q→q ∉ F
 lo:∀ k d q,(k,d)∈ods→d.old=some q→q < m0→k=q∨m0≤k
 hi:∀ k d q,(k,d)∈ods→d.old=some q→m0≤q→m0≤k
 no:∀ k d,(k,d)∈ods→d.old=none→m0≤k
 m0:m0≤nk
theorem names_of (h:namesOk m0 nk F ods=true):Names m0 nk F ods:=by
 unfold namesOk at h
 simp only [Bool.and_eq_true,Nat.ble_eq] at h
 obtain ⟨⟨⟨h1,h2⟩,h3⟩,h4⟩:=h
 have h3:=fun k d (hm:(k,d)∈ods)=>List.all_eq_true.1 h3 (k,d) hm
 simp only [Bool.and_eq_true] at h3
 refine ⟨h1,h2,fun k d hm=>blt_lt (h3 k d hm).1,?_,?_,?_,?_,h4⟩
 ·intro k d q hm hq hF
  have:=(h3 k d hm).2
  rw [hq] at this
  simp only [Bool.and_eq_true,Bool.not_eq_true'] at this
  rw [hasK_iff.2 hF] at this
  cases this.1
 ·intro k d q hm hq hlt
  have:=(h3 k d hm).2
  rw [hq] at this
  simp only [Bool.and_eq_true] at this
  rw [blt_t hlt] at this
  rcases Bool.or_eq_true_iff.1 this.2 with h | h
  ·exact .inl (Nat.eq_of_beq_eq_true h)
  ·exact .inr (Nat.le_of_ble_eq_true h)
 ·intro k d q hm hq hge
  have:=(h3 k d hm).2
  rw [hq] at this
  simp only [Bool.and_eq_true] at this
  rw [blt_f (by omega)] at this
  simpa only [Nat.ble_eq] using this.2
 ·intro k d hm hq
  have:=(h3 k d hm).2
  rw [hq] at this
  simpa only [Nat.ble_eq] using this
theorem muW_new (N:Names m0 nk F ods) {k k':Nat} {pl:Place} (h:toNew m0 ods k=some k') (hm:μ k=some pl):muW m0 μ ods k'=some pl:=by
 rcases toNew_spec h with ⟨d,h1,h2⟩ | ⟨h1,rfl⟩
 ·unfold muW
  by_cases hlt:k < m0
  ·rcases N.lo k' d k h1 h2 hlt with h | h
   ·rw [if_pos (by omega),h];exact hm
   ·rw [if_neg (by omega),getOd_of N.nd h1]
    cases d<;>simp_all [Od.old]
  ·have:=N.hi k' d k h1 h2 (by omega)
   rw [if_neg (by omega),getOd_of N.nd h1]
   cases d<;>simp_all [Od.old]
 ·unfold muW
  rw [if_pos h1];exact hm
theorem muW_od (N:Names m0 nk F ods) {k k':Nat} {d:Od} (h:(k',d)∈ods) (ho:d.old=some k):muW m0 μ ods k'=μ k:=by
 unfold muW
 by_cases hlt:k < m0
 ·rcases N.lo k' d k h ho hlt with h1 | h1
  ·rw [if_pos (by omega),h1]
  ·rw [if_neg (by omega),getOd_of N.nd h]
   cases d<;>simp_all [Od.old]
 ·have:=N.hi k' d k h ho (by omega)
  rw [if_neg (by omega),getOd_of N.nd h]
  cases d<;>simp_all [Od.old]
theorem muW_nim (N:Names m0 nk F ods) {k':Nat} {g:Nat→List AV} (h:(k',Od.nim g)∈ods):muW m0 μ ods k'=some ⟨0,0,1⟩:=by
 have:=N.no k' _ h rfl
 unfold muW
 rw [if_neg (by omega),getOd_of N.nd h]
theorem muW_nil (N:Names m0 nk F ods) {k' sz:Nat} {g:Nat→List AV} (h:(k',Od.nil sz g)∈ods):muW m0 μ ods k'=some ⟨0,0,sz⟩:=by
 have:=N.no k' _ h rfl
 unfold muW
 rw [if_neg (by omega),getOd_of N.nd h]
def SF (μ:Mu) (F:List Nat) (σ:Sto) (S:Nat→Prop) (b:Nat):Prop:=S b∨∃ k o pl,k∈F∧sget σ k=some o∧μ k=some pl∧0 < pl.cap∧pl.blk=b
theorem wkV_rep (g:Good E σ S μ w) (N:Names m0 nk F ods):∀ (d:Wd) (x:AV) (v:Value) (ps:List Prop) (y:AV),RepX w S μ v x→wkV σ F (toNew m0 ods) ods d x=some (ps,y)→AllP ps →
  RepX w (SF μ F σ S) (muW m0 μ ods) v y:=by
 have mono:∀ {v:Value} {x:AV} {μ':Mu},RepX w S μ' v x→RepX w (SF μ F σ S) μ' v x:=fun h=>h.mono (fun _ h=>.inl h) (fun _ _=>rfl) (fun _ _ h=>h)
 intro d
 induction d using Wd.rec (motive_2:=fun ds=>∀ (cs:List AV) (ps:List Prop) (ys:List AV),wkL σ F (toNew m0 ods) ods ds cs=some (ps,ys)→AllP ps →
   cs.length=ys.length∧∀ (j:Nat) c y v,cs[j]?=some c→ys[j]?=some y→RepX w S μ v c→RepX w (SF μ F σ S) (muW m0 μ ods) v y) with
 | keep =>
  intro x v ps y h hw hp
  simp only [wkV,Option.some.injEq,Prod.mk.injEq] at hw
  obtain ⟨rfl,rfl⟩:=hw
  exact (mono h).ren fun k k' pl hk hm=>muW_new N hk hm
 | sl n gt =>
  intro x v ps y h hw hp
  cases x<;>simp only [wkV] at hw<;>try (cases hw;done)
  case sl n0 g0 =>
   simp only [Option.some.injEq,Prod.mk.injEq] at hw
   obtain ⟨rfl,rfl⟩:=hw
   obtain ⟨rfl,p2,_⟩:=hp
   cases h with
   | sl b off sz f h1 h2 h3 h4 h5 =>
    exact .sl b off sz f (fun hl=>⟨(h1 hl).1,.inl (h1 hl).2⟩) (fun i hi=>by rw [p2 i hi];exact h2 i hi) h3 (fun i j c hi hc=>mono (h4 i j c hi (by rw [← p2 i hi];exact hc))) h5
  case os k off len =>
   split at hw
   ·rename_i o hF ho
    split at hw
    ·rename_i hpr
     simp only [Option.some.injEq,Prod.mk.injEq] at hw
     obtain ⟨rfl,rfl⟩:=hw
     obtain ⟨rfl,p2,p3,_⟩:=hp
     obtain ⟨pl,c,T,hm,hob⟩:=g.rep.ob k o ho
     cases h with
     | os pl' hm' h1 h2 h3 =>
      rename_i cap a
      rw [hm] at hm';cases hm'
      refine .sl pl.blk (off * pl.sz) o.sz (fun i j=>(c[(off+i) * o.sz+j]?).getD undef) ?_ (fun i hi=>by rw [p3 i hi,addz_eq];exact hob.els _ (by omega)) ?_ ?_ h2
      ·intro hl
       exact ⟨h1 (by omega),.inr ⟨k,o,pl,hasK_iff.1 hF,ho,hm,by omega,rfl⟩⟩
      ·intro i j hi hj
       obtain ⟨v,q1,q2⟩:=cell_of_obrep hob (i:=off+i) (by omega) hj
       rw [q1,hob.sz,← Nat.add_mul,q2];rfl
      ·intro i j c' hi hc'
       rw [p3 i hi,addz_eq] at hc'
       obtain ⟨v,q1,q2⟩:=cell_of_obrep hob (i:=off+i) (by omega) (by have:=(List.getElem?_eq_some_iff.1 hc').1;rwa [hob.els _ (by omega)] at this)
       rw [q1]
       have:=hob.rep _ j c' v (by omega) hc' q1
       rw [hpr] at this
       exact mono this
    ·cases hw
   ·cases hw
  case nil =>
   simp only [Option.some.injEq,Prod.mk.injEq] at hw
   obtain ⟨rfl,rfl⟩:=hw
   obtain ⟨rfl,_⟩:=hp
   cases h
   exact .sl 0 0 0 (fun _ _=>undef) (fun h=>absurd h (by omega)) (fun i h=>absurd h (by omega)) (fun i j h=>absurd h (by omega)) (fun i j c h=>absurd h (by omega)) (Nat.le_refl _)
 | osl n =>
  intro x v ps y h hw hp
  cases x<;>simp only [wkV] at hw<;>try (cases hw;done)
  case os k off len =>
   simp only [Option.map_eq_some_iff,Prod.mk.injEq] at hw
   obtain ⟨k',hk',rfl,rfl⟩:=hw
   obtain ⟨rfl,_⟩:=hp
   cases h with
   | os pl hm h1 h2 h3=>exact .os pl (muW_new N hk' hm) h1 h2 h3
 | nilos k' =>
  intro x v ps y h hw hp
  cases x<;>simp only [wkV] at hw<;>try (cases hw;done)
  case nil =>
   split at hw
   ·rename_i sz gt hod
    simp only [Option.some.injEq,Prod.mk.injEq] at hw
    obtain ⟨rfl,rfl⟩:=hw
    cases h
    exact .os ⟨0,0,sz⟩ (muW_nil N (getOd_mem hod)) (fun h=>absurd h (by omega)) (Nat.le_refl _) (by simp)
   ·rename_i gt hod
    simp only [Option.some.injEq,Prod.mk.injEq] at hw
    obtain ⟨rfl,rfl⟩:=hw
    cases h
    exact .os ⟨0,0,1⟩ (muW_nim N (getOd_mem hod)) (fun h=>absurd h (by omega)) (Nat.le_refl _) (by simp)
   ·cases hw
 | pt b cs =>
  intro x v ps y h hw hp
  have other:∀ {b:Bool} {cs:List AV} {v:Value},RepX w S μ v (.pt b cs)→RepX w (SF μ F σ S) (muW m0 μ ods) v (.pt b cs):=fun h=>(mono h).pure rfl _
  cases x<;>simp only [wkV] at hw<;>try (cases hw;done)
  case rp cs0 off =>
   split at hw
   ·simp only [Option.some.injEq,Prod.mk.injEq] at hw
    obtain ⟨rfl,rfl⟩:=hw
    obtain ⟨rfl,rfl,_⟩:=hp
    exact other (.pt (fun _=>h) (fun h=>by cases h))
   ·cases hw
  case atom v0 =>
   split at hw
   ·simp only [Option.some.injEq,Prod.mk.injEq] at hw
    obtain ⟨rfl,rfl⟩:=hw
    obtain ⟨rfl,_⟩:=hp
    exact other (.pt (fun h=>by cases h) (fun _=>rep_int h))
   ·cases hw
  case pt b0 cs0 =>
   simp only [Option.some.injEq,Prod.mk.injEq] at hw
   obtain ⟨rfl,rfl⟩:=hw
   obtain ⟨rfl,hcs,_⟩:=hp
   cases h with
   | pt h1 h2=>exact other (.pt (fun hb=>by rw [hcs hb];exact h1 hb) h2)
 | agg ds ih =>
  intro x v ps y h hw hp
  cases x<;>simp only [wkV] at hw<;>try (cases hw;done)
  case agg cs =>
   simp only [Option.map_eq_some_iff,Prod.mk.injEq] at hw
   obtain ⟨⟨p,c⟩,h1,rfl,rfl⟩:=hw
   obtain ⟨q1,q2⟩:=ih cs p c h1 hp
   cases h with
   | agg h2 h3 =>
    refine .agg (h2.trans q1) fun j y v hy hv=>?_
    have hlt:j < cs.length:=by rw [q1];exact (List.getElem?_eq_some_iff.1 hy).1
    exact q2 j _ y v (List.getElem?_eq_getElem hlt) hy (h3 j _ v (List.getElem?_eq_getElem hlt) hv)
 | tup ds ih =>
  intro x v ps y h hw hp
  cases x<;>simp only [wkV] at hw<;>try (cases hw;done)
  case tup cs =>
   simp only [Option.map_eq_some_iff,Prod.mk.injEq] at hw
   obtain ⟨⟨p,c⟩,h1,rfl,rfl⟩:=hw
   obtain ⟨q1,q2⟩:=ih cs p c h1 hp
   cases h with
   | tup h2 h3 =>
    refine .tup (h2.trans q1) fun j y v hy hv=>?_
    have hlt:j < cs.length:=by rw [q1];exact (List.getElem?_eq_some_iff.1 hy).1
    exact q2 j _ y v (List.getElem?_eq_getElem hlt) hy (h3 j _ v (List.getElem?_eq_getElem hlt) hv)
 | nil =>
  rename_i cs ps ys h hp
  cases cs with
  | nil=>simp [wkL] at h;obtain ⟨_,rfl⟩:=h;exact ⟨rfl,fun j c y v hc=>by simp at hc⟩
  | cons=>simp [wkL] at h
 | cons d ds ih1 ih2 =>
  rename_i cs ps ys h hp
  cases cs with
  | nil=>simp [wkL] at h
  | cons c cs =>
   simp only [wkL] at h
   split at h
   ·rename_i p x q xs e1 e2
    simp only [Option.some.injEq,Prod.mk.injEq] at h
    obtain ⟨rfl,rfl⟩:=h
    obtain ⟨hp1,hp2⟩:=AllP.app hp
    obtain ⟨r1,r2⟩:=ih2 cs q xs e2 hp2
    refine ⟨by simp [r1],?_⟩
    intro j c' y v hc hy hr
    cases j with
    | zero=>simp at hc hy;subst hc hy;exact ih1 c v p x hr e1 hp1
    | succ j=>exact r2 j c' y v (by simpa using hc) (by simpa using hy) hr
   ·cases h
end
end Go.Ab
namespace Go.Ab
section
variable {P:Program} {E:Env} {m0 nk:Nat} {F:List Nat} {ods:Ods}
theorem wkObs_get {σ:Sto} {f:Nat→Option Nat}:∀ (l:Ods) (ps:List Prop) (τ:Sto),wkObs σ F f ods l=some (ps,τ)→AllP ps→∀ k o,sget τ k=some o →
  ∃ d p,(k,d)∈l∧wkOb σ F f ods d=some (p,o)∧AllP p
 | [],ps,τ,h,_,k,o,hk=>by simp [wkObs] at h;obtain ⟨_,rfl⟩:=h;simp [sget] at hk
 | (k',d) :: r,ps,τ,h,hp,k,o,hk=>by
  simp only [wkObs] at h
  split at h
  ·rename_i p o' q l e1 e2
   simp only [Option.some.injEq,Prod.mk.injEq] at h
   obtain ⟨rfl,rfl⟩:=h
   obtain ⟨hp1,hp2⟩:=AllP.app hp
   simp only [sget] at hk
   split at hk
   ·rename_i hb
    cases hk
    rw [← Nat.eq_of_beq_eq_true hb]
    exact ⟨d,p,by simp,e1,hp1⟩
   ·obtain ⟨d',p',h1,h2,h3⟩:=wkObs_get r q l e2 hp2 k o hk
    exact ⟨d',p',List.mem_cons_of_mem _ h1,h2,h3⟩
  ·cases h
theorem wkTms_get {σ:Sto} {f:Nat→Option Nat} {tm:List (Nat×AV)} {R:Value→AV→Prop} {fr:Array Value} (hunk:∀ v,R v .unk)
  (hv:∀ d t ps y,wkV σ F f ods d (getTm tm t)=some (ps,y)→AllP ps→R (fr.getD t undef) y):∀ (l:List (Nat×Wd)) (ps:List Prop) (tm':List (Nat×AV)),
  wkTms σ F f ods tm l=some (ps,tm')→AllP ps→∀ t,R (fr.getD t undef) (getTm tm' t)
 | [],ps,tm',h,_,t=>by simp [wkTms] at h;obtain ⟨_,rfl⟩:=h;exact hunk _
 | (t',d) :: r,ps,tm',h,hp,t=>by
  simp only [wkTms] at h
  split at h
  ·rename_i p x q l e1 e2
   simp only [Option.some.injEq,Prod.mk.injEq] at h
   obtain ⟨rfl,rfl⟩:=h
   obtain ⟨hp1,hp2⟩:=AllP.app hp
   simp only [getTm]
   split
   ·rename_i hb
    rw [← Nat.eq_of_beq_eq_true hb]
    exact hv d t' p x e1 hp1
   ·exact wkTms_get hunk hv r q l e2 hp2 t
  ·cases h
theorem od_inj {k0:Nat}:∀ (l:Ods) (a b:Nat) (x y:Od),nodupB (l.filterMap (·.2.old))=true→(a,x)∈l→(b,y)∈l→x.old=some k0→y.old=some k0→a=b:=by
 intro l
 induction l with
 | nil=>intro a b x y _ h;simp at h
 | cons z l ih =>
  intro a b x y hn ha hb hx hy
  have none:∀ c u,(c,u)∈l→u.old=some k0→idx (l.filterMap (·.2.old)) k0=none→False:=by
   intro c u hc hu hi
   have hin:k0∈l.filterMap (·.2.old):=List.mem_filterMap.2 ⟨(c,u),hc,hu⟩
   obtain ⟨i,hi'⟩:=List.getElem?_of_mem hin
   exact idx_none _ _ hi i hi'
  rcases List.mem_cons.1 ha with ha1 | ha1
  ·rcases List.mem_cons.1 hb with hb1 | hb1
   ·rw [← ha1] at hb1;cases hb1;rfl
   ·rw [← ha1] at hn
    simp only [List.filterMap_cons,hx,nodupB,Bool.and_eq_true,Option.isNone_iff_eq_none] at hn
    exact (none b y hb1 hy hn.1).elim
  ·rcases List.mem_cons.1 hb with hb1 | hb1
   ·rw [← hb1] at hn
    simp only [List.filterMap_cons,hy,nodupB,Bool.and_eq_true,Option.isNone_iff_eq_none] at hn
    exact (none a x ha1 hx hn.1).elim
   ·refine ih a b x y ?_ ha1 hb1 hx hy
    simp only [List.filterMap_cons] at hn
    split at hn
    ·exact hn
    ·simp only [nodupB,Bool.and_eq_true] at hn;exact hn.2
theorem upL_mr:∀ {as:List AV} {sz n:Nat} {g:Nat→List AV},UpL as [.mr sz n g]→as=[.mr sz n g]
 | [],_,_,_,h=>h.elim
 | a :: [],_,_,_,h=>by
  rcases h.1 with h1 | ⟨_,f,h1⟩
  ·rw [h1]
  ·cases h1
 | _ :: _ :: _,_,_,_,h=>h.2.elim
theorem wkOb_row {σ:Sto} {f:Nat→Option Nat} {d:Od} {p:List Prop} {o:Ob} (h:wkOb σ F f ods d=some (p,o)) (hp:AllP p) {i:Nat} {x:Nat×Nat×(Nat→List AV)} (hr:rowOf o i=some x) :
  ∃ k0 o0,d.old=some k0∧sget σ k0=some o0∧rowOf o0 i=some x:=by
 obtain ⟨r1,r2,r3⟩:=rowOf_some hr
 cases d with
 | keep k0 =>
  simp only [wkOb,Option.map_eq_some_iff,Prod.mk.injEq] at h
  obtain ⟨o0,ho0,_,rfl⟩:=h
  exact ⟨k0,o0,rfl,ho0,(rowOf_ren _ _ _ _).1 hr⟩
 | arr k0 n gt =>
  simp only [wkOb] at h
  split at h
  ·rename_i o0 ho0
   split at h
   ·simp only [Option.some.injEq,Prod.mk.injEq] at h
    obtain ⟨rfl,rfl⟩:=h
    obtain ⟨p1,p2,_⟩:=hp
    exact ⟨k0,o0,rfl,ho0,rowOf_mk r1 (by rw [p1];exact r2) (by rw [← p2 i r2];exact r3)⟩
   ·cases h
  ·cases h
 | arz k0 n gt =>
  simp only [wkOb] at h
  split at h
  ·rename_i o0 ho0
   split at h
   ·simp only [Option.some.injEq,Prod.mk.injEq] at h
    obtain ⟨rfl,rfl⟩:=h
    obtain ⟨p1,p2,_⟩:=hp
    have:=p2 i r2
    have r3:gt i=[.mr x.1 x.2.1 x.2.2]:=r3
    rw [r3] at this
    exact ⟨k0,o0,rfl,ho0,rowOf_mk r1 (by rw [p1];exact r2) (upL_mr this)⟩
   ·cases h
  ·cases h
 | mat k0 n l b =>
  simp only [wkOb] at h
  split at h
  ·rename_i o0 l' ho0 hl'
   split at h
   ·rename_i hb
    simp only [Option.some.injEq,Prod.mk.injEq] at h
    obtain ⟨rfl,rfl⟩:=h
    obtain ⟨p1,p2,p3,_⟩:=hp
    simp only [Bool.and_eq_true,Bool.not_eq_true'] at hb
    have r3:matGet l' b i=[.mr x.1 x.2.1 x.2.2]:=r3
    rw [← renO_get (p3 i r2) hl',p2 i r2] at r3
    exact ⟨k0,o0,rfl,ho0,rowOf_mk hb.1 (by rw [p1];exact r2) (ren_mr r3)⟩
   ·cases h
  ·cases h
 | nim gt =>
  simp only [wkOb,Option.some.injEq,Prod.mk.injEq] at h
  obtain ⟨_,rfl⟩:=h
  exact absurd r2 (Nat.not_lt_zero _)
 | mp k0 cs =>
  simp only [wkOb] at h
  split at h
  ·rename_i o0 ho0
   split at h
   ·rename_i hb
    simp only [Option.some.injEq,Prod.mk.injEq] at h
    obtain ⟨rfl,rfl⟩:=h
    simp only [Bool.and_eq_true] at hb
    have:=Nat.eq_of_beq_eq_true hb.2
    exact absurd r2 (by show ¬ i < o0.len;omega)
   ·cases h
  ·cases h
 | var k0 ds =>
  simp only [wkOb] at h
  split at h
  ·split at h
   ·simp only [Option.some.injEq,Prod.mk.injEq] at h
    obtain ⟨rfl,rfl⟩:=h
    cases r1
   ·cases h
  ·cases h
 | nil sz gt =>
  simp only [wkOb] at h
  split at h
  ·simp only [Option.some.injEq,Prod.mk.injEq] at h
   obtain ⟨_,rfl⟩:=h
   exact absurd r2 (Nat.not_lt_zero _)
  ·cases h
theorem wk_sound {st st':St} {tms:List (Nat×Wd)} {ps:List Prop} (h:wkSt E.m0 st F tms ods nk=some (ps,st')) (hp:AllP ps) (hF:F.isEmpty=true∨∀ b,¬ E.fp b) {fr:Array Value} {w:World} (hr:Rep E st fr w):Rep E st' fr w:=by
 obtain ⟨S,μ,g,hk,hm,ht⟩:=hr
 unfold wkSt at h
 split at h
 case h_2=>cases h
 rename_i p tm q σ' hn htm hob
 simp only [Option.some.injEq,Prod.mk.injEq] at h
 obtain ⟨rfl,rfl⟩:=h
 obtain ⟨hp1,hp2⟩:=AllP.app hp
 have N:=names_of hn
 have e:Ext w S μ w (SF μ F st.sto S) μ:=⟨Nat.le_refl _,fun _ h=>.inl h,fun _ _=>rfl,fun _ _ h=>h⟩
 have hod:∀ k o,sget σ' k=some o→∃ pl c T,muW E.m0 μ ods k=some pl∧ObRep w (SF μ F st.sto S) (muW E.m0 μ ods) o pl c T ∧
   (0 < pl.cap→∃ k0 o0,sget st.sto k0=some o0∧μ k0=some pl∧∃ d,(k,d)∈ods∧d.old=some k0):=by
  intro k o hko
  obtain ⟨d,pd,hmem,hd,hpd⟩:=wkObs_get ods q σ' hob hp2 k o hko
  have mono:∀ {v:Value} {x:AV} {μ':Mu},RepX w S μ' v x→RepX w (SF μ F st.sto S) μ' v x:=fun h=>h.mono (fun _ h=>.inl h) (fun _ _=>rfl) (fun _ _ h=>h)
  have out:∀ k0 o0 pl,sget st.sto k0=some o0→μ k0=some pl→k0 ∉ F→0 < pl.cap→¬ SF μ F st.sto S pl.blk:=by
   rintro k0 o0 pl ho0 hm0 hnF hc (h1 | ⟨k1,o1,pl1,hkF,ho1,hm1,hc1,hb⟩)
   ·obtain ⟨pl',c,T,hm',hob'⟩:=g.rep.ob k0 o0 ho0
    rw [hm0] at hm';cases hm'
    exact hob'.out hc h1
   ·have hne:k1≠k0:=fun h=>hnF (h ▸ hkF)
    exact g.rep.ne k1 k0 o1 o0 pl1 pl hne ho1 ho0 hm1 hm0 hc1 hc hb
  cases d with
  | keep k0 =>
   simp only [wkOb,Option.map_eq_some_iff,Prod.mk.injEq] at hd
   obtain ⟨o0,ho0,_,rfl⟩:=hd
   obtain ⟨pl,c,T,hm0,hob0⟩:=g.rep.ob k0 o0 ho0
   have h1:=hob0.ext e (fun _=>rfl) (out k0 o0 pl ho0 hm0 (N.fr k _ k0 hmem rfl))
   exact ⟨pl,c,T,by rw [muW_od N hmem rfl];exact hm0,h1.ren fun a b pl ha hb=>muW_new N ha hb,fun _=>⟨k0,o0,ho0,hm0,_,hmem,rfl⟩⟩
  | arr k0 n gt =>
   simp only [wkOb] at hd
   split at hd
   ·rename_i o0 ho0
    split at hd
    ·rename_i hb
     simp only [Option.some.injEq,Prod.mk.injEq] at hd
     obtain ⟨rfl,rfl⟩:=hd
     obtain ⟨p1,p2,_⟩:=hpd
     obtain ⟨pl,c,T,hm0,hob0⟩:=g.rep.ob k0 o0 ho0
     simp only [Bool.and_eq_true] at hb
     have h1:=hob0.ext e (fun _=>rfl) (out k0 o0 pl ho0 hm0 (N.fr k _ k0 hmem rfl))
     refine ⟨pl,c,T,by rw [muW_od N hmem rfl];exact hm0,⟨h1.sz,h1.blk,h1.cap,p1 ▸ h1.len,h1.out,fun i hi=>?_,fun i j x v hi hx hv=>?_,fun hz=>absurd hz (by have:=Nat.le_of_ble_eq_true hb.2;show o0.sz≠0;omega)⟩,fun _=>⟨k0,o0,ho0,hm0,_,hmem,rfl⟩⟩
     ·show (gt i).length=_
      rw [p2 i hi];exact h1.els i (by rw [p1];exact hi)
     ·have hx:(gt i)[j]?=some x:=hx
      rw [p2 i hi] at hx
      have:=h1.rep i j x v (by rw [p1];exact hi) hx hv
      rw [hb.1.1] at this
      exact this
    ·cases hd
   ·cases hd
  | arz k0 n gt =>
   simp only [wkOb] at hd
   split at hd
   ·rename_i o0 ho0
    split at hd
    ·rename_i hb
     simp only [Option.some.injEq,Prod.mk.injEq] at hd
     obtain ⟨rfl,rfl⟩:=hd
     obtain ⟨p1,p2,_⟩:=hpd
     obtain ⟨pl,c,T,hm0,hob0⟩:=g.rep.ob k0 o0 ho0
     simp only [Bool.and_eq_true] at hb
     have h1:=hob0.ext e (fun _=>rfl) (out k0 o0 pl ho0 hm0 (N.fr k _ k0 hmem rfl))
     refine ⟨pl,c,T,by rw [muW_od N hmem rfl];exact hm0,⟨h1.sz,h1.blk,h1.cap,p1 ▸ h1.len,h1.out,fun i hi=>?_,fun i j x v hi hx hv=>?_,fun hz=>absurd hz (by have:=Nat.le_of_ble_eq_true hb.2;show o0.sz≠0;omega)⟩,fun _=>⟨k0,o0,ho0,hm0,_,hmem,rfl⟩⟩
     ·show (gt i).length=_
      rw [(p2 i hi).len];exact h1.els i (by rw [p1];exact hi)
     ·have hx:(gt i)[j]?=some x:=hx
      obtain ⟨a,ha,hax⟩:=(p2 i hi).get hx
      have:=h1.rep i j a v (by rw [p1];exact hi) ha hv
      rw [hb.1.1] at this
      exact nil_sl hax this
    ·cases hd
   ·cases hd
  | mp k0 cs =>
   simp only [wkOb] at hd
   split at hd
   ·rename_i o0 ho0
    split at hd
    ·rename_i hb
     simp only [Option.some.injEq,Prod.mk.injEq] at hd
     obtain ⟨rfl,rfl⟩:=hd
     obtain ⟨rfl,_⟩:=hpd
     obtain ⟨pl,c,T,hm0,hob0⟩:=g.rep.ob k0 o0 ho0
     simp only [Bool.and_eq_true] at hb
     have hl0:=Nat.eq_of_beq_eq_true hb.2
     have h1:=hob0.ext e (fun _=>rfl) (out k0 o0 pl ho0 hm0 (N.fr k _ k0 hmem rfl))
     refine ⟨pl,c,T,by rw [muW_od N hmem rfl];exact hm0,⟨h1.sz,h1.blk,h1.cap,h1.len,h1.out,fun i hi=>absurd hi (by show ¬ i < o0.len;omega),fun i j x v hi=>absurd hi (by show ¬ i < o0.len;omega),fun hz=>?_⟩,fun _=>⟨k0,o0,ho0,hm0,_,hmem,rfl⟩⟩
     obtain ⟨m0,m1,m2,m3,m4⟩:=h1.mp hz
     exact ⟨m0,m1,m2,rfl,m4⟩
    ·cases hd
   ·cases hd
  | nim gt =>
   simp only [wkOb,Option.some.injEq,Prod.mk.injEq] at hd
   obtain ⟨_,rfl⟩:=hd
   exact ⟨⟨0,0,1⟩,#[],0,muW_nim N hmem,⟨rfl,fun h=>absurd h (by simp),by simp,by simp,fun h=>absurd h (by simp),fun i h=>absurd h (by simp),fun i j x v h=>absurd h (by simp),fun h=>absurd (show (1:Nat)=0 from h) (by omega)⟩,fun h=>absurd h (by simp)⟩
  | mat k0 n l b =>
   simp only [wkOb] at hd
   split at hd
   ·rename_i o0 l' ho0 hl'
    split at hd
    ·rename_i hb
     simp only [Option.some.injEq,Prod.mk.injEq] at hd
     obtain ⟨rfl,rfl⟩:=hd
     obtain ⟨p1,p2',p3,_⟩:=hpd
     have p2:∀ i,i < n→matGet l' b i=AV.renL (toNew E.m0 ods) (o0.get i):=fun i hi=>by rw [← p2' i hi];exact (renO_get (p3 i hi) hl').symm
     let gt:Nat→List AV:=matGet l' b
     obtain ⟨pl,c,T,hm0,hob0⟩:=g.rep.ob k0 o0 ho0
     simp only [Bool.and_eq_true] at hb
     have h1:=hob0.ext e (fun _=>rfl) (out k0 o0 pl ho0 hm0 (N.fr k _ k0 hmem rfl))
     refine ⟨pl,c,T,by rw [muW_od N hmem rfl];exact hm0,⟨h1.sz,h1.blk,h1.cap,p1 ▸ h1.len,h1.out,fun i hi=>?_,fun i j x v hi hx hv=>?_,fun hz=>absurd hz (by have:=Nat.le_of_ble_eq_true hb.2;show o0.sz≠0;omega)⟩,fun _=>⟨k0,o0,ho0,hm0,_,hmem,rfl⟩⟩
     ·show (matGet l' b i).length=_
      rw [p2 i hi,renL_eq,List.length_map];exact h1.els i (by rw [p1];exact hi)
     ·have hx:(matGet l' b i)[j]?=some x:=hx
      rw [p2 i hi,renL_eq,List.getElem?_map] at hx
      simp only [Option.map_eq_some_iff] at hx
      obtain ⟨y,hy,rfl⟩:=hx
      have:=noMu_mono (h1.rep i j y v (by rw [p1];exact hi) hy hv)
      exact this.ren fun a b pl ha hb=>muW_new N ha hb
    ·cases hd
   ·cases hd
  | var k0 ds =>
   simp only [wkOb] at hd
   split at hd
   ·rename_i o0 ho0
    split at hd
    ·rename_i pw cs hb hcs
     simp only [Option.some.injEq,Prod.mk.injEq] at hd
     obtain ⟨rfl,rfl⟩:=hd
     obtain ⟨pl,c,T,hm0,hob0⟩:=g.rep.ob k0 o0 ho0
     simp only [Bool.and_eq_true] at hb
     have hl1:=Nat.eq_of_beq_eq_true hb.1.2
     have hz1:=Nat.le_of_ble_eq_true hb.2
     have ha:RepX w S μ (.agg ((List.range o0.sz).map fun j=>(c[j]?).getD undef).toArray) (.agg (o0.get 0)):=by
      refine .agg (by simp [hob0.els 0 (by omega)]) fun j x v hx hv=>?_
      have hj:j < o0.sz:=by
       have:=(List.getElem?_eq_some_iff.1 hx).1
       rwa [hob0.els 0 (by omega)] at this
      obtain ⟨u,q1,_⟩:=cell_of_obrep hob0 (i:=0) (by omega) hj
      have q1':c[j]?=some u:=by simpa using q1
      simp [List.getElem?_range hj,q1'] at hv
      exact noMu_mono (hob0.rep 0 j x v (by omega) hx (by rw [← hv];simpa using q1))
     have hagg:=wkV_rep g N (.agg ds) (.agg (o0.get 0)) _ pw (.agg cs) ha (by simp [wkV,hcs]) hpd
     obtain ⟨vs,hvs,hv1,hv2⟩:=rep_agg hagg
     cases hvs
     have hlen:cs.length=o0.sz:=by simpa using hv1.symm
     refine ⟨pl,c,T,by rw [muW_od N hmem rfl];exact hm0,⟨hob0.sz,hob0.blk,hob0.cap,by have:=hob0.len;show 1≤pl.cap;omega,out k0 o0 pl ho0 hm0 (N.fr k _ k0 hmem rfl),fun i hi=>hlen,fun i j x v hi hx hv=>?_,fun hz=>absurd hz (by show o0.sz≠0;omega)⟩,fun _=>⟨k0,o0,ho0,hm0,_,hmem,rfl⟩⟩
     have hi0:i=0:=by have hi:i < 1:=hi;omega
     subst hi0
     have hx:cs[j]?=some x:=hx
     have hj:j < o0.sz:=by rw [← hlen];exact (List.getElem?_eq_some_iff.1 hx).1
     have hv':c[j]?=some v:=by simpa using hv
     have:=hv2 j x v hx (by simp [List.getElem?_range hj,hv'])
     show RepX w _ (if AV.pureL cs then noMu else _) v x
     split
     ·rename_i hpp
      exact this.pure (pureL_get hpp hx) noMu
     ·exact this
    ·cases hd
   ·cases hd
  | nil sz gt =>
   simp only [wkOb] at hd
   split at hd
   case h_2=>cases hd
   rename_i hsz1
   simp only [Option.some.injEq,Prod.mk.injEq] at hd
   obtain ⟨_,rfl⟩:=hd
   exact ⟨⟨0,0,sz⟩,#[],0,muW_nil N hmem,⟨rfl,fun h=>absurd h (by simp),by simp,by simp,fun h=>absurd h (by simp),fun i h=>absurd h (by simp),fun i j x v h=>absurd h (by simp),fun h=>absurd (show sz=0 from h) (by have:=Nat.le_of_ble_eq_true hsz1;omega)⟩,fun h=>absurd h (by simp)⟩
 have hrw:∀ k i x v,RowV w (muW E.m0 μ ods) σ' k i x v→∃ k0 d,(k,d)∈ods∧d.old=some k0∧RowV w μ st.sto k0 i x v:=by
  rintro k i x v ⟨o,pl,h1,h2,h3,h4⟩
  obtain ⟨d,pd,hmem,hd,hpd⟩:=wkObs_get ods q σ' hob hp2 k o h1
  obtain ⟨k0,o0,q1,q2,q3⟩:=wkOb_row hd hpd h2
  rw [muW_od N hmem q1] at h3
  exact ⟨k0,d,hmem,q1,o0,pl,q2,q3,h3,h4⟩
 have hmx:MX E.fp E.w0.heap.size w (SF μ F st.sto S) (muW E.m0 μ ods) σ':=by
  have hφ:∀ k d k0,(k,d)∈ods→d.old=some k0→((getOd ods k).bind Od.old).getD 0=k0:=fun k d k0 h1 h2=>by rw [getOd_of N.nd h1];simp [h2]
  refine g.mx.tr (fun k=>((getOd ods k).bind Od.old).getD 0) (fun k i x v h=>?_) (fun k i x v k' i' x' v' h h' he=>?_) (fun _ h=>.inl h) (fun _ _=>rfl) (fun k i x v b _ h hb=>⟨rfl,?_,fun h=>h⟩) (fun k o pl h1 h2 h3=>?_)
  ·obtain ⟨k0,d,q1,q2,q3⟩:=hrw k i x v h
   show RowV w μ st.sto (((getOd ods k).bind Od.old).getD 0) i x v
   rw [hφ k d k0 q1 q2];exact q3
  ·obtain ⟨k0,d,q1,q2,_⟩:=hrw k i x v h
   obtain ⟨k0',d',q1',q2',_⟩:=hrw k' i' x' v' h'
   have he:((getOd ods k).bind Od.old).getD 0=((getOd ods k').bind Od.old).getD 0:=he
   rw [hφ k d k0 q1 q2,hφ k' d' k0' q1' q2'] at he
   exact od_inj ods k k' d d' N.od q1 q1' q2 (he ▸ q2')
  ·rintro (h1 | ⟨k1,o1,pl1,_,ho1,hm1,hc1,h1⟩)
   ·exact (g.mx.blk h hb).2.1 h1
   ·exact g.mx.obj _ _ _ _ _ h hb k1 o1 pl1 ho1 hm1 hc1 h1
  ·obtain ⟨pl1,c,T,e1,_,e3⟩:=hod k o h1
   rw [h2] at e1;cases e1
   obtain ⟨k0,o0,ho0,hm0,_⟩:=e3 h3
   exact .inl ⟨k0,o0,pl,ho0,hm0,h3,rfl⟩
 refine ⟨SF μ F st.sto S,muW E.m0 μ ods,⟨g.fr,fun b h=>.inl (g.S0 b h),?_,?_,⟨?_,?_⟩,?_,?_,hmx⟩,?_,N.m0,?_⟩
 ·rintro b (h1 | ⟨k1,o1,pl1,hkF,ho1,hm1,hc1,rfl⟩)
  ·exact g.S1 b h1
  ·obtain ⟨pl',c,T,hm',hob'⟩:=g.rep.ob k1 o1 ho1
   rw [hm1] at hm';cases hm'
   exact lt_of_blk (hob'.blk hc1)
 ·rintro b (h1 | ⟨k1,o1,pl1,hkF,ho1,hm1,hc1,rfl⟩)
  ·exact g.S2 b h1
  ·rcases g.own k1 o1 pl1 ho1 hm1 hc1 with h2 | h2
   ·rcases hF with h3 | h3
    ·rw [List.isEmpty_iff] at h3;rw [h3] at hkF;simp at hkF
    ·exact (h3 _ h2).elim
   ·exact .inr h2
 ·intro k o hko
  obtain ⟨pl,c,T,h1,h2,_⟩:=hod k o hko
  exact ⟨pl,c,T,h1,h2⟩
 ·intro k k' o o' pl pl' hne hko hko' hmk hmk' hc hc'
  obtain ⟨pl1,c,T,h1,_,h3⟩:=hod k o hko
  obtain ⟨pl2,c',T',h1',_,h3'⟩:=hod k' o' hko'
  rw [hmk] at h1;cases h1
  rw [hmk'] at h1';cases h1'
  obtain ⟨k0,o0,ho0,hm0,d,hd,hdo⟩:=h3 hc
  obtain ⟨k0',o0',ho0',hm0',d',hd',hdo'⟩:=h3' hc'
  have hkk:k0≠k0':=by
   rintro rfl
   exact hne (od_inj ods k k' d d' N.od hd hd' hdo hdo')
  exact g.rep.ne k0 k0' o0 o0' pl pl' hkk ho0 ho0' hm0 hm0' hc hc'
 ·intro k o pl hko hmk hc
  obtain ⟨pl1,c,T,h1,_,h3⟩:=hod k o hko
  rw [hmk] at h1;cases h1
  obtain ⟨k0,o0,ho0,hm0,_⟩:=h3 hc
  exact g.own k0 o0 pl ho0 hm0 hc
 ·intro k hk'
  unfold muW
  rw [if_pos hk'];exact g.mu0 k hk'
 ·intro k hk'
  have hk':nk≤k:=hk'
  have:=N.m0
  unfold muW
  rw [if_neg (by omega)]
  cases hg:getOd ods k with
  | none=>rfl
  | some d =>
   have:=N.lt k d (getOd_mem hg)
   omega
 ·exact wkTms_get (R:=fun v x=>RepX w (SF μ F st.sto S) (muW E.m0 μ ods) v x) (fun _=>.unk) (fun d t ps y h1 h2=>wkV_rep g N d _ _ ps y (ht t) h1 h2) tms p tm htm hp1
def Runs (P:Program) (E:Env) (fn:FuncId) (nt:Nat) (Post:Value→World→Prop) (k:List Item) (st:St):Prop :=
 ∀ (tm:Array Value) (w:World),tm.size=nt→Rep E st tm w→∀ (b:Frame),b.fn=fn→b.kind=.normal→∀ cs,
  ∃ v w' fr,Post v w'∧Steps P (lone (b.at ⟨tm,[]⟩ k) cs w) (lone fr cs w')∧fr.fn=fn∧fr.leaving P w' (.returned v)
variable {fn:FuncId} {nt:Nat} {Post:Value→World→Prop} {k k':List Item} {st st':St}
theorem Runs.step (h:Runs P E fn nt Post k' st) (hs:∀ (b:Frame) (a:Act) (cs:List Frame) (w:World),step P (lone (b.at a k) cs w)=.next (lone (b.at a k') cs w)):Runs P E fn nt Post k st:=by
 intro tm w h1 h2 b h3 h4 cs
 obtain ⟨v,w',fr,q1,q2,q3,q4⟩:=h tm w h1 h2 b h3 h4 cs
 exact ⟨v,w',fr,q1,.head (hs b ⟨tm,[]⟩ cs w) q2,q3,q4⟩
theorem Runs.seq {x y:Code} (h:Runs P E fn nt Post (.code x :: .code y :: k) st):Runs P E fn nt Post (.code (.seq x y) :: k) st:=h.step fun _ _ _ _=>step_seq
theorem Runs.block {id:Nat} {c:Code} (h:Runs P E fn nt Post (.code c :: .inBlock id :: k) st):Runs P E fn nt Post (.code (.block id c) :: k) st:=h.step fun _ _ _ _=>step_block
theorem Runs.inBlock {id:Nat} (h:Runs P E fn nt Post k st):Runs P E fn nt Post (.inBlock id :: k) st:=h.step fun _ _ _ _=>step_inBlock
theorem Runs.loop {c:Code} (h:Runs P E fn nt Post (.code c :: .inLoop c :: k) st):Runs P E fn nt Post (.code (.loop c) :: k) st:=h.step fun _ _ _ _=>step_loop
theorem Runs.inLoop {c:Code} (h:Runs P E fn nt Post (.code c :: .inLoop c :: k) st):Runs P E fn nt Post (.inLoop c :: k) st:=h.step fun _ _ _ _=>step_inLoop
theorem Runs.skip (h:Runs P E fn nt Post k st):Runs P E fn nt Post (.code .skip :: k) st:=h.step fun _ _ _ _=>step_skip
theorem Runs.label {l:Nat} (h:Runs P E fn nt Post k st):Runs P E fn nt Post (.code (.label l) :: k) st:=h.step fun _ _ _ _=>step_label
theorem Runs.scope {c:Code} (h:Runs P E fn nt Post (.code c :: .inScope c :: k) st):Runs P E fn nt Post (.code (.scope c) :: k) st:=h.step fun _ _ _ _=>step_lone_go (by simp [stepG,stepG.exec,Frame.at])
theorem Runs.inScope {c:Code} (h:Runs P E fn nt Post k st):Runs P E fn nt Post (.inScope c :: k) st:=h.step fun _ _ _ _=>step_lone_go (by simp [stepG,stepG.exec,Frame.at])
theorem Runs.exit {id:Nat} (he:exitTo id k=some k') (h:Runs P E fn nt Post k' st):Runs P E fn nt Post (.code (.exit id) :: k) st:=h.step fun _ _ _ _=>step_exit he
theorem Runs.cond {c:Operand} {x y:Code} {q:Bool} (hc:evOpd st.tm c=.atom (.bool q)) (h1:q=true→Runs P E fn nt Post (.code x :: k) st) (h2:q=false→Runs P E fn nt Post (.code y :: k) st) :
  Runs P E fn nt Post (.code (.cond c x y) :: k) st:=by
 intro tm w hs hr b hb1 hb2 cs
 have hr':=hr
 obtain ⟨S,μ,g,_,_,ht⟩:=hr'
 have e:=opd_rep (a:=⟨tm,[]⟩) ht c
 rw [hc] at e
 have e:=rep_int e
 have hst:=step_cond (P:=P) (b:=b) (k:=k) (cs:=cs) (w:=w) (x:=x) (y:=y) e
 cases q with
 | true =>
  obtain ⟨v,w',fr,q1,q2,q3,q4⟩:=h1 rfl tm w hs hr b hb1 hb2 cs
  exact ⟨v,w',fr,q1,.head hst q2,q3,q4⟩
 | false =>
  obtain ⟨v,w',fr,q1,q2,q3,q4⟩:=h2 rfl tm w hs hr b hb1 hb2 cs
  exact ⟨v,w',fr,q1,.head hst q2,q3,q4⟩
structure EnvOk (E:Env) (m:Nat):Prop where
 m0:E.m0=m
 fp:m=0→∀ b,¬ E.fp b
theorem Runs.wk {m:Nat} (hE:EnvOk E m) {tms:List (Nat×Wd)} {ps:List Prop} (h:wkSt m st F tms ods nk=some (ps,st')) (hF:(F.isEmpty || Nat.beq m 0)=true) (hp:AllP ps) (hr:Runs P E fn nt Post k st'):Runs P E fn nt Post k st:=by
 have h':wkSt E.m0 st F tms ods nk=some (ps,st'):=by rw [hE.m0];exact h
 refine fun tm w h1 h2=>hr tm w h1 (wk_sound h' hp ?_ h2)
 rcases Bool.or_eq_true_iff.1 hF with h3 | h3
 ·exact .inl h3
 ·exact .inr (hE.fp (Nat.eq_of_beq_eq_true h3))
def evRegion (P:Program) (nt:Nat) (c:Code) (orcs:List (Nat×Orc)) (st:St):Option (List Prop×St) :=
 match c with
 | .region _ ops draw=>match evTrace P nt ops.toList st.nk orcs ops.toList 0 st.tm st.sto with
  | some recs=>match !draw || (P.follows .mixedOrders && drawOk ops.toList recs) with
   | true=>some (oblAll recs,⟨tmAll recs st.tm,stoAll recs st.sto,st.nk+16 * ops.size⟩)
   | false=>none
  | none=>none
 | _=>none
def noFrz:List (Nat×Orc)→Bool
 | []=>true
 | (_,o) :: r=>!o.frz && noFrz r
def noY:List (Nat×Orc)→Bool
 | []=>true
 | (_,o) :: r=>o.y.isNone && noY r
def YsP (P:Program) (E:Env):List (Nat×Orc)→Prop
 | []=>True
 | (_,o) :: r=>(match o.y with
  | some y=>YOK P E y
  | none=>True)∧YsP P E r
theorem noFrz_get:∀ {orcs:List (Nat×Orc)},noFrz orcs=true→∀ i x,getOrc orcs i=some x→x.frz=true→False
 | [],_,i,x,h,_=>by simp [getOrc] at h
 | (a,o) :: r,hn,i,x,h,hx=>by
  simp only [noFrz,Bool.and_eq_true,Bool.not_eq_true'] at hn
  simp only [getOrc] at h
  split at h
  ·cases h;rw [hn.1] at hx;cases hx
  ·exact noFrz_get hn.2 i x h hx
theorem noY_ys {P:Program} {E:Env}:∀ {orcs:List (Nat×Orc)},noY orcs=true→YsP P E orcs
 | [],_=>trivial
 | (a,o) :: r,hn=>by
  simp only [noY,Bool.and_eq_true,Option.isNone_iff_eq_none] at hn
  refine ⟨?_,noY_ys hn.2⟩
  rw [hn.1];trivial
theorem ysP_get {P:Program} {E:Env}:∀ {orcs:List (Nat×Orc)},YsP P E orcs→∀ i x y,getOrc orcs i=some x→x.y=some y→YOK P E y
 | [],_,i,x,y,h,_=>by simp [getOrc] at h
 | (a,o) :: r,hn,i,x,y,h,hx=>by
  simp only [getOrc] at h
  split at h
  ·cases h
   have:=hn.1
   rw [hx] at this;exact this
  ·exact ysP_get hn.2 i x y h hx
theorem region_wpIn {rd:Option Nat} {ds:List Deferred} {c:Code} {orcs:List (Nat×Orc)} (hz:noFrz orcs=true∨∀ b,¬ E.fp b) (hy:YsP P E orcs) {ps:List Prop} (h:evRegion P nt c orcs st=some (ps,st')) (hp:AllP ps)
  {tm:Array Value} {w:World} (hs:tm.size=nt) (hrep:Rep E st tm w):c.wpIn (FW rd) 0 P (fun e a w=>e=.normal∧a.tmps.size=nt∧a.defers=ds∧Rep E st' a.tmps w) ⟨tm,ds⟩ w:=by
 have hz:∀ i,OrcOk P E (getOrc orcs i):=fun i=>⟨fun x hx hf=>hz.elim (fun hn=>(noFrz_get hn i x hx hf).elim) id,fun x y hx hxy=>ysP_get hy i x y hx hxy⟩
 unfold evRegion at h
 split at h
 case h_2=>cases h
 rename_i id ops draw
 split at h
 case h_2=>cases h
 rename_i recs htr
 split at h
 case h_2=>cases h
 rename_i hd
 simp only [Option.some.injEq,Prod.mk.injEq] at h
 obtain ⟨rfl,rfl⟩:=h
 obtain ⟨S,μ,g,hk,hm,ht⟩:=hrep
 let Q0:Exit→Act→World→Prop:=fun e a w=>e=.normal∧a.tmps.size=nt∧a.defers=ds∧Rep E ⟨tmAll recs st.tm,stoAll recs st.sto,st.nk+16 * ops.size⟩ a.tmps w
 show (Code.region id ops draw).wpIn (FW rd) 0 P Q0 ⟨tm,ds⟩ w
 have hQ:∀ (a':Act) (w':World) (S':Nat→Prop) (μ':Mu),a'.tmps.size=nt→a'.defers=ds→Good E (stoAll recs st.sto) S' μ' w'→(∀ k,st.nk+16 * ops.size≤k→μ' k=none)→(∀ t,RepX w' S' μ' (a'.tmps.getD t undef) (getTm (tmAll recs st.tm) t)) →
   Q0 .normal a' w' :=
  fun a' w' S' μ' q1 q2 q3 q4 q5=>⟨rfl,q1,q2,S',μ',q3,q4,by show E.m0≤st.nk+16 * ops.size;omega,q5⟩
 cases draw with
 | false =>
  refine wpIn_region ?_
  have:=seq_sound (P:=P) (E:=E) (Q:=Q0) (rd:=rd) (ds:=ds) (nt:=nt) (nk:=st.nk) (ops:=ops) (orcs:=orcs) hz hm ops.toList 0 ⟨tm,ds⟩ w st.tm st.sto S μ recs rfl (by simp) hs rfl g (by simpa using hk) ht htr hp hQ
  rw [List.range_eq_range']
  simpa using this
 | true =>
  simp only [Bool.not_true,Bool.false_or,Bool.and_eq_true] at hd
  refine wpIn_region_any hd.1 ?_
  have hrf:∀ (n j:Nat),(Array.replicate n false).getD j false=false:=by
   intro n j
   simp only [Array.getD_eq_getD_getElem?,Array.getElem?_replicate]
   split<;>rfl
  refine draw_sound hz hm htr hp hd.2 hQ ops.size _ ⟨tm,ds⟩ _ S μ (by simp) hs rfl ?_ ?_ ?_ ?_ ?_
  ·intro j hj;rw [hrf] at hj;cases hj
  ·omega
  ·rw [stoL_none recs 0 st.sto _ (fun m _=>hrf _ _)];exact g.drew
  ·intro k' hk' _
   exact hk k' hk'
  ·intro t
   rw [tmL_none recs 0 st.tm _ (fun m _=>hrf _ _)]
   exact (ht t).ext (Ext.drew w S μ)
theorem Runs.region {c:Code} {orcs:List (Nat×Orc)} (hz:noFrz orcs=true∨∀ b,¬ E.fp b) (hy:YsP P E orcs) {ps:List Prop} (h:evRegion P nt c orcs st=some (ps,st')) (hp:AllP ps) (hr:Runs P E fn nt Post k st'):Runs P E fn nt Post (.code c :: k) st:=by
 intro tm w hs hrep b hb1 hb2 cs
 have hwp:c.wp P (fun e a w=>e=.normal∧a.tmps.size=nt∧a.defers=[]∧Rep E st' a.tmps w) ⟨tm,[]⟩ w:=(wpIn_wide (n:=0)).1 (region_wpIn (rd:=none) (ds:=[]) hz hy h hp hs hrep)
 obtain ⟨e,a',w',⟨rfl,q1,q2,q3⟩,harr⟩:=hwp b k cs
 have ha:a'=⟨a'.tmps,[]⟩:=by cases a';simp at q2;simp [q2]
 obtain ⟨v,w'',fr,r1,r2,r3,r4⟩:=hr a'.tmps w' q1 q3 b hb1 hb2 cs
 refine ⟨v,w'',fr,r1,Steps.trans harr ?_,r3,r4⟩
 rw [ha];exact r2
end
end Go.Ab
namespace Go.Ab
def SPost (E:Env) (σ':Sto) (res:AV) (v:Value) (w':World):Prop:=∃ S' μ',Good E σ' S' μ' w'∧RepX w' S' μ' v res
def evRes (P:Program) (st:St):List ResultVar→Option (List Prop×List AV)
 | []=>some ([],[])
 | .tmp t :: r=>(evRes P st r).map fun (p,l)=>(p,getTm st.tm t :: l)
 | .cell a t :: r=>match evLoad P st.sto t (getTm st.tm a),evRes P st r with
  | some (p,x,_),some (q,l)=>some (p ++ q,x :: l)
  | _,_=>none
def resOf:List AV→AV
 | [x]=>x
 | l=>.tup l
def evRet (P:Program) (fn:Func) (st:St):Option (List Prop×AV):=(evRes P st fn.results.toList).map fun (p,l)=>(p,resOf l)
section
variable {P:Program} {E:Env} {fn:FuncId} {nt:Nat} {k:List Item} {st:St}
theorem res_rep {S:Nat→Prop} {μ:Mu} {w:World} (g:Good E st.sto S μ w) {tm:Array Value} (ht:∀ t,RepX w S μ (tm.getD t undef) (getTm st.tm t)) :
  ∀ (l:List ResultVar) (ps:List Prop) (xs:List AV),evRes P st l=some (ps,xs)→AllP ps→∃ vs:List Value,
   (l.mapM fun r=>(match r with | .tmp t=>pure (tm.getD t undef) | .cell a t=>(do loadVar t (← asAddr (tm.getD a undef)):Sem Value)):Sem (List Value)).run P w=.ok vs w∧vs.length=xs.length ∧
   ∀ (j:Nat) c v,xs[j]?=some c→vs[j]?=some v→RepX w S μ v c
 | [],ps,xs,h,_=>by
  simp [evRes] at h;obtain ⟨_,rfl⟩:=h
  exact ⟨[],by simp,rfl,fun j c v hc=>by simp at hc⟩
 | .tmp t :: r,ps,xs,h,hp=>by
  simp only [evRes,Option.map_eq_some_iff,Prod.mk.injEq] at h
  obtain ⟨⟨p,l⟩,h1,rfl,rfl⟩:=h
  obtain ⟨vs,q1,q2,q3⟩:=res_rep g ht r p l h1 hp
  refine ⟨tm.getD t undef :: vs,by simp only [List.mapM_cons,Sem.run_bind,Sem.run_pure,Result.andThen_ok,q1],by simp [q2],?_⟩
  intro j c v hc hv
  cases j with
  | zero=>simp at hc hv;subst hc hv;have:=ht t;rw [Array.getD_eq_getD_getElem?] at this;exact this
  | succ j=>exact q3 j c v (by simpa using hc) (by simpa using hv)
 | .cell a t :: r,ps,xs,h,hp=>by
  simp only [evRes] at h
  split at h
  ·rename_i p x rd q l h1 h2
   simp only [Option.some.injEq,Prod.mk.injEq] at h
   obtain ⟨rfl,rfl⟩:=h
   obtain ⟨hp1,hp2⟩:=AllP.app hp
   obtain ⟨vs,q1,q2,q3⟩:=res_rep g ht r q l h2 hp2
   obtain ⟨v,r1,r2⟩:=ev_load (P:=P) g (ht a) h1 hp1
   have hadd:∃ ad,tm.getD a undef=.pointer (some ad):=by
    cases hv:tm.getD a undef with
    | pointer o =>
     cases o with
     | none=>rw [hv] at r1;simp [Instr.loadAt,Instr.sureAddr] at r1
     | some ad=>exact ⟨ad,rfl⟩
    | _=>rw [hv] at r1;simp [Instr.loadAt,Instr.sureAddr] at r1
   obtain ⟨ad,had⟩:=hadd
   rw [had] at r1
   simp only [Instr.loadAt,Instr.sureAddr,Sem.run_bind,Sem.run_pure,Result.andThen_ok] at r1
   have hA:(asAddr (tm.getD a undef)).run P w=.ok ad w:=by rw [had];rfl
   refine ⟨v :: vs,by rw [List.mapM_cons];simp only [Sem.run_bind,hA,Sem.run_pure,Result.andThen_ok,r1,q1],by simp [q2],?_⟩
   intro j c u hc hu
   cases j with
   | zero=>simp at hc hu;subst hc hu;exact r2
   | succ j=>exact q3 j c u (by simpa using hc) (by simpa using hu)
  ·cases h
theorem ret_leaves {f:Func} (hf:P.funcs[fn]?=some f) {ps:List Prop} {res:AV} (h:evRet P f st=some (ps,res)) (hp:AllP ps) {tm:Array Value} {w:World} (hr:Rep E st tm w) {b:Frame} (hb1:b.fn=fn) (hb2:b.kind=.normal) (todo:List Item) :
  ∃ v,SPost E st.sto res v w∧Frame.leaving P { b.at ⟨tm,[]⟩ todo with mode:=.returning } w (.returned v):=by
 obtain ⟨S,μ,g,_,_,ht⟩:=hr
 simp only [evRet,Option.map_eq_some_iff,Prod.mk.injEq] at h
 obtain ⟨⟨p,l⟩,h1,rfl,rfl⟩:=h
 obtain ⟨vs,q1,q2,q3⟩:=res_rep g ht f.results.toList p l h1 hp
 have hm:(f.results.mapM fun r=>(match r with | .tmp t=>pure (tm.getD t undef) | .cell a t=>(do loadVar t (← asAddr (tm.getD a undef)):Sem Value)):Sem (Array Value)).run P w=.ok vs.toArray w:=by
  rw [Array.mapM_eq_mapM_toList]
  simp only [Sem.run_map,q1,Result.andThen_ok]
 have hval:∃ v,RepX w S μ v (resOf l)∧(results f tm).run P w=.ok v w:=by
  refine ⟨if h:vs.toArray.size=1 then vs.toArray[0] else .tuple vs.toArray,?_,?_⟩
  ·cases l with
   | nil =>
    have:vs=[]:=List.length_eq_zero_iff.1 q2
    subst this
    simp only [resOf]
    exact .tup rfl fun j c v hc=>by simp at hc
   | cons x r =>
    cases r with
    | nil =>
     simp at q2
     have hs:vs.toArray.size=1:=by simpa using q2
     rw [dif_pos hs]
     exact q3 0 x _ rfl (by simp [q2])
    | cons y r =>
     simp at q2
     have hs:¬ vs.toArray.size=1:=by simp;omega
     rw [dif_neg hs]
     exact .tup (by simp [q2]) fun j c v hc hv=>q3 j c v hc (by simpa using hv)
  ·unfold results
   simp only [Sem.run_bind]
   exact (congrArg (fun r:Result (Array Value)=>r.andThen fun a w'=>Result.ok (if h:a.size=1 then a[0] else Value.tuple a) w') hm)
 obtain ⟨v,hv,hrun⟩:=hval
 exact ⟨v,⟨S,μ,g,hv⟩,rfl,rfl,hb2,f,by rw [← hf,← hb1];rfl,hrun⟩
theorem Runs.ret {f:Func} (hf:P.funcs[fn]?=some f) {ps:List Prop} {res:AV} (h:evRet P f st=some (ps,res)) (hp:AllP ps):Runs P E fn nt (SPost E st.sto res) (.code .ret :: k) st:=by
 intro tm w _ hr b hb1 hb2 cs
 obtain ⟨v,h1,h2⟩:=ret_leaves hf h hp hr hb1 hb2 (.code .ret :: k)
 exact ⟨v,w,_,h1,.one step_ret,hb1,h2⟩
theorem Runs.fin {f:Func} (hf:P.funcs[fn]?=some f) {ps:List Prop} {res:AV} (h:evRet P f st=some (ps,res)) (hp:AllP ps):Runs P E fn nt (SPost E st.sto res) [] st:=by
 intro tm w _ hr b hb1 hb2 cs
 obtain ⟨v,h1,h2⟩:=ret_leaves hf h hp hr hb1 hb2 []
 exact ⟨v,w,_,h1,.one step_end,hb1,h2⟩
def initTm:List AV→Nat→List (Nat×AV)
 | [],_=>[]
 | x :: r,i=>(i,x) :: initTm r (i+1)
theorem initTm_get:∀ (l:List AV) (i t:Nat),getTm (initTm l i) t=if i≤t then (l[t - i]?).getD .unk else .unk
 | [],i,t=>by simp [initTm,getTm]
 | x :: r,i,t=>by
  simp only [initTm,getTm]
  by_cases h:i=t
  ·rw [beq_t h,if_pos (by omega)];simp [h]
  ·rw [beq_f h,initTm_get r (i+1) t]
   by_cases h2:i+1≤t
   ·rw [if_pos h2,if_pos (by omega),show t - i=(t - (i+1))+1 by omega];simp
   ·rw [if_neg h2,if_neg (by omega)]
theorem sor {f:FuncId} {fu:Func} {c:Code} {nt m:Nat} {args:List AV} {σ σ':Sto} {res:AV} (hf:P.funcs[f]?=some fu) (hb:fu.body=some c) (hn:fu.ntmps=nt) (ha:Nat.ble args.length nt=true)
  (hσ:m=0→σ=[]) (h:∀ E,EnvOk E m→Runs P E f nt (SPost E σ' res) [.code c] ⟨initTm args 0,σ,m⟩):Sound P f args σ m res σ':=by
 simp only [Nat.ble_eq] at ha
 intro w S μ vs g hk hl cs
 have hE:EnvOk (envOf w S σ μ m) m:=⟨rfl,fun hm b=>by
  rintro (⟨k,o,pl,h1,_⟩ | ⟨k,i,x,v,⟨o,pl,h1,_⟩,_⟩)<;>(rw [hσ hm] at h1;simp [sget] at h1)⟩
 let b:Frame:={ (default:Frame) with fn:=f,kind:=.normal }
 have henter:Frame.enter P f vs .normal=b.at ⟨vs ++ Array.replicate (nt - vs.size) undef,[]⟩ [.code c]:=by
  simp [Frame.enter,Frame.at,hf,hb,hn,b]
 have hsz:=hl.1
 obtain ⟨v,w',fr,h1,h2,h3,h4⟩:=h _ hE (vs ++ Array.replicate (nt - vs.size) undef) w (by simp;omega) ⟨S,μ,g,hk,Nat.le_refl _,fun t=>by
  show RepX w S μ _ (getTm (initTm args 0) t)
  rw [initTm_get,if_pos (Nat.zero_le _),Nat.sub_zero]
  cases hx:args[t]? with
  | none=>exact .unk
  | some x =>
   have hlt:t < vs.size:=by rw [hsz];exact (List.getElem?_eq_some_iff.1 hx).1
   have hv:(vs ++ Array.replicate (nt - vs.size) undef).getD t undef=vs[t]:=by
    simp [Array.getD_eq_getD_getElem?,Array.getElem?_append_left hlt,hlt]
   rw [hv]
   exact hl.2 t x _ hx (Array.getElem?_eq_getElem hlt)⟩ b rfl rfl cs
 rw [← henter] at h2
 obtain ⟨S',μ',g',hv⟩:=h1
 exact ⟨.returned v,w',fr,⟨v,S',μ',rfl,g',hv⟩,h2,h3,h4⟩
end
end Go.Ab
namespace Go.Ab
def bodyOf (f:Func):Code:=f.body.getD .skip
def cat:Code→List Bool→Code
 | c,[]=>c
 | .seq a _,false :: p=>cat a p
 | .seq _ b,true :: p=>cat b p
 | .cond _ a _,false :: p=>cat a p
 | .cond _ _ b,true :: p=>cat b p
 | .block _ b,_ :: p=>cat b p
 | .loop b,_ :: p=>cat b p
 | .scope b,_ :: p=>cat b p
 | c,_ :: _=>c
def adm1:List Item→Option (List Item)
 | .code (.seq a b) :: k=>some (.code a :: .code b :: k)
 | .code (.block id c) :: k=>some (.code c :: .inBlock id :: k)
 | .code (.loop c) :: k=>some (.code c :: .inLoop c :: k)
 | .inLoop c :: k=>some (.code c :: .inLoop c :: k)
 | .inBlock _ :: k=>some k
 | .code (.scope c) :: k=>some (.code c :: .inScope c :: k)
 | .inScope _ :: k=>some k
 | .code .skip :: k=>some k
 | .code (.label _) :: k=>some k
 | .code (.exit id) :: k=>exitTo id k
 | _=>none
def adm:Nat→List Item→Option (List Item)
 | 0,k=>some k
 | n+1,k=>match adm1 k with
  | some k'=>adm n k'
  | none=>none
section
variable {P:Program} {E:Env} {fn:FuncId} {nt:Nat} {Post:Value→World→Prop} {k k':List Item} {st st':St}
theorem Runs.adm1 (h:adm1 k=some k') (hr:Runs P E fn nt Post k' st):Runs P E fn nt Post k st:=by
 unfold Ab.adm1 at h
 split at h
 ·cases h;exact hr.seq
 ·cases h;exact hr.block
 ·cases h;exact hr.loop
 ·cases h;exact hr.inLoop
 ·cases h;exact hr.inBlock
 ·cases h;exact hr.scope
 ·cases h;exact hr.inScope
 ·cases h;exact hr.skip
 ·cases h;exact hr.label
 ·exact hr.exit h
 ·cases h
theorem Runs.adm:∀ (n:Nat) {k:List Item},adm n k=some k'→Runs P E fn nt Post k' st→Runs P E fn nt Post k st
 | 0,k,h,hr=>by simp only [Ab.adm,Option.some.injEq] at h;rw [h];exact hr
 | n+1,k,h,hr=>by
  simp only [Ab.adm] at h
  split at h
  ·rename_i k1 h1
   exact Runs.adm1 h1 (Runs.adm n h hr)
  ·cases h
theorem Runs.condC {c x y:Code} {o:Operand} {q:Bool} (hx:c=.cond o x y) (hc:evOpd st.tm o=.atom (.bool q)) (h1:q=true→Runs P E fn nt Post (.code x :: k) st) (h2:q=false→Runs P E fn nt Post (.code y :: k) st) :
  Runs P E fn nt Post (.code c :: k) st:=by
 subst hx;exact Runs.cond hc h1 h2
theorem Runs.condBn {c x y:Code} {o:Operand} {n:Nat} (hx:c=.cond o x y) (hc:evOpd st.tm o=.bn n) (h1:n=0→Runs P E fn nt Post (.code x :: k) st) (h2:Runs P E fn nt Post (.code y :: k) st) :
  Runs P E fn nt Post (.code c :: k) st:=by
 subst hx
 intro tm w hs hr b hb1 hb2 cs
 have hr':=hr
 obtain ⟨S,μ,g,_,_,ht⟩:=hr'
 have e:=opd_rep (a:=⟨tm,[]⟩) ht o
 rw [hc] at e
 obtain ⟨q,e1,e2⟩:∃ q,(⟨tm,[]⟩:Act).eval o=.bool q∧(q=true→n=0):=by
  generalize (⟨tm,[]⟩:Act).eval o=v at e
  cases e with
  | bn q h=>exact ⟨q,rfl,h⟩
 have hst:=step_cond (P:=P) (b:=b) (k:=k) (cs:=cs) (w:=w) (x:=x) (y:=y) e1
 cases q with
 | true =>
  obtain ⟨v,w',fr,q1,q2,q3,q4⟩:=h1 (e2 rfl) tm w hs hr b hb1 hb2 cs
  exact ⟨v,w',fr,q1,.head hst q2,q3,q4⟩
 | false =>
  obtain ⟨v,w',fr,q1,q2,q3,q4⟩:=h2 tm w hs hr b hb1 hb2 cs
  exact ⟨v,w',fr,q1,.head hst q2,q3,q4⟩
end
def sdels:Sto→List Nat→Sto
 | σ,[]=>σ
 | σ,k :: r=>sdels (sdel σ k) r
theorem SPost.dels {E:Env} {res:AV} {v:Value} {w:World}:∀ (ks:List Nat) {σ:Sto},SPost E σ res v w→SPost E (sdels σ ks) res v w
 | [],_,h=>h
 | k :: r,_,⟨S,μ,g,hv⟩=>SPost.dels r ⟨S,μ,g.del k,hv⟩
theorem Runs.retD {P:Program} {E:Env} {fn:FuncId} {nt:Nat} {k:List Item} {st:St} {c:Code} (ks:List Nat) (hx:c=.ret) {f:Func} (hf:P.funcs[fn]?=some f) {ps:List Prop} {res:AV} {σ':Sto} (h:evRet P f st=some (ps,res))
  (hσ:sdels st.sto ks=σ') (hp:AllP ps):Runs P E fn nt (SPost E σ' res) (.code c :: k) st:=by
 subst hx hσ
 intro tm w h1 h2 b h3 h4 cs
 obtain ⟨v,w',fr,q1,q2⟩:=Runs.ret (E:=E) (nt:=nt) (k:=k) hf h hp tm w h1 h2 b h3 h4 cs
 exact ⟨v,w',fr,q1.dels ks,q2⟩
theorem Runs.finD {P:Program} {E:Env} {fn:FuncId} {nt:Nat} {st:St} (ks:List Nat) {f:Func} (hf:P.funcs[fn]?=some f) {ps:List Prop} {res:AV} {σ':Sto} (h:evRet P f st=some (ps,res))
  (hσ:sdels st.sto ks=σ') (hp:AllP ps):Runs P E fn nt (SPost E σ' res) [] st:=by
 subst hσ
 intro tm w h1 h2 b h3 h4 cs
 obtain ⟨v,w',fr,q1,q2⟩:=Runs.fin (E:=E) (nt:=nt) hf h hp tm w h1 h2 b h3 h4 cs
 exact ⟨v,w',fr,q1.dels ks,q2⟩
def evRW (P:Program) (nt m:Nat) (c:Code) (orcs:List (Nat×Orc)) (F:List Nat) (tms:List (Nat×Wd)) (ods:Ods) (nk:Nat) (st:St):Option (List Prop×St) :=
 match evRegion P nt c orcs st with
 | some (ps,s1)=>match wkSt m s1 F tms ods nk with
  | some (qs,s2)=>some (ps ++ qs,s2)
  | none=>none
 | none=>none
theorem Runs.rw {P:Program} {E:Env} {fn:FuncId} {nt:Nat} {Post:Value→World→Prop} {k:List Item} {st st':St} {m:Nat} {c:Code} {orcs:List (Nat×Orc)} {F:List Nat} {tms:List (Nat×Wd)} {ods:Ods} {nk:Nat}
  (hE:EnvOk E m) {ps:List Prop} (h:evRW P nt m c orcs F tms ods nk st=some (ps,st')) (hF:((F.isEmpty && noFrz orcs) || Nat.beq m 0)=true) (hy:YsP P E orcs) (hp:AllP ps) (hr:Runs P E fn nt Post k st'):Runs P E fn nt Post (.code c :: k) st:=by
 unfold evRW at h
 split at h
 ·rename_i p1 s1 h1
  split at h
  ·rename_i q1 s2 h2
   simp only [Option.some.injEq,Prod.mk.injEq] at h
   obtain ⟨rfl,rfl⟩:=h
   obtain ⟨hp1,hp2⟩:=AllP.app hp
   have hF':(F.isEmpty || Nat.beq m 0)=true:=by
    rcases Bool.or_eq_true_iff.1 hF with h | h
    ·simp [(Bool.and_eq_true_iff.1 h).1]
    ·simp [h]
   have hz:noFrz orcs=true∨∀ b,¬ E.fp b:=by
    rcases Bool.or_eq_true_iff.1 hF with h | h
    ·exact .inl (Bool.and_eq_true_iff.1 h).2
    ·exact .inr (hE.fp (Nat.eq_of_beq_eq_true h))
   exact Runs.region hz hy h1 hp1 (Runs.wk hE h2 hF' hp2 hr)
  ·cases h
 ·cases h
abbrev aI (n:Int):AV:=.atom (.int .i64 n)
abbrev aB (b:Bool):AV:=.atom (.bool b)
abbrev aS (s:ByteArray):AV:=.atom (.string s)
def encL {α:Type} (c:α→List AV) (d:α) (l:List α):AV:=.sl l.length fun i=>c (l.getD i d)
def cI (n:Int):List AV:=[aI n]
def cB (b:Bool):List AV:=[aB b]
def cS (s:ByteArray):List AV:=[aS s]
def cU (k:IntKind) (n:Int):List AV:=[.atom (.int k n)]
abbrev w64 (n:Int):Int:=IntKind.i64.wrap n
theorem ifSome {α:Type} {p:Prop} [Decidable p] {x:Option α} {r:α} (h:(if p then x else none)=some r):p∧x=some r:=by
 by_cases hp:p
 ·rw [if_pos hp] at h;exact ⟨hp,h⟩
 ·rw [if_neg hp] at h;cases h
theorem bsm {α β:Type} {x:Option α} {f:α→Option β} {r:β} (h:x.bind f=some r):∃ a,x=some a∧f a=some r:=Option.bind_eq_some_iff.1 h
theorem condT {α:Type} {q:Bool} {x y:α} {r:α} (h:cond q x y=r) (hq:q=true):x=r:=by subst hq;exact h
theorem condF {α:Type} {q:Bool} {x y:α} {r:α} (h:cond q x y=r) (hq:q=false):y=r:=by subst hq;exact h
def Alike (x y:AV):Prop:=∀ w S μ v,RepX w S μ v x→RepX w S μ v y
theorem Alike.refl (x:AV):Alike x x:=fun _ _ _ _ h=>h
theorem Alike.sl {n m:Nat} {g g':Nat→List AV} (hn:n=m) (hg:∀ i,i < m→g' i=g i):Alike (.sl n g) (.sl m g'):=by
 subst hn
 intro w S μ v h
 cases h with
 | sl b off sz f h1 h2 h3 h4 h5=>exact .sl b off sz f h1 (fun i hi=>by rw [hg i hi];exact h2 i hi) h3 (fun i j c hi hc=>h4 i j c hi (by rw [← hg i hi];exact hc)) h5
theorem Alike.nil {g:Nat→List AV}:Alike .nil (.sl 0 g):=by
 intro w S μ v h
 cases h
 exact .sl 0 0 0 (fun _ _=>undef) (fun h=>absurd h (by omega)) (fun i h=>absurd h (by omega)) (fun i j h=>absurd h (by omega)) (fun i j c h=>absurd h (by omega)) (Nat.le_refl _)
theorem Alike.rp {cs:List AV}:Alike (.rp cs 0) (.pt true cs):=fun _ _ _ _ h=>.pt (fun _=>h) (fun h=>by cases h)
inductive AlikeL:List AV→List AV→Prop where
 | nil:AlikeL [] []
 | cons {x y:AV} {xs ys:List AV}:Alike x y→AlikeL xs ys→AlikeL (x :: xs) (y :: ys)
theorem AlikeL.get {xs ys:List AV} (h:AlikeL xs ys):xs.length=ys.length∧∀ (j:Nat) y,ys[j]?=some y→∃ x,xs[j]?=some x∧Alike x y:=by
 induction h with
 | nil=>exact ⟨rfl,fun j y h=>by simp at h⟩
 | cons h1 _ ih =>
  refine ⟨by simp [ih.1],?_⟩
  intro j y hy
  cases j with
  | zero=>simp at hy;subst hy;exact ⟨_,rfl,h1⟩
  | succ j=>exact ih.2 j y (by simpa using hy)
theorem Alike.agg {xs ys:List AV} (h:AlikeL xs ys):Alike (.agg xs) (.agg ys):=by
 intro w S μ v hv
 obtain ⟨h1,h2⟩:=h.get
 cases hv with
 | agg q1 q2 =>
  refine .agg (q1.trans h1) fun j y v hy hv=>?_
  obtain ⟨x,hx,ha⟩:=h2 j y hy
  exact ha _ _ _ _ (q2 j x v hx hv)
theorem Sound.conv {P:Program} {f:FuncId} {args args':List AV} {σ σ':Sto} {m:Nat} {res:AV} (h:Sound P f args σ m res σ') (ha:AlikeL args' args):Sound P f args' σ m res σ':=by
 obtain ⟨h1,h2⟩:=ha.get
 intro w S μ vs g hk hl
 refine h w S μ vs g hk ⟨hl.1.trans h1,fun j c v hc hv=>?_⟩
 obtain ⟨x,hx,hx'⟩:=h2 j c hc
 exact hx' _ _ _ _ (hl.2 j x v hx hv)
def orI (k:IntKind) (a b:Int):Int:=k.wrap (BitVec.ofInt k.bits a ||| BitVec.ofInt k.bits b).toNat
def andI (k:IntKind) (a b:Int):Int:=k.wrap (BitVec.ofInt k.bits a &&& BitVec.ofInt k.bits b).toNat
def shlI (k:IntKind) (a b:Int):Int:=k.wrap (a * 2 ^ (min b.toNat k.bits))
def shrI (k:IntKind) (a b:Int):Int:=a.fdiv (2 ^ (min b.toNat k.bits))
theorem ltOf {n:Int} {m:Nat} (h:0≤n∧n < (m:Int)):n.toNat < m:=by omega
theorem andI' {a b:Bool} (h:a=true) (k:b=true):(a && b)=true:=by rw [h,k];rfl
theorem get_set {α:Type} (c:α→List AV) (d:α) (l:List α) (k:Nat) (x:α) (i:Nat) (hi:i < (l.set k x).length) :
  c ((l.set k x).getD i d)=if i=k then c x else c (l.getD i d):=by
 have hi':i < l.length:=by simpa using hi
 by_cases h:i=k
 ·subst h;simp [hi']
 ·rw [if_neg h]
  have:¬ k=i:=fun e=>h e.symm
  simp [List.getD_eq_getElem?_getD,this]
theorem get_app {α:Type} (c:α→List AV) (d:α) (l m:List α) (i:Nat) (_:i < (l ++ m).length) :
  c ((l ++ m).getD i d)=if i < l.length then c (l.getD i d) else c (m.getD (i - l.length) d):=by
 by_cases h:i < l.length
 ·rw [if_pos h];simp [List.getD_eq_getElem?_getD,List.getElem?_append_left h]
 ·rw [if_neg h];simp [List.getD_eq_getElem?_getD,List.getElem?_append_right (Nat.le_of_not_lt h)]
theorem get_rep {α:Type} (c:α→List AV) (d x:α) (n i:Nat) (hi:i < (List.replicate n x).length):c ((List.replicate n x).getD i d)=c x:=by
 have:i < n:=by simpa using hi
 simp [List.getD_eq_getElem?_getD,this]
theorem get_rep_up {α:Type} (c:α→List AV) (d x:α) (n i:Nat) {z:List AV} (h:UpL z (c x)) (hi:i < (List.replicate n x).length):UpL z (c ((List.replicate n x).getD i d)):=by rw [get_rep c d x n i hi];exact h
theorem get_ext {α:Type} (c:α→List AV) (d:α) (l:List α) (a b i:Nat) (hi:i < ((l.take b).drop a).length):c (((l.take b).drop a).getD i d)=c (l.getD (addz a i) d):=by
 have h1:a+i < min b l.length:=by simp at hi;omega
 rw [addz_eq]
 simp only [List.getD_eq_getElem?_getD,List.getElem?_drop,List.getElem?_take]
 rw [if_pos (by omega)]
theorem get_chunk {α:Type} (c:α→List AV) (d:α) (l:List α) (i:Nat) (hi:i < l.length):c (l.getD i d)=(l.map c).getD i []:=by
 simp [List.getD_eq_getElem?_getD,hi]
theorem len_ext {α:Type} (l:List α) (a b:Nat) (h1:a≤b) (h2:b≤l.length):b - a=((l.take b).drop a).length:=by simp;omega
theorem len_ext' {α:Type} (l:List α) (a b:Nat) (h1:a≤b∧b≤l.length):b - a=((l.take b).drop a).length:=len_ext l a b h1.1 h1.2
end Go.Ab
namespace Go.Ab
theorem condSplit {α:Type} {q:Bool} {x y r:α} (h:cond q x y=r):(q=true∧x=r)∨(q=false∧y=r):=by cases q with
 | true=>exact .inl ⟨rfl,h⟩
 | false=>exact .inr ⟨rfl,h⟩
theorem get_app_raw {α:Type} (c:α→List AV) (d:α) (l m:List α) {n:Nat} {g1 g2:Nat→List AV} (hn:n=l.length) (h1:∀ z,z < l.length→c (l.getD z d)=g1 z)
  (h2:∀ z,z < m.length→c (m.getD z d)=g2 z) (i:Nat) (hi:i < (l ++ m).length):c ((l ++ m).getD i d)=if i < n then g1 i else g2 (i - n):=by
 subst hn
 rw [get_app c d l m i hi]
 by_cases h:i < l.length
 ·rw [if_pos h,if_pos h,h1 i h]
 ·rw [if_neg h,if_neg h,h2 (i - l.length) (by simp at hi;omega)]
theorem len_app_raw {α:Type} {l m:List α} {n k:Nat} (hn:n=l.length) (hk:k=m.length):n+k=(l ++ m).length:=by subst hn hk;simp
theorem get_set_raw {α:Type} (c:α→List AV) (d:α) (l:List α) (k:Nat) (x:α) {g:Nat→List AV} (h1:∀ z,z < l.length→c (l.getD z d)=g z) (i:Nat) (hi:i < (l.set k x).length) :
  c ((l.set k x).getD i d)=if i=k then c x else g i:=by
 rw [get_set c d l k x i hi,h1 i (by simpa using hi)]
theorem len_set_raw {α:Type} {l:List α} {n k:Nat} {x:α} (hn:n=l.length):n=(l.set k x).length:=by subst hn;simp
def kp:List Nat→List (Nat×Wd)
 | []=>[]
 | t :: r=>(t,.keep) :: kp r
def kq:List Nat→Ods
 | []=>[]
 | k :: r=>(k,.keep k) :: kq r
def vO (n:Nat) (cs:List AV):Ob:=⟨true,n,1,true,fun _=>cs⟩
def vN (n:Nat) (cs:List AV):Ob:=⟨true,n,1,false,fun _=>cs⟩
def aO {α:Type} (sz:Nat) (c:α→List AV) (d:α) (l:List α):Ob:=⟨false,sz,l.length,true,fun zi=>c (l.getD zi d)⟩
def pathF:Nat→Nat→List Bool→List Bool
 | 0,_,acc=>acc
 | k+1,n,acc=>match Nat.ble n 1 with
  | true=>acc
  | false=>pathF k (n / 2) (Nat.beq (n % 2) 1 :: acc)
def pth (n:Nat):List Bool:=pathF 400 n []
theorem o1:0 < 1:=Nat.one_pos
theorem z0 {n:Nat}:0+n≤n:=Nat.le_of_eq (Nat.zero_add _)
section
variable {P:Program} {E:Env} {fn:FuncId} {nt:Nat} {Post:Value→World→Prop} {k:List Item} {st:St} {m:Nat}
theorem Runs.sA (n:Nat) (k':List Item) (hr:Runs P E fn nt Post k' st) (h:Ab.adm n k=some k':=by kernel_rfl):Runs P E fn nt Post k st:=Runs.adm n h hr
theorem Runs.sR (hE:EnvOk E m) (st':St) (c:Code) (orcs:List (Nat×Orc)) (F:List Nat) (tms:List (Nat×Wd)) (ods:Ods) (nk:Nat) (ps:List Prop) (hp:AllP ps) (hr:Runs P E fn nt Post k st')
  (h:evRW P nt m c orcs F tms ods nk st=some (ps,st'):=by kernel_rfl) (hF:(((F.isEmpty && noFrz orcs) || Nat.beq m 0) && noY orcs)=true:=by rfl):Runs P E fn nt Post (.code c :: k) st:=Runs.rw hE h (Bool.and_eq_true_iff.1 hF).1 (noY_ys (Bool.and_eq_true_iff.1 hF).2) hp hr
theorem Runs.sRY (hE:EnvOk E m) (st':St) (c:Code) (orcs:List (Nat×Orc)) (F:List Nat) (tms:List (Nat×Wd)) (ods:Ods) (nk:Nat) (ps:List Prop) (hp:AllP ps) (hy:YsP P E orcs) (hr:Runs P E fn nt Post k st')
  (h:evRW P nt m c orcs F tms ods nk st=some (ps,st'):=by kernel_rfl) (hF:((F.isEmpty && noFrz orcs) || Nat.beq m 0)=true:=by rfl):Runs P E fn nt Post (.code c :: k) st:=Runs.rw hE h hF hy hp hr
theorem Runs.sW (hE:EnvOk E m) (st':St) (F:List Nat) (tms:List (Nat×Wd)) (ods:Ods) (nk:Nat) (ps:List Prop) (hp:AllP ps) (hr:Runs P E fn nt Post k st')
  (h:wkSt m st F tms ods nk=some (ps,st'):=by kernel_rfl) (hF:(F.isEmpty || Nat.beq m 0)=true:=by rfl):Runs P E fn nt Post k st:=Runs.wk hE h hF hp hr
theorem Runs.sC {c:Code} (t:Nat) (x y:Code) (q:Bool) (h1:q=true→Runs P E fn nt Post (.code x :: k) st) (h2:q=false→Runs P E fn nt Post (.code y :: k) st) (hx:c=.cond (.tmp t) x y:=by kernel_rfl) (hc:evOpd st.tm (.tmp t)=.atom (.bool q):=by kernel_rfl) :
  Runs P E fn nt Post (.code c :: k) st:=Runs.condC hx hc h1 h2
theorem Runs.sT {c:Code} (f:Func) (ks:List Nat) (ps:List Prop) {res:AV} {σ':Sto} (hp:AllP ps) (hx:c=.ret:=by kernel_rfl) (hf:P.funcs[fn]?=some f:=by kernel_rfl) (h:evRet P f st=some (ps,res):=by kernel_rfl)
  (hσ:sdels st.sto ks=σ':=by rfl):Runs P E fn nt (SPost E σ' res) (.code c :: k) st:=Runs.retD ks hx hf h hσ hp
theorem Runs.sF (f:Func) (ks:List Nat) (ps:List Prop) {res:AV} {σ':Sto} (hp:AllP ps) (hf:P.funcs[fn]?=some f:=by kernel_rfl) (h:evRet P f st=some (ps,res):=by kernel_rfl)
  (hσ:sdels st.sto ks=σ':=by rfl):Runs P E fn nt (SPost E σ' res) [] st:=Runs.finD ks hf h hσ hp
def nK (n:Nat) (k:List Item):List Item:=match Ab.adm n k with
 | some k'=>k'
 | none=>[]
def hdC:List Item→Code
 | .code c :: _=>c
 | _=>.ret
def tlK:List Item→List Item
 | _ :: k=>k
 | []=>[]
def cdX:Code→Code
 | .cond _ x _=>x
 | c=>c
def cdY:Code→Code
 | .cond _ _ y=>y
 | c=>c
def chkA (n:Nat) (k:List Item):Bool:=match Ab.adm n k with
 | some (.code _ :: _)=>true
 | _=>false
def nS (P:Program) (nt m:Nat) (c:Code) (orcs:List (Nat×Orc)) (F:List Nat) (tms:List (Nat×Wd)) (ods:Ods) (nk:Nat) (st:St):St:=match evRW P nt m c orcs F tms ods nk st with
 | some x=>x.2
 | none=>st
def nV (m:Nat) (st:St) (F:List Nat) (tms:List (Nat×Wd)) (ods:Ods) (nk:Nat):St:=match wkSt m st F tms ods nk with
 | some x=>x.2
 | none=>st
def psOf:Option (List Prop×St)→Option (List Prop)
 | some x=>some x.1
 | none=>none
theorem chk_adm {n:Nat} {k:List Item} (h:chkA n k=true):Ab.adm n k=some (.code (hdC (nK n k)) :: tlK (nK n k)):=by
 unfold chkA at h
 unfold nK
 split at h
 ·rename_i c k' h1;rw [h1];rfl
 ·cases h
theorem psOf_some {x:Option (List Prop×St)} {ps:List Prop} (h:psOf x=some ps):∃ s,x=some (ps,s):=by
 cases x with
 | none=>cases h
 | some y=>cases h;exact ⟨y.2,rfl⟩
theorem rnR (hE:EnvOk E m) (n:Nat) (orcs:List (Nat×Orc)) (F:List Nat) (tms:List (Nat×Wd)) (ods:Ods) (nk:Nat) {ps:List Prop} (hp:AllP ps)
  (hr:Runs P E fn nt Post (tlK (nK n k)) (nS P nt m (hdC (nK n k)) orcs F tms ods nk st)) (h0:chkA n k=true:=by kernel_rfl)
  (h:psOf (evRW P nt m (hdC (nK n k)) orcs F tms ods nk st)=some ps:=by kernel_rfl) (hF:(((F.isEmpty && noFrz orcs) || Nat.beq m 0) && noY orcs)=true:=by kernel_rfl):Runs P E fn nt Post k st:=by
 obtain ⟨s,hs⟩:=psOf_some h
 refine Runs.adm n (chk_adm h0) (Runs.rw hE hs (Bool.and_eq_true_iff.1 hF).1 (noY_ys (Bool.and_eq_true_iff.1 hF).2) hp ?_)
 have e:nS P nt m (hdC (nK n k)) orcs F tms ods nk st=s:=by unfold nS;rw [hs]
 rw [← e];exact hr
theorem rnW (hE:EnvOk E m) (n:Nat) (F:List Nat) (tms:List (Nat×Wd)) (ods:Ods) (nk:Nat) {ps:List Prop} (hp:AllP ps) {k':List Item} {st':St} (hr:Runs P E fn nt Post k' st')
  (h0:Ab.adm n k=some k':=by kernel_rfl) (h:wkSt m st F tms ods nk=some (ps,st'):=by kernel_rfl) (hF:(F.isEmpty || Nat.beq m 0)=true:=by kernel_rfl):Runs P E fn nt Post k st :=
 Runs.adm n h0 (Runs.wk hE h hF hp hr)
theorem rnX (hE:EnvOk E m) (F:List Nat) (tms:List (Nat×Wd)) (ods:Ods) (nk:Nat) {ps:List Prop} (hp:AllP ps) (hr:Runs P E fn nt Post k (nV m st F tms ods nk))
  (h:psOf (wkSt m st F tms ods nk)=some ps:=by kernel_rfl) (hF:(F.isEmpty || Nat.beq m 0)=true:=by kernel_rfl):Runs P E fn nt Post k st:=by
 obtain ⟨s,hs⟩:=psOf_some h
 have e:nV m st F tms ods nk=s:=by unfold nV;rw [hs]
 rw [e] at hr
 exact Runs.wk hE hs hF hp hr
theorem rnC (n t:Nat) {R:Type} {q:Bool} {x y r:R} (h:(bif q then x else y)=r) (h1:q=true→x=r→Runs P E fn nt Post (.code (cdX (hdC (nK n k))) :: tlK (nK n k)) st)
  (h2:q=false→y=r→Runs P E fn nt Post (.code (cdY (hdC (nK n k))) :: tlK (nK n k)) st) (h0:chkA n k=true:=by kernel_rfl)
  (hx:hdC (nK n k)=.cond (.tmp t) (cdX (hdC (nK n k))) (cdY (hdC (nK n k))):=by kernel_rfl) (hc:evOpd st.tm (.tmp t)=.atom (.bool q):=by kernel_rfl):Runs P E fn nt Post k st :=
 Runs.adm n (chk_adm h0) (Runs.condC hx hc (fun hq=>h1 hq (by rw [hq] at h;exact h)) (fun hq=>h2 hq (by rw [hq] at h;exact h)))
theorem rnT (hE:EnvOk E m) (n:Nat) (f:Func) (F:List Nat) (tms:List (Nat×Wd)) (ods:Ods) (nk:Nat) {ps:List Prop} (hp:AllP ps) (ks:List Nat) {ps2:List Prop} (hp2:AllP ps2) {res:AV} {σ':Sto}
  (h0:chkA n k=true:=by kernel_rfl) (hx:hdC (nK n k)=.ret:=by kernel_rfl) (h:psOf (wkSt m st F tms ods nk)=some ps:=by kernel_rfl) (hf:P.funcs[fn]?=some f:=by kernel_rfl)
  (h2:evRet P f (nV m st F tms ods nk)=some (ps2,res):=by kernel_rfl) (hσ:sdels (nV m st F tms ods nk).sto ks=σ':=by kernel_rfl) (hF:(F.isEmpty || Nat.beq m 0)=true:=by kernel_rfl):Runs P E fn nt (SPost E σ' res) k st:=by
 obtain ⟨s,hs⟩:=psOf_some h
 have e:nV m st F tms ods nk=s:=by unfold nV;rw [hs]
 rw [e] at h2 hσ
 exact Runs.adm n (chk_adm h0) (Runs.wk hE hs hF hp (Runs.sT f ks ps2 hp2 hx hf h2 hσ))
theorem rnF (hE:EnvOk E m) (n:Nat) (f:Func) (F:List Nat) (tms:List (Nat×Wd)) (ods:Ods) (nk:Nat) {ps:List Prop} (hp:AllP ps) (ks:List Nat) {ps2:List Prop} (hp2:AllP ps2) {res:AV} {σ':Sto}
  (h0:Ab.adm n k=some []:=by kernel_rfl) (h:psOf (wkSt m st F tms ods nk)=some ps:=by kernel_rfl) (hf:P.funcs[fn]?=some f:=by kernel_rfl)
  (h2:evRet P f (nV m st F tms ods nk)=some (ps2,res):=by kernel_rfl) (hσ:sdels (nV m st F tms ods nk).sto ks=σ':=by kernel_rfl) (hF:(F.isEmpty || Nat.beq m 0)=true:=by kernel_rfl):Runs P E fn nt (SPost E σ' res) k st:=by
 obtain ⟨s,hs⟩:=psOf_some h
 have e:nV m st F tms ods nk=s:=by unfold nV;rw [hs]
 rw [e] at h2 hσ
 exact Runs.adm n h0 (Runs.wk hE hs hF hp (Runs.sF f ks ps2 hp2 hf h2 hσ))
def opnE (st:St) (k i sz len:Nat) (g:Nat→List AV):Option (List Prop) :=
 match sget st.sto k with
 | some o=>match o.var with
  | false=>some [i < o.len,o.get i=[.mr sz len g]]
  | true=>none
 | none=>none
def stO (st:St) (k i sz len:Nat) (g:Nat→List AV):St :=
 match sget st.sto k with
 | some o=>⟨st.tm,sset (sset st.sto k ⟨false,o.sz,o.len,false,fun m=>if m=i then [.os st.nk 0 len] else o.get m⟩) st.nk ⟨false,sz,len,true,g⟩,st.nk+16⟩
 | none=>st
theorem rnO (k1 i sz len:Nat) (g:Nat→List AV) {ps:List Prop} (hp:AllP ps) (hr:Runs P E fn nt Post k (stO st k1 i sz len g)) (h:opnE st k1 i sz len g=some ps:=by kernel_rfl):Runs P E fn nt Post k st:=by
 refine fun tm w h1 h2=>hr tm w h1 ?_
 obtain ⟨S,μ,g0,hk,hm,ht⟩:=h2
 unfold opnE at h
 unfold stO
 cases ho:sget st.sto k1 with
 | none=>rw [ho] at h;cases h
 | some o =>
  rw [ho] at h
  simp only at h ⊢
  cases hv:o.var with
  | true=>rw [hv] at h;cases h
  | false =>
   rw [hv] at h
   simp only [Option.some.injEq] at h
   subst h
   obtain ⟨p1,p2,_⟩:=hp
   obtain ⟨q,e1,e2⟩:=g0.opn (hk st.nk (Nat.le_refl _)) hm ho (rowOf_mk (x:=(sz,len,g)) hv p1 p2)
   exact ⟨S,muSet μ st.nk q,e2,fun n hn=>by
    have hn:st.nk+16≤n:=hn
    unfold muSet;rw [if_neg (by omega)];exact hk n (by omega),by show E.m0≤st.nk+16;omega,fun t=>(ht t).ext e1⟩
def clsE (st:St) (k q i:Nat):Option (List Prop) :=
 match clsP st.sto k q i with
 | some x=>some x.1
 | none=>none
def stL (st:St) (k q i:Nat):St :=
 match clsP st.sto k q i with
 | some x=>⟨st.tm,supd st.sto x.2,st.nk⟩
 | none=>st
theorem rnL (k1 q i:Nat) {ps:List Prop} (hp:AllP ps) (hr:Runs P E fn nt Post k (stL st k1 q i)) (h:clsE st k1 q i=some ps:=by kernel_rfl):Runs P E fn nt Post k st:=by
 refine fun tm w h1 h2=>hr tm w h1 ?_
 obtain ⟨S,μ,g0,hk,hm,ht⟩:=h2
 unfold clsE at h
 unfold stL
 cases hc:clsP st.sto k1 q i with
 | none=>rw [hc] at h;cases h
 | some x =>
  rw [hc] at h
  simp only [Option.some.injEq] at h
  subst h
  exact ⟨S,μ,cls_sound hc hp g0,hk,hm,ht⟩
def mR {α:Type} (sz:Nat) (c:α→List AV) (d:α) (l:List α):List AV:=[.mr sz l.length (fun i=>c (l.getD i d))]
def aM {α:Type} (sz:Nat) (c:α→List AV) (d:α) (l:List (List α)):Ob:=⟨false,1,l.length,false,fun m=>mR sz c d (l.getD m [])⟩
theorem mat_cls {α:Type} {sz:Nat} {c:α→List AV} {d:α} (E:List (List α)) (i q n:Nat) (row:List α) (r:List (Nat×Nat×Nat)) (hi:i < E.length) (hr:∀ x∈r,x.1≠i) :
  ∀ m,m < (E.set i row).length→matGet r (fun m=>mR sz c d ((E.set i row).getD m [])) m=if m=i then mR sz c d row else matGet ((i,q,n) :: r) (fun m=>mR sz c d (E.getD m [])) m:=by
 intro m _
 have gen:∀ (r:List (Nat×Nat×Nat)),m≠i→matGet r (fun m=>mR sz c d ((E.set i row).getD m [])) m=matGet r (fun m=>mR sz c d (E.getD m [])) m:=by
  intro r hm
  induction r with
  | nil=>simp only [matGet,List.getD_eq_getElem?_getD];rw [List.getElem?_set_ne (fun h=>hm h.symm)]
  | cons x r ih =>
   obtain ⟨a,b,e⟩:=x
   simp only [matGet,ih]
 by_cases hm:m=i
 ·subst hm
  rw [if_pos rfl]
  clear gen
  induction r with
  | nil=>simp only [matGet,List.getD_eq_getElem?_getD];rw [List.getElem?_set_self hi];rfl
  | cons x r ih =>
   obtain ⟨a,b,e⟩:=x
   have h1:m≠a:=fun h=>hr (a,b,e) List.mem_cons_self h.symm
   simp only [matGet]
   rw [if_neg h1]
   exact ih fun x hx=>hr x (List.mem_cons_of_mem _ hx)
 ·rw [if_neg hm]
  simp only [matGet]
  rw [if_neg hm]
  exact gen r hm
theorem mat_cls0 {α:Type} {sz:Nat} {c:α→List AV} {d:α} (E:List (List α)) (i q n:Nat) (r:List (Nat×Nat×Nat)) (hr:∀ x∈r,x.1≠i) :
  ∀ m,m < E.length→matGet r (fun m=>mR sz c d (E.getD m [])) m=if m=i then mR sz c d (E.getD i []) else matGet ((i,q,n) :: r) (fun m=>mR sz c d (E.getD m [])) m:=by
 intro m _
 by_cases hm:m=i
 ·subst hm
  rw [if_pos rfl]
  induction r with
  | nil=>rfl
  | cons x r ih =>
   obtain ⟨a,b,e⟩:=x
   have h1:m≠a:=fun h=>hr (a,b,e) List.mem_cons_self h.symm
   simp only [matGet]
   rw [if_neg h1]
   exact ih fun x hx=>hr x (List.mem_cons_of_mem _ hx)
 ·rw [if_neg hm]
  simp only [matGet]
  rw [if_neg hm]
theorem mat_clsE {α:Type} {sz:Nat} {c:α→List AV} {d:α} (E:List (List α)) (i q n:Nat) (row:List α) (r:List (Nat×Nat×Nat)) (he:E.getD i []=row) (hr:∀ x∈r,x.1≠i) :
  ∀ m,m < E.length→matGet r (fun m=>mR sz c d (E.getD m [])) m=if m=i then mR sz c d row else matGet ((i,q,n) :: r) (fun m=>mR sz c d (E.getD m [])) m:=by
 subst he;exact mat_cls0 E i q n r hr
theorem getD_app {α:Type} (E:List (List α)) (row:List α):(E ++ [row]).getD E.length []=row:=by simp
theorem lt_app {α:Type} (E:List α) (row:α):E.length < (E ++ [row]).length:=by simp
theorem mat_app {α:Type} {sz:Nat} {c:α→List AV} {d:α} (E:List (List α)) (row:List α) {q n n2:Nat} {b:Nat→List AV} (h:n=n2) (hb:b 0=[.os q 0 n]) :
  ∀ m,m < (E ++ [row]).length→matGet [(E.length,q,n2)] (fun m=>mR sz c d ((E ++ [row]).getD m [])) m=if m < E.length then mR sz c d (E.getD m []) else b (m - E.length):=by
 intro m hm
 subst h
 simp only [List.length_append,List.length_singleton] at hm
 simp only [matGet]
 by_cases h1:m=E.length
 ·subst h1;rw [if_pos rfl,if_neg (Nat.lt_irrefl _),Nat.sub_self,hb]
 ·rw [if_neg h1,if_pos (by omega),List.getD_eq_getElem?_getD,List.getElem?_append_left (by omega),List.getD_eq_getElem?_getD]
theorem mat_put {b:Nat→List AV} {i1:Nat} (i k n n1 N:Nat) (h1:i1=i):∀ m,m < N→matGet [(i,k,n1)] b m=if m=i1 then [.os k 0 n1] else matGet [(i,k,n)] b m:=by
 intro m _
 subst h1
 simp only [matGet]
 split
 ·rfl
 ·rfl
theorem gO {c:Prop} [Decidable c] {x:AV} {l:List AV} (h:c):(if c then [x] else l)[0]?=some x:=by rw [if_pos h];rfl
theorem nemL {i:Nat}:∀ x∈([]:List (Nat×Nat×Nat)),x.1≠i:=fun _ h=>by simp at h
theorem neC {i j k n:Nat} {r:List (Nat×Nat×Nat)} (h:j≠i) (hr:∀ x∈r,x.1≠i):∀ x∈(j,k,n) :: r,x.1≠i:=fun x hx=>by
 rcases List.mem_cons.1 hx with rfl | hx
 ·exact h
 ·exact hr x hx
theorem pc {p:Prop} {ps:List Prop} (h:p) (t:AllP ps):AllP (p :: ps):=⟨h,t⟩
theorem pn:AllP []:=trivial
theorem z1 (n:Nat):0+n≤n:=z0
theorem get_set0 {α:Type} (c:α→List AV) (d:α) (l:List α) (k:Nat) (x:α) (i:Nat) (hi:i < (l.set k x).length):c ((l.set k x).getD i d)=if i=k then c x else (fun zi=>c (l.getD zi d)) i :=
 get_set_raw c d l k x (fun _ _=>rfl) i hi
theorem len_set0 {α:Type} (l:List α) (k:Nat) (x:α):l.length=(l.set k x).length:=len_set_raw rfl
end
section
variable {A B:Type} (ck:A→AV) (cv:B→AV) {eq:A→A→Bool} (h:∀ a b,keyEq (ck a) (ck b)=some (eq a b))
include h
end
def I:Bool:=true
def wI (x:Int):Prop:=-9223372036854775808≤x∧x≤9223372036854775807
def wK (k:IntKind) (x:Int):Prop:=k.min≤x∧x≤k.max
def wB (_:Bool):Prop:=True
def wL {A:Type} (wf:A→Prop) (l:List A):Prop:=l.length≤9223372036854775807∧∀ y,y∈l→wf y
def delL {α:Type} (l:List α) (i j:Nat):List α:=l.take i ++ l.drop j ++ l.drop (i+(l.length - j))
theorem len_del {α:Type} {l:List α} {i j:Nat} (h:i≤j∧j≤l.length):l.length=(delL l i j).length:=by simp [delL];omega
theorem get_del {α:Type} (c:α→List AV) (d:α) (l:List α) (i j:Nat) (h:i≤j∧j≤l.length) (z:Nat) (hz:z < (delL l i j).length) :
  c ((delL l i j).getD z d)=if z < i - 0 then c (l.getD z d) else if z < (i - 0)+(l.length - j) then c (l.getD (addz j (z - (i - 0))) d) else c (l.getD z d):=by
 have hz:=len_del h ▸ hz
 have e1:(l.take i).length=i:=by simp;omega
 have e2:(l.take i ++ l.drop j).length=i+(l.length - j):=by simp;omega
 simp only [delL,Nat.sub_zero,List.getD_eq_getElem?_getD,addz_eq]
 by_cases h1:z < i
 ·rw [if_pos h1,List.getElem?_append_left (by omega),List.getElem?_append_left (by omega),List.getElem?_take,if_pos h1]
 ·rw [if_neg h1]
  by_cases h2:z < i+(l.length - j)
  ·rw [if_pos h2,List.getElem?_append_left (by omega),List.getElem?_append_right (by omega),e1,List.getElem?_drop]
  ·rw [if_neg h2,List.getElem?_append_right (by omega),e2,List.getElem?_drop]
   rw [show i+(l.length - j)+(z - (i+(l.length - j)))=z by omega]
theorem len_tk {α:Type} {l:List α} {a n:Nat} (h:0 < n∧a+n≤l.length):a=(l.take a).length:=by simp;omega
theorem get_tk {α:Type} (c:α→List AV) (d:α) (l:List α) (a z:Nat) (hz:z < (l.take a).length):c ((l.take a).getD z d)=c (l.getD z d):=by
 simp only [List.getD_eq_getElem?_getD,List.getElem?_take]
 rw [if_pos (by simp at hz;omega)]
end Go.Ab
namespace Go.Ab
open Go.ChangeShapes Go.WideShapes Go.ChangeAt Go.RowKit
def allB (w:World) (b:Nat):Prop:=b < w.heap.size
def Seg (w:World) (cs:List Value) (c:List AV):Prop :=
 cs.length=c.length∧∀ (j:Nat) (a:AV) (v:Value),c[j]?=some a→cs[j]?=some v→RepX w (allB w) noMu v a
theorem Seg.nil {w:World}:Seg w [] []:=⟨rfl,fun j a v h=>by simp at h⟩
theorem Seg.append {w:World} {a b:List Value} {c d:List AV} (h1:Seg w a c) (h2:Seg w b d):Seg w (a ++ b) (c ++ d):=by
 refine ⟨by simp [h1.1,h2.1],fun j x v hx hv=>?_⟩
 by_cases hj:j < a.length
 ·rw [List.getElem?_append_left (by rw [← h1.1];exact hj)] at hx
  rw [List.getElem?_append_left hj] at hv
  exact h1.2 j x v hx hv
 ·rw [List.getElem?_append_right (by rw [← h1.1];omega)] at hx
  rw [List.getElem?_append_right (by omega)] at hv
  rw [← h1.1] at hx
  exact h2.2 _ x v hx hv
theorem Seg.step {w:World} {cs:List Value} {o n:Nat} {c d:List AV} (h1:Seg w ((cs.drop o).take n) c) (h2:Seg w (cs.drop (o+n)) d):Seg w (cs.drop o) (c ++ d):=by
 have e:cs.drop o=(cs.drop o).take n ++ cs.drop (o+n):=by rw [← List.drop_drop];exact (List.take_append_drop n _).symm
 rw [e];exact h1.append h2
theorem Seg.done {w:World} {cs:List Value} {o:Nat} (h:cs.length=o):Seg w (cs.drop o) []:=by
 rw [List.drop_of_length_le (by omega)];exact .nil
theorem Seg.one {w:World} {v:Value} {a:AV} (h:RepX w (allB w) noMu v a):Seg w [v] [a]:=by
 refine ⟨rfl,fun j x u hx hu=>?_⟩
 cases j with
 | zero=>simp at hx hu;subst hx hu;exact h
 | succ j=>simp at hx
def Opens (P:Program) (t:TypeId) {A:Type} (wf:A→Prop) (c:A→List AV):Prop :=
 ∀ (H:Type) (enc:TypeId×Value→H) (w:World) (n:Nat) (cs:List Value) (x:DataW H×List MemPlace),DataW.trod enc P w 0 (fun _=>true) true n t cs=some x→∃ y:A,wf y∧Seg w cs (c y)
variable {P:Program} {t e:TypeId}
theorem Opens.int (ht:P.underlying t=some (.int .i64)):Opens P t wI cI:=by
 intro H enc w n cs x h
 obtain ⟨n,rfl,_,hw⟩:=DataW.trod_int ht h
 refine ⟨n,?_,Seg.one (.atom _)⟩
 simp [Lit.wf,IntKind.min,IntKind.max,IntKind.signed,IntKind.bits] at hw
 exact ⟨by omega,by omega⟩
theorem Opens.intU {k:IntKind} (ht:P.underlying t=some (.int k)):Opens P t (wK k) (cU k):=by
 intro H enc w n cs x h
 obtain ⟨n,rfl,_,hw⟩:=DataW.trod_int ht h
 refine ⟨n,?_,Seg.one (.atom _)⟩
 simp [Lit.wf] at hw
 exact ⟨hw.1,hw.2⟩
theorem Opens.bool (ht:P.underlying t=some .bool):Opens P t wB cB:=by
 intro H enc w n cs x h
 obtain ⟨b,rfl,_⟩:=DataW.trod_bool ht h
 exact ⟨b,trivial,Seg.one (.atom _)⟩
theorem addPlain {a:Addr} (h:a.spot=none) (n:Nat):a.add n=⟨a.block,a.off+n,none⟩:=by
 obtain ⟨b,o,s⟩:=a
 simp only at h;subst h
 unfold Addr.add
 by_cases h:n=0<;>simp [h]
theorem Opens.slice {A:Type} {wf:A→Prop} {c:A→List AV} (d:A) (ht:P.underlying t=some (.slice e)) (he:Opens P e wf c) {sz:Nat} (hs:P.cellsOf e=sz) (hz:0 < sz) (hc:∀ y,(c y).length=sz) :
  Opens P t (wL wf) (fun l=>[encL c d l]):=by
 intro H enc w n cs x h
 rcases Go.Deep.open_slice ht h with ⟨rfl,_⟩ | ⟨a,len,cap,m,k,D,Pl,rfl,_,hlc,hcm,hm,_,hx⟩
 ·refine ⟨[],⟨by simp,by simp⟩,Seg.one ?_⟩
  exact .sl 0 0 0 (fun _ _=>default) (fun h=>absurd h (Nat.not_lt_zero _)) (fun i h=>absurd h (Nat.not_lt_zero _)) (fun i j h=>absurd h (Nat.not_lt_zero _)) (fun i j c h=>absurd h (Nat.not_lt_zero _)) (Nat.le_refl _)
 ·simp only [if_true] at hm
  subst hm
  rw [hs] at hx
  have hx':∀ i,i < len→∃ z:List Value×A,w.cells? 0 (a.add (i * sz)) sz=some z.1∧wf z.2∧Seg w z.1 (c z.2):=fun i hi=>by
   obtain ⟨cs',h1,h2⟩:=hx i (by omega)
   obtain ⟨y,hy,hy2⟩:=he H enc w k cs' _ h2
   exact ⟨(cs',y),h1,hy,hy2⟩
  haveI:Inhabited (List Value×A):=⟨([],d)⟩
  obtain ⟨Z,hZ⟩:=Go.Deep.choose_lt hx'
  have hlen:((List.range len).map fun i=>(Z i).2).length=len:=by simp
  have hget:∀ i,i < len→((List.range len).map fun i=>(Z i).2).getD i d=(Z i).2:=fun i hi=>by
   simp [List.getD,hi]
  have hcell:∀ i j,i < len→j < sz→w.cell? ((a.add (i * sz)).add j)=some ((Z i).1.getD j default):=fun i j hi hj=>by
   obtain ⟨_,hl,hg⟩:=World.cells?_some (hZ i hi).1
   rw [hg j hj]
   have:j < (Z i).1.length:=by omega
   simp [List.getD,this]
  have hspot:0 < len→a.spot=none∧a.block < w.heap.size:=fun h0=>by
   have:=hcell 0 0 h0 hz
   simp only [Nat.zero_mul,Addr.add,if_true] at this
   unfold World.cell? at this
   split at this
   ·rename_i cc tt ff hh
    refine ⟨?_,(Array.getElem?_eq_some_iff.1 hh).1⟩
    cases hs:a.spot with
    | none=>rfl
    | some z=>simp [hs] at this
   ·cases this
  refine ⟨(List.range len).map fun i=>(Z i).2,⟨by rw [hlen];unfold maxLen at hcm;omega,?_⟩,Seg.one ?_⟩
  ·intro y hy
   simp only [List.mem_map,List.mem_range] at hy
   obtain ⟨i,hi,rfl⟩:=hy
   exact (hZ i hi).2.1
  ·unfold encL
   rw [hlen]
   refine .sl a.block a.off sz (fun i j=>(Z i).1.getD j default) (fun h0=>⟨?_,(hspot h0).2⟩) (fun i hi=>hc _) (fun i j hi hj=>?_) (fun i j x hi hx=>?_) hlc
   ·have:=(hspot h0).1
    obtain ⟨b,o,s⟩:=a
    simp only at this;subst this;rfl
   ·have h0:=(hspot (by omega)).1
    have:=hcell i j hi hj
    rwa [addPlain h0,addPlain rfl] at this
   ·rw [hget i hi] at hx
    have hj:j < (c (Z i).2).length:=(List.getElem?_eq_some_iff.1 hx).1
    have hj2:j < (Z i).1.length:=by rw [(hZ i hi).2.2.1];exact hj
    refine (hZ i hi).2.2.2 j x _ hx ?_
    simp [List.getD,hj2]
theorem struct_inv {H:Type} {enc:TypeId×Value→H} {w:World} {fs:Array Field} {n:Nat} {cs:List Value} {x:DataW H×List MemPlace} (ht:P.underlying t=some (.struct fs)) (h:DataW.trod enc P w 0 (fun _=>true) true n t cs=some x) :
  cs.length=P.cellsOf t∧∃ m,∀ (i:Nat) (f:Field),fs[i]?=some f→∃ y,DataW.trod enc P w 0 (fun _=>true) true m f.type ((cs.drop f.offset).take (P.cellsOf f.type))=some y:=by
 obtain ⟨xs,m,_,_,hl,hx,hf⟩:=DataW.trod_struct ht h
 refine ⟨hl,m,fun i f hi=>?_⟩
 rw [hf i f hi]
 have:i < xs.length:=by rw [hx];exact (Array.getElem?_eq_some_iff.1 hi).1
 exact ⟨xs[i],List.getElem?_eq_getElem this⟩
theorem fieldO {H:Type} {enc:TypeId×Value→H} {w:World} {fs:Array Field} {m:Nat} {cs:List Value} (hf:∀ (i:Nat) (f:Field),fs[i]?=some f→∃ y,DataW.trod enc P w 0 (fun _=>true) true m f.type ((cs.drop f.offset).take (P.cellsOf f.type))=some y)
  (i:Nat) {te:TypeId} (o n:Nat) {A:Type} {wf:A→Prop} {c:A→List AV} (he:Opens P te wf c) (hi:(fs[i]?).map (fun (f:Field)=>(f.type,f.offset))=some (te,o)) (hn:P.cellsOf te=n):∃ y:A,wf y∧Seg w ((cs.drop o).take n) (c y):=by
 simp only [Option.map_eq_some_iff,Prod.mk.injEq] at hi
 obtain ⟨f,hf1,hf2,hf3⟩:=hi
 obtain ⟨y,hy⟩:=hf i f hf1
 rw [hf2,hf3,hn] at hy
 exact he H enc w m _ y hy
section
variable {H:Type} {enc:TypeId×Value→H} {w:World} {base:Nat} {v:Value} {d:DataW H} {ps:List MemPlace} {A:Type} {wf:A→Prop}
theorem argStruct {fs:Array Field} {c:A→List AV} (ht:P.underlying t=some (.struct fs)) (ho:Opens P t wf c) (hv:Value.okWide P w .any base t v) (h:DataW.Trod enc P w 0 (fun _=>true) true t v d ps):∃ y,wf y∧RepX w (allB w) noMu v (.agg (c y)):=by
 obtain ⟨cs,rfl,_⟩:=okWide_struct ht hv
 obtain ⟨n,hn⟩:=h
 obtain ⟨y,hy,hs⟩:=ho H enc w n _ _ hn
 refine ⟨y,hy,.agg (by simpa [Value.cells] using hs.1) fun j x u hx hu=>hs.2 j x u hx (by simpa [Value.cells] using hu)⟩
theorem RL.nil {S:Nat→Prop} {μ:Mu}:RL w S μ #[] []:=⟨rfl,fun j c v h=>by simp at h⟩
theorem rl1 {S:Nat→Prop} {μ:Mu} {v0:Value} {a0:AV} (h0:RepX w S μ v0 a0):RL w S μ #[v0] [a0]:=by
 refine ⟨rfl,fun j c v hc hv=>?_⟩
 match j with
 | 0=>simp at hc hv;subst hc hv;exact h0
 | j+1=>simp at hc
end
theorem allTrod {H:Type} {enc:TypeId×Value→H} (hl:laidOutB P=true) {W W':World} (hb:Below W.heap.size W W') (sp:Nat→Bool) :
  ∀ (ts:List TypeId) (vs:List Value) (ds:List (DataW H)) (p:List MemPlace),(ts.all fun t=>P.readableRec t && decide (t < P.types.size))=true→(∀ x∈p,x.block < W.heap.size)→(∀ x∈p,sp x.block=true) →
   DataW.TrodAll enc P W 0 (fun _=>true) true ts vs ds p→DataW.TrodAll enc P W' 0 sp true ts vs ds p
 | [],[],[],_,_,_,_,h=>h
 | t :: ts,v :: vs,d :: ds,p,hr,hlt,hsp,h=>by
  obtain ⟨a,b,h1,h2,rfl⟩:=h
  simp only [List.all_cons,Bool.and_eq_true,decide_eq_true_eq] at hr
  refine ⟨a,b,?_,allTrod hl hb sp ts vs ds b (by simpa using hr.2) (fun x hx=>hlt x (by simp [hx])) (fun x hx=>hsp x (by simp [hx])) h2,rfl⟩
  exact WideElems.Trod_stays hl hr.1.1 hr.1.2 h1 (fun x hx=>hb.same (hlt x (by simp [hx]))) (fun x hx=>hsp x (by simp [hx]))
theorem law_post {H:Type} {enc:TypeId×Value→H} {f:FuncId} {fn:Func} {s:ChangeSpec} {apart fresh handsOn again:Bool} {W:World} {args:Array Value} {ds gs:List (DataW H)} {before:List MemPlace} {tb:TypeId} {avs:List AV}
  (hvars:s.vars=[]) (hl:laidOutB P=true) (hread:(fn.params.toList.all fun t=>P.readableRec t && decide (t < P.types.size))=true) (hres:fn.resultTypes=#[tb]) (hb:P.underlying tb=some .bool)
  (hfn:s.fn H ds={ results:=[.lit (.bool true)],args:=ds })
  (hW:DataW.Whole enc P fn.params.toList s.vars apart W args.toList ds gs before)
  (hargs:RL W (allB W) noMu args avs) (hs:Sound P f avs [] 0 (aB true) []) :
  Calls P f args W fun e W'=>∃ v,e=.returned v∧s.post enc P fn apart fresh handsOn again W args v W':=by
 have hgood:Good (envOf W (allB W) [] noMu 0) [] (allB W) noMu W:=by
  refine ⟨Fr.refl _ _,fun _ h=>h,fun _ h=>h,fun _ h=>.inl h,?_,fun k o pl h=>(by cases h),fun k hk=>absurd hk (Nat.not_lt_zero _),MX.nil fun k o i h=>by cases h⟩
  constructor<;>intros<;>simp_all [sget]
 refine (hs W (allB W) noMu args hgood (fun _ _=>rfl) hargs).mono fun e W' ⟨v,S',μ',he,hg,hv⟩=>?_
 have hbelow:Below W.heap.size W W':=⟨hg.fr.os,hg.fr.tape,hg.fr.output,hg.fr.size,fun b hb=>hg.fr.blk b hb (fun h=>h.elim (fun ⟨k,o,pl,h,_⟩=>by cases h) (fun ⟨k,i,x,v,⟨o,pl,h,_⟩,_⟩=>by cases h))⟩
 have hv':v=.bool true:=by cases hv;rfl
 subst he hv'
 refine ⟨_,rfl,?_⟩
 have hW':=hW
 obtain ⟨p,q,hA,hV,rfl,hfz,hnd⟩:=hW
 rw [hvars] at hV
 obtain ⟨rfl,rfl⟩:=trodVars_none hV
 rw [List.append_nil] at hW'
 have hlt:∀ x∈p,x.block < W.heap.size:=fun x hx=>hW'.lt x hx
 have hre:∀ sp:Nat→Bool,(∀ x∈p,sp x.block=true)→DataW.TrodAll enc P W' 0 sp true fn.params.toList args.toList (s.fn H (ds ++ [])).args p:=fun sp hsp=>by
  rw [List.append_nil,hfn]
  exact allTrod hl hbelow sp _ _ _ _ hread hlt hsp hA
 have hvs:∀ sp:Nat→Bool,DataW.TrodVars enc P W' sp s.vars (s.fn H (ds ++ [])).vars []:=fun sp=>by
  rw [List.append_nil,hfn,hvars];rfl
 have hrs:∀ (b:Nat) (sp:Nat→Bool) (hd:Bool),DataW.TrodAll enc P W' b sp hd fn.resultTypes.toList ((Value.bool true).resultList fn.resultTypes.size) (s.fn H (ds ++ [])).results []:=fun b sp hd=>by
  rw [List.append_nil,hfn,hres]
  exact trodAll_mk1 (shut_bool hb true)
 refine ⟨ds,[],p,[],p,[],hW',hrs _ _ _,hre _ (fun x hx=>by simpa using hlt x hx),hvs _,World.keptBut_mono (fun x hx=>⟨hx,Or.inr (Or.inl hx)⟩) (hbelow.frame _),fun _=>?_⟩
 refine ⟨ok_one hres rfl (okWide_bool_mk hb _),(s.fn H (ds ++ [])).results ++ (s.fn H (ds ++ [])).args,_,p,⟨p,[],trodAll_append (hre _ (fun _ _=>rfl)) (hrs _ _ _),hvs _,by simp,?_,by simpa using hnd⟩,fun x hx _=>hx⟩
 ·intro b off hp
  exact (hbelow.frozen (hlt _ hp)).trans (hfz b off (by simpa using hp))
end Go.Ab
