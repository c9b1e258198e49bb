/- Abstract values over the heap of the machine, and functions read off its code (part 2). No conditions. -/
import Derived.Test.YtkkolmlgedjmnaaCa
import Derived.Laws.IdiomStrings
import Derived.MapKept
import Derived.Carry
import Derived.OrdersIn
import Derived.RangeFuncSeq
set_option linter.unusedVariables false
set_option linter.unusedSimpArgs false
namespace Go.Ab
structure YC where
 l:Nat
 as:List AV
 k:Nat
 o:Ob
 o':Ob
structure Orc where
 ks:List Nat
 same:Bool
 res:AV
 sto:Sto
 dec:Nat
 frz:Bool
 y:Option YC
def orcY:Option Orc→Option YC
 | none=>none
 | some o=>o.y
def decO:Option Orc→Nat
 | none=>0
 | some o=>o.dec
def resO:Option Orc→AV
 | none=>.unk
 | some o=>o.res
structure R where
 obl:List Prop
 val:AV
 rds:List Nat
 upd:Upd
def callable (P:Program) (g:FuncId):Bool :=
 match P.funcs[g]? with
 | some fn=>fn.body.isSome && !(fn.name == "runtime.NumGoroutine")
 | none=>false
def canon (σ:Sto) (ks:List Nat):Nat→List Nat→Option Sto
 | _,[]=>some []
 | i,k :: r=>match sget σ k,canon σ ks (i+1) r with
  | some o,some t=>some ((i,o.ren (idx ks)) :: t)
  | _,_=>none
def back (ks:List Nat) (nk n:Nat):Option Nat :=
 match ks[n]? with
 | some k=>some k
 | none=>match Nat.blt n (ks.length+16) with
  | true=>some (nk+(n - ks.length))
  | false=>none
def backU (ks:List Nat) (nk:Nat) (σ':Sto):Nat→List Nat→Upd
 | _,[]=>[]
 | i,k :: r=>(k,(sget σ' i).map (Ob.ren (back ks nk))) :: backU ks nk σ' (i+1) r
def newU (ks:List Nat) (nk:Nat):Sto→Upd
 | []=>[]
 | (n,o) :: r=>match Nat.ble ks.length n with
  | true=>(nk+(n - ks.length),some (o.ren (back ks nk))) :: newU ks nk r
  | false=>newU ks nk r
def nodupB:List Nat→Bool
 | []=>true
 | k :: r=>(idx r k).isNone && nodupB r
def ltKeys (n:Nat):Sto→Bool
 | []=>true
 | (k,_) :: r=>Nat.blt k n && ltKeys n r
def Ob.flat (o:Ob):Bool:=o.var && Nat.beq o.len 1 && Nat.ble 1 o.sz && AV.flatL (o.get 0)
mutual
def AV.noS:AV→Bool
 | .atom _ | .op _ _ _ | .os _ _ _ | .mp _ | .bn _ | .nil=>true
 | .agg cs | .tup cs=>AV.noSL cs
 | .fn _ a b=>AV.noSL a && AV.noSL b
 | _=>false
def AV.noSL:List AV→Bool
 | []=>true
 | c :: cs=>c.noS && AV.noSL cs
end
theorem noSL_get {cs:List AV} (h:AV.noSL cs = true) {j:Nat} {c:AV} (hc:cs[j]? = some c):c.noS = true:=by
 induction cs generalizing j with
 | nil=>simp at hc
 | cons x xs ih =>
  simp only [AV.noSL,Bool.and_eq_true] at h
  cases j with
  | zero=>simp at hc; exact hc ▸ h.1
  | succ j=>exact ih h.2 (by simpa using hc)
theorem RepX.noS {w:World} {S:Nat→Prop} {μ:Mu} {v:Value} {x:AV} (h:RepX w S μ v x):x.noS = true→∀ w' S',RepX w' S' μ v x:=by
 induction h with
 | atom v=>exact fun _ _ _=>.atom v
 | agg h1 _ ih=>exact fun hp w' S'=>.agg h1 fun j c v hc hv=>ih j c v hc hv (noSL_get (by simpa [AV.noS] using hp) hc) w' S'
 | tup h1 _ ih=>exact fun hp w' S'=>.tup h1 fun j c v hc hv=>ih j c v hc hv (noSL_get (by simpa [AV.noS] using hp) hc) w' S'
 | op pl h=>exact fun _ _ _=>.op pl h
 | os pl h h1 h2 h3=>exact fun _ _ _=>.os pl h h1 h2 h3
 | fn h1 h2 _ _ ih1 ih2 =>
  intro hp w' S'
  simp only [AV.noS,Bool.and_eq_true] at hp
  exact .fn h1 h2 (fun j c v hc hv=>ih1 j c v hc hv (noSL_get hp.1 hc) w' S') (fun j c v hc hv=>ih2 j c v hc hv (noSL_get hp.2 hc) w' S')
 | mp pl h=>exact fun _ _ _=>.mp pl h
 | bn b h=>exact fun _ _ _=>.bn b h
 | nil=>exact fun _ _ _=>.nil
 | sl=>exact fun hp=>by simp [AV.noS] at hp
 | rp=>exact fun hp=>by simp [AV.noS] at hp
 | when=>exact fun hp=>by simp [AV.noS] at hp
 | pt=>exact fun hp=>by simp [AV.noS] at hp
 | ov=>exact fun hp=>by simp [AV.noS] at hp
 | unk=>exact fun hp=>by simp [AV.noS] at hp
def flatObP (o:Ob):Option (List Prop) :=
 match o.flat with
 | true=>some []
 | false=>match o.pr && Nat.ble 1 o.sz with
  | true=>some [∀ i,i < o.len→AV.flatL (o.get i) = true]
  | false=>none
def flatStoP (lone:Bool):Sto→Option (List Prop)
 | []=>some []
 | (_,o) :: r=>match lone with
  | true=>some []
  | false=>match flatObP o,flatStoP lone r with
   | some p,some q=>some (p ++ q)
   | _,_=>none
mutual
def AV.closed (f:Nat→Option Nat):AV→Bool
 | .op k _ _=>(f k).isSome
 | .os k _ _=>(f k).isSome
 | .mp k=>(f k).isSome
 | .ov _ _ _ _ _=>false
 | .agg cs | .tup cs=>AV.closedL f cs
 | .fn _ a b=>AV.closedL f a && AV.closedL f b
 | .when _ x=>x.closed f
 | _=>true
def AV.closedL (f:Nat→Option Nat):List AV→Bool
 | []=>true
 | c :: cs=>c.closed f && AV.closedL f cs
end
def Ob.closed (f:Nat→Option Nat) (o:Ob):Bool:=o.pr || (o.var && Nat.beq o.len 1 && AV.closedL f (o.get 0))
def sameOb (ks:List Nat) (lone:Bool) (o:Ob):Option (List Prop) :=
 match o.flat || (lone && o.closed (idx ks)) with
 | true=>some []
 | false=>match o.pr with
  | true=>flatObP o
  | false=>none
def sameOk (σ:Sto) (ks:List Nat) (lone:Bool):List Nat→Option (List Prop)
 | []=>some []
 | k :: r=>match sget σ k with
  | some o=>match sameOb ks lone o,sameOk σ ks lone r with
   | some p,some q=>some (p ++ q)
   | _,_=>none
  | none=>none
mutual
theorem ren_back {f g:Nat→Option Nat} (hfg:∀ k i,f k = some i→g i = some k):∀ (x:AV),x.closed f = true→(x.ren f).ren g = x
 | .op k i j,h=>by
  obtain ⟨n,hn⟩:=Option.isSome_iff_exists.1 (by simpa [AV.closed] using h)
  simp [AV.ren,hn,hfg k n hn]
 | .os k i j,h=>by
  obtain ⟨n,hn⟩:=Option.isSome_iff_exists.1 (by simpa [AV.closed] using h)
  simp [AV.ren,hn,hfg k n hn]
 | .agg cs,h=>by simp only [AV.ren]; rw [renL_back hfg cs (by simpa [AV.closed] using h)]
 | .tup cs,h=>by simp only [AV.ren]; rw [renL_back hfg cs (by simpa [AV.closed] using h)]
 | .fn q a b,h=>by
  simp only [AV.closed,Bool.and_eq_true] at h
  simp only [AV.ren]; rw [renL_back hfg a h.1,renL_back hfg b h.2]
 | .when b x,h=>by simp only [AV.ren]; rw [ren_back hfg x (by simpa [AV.closed] using h)]
 | .mp k,h=>by
  obtain ⟨n,hn⟩:=Option.isSome_iff_exists.1 (by simpa [AV.closed] using h)
  simp [AV.ren,hn,hfg k n hn]
 | .ov _ _ _ _ _,h=>by simp [AV.closed] at h
 | .bn _,_=>rfl
 | .pt _ _,_=>rfl
 | .atom _,_=>rfl
 | .sl _ _,_=>rfl
 | .rp _ _,_=>rfl
 | .nil,_=>rfl
 | .unk,_=>rfl
theorem renL_back {f g:Nat→Option Nat} (hfg:∀ k i,f k = some i→g i = some k):∀ (cs:List AV),AV.closedL f cs = true→AV.renL g (AV.renL f cs) = cs
 | [],_=>rfl
 | c :: cs,h=>by
  simp only [AV.closedL,Bool.and_eq_true] at h
  simp only [AV.renL]
  rw [ren_back hfg c h.1,renL_back hfg cs h.2]
end
theorem nodup_spec:∀ (ks:List Nat),nodupB ks = true→∀ (i j k:Nat),ks[i]? = some k→ks[j]? = some k→i = j
 | [],_,i,j,k,h,_=>by simp at h
 | a :: r,h,i,j,k,hi,hj=>by
  simp only [nodupB,Bool.and_eq_true] at h
  have none:∀ n:Nat,r[n]? = some a→False:=by
   intro n hn
   have:∀ (l:List Nat) (n:Nat),l[n]? = some a→(idx l a).isSome = true:=by
    intro l
    induction l with
    | nil=>intro n hn; simp at hn
    | cons b l ih =>
     intro n hn
     simp only [idx]
     cases hb:Nat.beq b a with
     | true=>rfl
     | false =>
      cases n with
      | zero=>simp at hn; rw [hn] at hb; simp at hb
      | succ n=>simpa using ih n (by simpa using hn)
   have:=this r n hn
   rw [Option.isNone_iff_eq_none] at h
   rw [h.1] at this
   cases this
  cases i with
  | zero =>
   simp at hi; subst hi
   cases j with
   | zero=>rfl
   | succ j=>exact (none j (by simpa using hj)).elim
  | succ i =>
   cases j with
   | zero=>simp at hj; subst hj; exact (none i (by simpa using hi)).elim
   | succ j=>rw [nodup_spec r h.2 i j k (by simpa using hi) (by simpa using hj)]
theorem idx_none:∀ (ks:List Nat) (k:Nat),idx ks k = none→∀ i:Nat,ks[i]? ≠ some k
 | [],k,_,i=>by simp
 | a :: r,k,h,i=>by
  simp only [idx] at h
  split at h
  ·cases h
  ·rename_i hb
   have h':idx r k = none:=by simpa using h
   cases i with
   | zero=>intro e; simp at e; rw [e] at hb; simp at hb
   | succ i=>simpa using idx_none r k h' i
theorem canon_get {σ:Sto} {ks:List Nat}:∀ (l:List Nat) (i:Nat) (σc:Sto),canon σ ks i l = some σc →
  ∀ n,sget σc n = if i≤n then ((l[n - i]?).bind (sget σ)).map (Ob.ren (idx ks)) else none
 | [],i,σc,h,n=>by simp [canon] at h; subst h; simp [sget]
 | k :: r,i,σc,h,n=>by
  simp only [canon] at h
  split at h
  ·rename_i o t ho ht
   cases h
   simp only [sget]
   by_cases hin:i = n
   ·rw [beq_t hin,if_pos (by omega),hin]; simp [ho]
   ·rw [beq_f hin]
    show sget t n = _
    rw [canon_get r (i+1) t ht n]
    by_cases h1:i+1≤n
    ·rw [if_pos h1,if_pos (by omega),show n - i = (n - (i+1))+1 by omega]; simp
    ·rw [if_neg h1,if_neg (by omega)]
  ·cases h
theorem canon_all {σ:Sto} {ks:List Nat}:∀ (l:List Nat) (i:Nat) (σc:Sto),canon σ ks i l = some σc→∀ k ∈ l,∃ o,sget σ k = some o
 | [],i,σc,h,k,hk=>by simp at hk
 | a :: r,i,σc,h,k,hk=>by
  simp only [canon] at h
  split at h
  ·rename_i o t ho ht
   rcases List.mem_cons.1 hk with rfl | hk
   ·exact ⟨o,ho⟩
   ·exact canon_all r (i+1) t ht k hk
  ·cases h
theorem backU_get {ks:List Nat} {nk:Nat} {σ':Sto}:∀ (l:List Nat) (i:Nat) (σ:Sto) (n:Nat),(∀ a b k:Nat,l[a]? = some k→l[b]? = some k→a = b) →
  sget (supd σ (backU ks nk σ' i l)) n = match idx l n with
   | some j=>(sget σ' (i+j)).map (Ob.ren (back ks nk))
   | none=>sget σ n
 | [],i,σ,n,_=>by simp [backU,supd,idx]
 | k :: r,i,σ,n,hd=>by
  have hd':∀ a b k:Nat,r[a]? = some k→r[b]? = some k→a = b:=fun a b q ha hb=>by
   have:=hd (a+1) (b+1) q (by simpa using ha) (by simpa using hb)
   omega
  have hnk:idx r k = none:=by
   cases hq:idx r k with
   | none=>rfl
   | some j =>
    have:=idx_spec r k j hq
    have:=hd 0 (j+1) k (by simp) (by simpa using this)
    omega
  simp only [backU]
  have step:sget (supd σ ((k,(sget σ' i).map (Ob.ren (back ks nk))) :: backU ks nk σ' (i+1) r)) n = match idx r n with
    | some j=>(sget σ' (i+1+j)).map (Ob.ren (back ks nk))
    | none=>if k = n then (sget σ' i).map (Ob.ren (back ks nk)) else sget σ n:=by
   cases hs:(sget σ' i).map (Ob.ren (back ks nk)) with
   | some o =>
    simp only [supd]
    rw [backU_get r (i+1) _ n hd',sget_sset]
   | none =>
    simp only [supd]
    rw [backU_get r (i+1) _ n hd',sget_sdel]
  rw [step]
  simp only [idx]
  by_cases hkn:k = n
  ·subst hkn
   rw [hnk,beq_t rfl]
   simp
  ·rw [beq_f hkn]
   cases hq:idx r n with
   | none=>simp [hkn]
   | some j=>simp only [Option.map_some]; rw [show i+1+j = i+(j+1) by omega]
def frzU (z:Bool) (bs:List Nat):Upd:=match z with
 | true=>bs.map fun k=>(k,none)
 | false=>[]
theorem frzU_get (z:Bool):∀ (bs:List Nat) (σ:Sto) (n:Nat),sget (supd σ (frzU z bs)) n = if z = true∧n ∈ bs then none else sget σ n:=by
 cases z with
 | false=>intro bs σ n; simp [frzU,supd]
 | true =>
  intro bs
  induction bs with
  | nil=>intro σ n; simp [frzU,supd]
  | cons k r ih =>
   intro σ n
   have:=ih (sdel σ k) n
   simp only [frzU,List.map_cons,supd] at this ⊢
   rw [this,sget_sdel]
   by_cases h:k = n
   ·subst h; simp
   ·have h':¬ n = k:=fun e=>h e.symm
    simp [h,h']
theorem supd_append:∀ (u v:Upd) (σ:Sto),supd σ (u ++ v) = supd (supd σ u) v
 | [],v,σ=>rfl
 | (k,some o) :: r,v,σ=>by simp only [List.cons_append,supd]; exact supd_append r v _
 | (k,none) :: r,v,σ=>by simp only [List.cons_append,supd]; exact supd_append r v _
def evCallG (P:Program) (ob:FuncId→List AV→Sto→Nat→AV→Sto→Prop) (nk:Nat) (σ:Sto) (f:AV) (args:List AV) (orc:Orc):Option R :=
 match f with
 | .fn (.func g) first cap=>match callable P g,AV.lendL σ orc.ks (first ++ (args ++ cap)),canon σ orc.ks 0 orc.ks with
  | true,some (as,bs,ps),some σc=>match nodupB orc.ks && (bs.isEmpty || orc.frz || orc.res.noS) with
   | true=>match orc.same with
    | true=>match sameOk σ orc.ks (bs.isEmpty || orc.frz) orc.ks with
     | some qs=>some ⟨ob g as σc orc.ks.length orc.res σc :: (qs ++ ps),orc.res.ren (back orc.ks nk),orc.ks ++ bs,frzU orc.frz bs⟩
     | none=>none
    | false=>match ltKeys (orc.ks.length+16) orc.sto && nodupB (orc.sto.map (·.1)),flatStoP (bs.isEmpty || orc.frz) orc.sto with
     | true,some qs=>some ⟨ob g as σc orc.ks.length orc.res orc.sto :: (qs ++ ps),orc.res.ren (back orc.ks nk),orc.ks ++ bs,backU orc.ks nk orc.sto 0 orc.ks ++ (newU orc.ks nk orc.sto ++ frzU orc.frz bs)⟩
     | _,_=>none
   | false=>none
  | _,_,_=>none
 | _=>none
def evCall (P:Program) (nk:Nat) (σ:Sto) (f:AV) (args:List AV) (orc:Orc):Option R:=evCallG P (Sound P) nk σ f args orc
theorem newU_out {ks:List Nat} {nk:Nat}:∀ (τ σ:Sto) (n:Nat),ltKeys (ks.length+16) τ = true→(n < nk ∨ nk+16≤n)→sget (supd σ (newU ks nk τ)) n = sget σ n
 | [],σ,n,_,_=>rfl
 | (k,o) :: r,σ,n,hl,hn=>by
  simp only [ltKeys,Bool.and_eq_true] at hl
  have hk:k < ks.length+16:=by
   have:=hl.1
   simp only [Nat.blt,Nat.ble_eq] at this
   exact this
  simp only [newU]
  split
  ·rename_i hb
   have hb:=Nat.le_of_ble_eq_true hb
   simp only [supd]
   rw [newU_out r _ n hl.2 hn,sget_sset,if_neg (by omega)]
  ·exact newU_out r σ n hl.2 hn
theorem sget_mem:∀ (τ:Sto) (n:Nat) (o:Ob),sget τ n = some o→n ∈ τ.map (·.1)
 | [],n,o,h=>by simp [sget] at h
 | (k,x) :: r,n,o,h=>by
  simp only [sget] at h
  split at h
  ·rename_i hb; rw [← Nat.eq_of_beq_eq_true hb]; simp
  ·exact List.mem_cons_of_mem _ (sget_mem r n o h)
theorem newU_in {ks:List Nat} {nk:Nat}:∀ (τ σ:Sto) (j:Nat),nodupB (τ.map (·.1)) = true→sget (supd σ (newU ks nk τ)) (nk+j) = match sget τ (ks.length+j) with
   | some o=>some (o.ren (back ks nk))
   | none=>sget σ (nk+j)
 | [],σ,j,_=>rfl
 | (k,o) :: r,σ,j,hd=>by
  simp only [List.map_cons,nodupB,Bool.and_eq_true,Option.isNone_iff_eq_none] at hd
  simp only [newU,sget]
  by_cases hk:k = ks.length+j
  ·subst hk
   rw [beq_t rfl]
   have hno:sget r (ks.length+j) = none:=by
    cases hs:sget r (ks.length+j) with
    | none=>rfl
    | some x =>
     obtain ⟨i,hi⟩:=List.getElem?_of_mem (sget_mem r _ x hs)
     exact (idx_none _ _ hd.1 i hi).elim
   have hble:Nat.ble ks.length (ks.length+j) = true:=Nat.ble_eq_true_of_le (by omega)
   rw [hble]
   simp only [supd]
   rw [newU_in r _ j hd.2,hno]
   simp only
   rw [sget_sset,if_pos (by omega)]
  ·rw [beq_f hk]
   split
   ·rename_i hb
    have hb:=Nat.le_of_ble_eq_true hb
    simp only [supd]
    rw [newU_in r _ j hd.2]
    split
    ·rfl
    ·rw [sget_sset,if_neg (by omega)]
   ·exact newU_in r σ j hd.2
mutual
theorem lend_keys {σ:Sto} {ks:List Nat}:∀ (x y:AV) (bs:List Nat) (ps:List Prop),x.lend σ ks = some (y,bs,ps)→∀ k ∈ bs,idx ks k = none∧∃ o,sget σ k = some o
 | .op k i j,y,bs,ps,h=>by
  simp only [AV.lend,Option.map_eq_some_iff,Prod.mk.injEq] at h
  obtain ⟨n,hn,_,rfl,_⟩:=h
  simp
 | .os k off len,y,bs,ps,h=>by
  simp only [AV.lend] at h
  split at h
  ·simp at h; obtain ⟨_,rfl,_⟩:=h; simp
  ·rename_i hi
   split at h
   ·rename_i o ho
    split at h
    ·simp only [Option.some.injEq,Prod.mk.injEq] at h
     obtain ⟨_,rfl,_⟩:=h
     intro q hq
     simp at hq; subst hq
     exact ⟨hi,o,ho⟩
    ·cases h
   ·cases h
 | .agg cs,y,bs,ps,h=>by
  simp only [AV.lend,Option.map_eq_some_iff] at h
  obtain ⟨⟨a,b,c⟩,h,e⟩:=h
  simp only [Prod.mk.injEq] at e
  obtain ⟨rfl,rfl,rfl⟩:=e
  exact lendL_keys cs a b c h
 | .tup cs,y,bs,ps,h=>by
  simp only [AV.lend,Option.map_eq_some_iff] at h
  obtain ⟨⟨a,b,c⟩,h,e⟩:=h
  simp only [Prod.mk.injEq] at e
  obtain ⟨rfl,rfl,rfl⟩:=e
  exact lendL_keys cs a b c h
 | .fn g x z,y,bs,ps,h=>by
  simp only [AV.lend] at h
  split at h
  ·rename_i a b c a' b' c' e1 e2
   simp only [Option.some.injEq,Prod.mk.injEq] at h
   obtain ⟨_,rfl,_⟩:=h
   intro k hk
   rcases List.mem_append.1 hk with hk | hk
   ·exact lendL_keys x a b c e1 k hk
   ·exact lendL_keys z a' b' c' e2 k hk
  ·cases h
 | .when _ _,y,bs,ps,h=>by simp [AV.lend] at h
 | .ov _ _ _ _ _,y,bs,ps,h=>by simp [AV.lend] at h
 | .mp k,y,bs,ps,h=>by
  simp only [AV.lend,Option.map_eq_some_iff,Prod.mk.injEq] at h
  obtain ⟨n,hn,_,rfl,_⟩:=h
  simp
 | .bn _,y,bs,ps,h=>by simp [AV.lend] at h; obtain ⟨_,rfl,_⟩:=h; simp
 | .pt _ _,y,bs,ps,h=>by simp [AV.lend] at h; obtain ⟨_,rfl,_⟩:=h; simp
 | .atom _,y,bs,ps,h=>by simp [AV.lend] at h; obtain ⟨_,rfl,_⟩:=h; simp
 | .sl _ _,y,bs,ps,h=>by simp [AV.lend] at h; obtain ⟨_,rfl,_⟩:=h; simp
 | .rp _ _,y,bs,ps,h=>by simp [AV.lend] at h; obtain ⟨_,rfl,_⟩:=h; simp
 | .nil,y,bs,ps,h=>by simp [AV.lend] at h; obtain ⟨_,rfl,_⟩:=h; simp
 | .unk,y,bs,ps,h=>by simp [AV.lend] at h; obtain ⟨_,rfl,_⟩:=h; simp
theorem lendL_keys {σ:Sto} {ks:List Nat}:∀ (xs ys:List AV) (bs:List Nat) (ps:List Prop),AV.lendL σ ks xs = some (ys,bs,ps)→∀ k ∈ bs,idx ks k = none∧∃ o,sget σ k = some o
 | [],ys,bs,ps,h=>by simp [AV.lendL] at h; obtain ⟨_,rfl,_⟩:=h; simp
 | c :: cs,ys,bs,ps,h=>by
  simp only [AV.lendL] at h
  split at h
  ·rename_i a b p a' b' p' e1 e2
   simp only [Option.some.injEq,Prod.mk.injEq] at h
   obtain ⟨_,rfl,_⟩:=h
   intro k hk
   rcases List.mem_append.1 hk with hk | hk
   ·exact lend_keys c a b p e1 k hk
   ·exact lendL_keys cs a' b' p' e2 k hk
  ·cases h
end
end Go.Ab
namespace Go.Ab
section
variable {P:Program} {E:Env} {nk:Nat} {σ:Sto} {S:Nat→Prop} {μ:Mu} {w:World}
theorem RL.append {vs us:Array Value} {cs ds:List AV} (h:RL w S μ vs cs) (k:RL w S μ us ds):RL w S μ (vs ++ us) (cs ++ ds):=by
 refine ⟨by simp [h.1,k.1],?_⟩
 intro j c v hc hv
 have h1:=h.1
 by_cases hj:j < cs.length
 ·rw [List.getElem?_append_left hj] at hc
  rw [Array.getElem?_append_left (by omega)] at hv
  exact h.2 j c v hc hv
 ·rw [List.getElem?_append_right (by omega)] at hc
  rw [Array.getElem?_append_right (by omega),h1] at hv
  exact k.2 _ c v hc hv
theorem rl_lend (g:Good E σ S μ w) {ks:List Nat} {vs:Array Value} {cs ys:List AV} {bs:List Nat} {ps:List Prop} (h:RL w S μ vs cs) (S':Nat→Prop) (hS:∀ b,S b→S' b)
  (hl:AV.lendL σ ks cs = some (ys,bs,ps)) (hp:AllP ps) (hb:∀ b,lent μ bs b→S' b):RL w S' (muOf μ ks) vs ys:=by
 have:=lend_rep g (ks:=ks) (RepX.agg h.1 h.2) S' hS (y:=.agg ys) (bs:=bs) (ps:=ps) (by simp [AV.lend,hl]) hp hb
 cases this with
 | agg h1 h2=>exact ⟨h1,h2⟩
theorem flat_ob {w':World} {S' S'':Nat→Prop} {μ' μ'':Mu} {o:Ob} {pl:Place} {c:Array Value} {T:TypeId} (h:ObRep w' S' μ' o pl c T) (hf:o.flat = true) (ho:0 < pl.cap→¬ S'' pl.blk) :
  ObRep w' S'' μ'' o pl c T:=by
 unfold Ob.flat at hf
 simp only [Bool.and_eq_true] at hf
 have hl:=Nat.eq_of_beq_eq_true hf.1.1.2
 have hz1:=Nat.le_of_ble_eq_true hf.1.2
 refine { h with out:=ho,rep:=?_,mp:=fun hz=>absurd hz (by omega) }
 intro i j x v hi hx hv
 have:i = 0:=by omega
 subst this
 exact (h.rep 0 j x v hi hx hv).flat (flatL_get hf.2 hx) _ _ _
mutual
theorem flat_pure:∀ (x:AV),x.flat = true→x.pure = true
 | .atom _,_=>rfl
 | .nil,_=>rfl
 | .bn _,_=>rfl
 | .pt _ _,h=>by simp [AV.flat] at h
 | .mp _,h=>by simp [AV.flat] at h
 | .ov _ _ _ _ _,h=>by simp [AV.flat] at h
 | .agg cs,h=>flatL_pure cs h
 | .tup cs,h=>flatL_pure cs h
 | .fn _ a b,h=>by
  simp only [AV.flat,Bool.and_eq_true] at h
  simp only [AV.pure,Bool.and_eq_true]
  exact ⟨flatL_pure a h.1,flatL_pure b h.2⟩
 | .sl _ _,h=>by simp [AV.flat] at h
 | .rp _ _,h=>by simp [AV.flat] at h
 | .op _ _ _,h=>by simp [AV.flat] at h
 | .os _ _ _,h=>by simp [AV.flat] at h
 | .when _ _,h=>by simp [AV.flat] at h
 | .unk,h=>by simp [AV.flat] at h
theorem flatL_pure:∀ (cs:List AV),AV.flatL cs = true→AV.pureL cs = true
 | [],_=>rfl
 | c :: cs,h=>by
  simp only [AV.flatL,Bool.and_eq_true] at h
  simp only [AV.pureL,Bool.and_eq_true]
  exact ⟨flat_pure c h.1,flatL_pure cs h.2⟩
end
mutual
theorem ren_pure {f:Nat→Option Nat}:∀ (x:AV),x.pure = true→x.ren f = x
 | .op _ _ _,h=>by simp [AV.pure] at h
 | .os _ _ _,h=>by simp [AV.pure] at h
 | .mp _,h=>by simp [AV.pure] at h
 | .ov _ _ _ _ _,h=>by simp [AV.pure] at h
 | .bn _,_=>rfl
 | .pt _ _,_=>rfl
 | .agg cs,h=>by simp only [AV.ren]; rw [renL_pure cs h]
 | .tup cs,h=>by simp only [AV.ren]; rw [renL_pure cs h]
 | .fn q a b,h=>by
  simp only [AV.pure,Bool.and_eq_true] at h
  simp only [AV.ren]; rw [renL_pure a h.1,renL_pure b h.2]
 | .when b x,h=>by simp only [AV.ren]; rw [ren_pure x h]
 | .atom _,_=>rfl
 | .sl _ _,_=>rfl
 | .rp _ _,_=>rfl
 | .nil,_=>rfl
 | .unk,_=>rfl
theorem renL_pure {f:Nat→Option Nat}:∀ (cs:List AV),AV.pureL cs = true→AV.renL f cs = cs
 | [],_=>rfl
 | c :: cs,h=>by
  simp only [AV.pureL,Bool.and_eq_true] at h
  simp only [AV.renL]
  rw [ren_pure c h.1,renL_pure cs h.2]
end
theorem ob_get0 {w':World} {S':Nat→Prop} {μ':Mu} {o o':Ob} {pl:Place} {c:Array Value} {T:TypeId} (h:ObRep w' S' μ' o' pl c T) (z1:o'.sz = o.sz) (z2:o'.len = o.len) (z3:o'.pr = o.pr)
  (hl:o.len = 1) (h0:o'.get 0 = o.get 0):ObRep w' S' μ' o pl c T:=by
 have q1:∀ i,i < o.len→o.get i = o'.get i:=fun i hi=>by
  have:i = 0:=by omega
  subst this; exact h0.symm
 refine ⟨h.sz.trans z1,z1 ▸ h.blk,z1 ▸ h.cap,z2 ▸ h.len,h.out,?_,?_,fun hz=>by rw [← h0,← z3]; exact h.mp (z1.trans hz)⟩
 ·intro i hi
  rw [q1 i hi,← z1]
  exact h.els i (by omega)
 ·intro i j x v hi hx hv
  rw [q1 i hi] at hx
  rw [← z3]
  exact h.rep i j x v (by omega) hx (by rw [z1]; exact hv)
theorem flatP_ob {w':World} {S' S'':Nat→Prop} {μ' μ'':Mu} {o:Ob} {pl:Place} {c:Array Value} {T:TypeId} (h:ObRep w' S' μ' o pl c T) {ps:List Prop} (hf:flatObP o = some ps) (hp:AllP ps) (ho:0 < pl.cap→¬ S'' pl.blk) :
  ObRep w' S'' μ'' o pl c T:=by
 unfold flatObP at hf
 split at hf
 ·rename_i hfl; exact flat_ob h hfl ho
 ·split at hf
  ·rename_i hb
   cases hf
   simp only [Bool.and_eq_true] at hb
   have hz1:=Nat.le_of_ble_eq_true hb.2
   refine { h with out:=ho,rep:=?_,mp:=fun hz=>absurd hz (by omega) }
   intro i j x v hi hx hv
   exact (h.rep i j x v hi hx hv).flat (flatL_get (hp.1 i hi) hx) _ _ _
  ·cases hf
theorem ob_mono {w':World} {S' S'':Nat→Prop} {μ':Mu} {o:Ob} {pl:Place} {c:Array Value} {T:TypeId} (h:ObRep w' S' μ' o pl c T) (hS:∀ b,S' b→S'' b) (ho:0 < pl.cap→¬ S'' pl.blk):ObRep w' S'' μ' o pl c T :=
 { h with
  out:=ho
  rep:=fun i j x v hi hx hv=>RepX.mono hS (fun _ _=>rfl) (h.rep i j x v hi hx hv) (fun _ _ h=>h)
  mp:=fun hz=>let ⟨m0,m1,m2,m3,m4⟩:=h.mp hz
   ⟨m0,m1,m2,m3,fun j x v hx hv=>RepX.mono hS (fun _ _=>rfl) (m4 j x v hx hv) (fun _ _ h=>h)⟩ }
theorem ob_same {w':World} {S' S'':Nat→Prop} {μ' μ'':Mu} {o:Ob} {pl:Place} {c:Array Value} {T:TypeId} {ks:List Nat} {nk:Nat} {lone:Bool} (h:ObRep w' S' μ' (o.ren (idx ks)) pl c T)
  {ps:List Prop} (hok:sameOb ks lone o = some ps) (hp:AllP ps) (hS:lone = true→∀ b,S' b→S'' b) (ho:0 < pl.cap→¬ S'' pl.blk)
  (hm:∀ k k' pl,back ks nk k = some k'→μ' k = some pl→μ'' k' = some pl):ObRep w' S'' μ'' o pl c T:=by
 unfold sameOb at hok
 split at hok
 case h_2 =>
  split at hok
  ·rename_i hpr
   have e:o.ren (idx ks) = o:=by simp [Ob.ren,hpr]
   rw [e] at h
   exact flatP_ob h hok hp ho
  ·cases hok
 rename_i hq
 cases hf:o.flat with
 | true =>
  have hf':=hf
  unfold Ob.flat at hf'
  simp only [Bool.and_eq_true] at hf'
  have hl:=Nat.eq_of_beq_eq_true hf'.1.1.2
  refine flat_ob (ob_get0 h (Ob.ren_sz _ _) (Ob.ren_len _ _) (Ob.ren_pr _ _) hl ?_) hf ho
  unfold Ob.ren
  split
  ·rfl
  ·exact renL_pure _ (flatL_pure _ hf'.2)
 | false =>
  rw [hf,Bool.false_or,Bool.and_eq_true] at hq
  have hS:=hS hq.1
  have h2:=h.ren hm
  have hback:∀ k i,idx ks k = some i→back ks nk i = some k:=fun k i hk=>by
   unfold back
   rw [idx_spec ks k i hk]
  have h3:ObRep w' S' μ'' o pl c T:=by
   have hc:=hq.2
   unfold Ob.closed at hc
   cases hp:o.pr with
   | true =>
    have e:(o.ren (idx ks)).ren (back ks nk) = o:=by simp [Ob.ren,hp]
    rw [e] at h2; exact h2
   | false =>
    rw [hp,Bool.false_or] at hc
    simp only [Bool.and_eq_true] at hc
    refine ob_get0 h2 (by rw [Ob.ren_sz,Ob.ren_sz]) (by rw [Ob.ren_len,Ob.ren_len]) (by rw [Ob.ren_pr,Ob.ren_pr]) (Nat.eq_of_beq_eq_true hc.1.2) ?_
    simp only [Ob.ren,hp]
    exact renL_back hback _ hc.2
  exact ob_mono h3 hS ho
theorem sameOk_get {σ:Sto} {ks:List Nat} {lone:Bool}:∀ (l:List Nat) (qs:List Prop),sameOk σ ks lone l = some qs→AllP qs→∀ k ∈ l,∀ o,sget σ k = some o→∃ ps,sameOb ks lone o = some ps∧AllP ps
 | [],_,_,_,k,hk=>by simp at hk
 | a :: r,qs,h,hq,k,hk=>by
  intro o ho
  simp only [sameOk] at h
  split at h
  ·rename_i o1 ho1
   split at h
   ·rename_i p q h1 h2
    cases h
    obtain ⟨q1,q2⟩:=AllP.app hq
    rcases List.mem_cons.1 hk with rfl | hk
    ·rw [ho1] at ho; cases ho; exact ⟨p,h1,q1⟩
    ·exact sameOk_get r q h2 q2 k hk o ho
   ·cases h
  ·cases h
theorem flatStoP_get {lone:Bool}:∀ (σ:Sto) (qs:List Prop),flatStoP lone σ = some qs→AllP qs→∀ k o,sget σ k = some o→lone = true ∨ ∃ ps,flatObP o = some ps∧AllP ps
 | [],_,_,_,k,o,h=>by simp [sget] at h
 | (a,x) :: r,qs,h,hq,k,o,hk=>by
  simp only [flatStoP] at h
  split at h
  ·exact .inl rfl
  ·split at h
   ·rename_i p q h1 h2
    cases h
    obtain ⟨q1,q2⟩:=AllP.app hq
    simp only [sget] at hk
    split at hk
    ·cases hk; exact .inr ⟨p,h1,q1⟩
    ·exact flatStoP_get r q h2 q2 k o hk
   ·cases h
theorem call_soundG (g:Good E σ S μ w) (hk16:∀ j,j < 16→μ (nk+j) = none) (hm0:E.m0≤nk) {f:AV} {args:List AV} {orc:Orc} {r:R} {fv:Value} (hf:RepX w S μ fv f) {vargs:Array Value} (ha:RL w S μ vargs args)
  (hz:orc.frz = true→∀ b,¬ E.fp b) {ob:FuncId→List AV→Sto→Nat→AV→Sto→Prop}
  (hob:∀ gid as bs σc res σ' vs,ob gid as σc orc.ks.length res σ'→Good (envOf w (fun b=>S b ∨ lent μ bs b) σc (muOf μ orc.ks) orc.ks.length) σc (fun b=>S b ∨ lent μ bs b) (muOf μ orc.ks) w→(∀ k,orc.ks.length≤k→muOf μ orc.ks k = none) →
   RL w (fun b=>S b ∨ lent μ bs b) (muOf μ orc.ks) vs as→Calls P gid vs w fun e w'=>∃ v S' μ',e = .returned v∧Good (envOf w (fun b=>S b ∨ lent μ bs b) σc (muOf μ orc.ks) orc.ks.length) σ' S' μ' w'∧RepX w' S' μ' v res)
  (h:evCallG P ob nk σ f args orc = some r) (hp:AllP r.obl) :
  ∃ gid vs,(do let d ← Deferred.ofValue fv vargs; invoke d.target d.args:Sem Next).run P w = .ok (.enter gid vs) w ∧
   Calls P gid vs w fun e w'=>∃ v S' μ',e = .returned v∧Ext w S μ w' S' μ'∧Good E (supd σ r.upd) S' μ' w'∧(∀ k,(k < nk ∨ nk+16≤k)→μ k = none→μ' k = none)∧RepX w' S' μ' v r.val:=by
 unfold evCallG at h
 split at h
 case h_2=>cases h
 rename_i gid first cap
 split at h
 case h_2=>cases h
 rename_i as bs ps σc hcall hlend hcan
 split at h
 case h_2=>cases h
 rename_i hnd0
 rw [Bool.and_eq_true] at hnd0
 obtain ⟨hnd,hres⟩:=hnd0
 have hinj:=nodup_spec orc.ks hnd
 cases hf with
 | fn f1 f2 f3 f4 =>
 rename_i fvs cvs
 refine ⟨gid,fvs ++ vargs ++ cvs,?_,?_⟩
 ·unfold callable at hcall
  split at hcall
  ·rename_i fn hfn
   simp only [Bool.and_eq_true,Bool.not_eq_true'] at hcall
   have hb:¬ fn.body = none:=by intro hh; rw [hh] at hcall; simp at hcall
   have hne:¬ fn.name = "runtime.NumGoroutine":=by simpa using hcall.2
   simp [Deferred.ofValue,invoke,callFunc,hfn,hne,hb]
  ·cases hcall
 have hlk:=lendL_keys _ _ _ _ hlend
 have hcg:=canon_get orc.ks 0 σc hcan
 simp only [Nat.zero_le,if_true,Nat.sub_zero] at hcg
 -- the state in which the callee begins
 have hps:AllP ps:=by
  split at h
  ·split at h
   ·cases h; exact (AllP.app hp.2).2
   ·cases h
  ·split at h
   ·cases h; exact (AllP.app hp.2).2
   ·cases h
 have hall:RL w (fun b=>S b ∨ lent μ bs b) (muOf μ orc.ks) (fvs ++ vargs ++ cvs) as:=by
  have hrl:RL w S μ (fvs ++ vargs ++ cvs) (first ++ (args ++ cap)):=by
   have:=RL.append (w:=w) (S:=S) (μ:=μ) ⟨f1,f3⟩ (RL.append ha ⟨f2,f4⟩)
   rwa [← Array.append_assoc] at this
  exact rl_lend g hrl _ (fun _ h=>.inl h) hlend hps (fun _ h=>.inr h)
 have hlt:∀ k o pl,sget σ k = some o→μ k = some pl→0 < pl.cap→pl.blk < w.heap.size:=fun k o pl ho hm hc=>by
  obtain ⟨pl',c,T,hm',hob⟩:=g.rep.ob k o ho
  rw [hm] at hm'; cases hm'
  exact lt_of_blk (hob.blk hc)
 have hout:∀ k o pl,sget σ k = some o→μ k = some pl→0 < pl.cap→¬ S pl.blk:=fun k o pl ho hm hc=>by
  obtain ⟨pl',c,T,hm',hob⟩:=g.rep.ob k o ho
  rw [hm] at hm'; cases hm'
  exact hob.out hc
 have hcget:∀ i o',sget σc i = some o'→∃ k o,orc.ks[i]? = some k∧sget σ k = some o∧o' = o.ren (idx orc.ks):=by
  intro i o' h
  rw [hcg] at h
  simp only [Option.map_eq_some_iff,Option.bind_eq_some_iff] at h
  obtain ⟨o,⟨k,hk,ho⟩,rfl⟩:=h
  exact ⟨k,o,hk,ho,rfl⟩
 have hfpk:∀ b,fpOf σc (muOf μ orc.ks) b→∃ (k i:Nat) (o:Ob) (pl:Place),orc.ks[i]? = some k∧sget σ k = some o∧μ k = some pl∧0 < pl.cap∧pl.blk = b:=by
  rintro b ⟨i,o',pl,hi,hm,hc,hb⟩
  obtain ⟨k,o,hk,ho,_⟩:=hcget i o' hi
  refine ⟨k,i,o,pl,hk,ho,?_,hc,hb⟩
  simpa [muOf,hk] using hm
 have g0:Good (envOf w (fun b=>S b ∨ lent μ bs b) σc (muOf μ orc.ks) orc.ks.length) σc (fun b=>S b ∨ lent μ bs b) (muOf μ orc.ks) w:=by
  refine ⟨Fr.refl _ _,fun _ h=>h,?_,fun _ h=>.inl h,⟨?_,?_⟩,fun k o pl hk hm hc=>.inl ⟨k,o,pl,hk,hm,hc,rfl⟩,fun _ _=>rfl⟩
  ·rintro b (hb | ⟨k,hk,pl,hm,hc,rfl⟩)
   ·exact g.S1 b hb
   ·obtain ⟨_,o,ho⟩:=hlk k hk
    exact hlt k o pl ho hm hc
  ·intro i o' hi
   obtain ⟨k,o,hk,ho,rfl⟩:=hcget i o' hi
   obtain ⟨pl,c,T,hm,hob⟩:=g.rep.ob k o ho
   refine ⟨pl,c,T,by simp [muOf,hk,hm],?_⟩
   have h1:=hob.ren (f:=idx orc.ks) (μ':=muOf μ orc.ks) (fun a b pl ha hb=>muOf_idx a b pl ha hb)
   refine h1.ext (w':=w) ⟨Nat.le_refl _,fun _ h=>.inl h,fun _ _=>rfl,fun _ _ h=>h⟩ (fun _=>rfl) ?_
   rintro hc (hS | ⟨k',hk',pl',hm',hc',he⟩)
   ·exact hob.out hc hS
   ·obtain ⟨hno,o2,ho2⟩:=hlk k' hk'
    have hne:k ≠ k':=fun h=>idx_none _ _ hno i (h ▸ hk)
    exact g.rep.ne k k' o o2 pl pl' hne ho ho2 hm hm' hc hc' he.symm
  ·intro i i' o o' pl pl' hne hi hi' hm hm' hc hc'
   obtain ⟨k,oo,hk,ho,_⟩:=hcget i o hi
   obtain ⟨k',oo',hk',ho',_⟩:=hcget i' o' hi'
   have hkk:k ≠ k':=fun h=>hne (hinj i i' k hk (h ▸ hk'))
   exact g.rep.ne k k' oo oo' pl pl' hkk ho ho' (by simpa [muOf,hk] using hm) (by simpa [muOf,hk'] using hm') hc hc'
 have hnone:∀ k,orc.ks.length≤k→muOf μ orc.ks k = none:=fun k hk=>by simp [muOf,List.getElem?_eq_none hk]
 -- behind the call
 have hkn:∀ k o,sget σ k = some o→k < nk ∨ nk+16≤k:=by
  intro k o ho
  rcases Nat.lt_or_ge k nk with h1 | h1
  ·exact .inl h1
  ·rcases Nat.lt_or_ge k (nk+16) with h2 | h2
   ·obtain ⟨pl,c,T,hm,_⟩:=g.rep.ob k o ho
    have:=hk16 (k - nk) (by omega)
    rw [show nk+(k - nk) = k by omega,hm] at this
    cases this
   ·exact .inr h2
 have fin:∀ (σ':Sto) (σr:Sto),ob gid as σc orc.ks.length orc.res σ' →
   (∀ n,idx orc.ks n = none→(n < nk ∨ nk+16≤n)→sget σr n = if orc.frz = true∧n ∈ bs then none else sget σ n) →
   (∀ j,j < 16→∀ o,sget σr (nk+j) = some o→∃ o1,sget σ' (orc.ks.length+j) = some o1∧o = o1.ren (back orc.ks nk)) →
   (∀ (w':World) (S' S'':Nat→Prop) (μ':Mu),((bs.isEmpty || orc.frz) = true→∀ b,S' b→S'' b)→∀ j,j < 16→∀ o1 pl c T,sget σ' (orc.ks.length+j) = some o1→ObRep w' S' μ' o1 pl c T→(0 < pl.cap→¬ S'' pl.blk)→ObRep w' S'' μ' o1 pl c T) →
   (∀ (w':World) (S' S'':Nat→Prop) (μ' μF:Mu),Good (envOf w (fun b=>S b ∨ lent μ bs b) σc (muOf μ orc.ks) orc.ks.length) σ' S' μ' w'→((bs.isEmpty || orc.frz) = true→∀ b,S' b→S'' b) →
    (∀ k k' pl,back orc.ks nk k = some k'→μ' k = some pl→μF k' = some pl)→∀ (k i:Nat) (o:Ob) (pl:Place),orc.ks[i]? = some k→sget σr k = some o→μ k = some pl→(0 < pl.cap→¬ S'' pl.blk)→∃ c T,ObRep w' S'' μF o pl c T) →
   (∀ (k i:Nat) (o:Ob),orc.ks[i]? = some k→sget σr k = some o→(∃ o1,sget σ k = some o1)∧∃ o2,sget σ' i = some o2) →
   Calls P gid (fvs ++ vargs ++ cvs) w fun e w'=>∃ v S' μ',e = .returned v∧Ext w S μ w' S' μ'∧Good E σr S' μ' w'∧(∀ k,(k < nk ∨ nk+16≤k)→μ k = none→μ' k = none)∧RepX w' S' μ' v (orc.res.ren (back orc.ks nk)):=by
  intro σ' σr hsound hother hnew hconv hobs hwas
  refine (hob gid as bs σc _ _ _ hsound g0 hnone hall).mono ?_
  rintro e w' ⟨v,S',μ',rfl,g',hv⟩
  have hSblk:∀ b,b < w.heap.size→(∀ (k i:Nat) (o:Ob) (pl:Place),orc.ks[i]? = some k→sget σ k = some o→μ k = some pl→0 < pl.cap→pl.blk ≠ b)→w'.heap[b]? = w.heap[b]?:=by
   intro b hb hno
   refine g'.fr.blk b hb fun hfp=>?_
   obtain ⟨k,i,o,pl,hk,ho,hm,hc,he⟩:=hfpk b hfp
   exact hno k i o pl hk ho hm hc he
  have hSb:∀ b,S b→w'.heap[b]? = w.heap[b]?:=fun b hb=>hSblk b (g.S1 b hb) fun k i o pl hk ho hm hc he=>hout k o pl ho hm hc (he ▸ hb)
  let μF:Mu:=fun k=>if nk≤k∧k < nk+16 then μ' (orc.ks.length+(k - nk)) else μ k
  have hμo:∀ k,(k < nk ∨ nk+16≤k)→μF k = μ k:=fun k hk=>by
   show (if nk≤k∧k < nk+16 then _ else _) = _
   rw [if_neg (by omega)]
  have hμn:∀ j,j < 16→μF (nk+j) = μ' (orc.ks.length+j):=fun j hj=>by
   show (if nk≤nk+j∧nk+j < nk+16 then _ else _) = _
   rw [if_pos (by omega)]; congr 1; omega
  have hmuF:∀ k pl,μ k = some pl→μF k = some pl:=by
   intro k pl hk
   have hn:k < nk ∨ nk+16≤k:=by
    rcases Nat.lt_or_ge k nk with h1 | h1
    ·exact .inl h1
    ·rcases Nat.lt_or_ge k (nk+16) with h2 | h2
     ·have:=hk16 (k - nk) (by omega)
      rw [show nk+(k - nk) = k by omega,hk] at this
      cases this
     ·exact .inr h2
   rw [hμo k hn]; exact hk
  have hback:∀ k k' pl,back orc.ks nk k = some k'→μ' k = some pl→μF k' = some pl:=by
   intro k k' pl hk hm
   unfold back at hk
   split at hk
   ·rename_i q hq
    cases hk
    have hlt:k < orc.ks.length:=(List.getElem?_eq_some_iff.1 hq).1
    rw [g'.mu0 k hlt] at hm
    have:muOf μ orc.ks k = some pl:=hm
    refine hmuF _ _ ?_
    simpa [muOf,show orc.ks[k]? = some _ from hq] using this
   ·rename_i hq
    split at hk
    ·rename_i hb
     cases hk
     have hlt:k < orc.ks.length+16:=by
      simp only [Nat.blt,Nat.ble_eq] at hb; exact hb
     have hge:orc.ks.length≤k:=List.getElem?_eq_none_iff.1 hq
     rw [hμn _ (by omega),show orc.ks.length+(k - orc.ks.length) = k by omega]; exact hm
    ·cases hk
  let SF:Nat→Prop:=fun b=>S b ∨ (orc.frz = true∧lent μ bs b) ∨ (S' b∧w.heap.size≤b)
  have hSF:∀ b,SF b→S' b:=by
   rintro b (h1 | ⟨_,h1⟩ | ⟨h1,_⟩)
   ·exact g'.S0 b (.inl h1)
   ·exact g'.S0 b (.inr h1)
   ·exact h1
  have hSS:(bs.isEmpty || orc.frz) = true→∀ b,S' b→SF b:=by
   intro he b hb
   rcases g'.S2 b hb with (h1 | h0) | h1
   ·exact .inl h1
   ·rcases Bool.or_eq_true_iff.1 he with he | he
    ·obtain ⟨k,hk,_⟩:=h0
     rw [List.isEmpty_iff] at he; rw [he] at hk; simp at hk
    ·exact .inr (.inl ⟨he,h0⟩)
   ·exact .inr (.inr ⟨hb,h1⟩)
  have hold:∀ k o,sget σr k = some o→(k < nk ∨ nk+16≤k)→∃ o1,sget σ k = some o1:=by
   intro k o ho hn
   cases hi:idx orc.ks k with
   | none =>
    rw [hother k hi hn] at ho
    split at ho
    ·cases ho
    ·exact ⟨o,ho⟩
   | some i=>exact (hwas k i o (idx_spec _ _ _ hi) ho).1
  have hnl:∀ k o,sget σr k = some o→orc.frz = true→k ∉ bs:=by
   intro k o ho hz' hk
   obtain ⟨hno,o2,ho2⟩:=hlk k hk
   rw [hother k hno (hkn k o2 ho2),if_pos ⟨hz',hk⟩] at ho
   cases ho
  have hfree:∀ k o0 o pl,sget σr k = some o0→sget σ k = some o→μ k = some pl→0 < pl.cap→¬ SF pl.blk:=by
   rintro k o0 o pl ho0 ho hm hc (h1 | ⟨hz',k',hk',pl',hm',hc',he⟩ | ⟨_,h1⟩)
   ·exact hout k o pl ho hm hc h1
   ·obtain ⟨_,o2,ho2⟩:=hlk k' hk'
    have hne:k ≠ k':=fun h=>hnl k o0 ho0 hz' (h ▸ hk')
    exact g.rep.ne k k' o o2 pl pl' hne ho ho2 hm hm' hc hc' he.symm
   ·have:=hlt k o pl ho hm hc; omega
  -- a new object, as the callee has left it
  have hnob:∀ j,j < 16→∀ o,sget σr (nk+j) = some o→∃ o1 pl c T,sget σ' (orc.ks.length+j) = some o1∧o = o1.ren (back orc.ks nk)∧μ' (orc.ks.length+j) = some pl∧ObRep w' S' μ' o1 pl c T:=by
   intro j hj o ho
   obtain ⟨o1,h1,h2⟩:=hnew j hj o ho
   obtain ⟨pl,c,T,h3,h4⟩:=g'.rep.ob _ o1 h1
   exact ⟨o1,pl,c,T,h1,h2,h3,h4⟩
  have hsplit:∀ k,(k < nk ∨ nk+16≤k) ∨ ∃ j,j < 16∧k = nk+j:=fun k=>by
   rcases Nat.lt_or_ge k nk with h1 | h1
   ·exact .inl (.inl h1)
   ·rcases Nat.lt_or_ge k (nk+16) with h2 | h2
    ·exact .inr ⟨k - nk,by omega,by omega⟩
    ·exact .inl (.inr h2)
  -- the block of a new object is none of the caller's
  have hnblk:∀ j o1 pl,sget σ' (orc.ks.length+j) = some o1→μ' (orc.ks.length+j) = some pl→0 < pl.cap →
    (∃ (k i:Nat) (o:Ob) (pl':Place),orc.ks[i]? = some k∧sget σ k = some o∧μ k = some pl'∧0 < pl'.cap∧pl'.blk = pl.blk) ∨ w.heap.size≤pl.blk:=by
   intro j o1 pl h1 h2 h3
   rcases g'.own _ o1 pl h1 h2 h3 with h4 | h4
   ·exact .inl (hfpk _ h4)
   ·exact .inr h4
  -- new and old ones lie apart
  have hcross:∀ j,j < 16→∀ k o o' pl pl',sget σr (nk+j) = some o→sget σr k = some o'→(k < nk ∨ nk+16≤k)→μF (nk+j) = some pl→μF k = some pl'→0 < pl.cap→0 < pl'.cap→pl.blk ≠ pl'.blk:=by
   intro j hj k o o' pl pl' ho ho' hn hm hm' hc hc' he
   obtain ⟨o1,pl1,c1,T1,h1,h2,h3,h4⟩:=hnob j hj o ho
   rw [hμn j hj,h3] at hm; cases hm
   rw [hμo k hn] at hm'
   cases hi:idx orc.ks k with
   | some i =>
    have hik:=idx_spec _ _ _ hi
    obtain ⟨_,o2,ho2⟩:=hwas k i o' hik ho'
    have hil:i < orc.ks.length:=(List.getElem?_eq_some_iff.1 hik).1
    have hmi:μ' i = some pl':=by
     rw [g'.mu0 i hil]
     show muOf μ orc.ks i = _
     simp [muOf,hik,hm']
    exact g'.rep.ne (orc.ks.length+j) i o1 o2 pl pl' (by omega) h1 ho2 h3 hmi hc hc' he
   | none =>
    obtain ⟨o3,ho3⟩:=hold k o' ho' hn
    rcases hnblk j o1 pl h1 h3 hc with ⟨k2,i2,o4,pl4,q1,q2,q3,q4,q5⟩ | h5
    ·have hne:k2 ≠ k:=fun h=>idx_none _ _ hi i2 (h ▸ q1)
     exact g.rep.ne k2 k o4 o3 pl4 pl' hne q2 ho3 q3 hm' q4 hc' (q5.trans he)
    ·have:=hlt k o3 pl' ho3 hm' hc'
     omega
  have ext:Ext w S μ w' SF μF:=⟨g'.fr.size,fun _ h=>.inl h,hSb,hmuF⟩
  refine ⟨v,SF,μF,rfl,ext,⟨?_,fun b h=>.inl (g.S0 b h),?_,?_,⟨?_,?_⟩,?_,fun k hk=>by rw [hμo k (.inl (by omega))]; exact g.mu0 k hk⟩,fun k hn h=>by rw [hμo k hn]; exact h,?_⟩
  ·refine ⟨g'.fr.os.trans g.fr.os,g'.fr.tape.trans g.fr.tape,g'.fr.output.trans g.fr.output,Nat.le_trans g.fr.size g'.fr.size,fun b hb hnf=>?_⟩
   rw [← g.fr.blk b hb hnf]
   refine hSblk b (Nat.lt_of_lt_of_le hb g.fr.size) ?_
   intro k i o pl hk ho hm hc he
   rcases g.own k o pl ho hm hc with h1 | h1
   ·exact hnf (he ▸ h1)
   ·have:pl.blk = b:=he
    omega
  ·rintro b (hb | ⟨_,k,hk,pl,hm,hc,rfl⟩ | ⟨hb,_⟩)
   ·exact Nat.lt_of_lt_of_le (g.S1 b hb) g'.fr.size
   ·obtain ⟨_,o,ho⟩:=hlk k hk
    exact Nat.lt_of_lt_of_le (hlt k o pl ho hm hc) g'.fr.size
   ·exact g'.S1 b hb
  ·rintro b (hb | ⟨hz',k,hk,pl,hm,hc,rfl⟩ | ⟨_,hb⟩)
   ·exact g.S2 b hb
   ·obtain ⟨_,o,ho⟩:=hlk k hk
    rcases g.own k o pl ho hm hc with h1 | h1
    ·exact (hz hz' _ h1).elim
    ·exact .inr h1
   ·exact .inr (Nat.le_trans g.fr.size hb)
  ·intro k o ho
   rcases hsplit k with hn | ⟨j,hj,rfl⟩
   ·cases hi:idx orc.ks k with
    | none =>
     have ho0:=ho
     rw [hother k hi hn] at ho
     split at ho
     ·cases ho
     obtain ⟨pl,c,T,hm,hob⟩:=g.rep.ob k o ho
     refine ⟨pl,c,T,hmuF _ _ hm,hob.ext ext ?_ (hfree k o o pl ho0 ho hm)⟩
     intro hc
     refine hSblk _ (lt_of_blk (hob.blk hc)) ?_
     intro k' i' o' pl' hk' ho' hm' hc' he
     have hne:k' ≠ k:=fun h=>idx_none _ _ hi i' (h ▸ hk')
     exact g.rep.ne k' k o' o pl' pl hne ho' ho hm' hm hc' hc he
    | some i =>
     have hk:=idx_spec _ _ _ hi
     obtain ⟨⟨o1,ho1⟩,_⟩:=hwas k i o hk ho
     obtain ⟨pl,c,T,hm,_⟩:=g.rep.ob k o1 ho1
     obtain ⟨c',T',hob⟩:=hobs w' S' SF μ' μF g' hSS hback k i o pl hk ho hm (hfree k o o1 pl ho ho1 hm)
     exact ⟨pl,c',T',hmuF _ _ hm,hob⟩
   ·obtain ⟨o1,pl,c,T,h1,h2,h3,h4⟩:=hnob j hj o ho
    have h5:=hconv w' S' SF μ' hSS j hj o1 pl c T h1 h4 (fun hc hb=>h4.out hc (hSF _ hb))
    exact ⟨pl,c,T,by rw [hμn j hj]; exact h3,by rw [h2]; exact h5.ren hback⟩
  ·intro k k' o o' pl pl' hne ho ho' hm hm' hc hc'
   rcases hsplit k with hn | ⟨j,hj,rfl⟩
   ·rcases hsplit k' with hn' | ⟨j',hj',rfl⟩
    ·obtain ⟨o1,ho1⟩:=hold k o ho hn
     obtain ⟨o2,ho2⟩:=hold k' o' ho' hn'
     rw [hμo k hn] at hm
     rw [hμo k' hn'] at hm'
     exact g.rep.ne k k' o1 o2 pl pl' hne ho1 ho2 hm hm' hc hc'
    ·exact fun he=>hcross j' hj' k o' o pl' pl ho' ho hn hm' hm hc' hc he.symm
   ·rcases hsplit k' with hn' | ⟨j',hj',rfl⟩
    ·exact hcross j hj k' o o' pl pl' ho ho' hn' hm hm' hc hc'
    ·obtain ⟨o1,pl1,c1,T1,h1,h2,h3,h4⟩:=hnob j hj o ho
     obtain ⟨o2,pl2,c2,T2,k1,k2,k3,k4⟩:=hnob j' hj' o' ho'
     rw [hμn j hj,h3] at hm; cases hm
     rw [hμn j' hj',k3] at hm'; cases hm'
     exact g'.rep.ne _ _ o1 o2 pl pl' (by omega) h1 k1 h3 k3 hc hc'
  ·intro k o pl ho hm hc
   rcases hsplit k with hn | ⟨j,hj,rfl⟩
   ·obtain ⟨o1,ho1⟩:=hold k o ho hn
    rw [hμo k hn] at hm
    exact g.own k o1 pl ho1 hm hc
   ·obtain ⟨o1,pl1,c1,T1,h1,h2,h3,h4⟩:=hnob j hj o ho
    rw [hμn j hj,h3] at hm; cases hm
    rcases hnblk j o1 pl h1 h3 hc with ⟨k2,i2,o4,pl4,q1,q2,q3,q4,q5⟩ | h5
    ·rw [← q5]; exact g.own k2 o4 pl4 q2 q3 q4
    ·exact .inr (Nat.le_trans g.fr.size h5)
  ·cases he:(bs.isEmpty || orc.frz) with
   | true=>exact (hv.ren (f:=back orc.ks nk) hback).mono (hSS he) (fun _ _=>rfl) (fun _ _ h=>h)
   | false =>
    rw [he,Bool.false_or] at hres
    exact (hv.noS hres w' SF).ren (f:=back orc.ks nk) hback
 split at h
 ·split at h
  ·rename_i qs hok
   cases h
   obtain ⟨hq,_⟩:=AllP.app hp.2
   have hks:∀ k i:Nat,orc.ks[i]? = some k→∀ o,sget (supd σ (frzU orc.frz bs)) k = some o→sget σ k = some o:=fun k i hk o ho=>by
    rw [frzU_get] at ho
    split at ho
    ·cases ho
    ·exact ho
   refine fin σc _ hp.1 (fun n _ _=>frzU_get _ _ _ _) ?_ ?_ ?_ ?_
   ·intro j hj o ho
    have ho:sget (supd σ (frzU orc.frz bs)) (nk+j) = some o:=ho
    rw [frzU_get] at ho
    split at ho
    ·cases ho
    ·rcases hkn _ o ho with h1 | h1 <;> omega
   ·intro w' S' S'' μ' _ j hj o1 pl c T h1
    obtain ⟨k,o,hk,_⟩:=hcget _ o1 h1
    rw [List.getElem?_eq_none (by omega)] at hk; cases hk
   ·intro w' S' S'' μ' μF g' hS hback k i o pl hk ho hm hfr
    have ho:=hks k i hk o ho
    obtain ⟨ps',hso,hsp⟩:=sameOk_get _ _ hok hq k (List.mem_of_getElem? hk) o ho
    have hci:sget σc i = some (o.ren (idx orc.ks)):=by rw [hcg]; simp [hk,ho]
    obtain ⟨pl2,c,T,hm2,hob⟩:=g'.rep.ob i _ hci
    have hlt:i < orc.ks.length:=(List.getElem?_eq_some_iff.1 hk).1
    rw [g'.mu0 i hlt] at hm2
    have:μ k = some pl2:=by simpa [envOf,muOf,hk] using hm2
    rw [hm] at this; cases this
    exact ⟨c,T,ob_same hob hso hsp hS hfr hback⟩
   ·intro k i o hk ho
    have ho:=hks k i hk o ho
    exact ⟨⟨o,ho⟩,o.ren (idx orc.ks),by rw [hcg]; simp [hk,ho]⟩
  ·cases h
 ·split at h
  ·rename_i qs hok hfl
   cases h
   obtain ⟨hq,_⟩:=AllP.app hp.2
   rw [Bool.and_eq_true] at hok
   have hbk:∀ n,sget (supd σ (backU orc.ks nk orc.sto 0 orc.ks)) n = match idx orc.ks n with
     | some j=>(sget orc.sto (0+j)).map (Ob.ren (back orc.ks nk))
     | none=>sget σ n:=fun n=>backU_get orc.ks 0 σ n hinj
   have hidx:∀ k i:Nat,orc.ks[i]? = some k→idx orc.ks k = some i:=by
    intro k i hk
    cases hi:idx orc.ks k with
    | none=>exact (idx_none _ _ hi i hk).elim
    | some j=>rw [hinj i j k hk (idx_spec _ _ _ hi)]
   have hkold:∀ k i:Nat,orc.ks[i]? = some k→k < nk ∨ nk+16≤k:=fun k i hk=>by
    obtain ⟨o,ho⟩:=canon_all orc.ks 0 σc hcan k (List.mem_of_getElem? hk)
    exact hkn k o ho
   have hall2:∀ k i:Nat,orc.ks[i]? = some k→∀ o,sget (supd σ (backU orc.ks nk orc.sto 0 orc.ks ++ (newU orc.ks nk orc.sto ++ frzU orc.frz bs))) k = some o→(sget orc.sto i).map (Ob.ren (back orc.ks nk)) = some o:=by
    intro k i hk o ho
    rw [supd_append,supd_append,frzU_get] at ho
    split at ho
    ·cases ho
    rw [newU_out _ _ _ hok.1 (hkold k i hk),hbk k,hidx k i hk] at ho
    simpa using ho
   refine fin orc.sto _ hp.1 ?_ ?_ ?_ ?_ ?_
   ·intro n hn hnn
    show sget (supd σ (backU orc.ks nk orc.sto 0 orc.ks ++ (newU orc.ks nk orc.sto ++ frzU orc.frz bs))) n = _
    rw [supd_append,supd_append,frzU_get,newU_out _ _ _ hok.1 hnn,hbk n,hn]
   ·intro j hj o ho
    have ho:sget (supd σ (backU orc.ks nk orc.sto 0 orc.ks ++ (newU orc.ks nk orc.sto ++ frzU orc.frz bs))) (nk+j) = some o:=ho
    rw [supd_append,supd_append,frzU_get] at ho
    split at ho
    ·cases ho
    rw [newU_in _ _ _ hok.2] at ho
    split at ho
    ·rename_i o1 ho1
     cases ho
     exact ⟨o1,ho1,rfl⟩
    ·rw [hbk] at ho
     cases hi:idx orc.ks (nk+j) with
     | some i =>
      rcases hkold _ i (idx_spec _ _ _ hi) with h1 | h1 <;> omega
     | none =>
      rw [hi] at ho
      rcases hkn _ o ho with h1 | h1 <;> omega
   ·intro w' S' S'' μ' hS j hj o1 pl c T h1 h2 h3
    rcases flatStoP_get _ _ hfl hq _ o1 h1 with hl | ⟨ps',hf,hfp⟩
    ·exact ob_mono h2 (hS hl) h3
    ·exact flatP_ob h2 hf hfp h3
   ·intro w' S' S'' μ' μF g' hS hback k i o pl hk ho hm hfr
    have ho:=hall2 k i hk o ho
    simp only [Option.map_eq_some_iff] at ho
    obtain ⟨o1,ho1,rfl⟩:=ho
    obtain ⟨pl2,c,T,hm2,hob⟩:=g'.rep.ob i _ ho1
    have hlt:i < orc.ks.length:=(List.getElem?_eq_some_iff.1 hk).1
    rw [g'.mu0 i hlt] at hm2
    have:μ k = some pl2:=by simpa [envOf,muOf,hk] using hm2
    rw [hm] at this; cases this
    refine ⟨c,T,?_⟩
    rcases flatStoP_get _ _ hfl hq _ o1 ho1 with hl | ⟨ps',hf,hfp⟩
    ·exact (ob_mono hob (hS hl) hfr).ren hback
    ·exact (flatP_ob (μ'':=μ') hob hf hfp hfr).ren hback
   ·intro k i o hk ho
    have ho:=hall2 k i hk o ho
    simp only [Option.map_eq_some_iff] at ho
    obtain ⟨o1,ho1,_⟩:=ho
    exact ⟨canon_all orc.ks 0 σc hcan k (List.mem_of_getElem? hk),o1,ho1⟩
  ·cases h
def isU8:List AV→Bool
 | [.atom v]=>match v with
  | .int k _=>match k with
   | .u8=>true
   | _=>false
  | _=>false
 | _=>false
def u8v:List AV→Int
 | [.atom v]=>match v with
  | .int _ x=>x
  | _=>0
 | _=>0
def strOf (n:Nat) (g:Nat→List AV):ByteArray:=⟨((List.range n).map fun i=>UInt8.ofNat (u8v (g i)).toNat).toArray⟩
theorem isU8_eq {l:List AV} (h:isU8 l = true):l = [.atom (.int .u8 (u8v l))]:=by
 unfold isU8 at h
 split at h
 ·split at h
  ·split at h
   ·rfl
   ·cases h
  ·cases h
 ·cases h
def evConvM (P:Program) (σ:Sto) (src dst:TypeId) (x:AV):Option (List Prop × AV × List Nat) :=
 match P.underlying src,P.underlying dst with
 | some .string,some (.slice e)=>match P.underlying e,x with
  | some (.int .u8),.atom (.string b)=>some ([],.sl b.size (fun i=>[.atom (.int .u8 (byteAt b i))]),[])
  | _,_=>none
 | some (.slice e),some .string=>match P.underlying e,srcOf σ 1 x with
  | some (.int .u8),some (n,g,_,ps,rd)=>some ((∀ i,i < n→isU8 (g i) = true) :: ps,.atom (.string (strOf n g)),rd)
  | _,_=>none
 | _,_=>none
theorem foldl_push (l:List Int):∀ (r:ByteArray),l.foldl (fun r n=>r.push (UInt8.ofNat n.toNat)) r = ⟨r.data ++ (l.map fun n=>UInt8.ofNat n.toNat).toArray⟩:=by
 induction l with
 | nil=>intro r; simp
 | cons b l ih =>
  intro r
  simp only [List.foldl_cons]
  rw [ih]
  simp [ByteArray.push]
theorem ev_convM (g:Good E σ S μ w) {src dst:TypeId} {x:AV} {v:Value} (hx:RepX w S μ v x) {ps:List Prop} {val:AV} {rd:List Nat} (h:evConvM P σ src dst x = some (ps,val,rd)) (hp:AllP ps) :
  Step P E nk σ S μ w (convert src dst v) val []:=by
 unfold evConvM at h
 split at h
 ·rename_i e hs hd
  split at h
  ·rename_i b he
   simp only [Option.some.injEq,Prod.mk.injEq] at h
   obtain ⟨rfl,rfl,rfl⟩:=h
   have:=rep_int hx; subst this
   have hrun:=run_bytes_of_string w src dst e b hs hd he
   have ga:=g.drew.allocStab (.cells (bytesRow b (grownCap w b.size 0 e)) e ((bytesRow b (grownCap w b.size 0 e)).size,(bytesRow b (grownCap w b.size 0 e)).size+1))
   refine ⟨_,_,_,_,hrun,(Ext.drew w S μ).trans ga.1,ga.2,fun _ _ h=>h,?_⟩
   refine .sl w.heap.size 0 1 (fun i _=>.int .u8 (byteAt b i)) (fun _=>⟨rfl,.inr rfl⟩) (fun i hi=>rfl) ?_ ?_ ?_
   ·intro i j hi hj
    have hj:j = 0:=by omega
    subst hj
    have:=World.cell?_alloc_mark w.drew (bytesRow b (grownCap w b.size 0 e)) e ((bytesRow b (grownCap w b.size 0 e)).size,(bytesRow b (grownCap w b.size 0 e)).size+1) i
    simp only [Nat.zero_add,Nat.mul_one,Nat.add_zero]
    refine this.trans ?_
    have hi':i < b.data.size:=hi
    simp [bytesRow,Array.getElem?_append,byteAt,ByteArray.getElem_eq_getElem_data,getElem?_pos,hi]
   ·intro i j c hi hc
    cases j with
    | zero=>simp at hc; subst hc; exact .atom _
    | succ j=>simp at hc
   ·simp [grownCap,Question.cut]
  ·cases h
 ·rename_i e hs hd
  split at h
  ·rename_i n gt pr qs rd' he hsrc
   simp only [Option.some.injEq,Prod.mk.injEq] at h
   obtain ⟨rfl,rfl,rfl⟩:=h
   obtain ⟨hu,hp'⟩:=hp
   obtain ⟨news,hn⟩:=ev_src g (P:=P) hx hsrc hp'
   have hsl:∃ a len cap,v = .slice a len cap:=by
    unfold srcOf at hsrc
    split at hsrc
    ·cases hx; exact ⟨_,_,_,rfl⟩
    ·cases hx; exact ⟨_,_,_,rfl⟩
    ·cases hx; exact ⟨_,_,_,rfl⟩
    ·cases hsrc
   obtain ⟨a,len,cap,rfl⟩:=hsl
   have hlen:len = n:=by
    have:=hn.len w
    simpa [Builtin.lenOf] using this
   subst hlen
   have hnews:news = ((List.range len).map fun i=>Value.int .u8 (u8v (gt i))):=by
    have hsz:news.length = len:=by simpa using hn.size
    apply List.ext_getElem?
    intro i
    by_cases hi:i < len
    ·have h1:news[i]? = some (news[i]'(by omega)):=List.getElem?_eq_getElem _
     have hg:=isU8_eq (hu i hi)
     have h2:=hn.rep i 0 _ _ hi (by rw [hg]; rfl) (by simpa only [Nat.mul_one,Nat.add_zero] using h1)
     have h3:=rep_int h2
     rw [h1,h3]
     simp [hi]
    ·rw [List.getElem?_eq_none (by omega),List.getElem?_eq_none (by simp; omega)]
   have hstr:(((List.range len).map fun i=>u8v (gt i)).foldl (fun r n=>r.push (UInt8.ofNat n.toNat)) ByteArray.empty) = strOf len gt:=by
    rw [foldl_push]
    have h0:ByteArray.empty.data = #[]:=rfl
    rw [h0]; simp [strOf]
   refine Step.pure g (v:=.string (strOf len gt)) ?_ (.atom _)
   rw [run_convert_bytes_string w src dst e a len cap hs he hd]
   cases a with
   | none =>
    have:len = 0:=by
     rcases Nat.eq_zero_or_pos len with h0 | h0
     ·exact h0
     ·have:=hn.cells w rfl
      have hz:news = []:=by
       have:news.toArray = #[]:=by simpa [Builtin.firstCells] using this.symm
       simpa using this
      rw [hz] at hnews
      have:=congrArg List.length hnews
      simp at this; omega
    subst this
    rfl
   | some a =>
    rw [← hstr]
    refine run_bytesToString w a len cap _ ?_
    have:=hn.cells w rfl
    rw [hnews] at this
    simpa [Builtin.firstCells,Function.comp_def] using this
  ·cases h
 ·cases h
open Go.MapKept
def keyEq (a b:AV):Option Bool :=
 match a,b with
 | .atom a,.atom b=>match a,b with
  | .string s,.string t=>some (streq s t)
  | .int k x,.int k' y=>match decide (k = k') with
   | true=>some (x == y)
   | false=>none
  | _,_=>none
 | _,_=>none
def look:List AV→AV→Option (Option AV)
 | k :: v :: r,x=>match keyEq k x with
  | some true=>some (some v)
  | some false=>look r x
  | none=>none
 | [_],_=>none
 | [],_=>some none
def insA:List AV→AV→AV→Option (List AV)
 | k :: v :: r,x,y=>match keyEq k x with
  | some true=>some (k :: y :: r)
  | some false=>(insA r x y).map fun l=>k :: v :: l
  | none=>none
 | [_],_,_=>none
 | [],x,y=>some [x,y]
def isKeyA (d:TypeDesc) (x:AV):Bool :=
 match d,x with
 | .string,.atom v=>match v with
  | .string _=>true
  | _=>false
 | .int k,.atom v=>match v with
  | .int k' _=>decide (k' = k)
  | _=>false
 | _,_=>false
def EntR (R:Value→AV→Prop):List MapEntry→List AV→Prop
 | [],[]=>True
 | e :: es,k :: v :: cs=>R e.key k∧R e.val v∧EntR R es cs
 | _,_=>False
theorem entsOf_get (c:Array Value) (i:Nat) (hi:i < c.size / 2):(entsOf c)[i]? = some ⟨c[2 * i]?.getD undef,c[2 * i+1]?.getD undef,i⟩:=by
 simp [entsOf,hi]
theorem entsOf_size (c:Array Value):(entsOf c).size = c.size / 2:=by simp [entsOf]
theorem entR_of {R:Value→AV→Prop} {c:Array Value} {cs:List AV} (h1:c.size % 2 = 0) (h2:c.size = cs.length) (h3:∀ (j:Nat) x v,cs[j]? = some x→c[j]? = some v→R v x):EntR R (entsOf c).toList cs:=by
 have key:∀ (n o:Nat),2 * (o+n) = c.size→EntR R ((List.range' o n).map fun i=>(⟨c[2 * i]?.getD undef,c[2 * i+1]?.getD undef,i⟩:MapEntry)) (cs.drop (2 * o)):=by
  intro n
  induction n with
  | zero=>intro o h; rw [List.drop_of_length_le (by omega)]; trivial
  | succ n ih =>
   intro o h
   have e1:2 * o < cs.length:=by omega
   have e2:2 * o+1 < cs.length:=by omega
   rw [List.range'_succ,List.map_cons,List.drop_eq_getElem_cons e1,List.drop_eq_getElem_cons e2]
   have d1:c[2 * o]? = some c[2 * o]:=Array.getElem?_eq_getElem _
   have d2:c[2 * o+1]? = some c[2 * o+1]:=Array.getElem?_eq_getElem _
   have ih':=ih (o+1) (by omega)
   rw [show 2 * (o+1) = 2 * o+1+1 by omega] at ih'
   refine ⟨?_,?_,ih'⟩
   ·rw [d1]; exact h3 _ _ _ (List.getElem?_eq_getElem e1) d1
   ·rw [d2]; exact h3 _ _ _ (List.getElem?_eq_getElem e2) d2
 have:=key (c.size / 2) 0 (by omega)
 have e:(entsOf c).toList = (List.range' 0 (c.size / 2)).map fun i=>(⟨c[2 * i]?.getD undef,c[2 * i+1]?.getD undef,i⟩:MapEntry):=by
  unfold entsOf
  rw [Array.toList_map,Array.toList_range,List.range_eq_range']
 rw [e]; exact this
theorem bytesEq (a b:ByteArray):(a == b) = streq a b:=by
 have hl:∀ x:ByteArray,x.toList = x.data.toList:=fun x=>ByteArray.toList_eq x
 rw [Bool.eq_iff_iff,bytes_beq]
 unfold streq
 rw [hl,hl,beq_iff_eq]
 constructor
 ·rintro rfl; rfl
 ·intro h
  cases a; cases b
  simp only at h
  rw [Array.toList_inj.1 h]
theorem keyEq_same {d:TypeDesc} {kv ev:Value} {x k:AV} {b:Bool} (hx:isKeyA d x = true) {w w':World} {S S':Nat→Prop} {μ μ':Mu} (h1:RepX w S μ kv x) (h2:RepX w' S' μ' ev k) (h:keyEq k x = some b) :
  IsKey d kv∧Instr.sameNow d kv ev = some b∧(b = true→ev = kv):=by
 unfold isKeyA at hx
 split at hx
 ·split at hx
  ·rename_i s
   have:=rep_int h1; subst this
   unfold keyEq at h
   split at h
   ·rename_i q1 q2 e1 e2
    have:=rep_int h2; subst this
    split at h
    ·rename_i a s'
     cases h; cases e2
     refine ⟨trivial,?_,?_⟩
     ·simp only [Instr.sameNow,bytesEq]
      congr 1
      unfold streq; rw [Bool.eq_iff_iff]; simp only [beq_iff_eq]; exact eq_comm
     ·intro hb
      rw [← bytesEq,bytes_beq] at hb
      rw [hb]
    ·cases e2
    ·cases h
   ·cases h
  ·cases hx
 ·split at hx
  ·rename_i k0 _ k' n
   have:=rep_int h1; subst this
   have hk:k' = k0:=of_decide_eq_true hx
   subst hk
   unfold keyEq at h
   split at h
   ·rename_i q1 q2 e1 e2
    have:=rep_int h2; subst this
    split at h
    ·cases e2
    ·rename_i ka a kb b'
     cases e2
     split at h
     ·rename_i hkk
      have hkk:=of_decide_eq_true hkk
      subst hkk
      cases h
      refine ⟨rfl,?_,?_⟩
      ·simp only [Instr.sameNow,if_true]
       congr 1
       rw [Bool.eq_iff_iff]; simp only [beq_iff_eq]; exact eq_comm
      ·intro hb
       rw [beq_iff_eq] at hb
       rw [hb]
     ·cases h
    ·cases h
   ·cases h
  ·cases hx
 ·cases hx
theorem isKey_of {d:TypeDesc} {kv:Value} {x:AV} (hx:isKeyA d x = true) {w:World} {S:Nat→Prop} {μ:Mu} (h1:RepX w S μ kv x):IsKey d kv:=by
 unfold isKeyA at hx
 split at hx
 ·split at hx
  ·have:=rep_int h1; subst this; trivial
  ·cases hx
 ·split at hx
  ·have:=rep_int h1; subst this
   have hk:=of_decide_eq_true hx
   exact hk
  ·cases hx
 ·cases hx
theorem look_find {d:TypeDesc} {kv:Value} {x:AV} (hx:isKeyA d x = true) {w w':World} {S S':Nat→Prop} {μ μ':Mu} (h1:RepX w S μ kv x):∀ (es:List MapEntry) (cs:List AV) (i:Nat) (r:Option AV),EntR (RepX w' S' μ') es cs→look cs x = some r →
  (r = none∧Instr.findNow d kv es i = some none) ∨ ∃ (j:Nat) (e:MapEntry) (v:AV),r = some v∧Instr.findNow d kv es i = some (some (i+j,e.val))∧RepX w' S' μ' e.val v
 | [],[],i,r,_,h=>by simp only [look,Option.some.injEq] at h; exact .inl ⟨h.symm,rfl⟩
 | e :: es,k :: v :: cs,i,r,hR,h=>by
  obtain ⟨r1,r2,r3⟩:=hR
  simp only [look] at h
  split at h
  ·rename_i hq
   cases h
   obtain ⟨_,q2,_⟩:=keyEq_same hx h1 r1 hq
   exact .inr ⟨0,e,v,rfl,by simp [Instr.findNow,q2],r2⟩
  ·rename_i hq
   obtain ⟨_,q2,_⟩:=keyEq_same hx h1 r1 hq
   rcases look_find hx h1 es cs (i+1) r r3 h with ⟨a,b⟩ | ⟨j,e',v',a,b,c⟩
   ·exact .inl ⟨a,by simp [Instr.findNow,q2,b]⟩
   ·exact .inr ⟨j+1,e',v',a,by simp [Instr.findNow,q2,b]; omega,c⟩
  ·cases h
 | [],_ :: _,_,_,hR,_=>by simp [EntR] at hR
 | _ :: _,[],_,_,hR,_=>by simp [EntR] at hR
 | _ :: _,[_],_,_,hR,_=>by simp [EntR] at hR
theorem ins_find {d:TypeDesc} {kv:Value} {x y:AV} (hx:isKeyA d x = true) {w w':World} {S S':Nat→Prop} {μ μ':Mu} (h1:RepX w S μ kv x):∀ (es:List MapEntry) (cs:List AV) (i:Nat) (cs':List AV),EntR (RepX w' S' μ') es cs→insA cs x y = some cs' →
  (Instr.findNow d kv es i = some none∧cs' = cs ++ [x,y]) ∨ ∃ (j:Nat) (e:MapEntry),Instr.findNow d kv es i = some (some (i+j,e.val))∧es[j]? = some e∧e.key = kv∧cs' = cs.set (2 * j+1) y
 | [],[],i,cs',_,h=>by simp only [insA,Option.some.injEq] at h; exact .inl ⟨rfl,h.symm⟩
 | e :: es,k :: v :: cs,i,cs',hR,h=>by
  obtain ⟨r1,r2,r3⟩:=hR
  simp only [insA] at h
  split at h
  ·rename_i hq
   cases h
   obtain ⟨_,q2,q3⟩:=keyEq_same hx h1 r1 hq
   exact .inr ⟨0,e,by simp [Instr.findNow,q2],rfl,q3 rfl,rfl⟩
  ·rename_i hq
   obtain ⟨_,q2,_⟩:=keyEq_same hx h1 r1 hq
   simp only [Option.map_eq_some_iff] at h
   obtain ⟨l,hl,rfl⟩:=h
   rcases ins_find hx h1 es cs (i+1) l r3 hl with ⟨a,b⟩ | ⟨j,e',a,b,c,q⟩
   ·exact .inl ⟨by simp [Instr.findNow,q2,a],by rw [b]; rfl⟩
   ·exact .inr ⟨j+1,e',by simp [Instr.findNow,q2,a]; omega,by simpa using b,c,by rw [q,show 2 * (j+1)+1 = 2 * j+1+1+1 by omega]; rfl⟩
  ·cases h
 | [],_ :: _,_,_,hR,_=>by simp [EntR] at hR
 | _ :: _,[],_,_,hR,_=>by simp [EntR] at hR
 | _ :: _,[_],_,_,hR,_=>by simp [EntR] at hR
theorem entsOf_push (c:Array Value) (h:c.size % 2 = 0) (a b:Value):entsOf ((c.push a).push b) = (entsOf c).push ⟨a,b,c.size / 2⟩:=by
 apply Array.ext
 ·simp [entsOf]; omega
 ·intro i h1 h2
  have hs:i < (c.size+1+1) / 2:=by simpa [entsOf] using h1
  by_cases hi:i < c.size / 2
  ·rw [Array.getElem_push_lt (by rw [entsOf_size]; exact hi)]
   have e1:2 * i < c.size:=by omega
   have e2:2 * i+1 < c.size:=by omega
   simp [entsOf,Array.getElem?_push,e1,e2,Nat.ne_of_lt e1,Nat.ne_of_lt e2,show ¬ 2 * i = c.size+1 by omega,show ¬ 2 * i+1 = c.size+1 by omega]
  ·have:i = c.size / 2:=by omega
   subst this
   have e1:2 * (c.size / 2) = c.size:=by omega
   simp [entsOf,Array.getElem_push,Array.getElem?_push,e1]
theorem entsOf_set (c:Array Value) (j:Nat) (e:MapEntry) (he:(entsOf c)[j]? = some e) (v:Value):entsOf (c.setIfInBounds (2 * j+1) v) = (entsOf c).modify j fun q=>{ q with key:=e.key,val:=v }:=by
 have hj:j < c.size / 2:=by
  have:=(Array.getElem?_eq_some_iff.1 he).1
  rwa [entsOf_size] at this
 rw [entsOf_get c j hj] at he
 cases he
 apply Array.ext
 ·simp [entsOf]
 ·intro i h1 h2
  have hi:i < c.size / 2:=by simpa [entsOf] using h1
  rw [Array.getElem_modify]
  by_cases hij:j = i
  ·subst hij
   simp [entsOf,Array.getElem?_setIfInBounds,show ¬ 2 * j+1 = 2 * j by omega,show 2 * j+1 < c.size by omega]
  ·rw [if_neg hij]
   simp [entsOf,Array.getElem?_setIfInBounds,show ¬ 2 * j+1 = 2 * i by omega,show ¬ 2 * j = 2 * i by omega,hij]
def evLookup (P:Program) (σ:Sto) (t:TypeId) (m x:AV) (ok:Bool) (orc:Orc):Option (List Prop × AV × List Nat) :=
 match m,P.underlying t with
 | .mp k,some (.map kt et)=>match P.underlying kt,sget σ k,tZero P et with
  | some d,some o,some z=>match isKeyA d x && Nat.beq o.sz 0 with
   | true=>match ok with
    | false=>some ([(look (o.get 0) x).map (fun r=>r.getD (ofConst z)) = some orc.res],orc.res,[k])
    | true=>some ([(look (o.get 0) x).map (fun r=>AV.tup [r.getD (ofConst z),.atom (.bool r.isSome)]) = some orc.res],orc.res,[k])
   | false=>none
  | _,_,_=>none
 | _,_=>none
def evMapUpd (P:Program) (σ:Sto) (t:TypeId) (m x y:AV) (orc:Orc):Option (List Prop × Upd × List Nat) :=
 match m,P.underlying t,orc.res with
 | .mp k,some (.map kt _),.tup cs=>match P.underlying kt,sget σ k with
  | some d,some o=>match isKeyA d x && Nat.beq o.sz 0 && Nat.beq o.len 0 && y.pure with
   | true=>some ([insA (o.get 0) x y = some cs],[(k,some ⟨o.var,o.sz,o.len,true,fun _=>cs⟩)],[k])
   | false=>none
  | _,_=>none
 | _,_,_=>none
theorem map_place (g:Good E σ S μ w) {k:Nat} {o:Ob} (ho:sget σ k = some o) (hz:o.sz = 0) {v:Value} (hv:RepX w S μ v (.mp k)) :
  ∃ pl c T,μ k = some pl∧ObRep w S μ o pl c T∧v = .map (some pl.blk):=by
 obtain ⟨pl,c,T,hm,hob⟩:=g.rep.ob k o ho
 cases hv with
 | mp pl' hm'=>rw [hm] at hm'; cases hm'; exact ⟨pl,c,T,hm,hob,rfl⟩
theorem ev_lookup (g:Good E σ S μ w) {t:TypeId} {m x:AV} {ok:Bool} {orc:Orc} {vm vx:Value} (hm:RepX w S μ vm m) (hx:RepX w S μ vx x) {ps:List Prop} {val:AV} {rd:List Nat}
  (h:evLookup P σ t m x ok orc = some (ps,val,rd)) (hp:AllP ps):∃ v,(Instr.lookup t vm vx ok).run P w = .ok v w∧RepX w S μ v val:=by
 unfold evLookup at h
 split at h
 ·rename_i k kt et ht
  split at h
  ·rename_i d o z hd ho hz
   split at h
   ·rename_i hb
    simp only [Bool.and_eq_true] at hb
    have hz0:=Nat.eq_of_beq_eq_true hb.2
    obtain ⟨pl,c,T,hmk,hob,rfl⟩:=map_place g ho hz0 hm
    obtain ⟨hc,m1,m2,m3,m4⟩:=hob.mp hz0
    have hblk:w.heap[pl.blk]? = some (.map (entsOf c) (c.size / 2)):=(hob.blk hc).trans (by rw [blkObj_map hz0])
    have hent:=entR_of m1 m2 m4
    have hkey:=isKey_of hb.1 hx
    have main:∀ r,look (o.get 0) x = some r→∃ v,RepX w S μ v (r.getD (ofConst z))∧(Instr.lookup t (.map (some pl.blk)) vx ok).run P w = .ok (if ok then .tuple #[v,.bool r.isSome] else v) w:=by
     intro r hr
     rcases look_find hb.1 hx (entsOf c).toList (o.get 0) 0 r hent hr with ⟨rfl,q⟩ | ⟨j,e,v,rfl,q1,q2⟩
     ·refine ⟨z,rep_const w S μ z,?_⟩
      simp [Instr.lookup,run_underlying ht,Go.MapKept.run_getObj_map hblk,Go.MapKept.run_checkKey hd hkey,Go.MapKept.run_findKey hd q,run_zero' hz,Result.andThen]
     ·refine ⟨e.val,noMu_mono (pr:=true) q2,?_⟩
      simp [Instr.lookup,run_underlying ht,Go.MapKept.run_getObj_map hblk,Go.MapKept.run_checkKey hd hkey,Go.MapKept.run_findKey hd q1,Result.andThen]
    split at h
    ·simp only [Option.some.injEq,Prod.mk.injEq] at h
     obtain ⟨rfl,rfl,rfl⟩:=h
     obtain ⟨hp1,_⟩:=hp
     simp only [Option.map_eq_some_iff] at hp1
     obtain ⟨r,hr,hr2⟩:=hp1
     obtain ⟨v,h1,h2⟩:=main r hr
     exact ⟨v,by simpa using h2,by rw [← hr2]; exact h1⟩
    ·simp only [Option.some.injEq,Prod.mk.injEq] at h
     obtain ⟨rfl,rfl,rfl⟩:=h
     obtain ⟨hp1,_⟩:=hp
     simp only [Option.map_eq_some_iff] at hp1
     obtain ⟨r,hr,hr2⟩:=hp1
     obtain ⟨v,h1,h2⟩:=main r hr
     refine ⟨.tuple #[v,.bool r.isSome],by simpa using h2,?_⟩
     rw [← hr2]
     refine .tup rfl fun j c v' hc hv=>?_
     match j with
     | 0=>simp at hc hv; subst hc hv; exact h1
     | 1=>simp at hc hv; subst hc hv; exact .atom _
     | j+2=>simp at hc
   ·cases h
  ·cases h
 ·cases h
theorem ev_mapUpd (g:Good E σ S μ w) {t:TypeId} {m x y:AV} {orc:Orc} {vm vx vy:Value} (hm:RepX w S μ vm m) (hx:RepX w S μ vx x) (hy:RepX w S μ vy y) {ps:List Prop} {upd:Upd} {rd:List Nat}
  (h:evMapUpd P σ t m x y orc = some (ps,upd,rd)) (hp:AllP ps):∃ w',(Instr.mapUpdate t vm vx vy).run P w = .ok () w'∧Ext w S μ w' S μ∧Good E (supd σ upd) S μ w':=by
 unfold evMapUpd at h
 split at h
 ·rename_i k kt et cs ht hres
  split at h
  ·rename_i d o hd ho
   split at h
   ·rename_i hb
    simp only [Option.some.injEq,Prod.mk.injEq] at h
    obtain ⟨rfl,rfl,rfl⟩:=h
    simp only [Bool.and_eq_true] at hb
    obtain ⟨⟨⟨hb1,hb2⟩,hb3⟩,hb4⟩:=hb
    have hz0:=Nat.eq_of_beq_eq_true hb2
    have hl0:=Nat.eq_of_beq_eq_true hb3
    obtain ⟨hp1,_⟩:=hp
    obtain ⟨pl,c,T,hmk,hob,rfl⟩:=map_place g ho hz0 hm
    obtain ⟨hc,m1,m2,m3,m4⟩:=hob.mp hz0
    have hblk:w.heap[pl.blk]? = some (.map (entsOf c) (c.size / 2)):=(hob.blk hc).trans (by rw [blkObj_map hz0])
    have hent:=entR_of m1 m2 m4
    have hkey:=isKey_of hb1 hx
    have hxp:x.pure = true:=by
     unfold isKeyA at hb1
     split at hb1
     ·rfl
     ·rfl
     ·cases hb1
    -- the block that is written
    have fin:∀ (c':Array Value),c'.size % 2 = 0→c'.size = cs.length→(∀ (j:Nat) x v,cs[j]? = some x→c'[j]? = some v→RepX w S noMu v x) →
      (Instr.mapUpdate t (.map (some pl.blk)) vx vy).run P w = .ok () { w with heap:=w.heap.setIfInBounds pl.blk (.map (entsOf c') (c'.size / 2)) } →
      ∃ w',(Instr.mapUpdate t (.map (some pl.blk)) vx vy).run P w = .ok () w'∧Ext w S μ w' S μ∧Good E (supd σ [(k,some ⟨o.var,o.sz,o.len,true,fun _=>cs⟩)]) S μ w':=by
     intro c' e1 e2 e3 hrun
     refine ⟨_,hrun,?_⟩
     have hset:=heap_set (o':=.map (entsOf c') (c'.size / 2)) hblk
     refine g.writeAt (w':={ w with heap:=w.heap.setIfInBounds pl.blk (.map (entsOf c') (c'.size / 2)) }) ho hmk hc hob rfl rfl rfl (by simp) (fun b hb=>hset.2 b hb) ⟨o.var,o.sz,o.len,true,fun _=>cs⟩ (fun ex=>⟨c',T,hob.sz,fun _=>?_,?_,by show o.len≤pl.cap; omega,hob.out,fun i hi=>absurd hi (by show ¬ i < o.len; omega),fun i j x v hi=>absurd hi (by show ¬ i < o.len; omega),fun _=>⟨hc,e1,e2,rfl,fun j x v hx hv=>(e3 j x v hx hv).mono ex.stab ex.blk (fun _ _ h=>h)⟩⟩)
     ·show _ = some (blkObj o.sz c' T)
      rw [blkObj_map hz0]; exact hset.1
     ·show pl.cap * o.sz≤_
      rw [hz0]; simp
    rcases ins_find hb1 hx (y:=y) (entsOf c).toList (o.get 0) 0 cs hent hp1 with ⟨q1,q2⟩ | ⟨j,e,q1,q2,q3,q4⟩
    ·refine fin ((c.push vx).push vy) (by simp; omega) (by rw [q2]; simp; omega) ?_ ?_
     ·intro j x' v' hx' hv'
      rw [q2] at hx'
      by_cases hj:j < c.size
      ·rw [List.getElem?_append_left (by omega)] at hx'
       rw [Array.getElem?_push,if_neg (by simp; omega),Array.getElem?_push,if_neg (by omega)] at hv'
       exact m4 j x' v' hx' hv'
      ·rw [List.getElem?_append_right (by omega)] at hx'
       by_cases hj0:j = c.size
       ·subst hj0
        rw [show c.size - (o.get 0).length = 0 by omega] at hx'
        rw [Array.getElem?_push,if_neg (by simp),Array.getElem?_push,if_pos rfl] at hv'
        simp at hx' hv'
        subst hx' hv'
        exact hx.pure hxp noMu
       ·by_cases hj1:j = c.size+1
        ·subst hj1
         rw [show c.size+1 - (o.get 0).length = 1 by omega] at hx'
         rw [Array.getElem?_push,if_pos (by simp)] at hv'
         simp at hx' hv'
         subst hx' hv'
         exact hy.pure hb4 noMu
        ·rw [List.getElem?_eq_none (by simp; omega)] at hx'; cases hx'
     ·rw [entsOf_push c m1]
      have e:((c.push vx).push vy).size / 2 = c.size / 2+1:=by simp; omega
      rw [e]
      simp [Instr.mapUpdate,run_underlying ht,Go.MapKept.run_getObj_map hblk,Go.MapKept.run_checkKey hd hkey,Go.MapKept.run_findKey hd q1,Go.MapKept.run_setObj_map _ hblk,Result.andThen]
    ·have q2':(entsOf c)[j]? = some e:=by simpa using q2
     have hj:j < c.size / 2:=by
      have:=(Array.getElem?_eq_some_iff.1 q2').1
      rwa [entsOf_size] at this
     refine fin (c.setIfInBounds (2 * j+1) vy) (by simpa using m1) (by rw [q4]; simpa using m2) ?_ ?_
     ·intro i x' v' hx' hv'
      rw [q4,List.getElem?_set] at hx'
      rw [Array.getElem?_setIfInBounds] at hv'
      by_cases hi:2 * j+1 = i
      ·subst hi
       rw [if_pos rfl,if_pos (by omega)] at hx'
       rw [if_pos rfl,if_pos (by omega)] at hv'
       simp at hx' hv'
       subst hx' hv'
       exact hy.pure hb4 noMu
      ·rw [if_neg hi] at hx' hv'
       exact m4 i x' v' hx' hv'
     ·rw [entsOf_set c j e q2' vy]
      have q1':Instr.findNow d vx (entsOf c).toList 0 = some (some (j,e.val)):=by simpa using q1
      simp [Instr.mapUpdate,run_underlying ht,Go.MapKept.run_getObj_map hblk,Go.MapKept.run_checkKey hd hkey,Go.MapKept.run_findKey hd q1',q2',q3,Go.MapKept.run_keyThatStays hkey,Go.MapKept.run_setObj_map _ hblk,Result.andThen]
   ·cases h
  ·cases h
 ·cases h
theorem call_sound (g:Good E σ S μ w) (hk16:∀ j,j < 16→μ (nk+j) = none) (hm0:E.m0≤nk) {f:AV} {args:List AV} {orc:Orc} {r:R} {fv:Value} (hf:RepX w S μ fv f) {vargs:Array Value} (ha:RL w S μ vargs args)
  (hz:orc.frz = true→∀ b,¬ E.fp b) (h:evCall P nk σ f args orc = some r) (hp:AllP r.obl) :
  ∃ gid vs,(do let d ← Deferred.ofValue fv vargs; invoke d.target d.args:Sem Next).run P w = .ok (.enter gid vs) w ∧
   Calls P gid vs w fun e w'=>∃ v S' μ',e = .returned v∧Ext w S μ w' S' μ'∧Good E (supd σ r.upd) S' μ' w'∧(∀ k,(k < nk ∨ nk+16≤k)→μ k = none→μ' k = none)∧RepX w' S' μ' v r.val :=
 call_soundG (ob:=Sound P) g hk16 hm0 hf ha hz (fun _ _ _ _ _ _ vs hs g0 hn hall=>hs w _ _ vs g0 hn hall) h hp
end
end Go.Ab
namespace Go.Ab
def getTm:List (Nat × AV)→Nat→AV
 | [],_=>.unk
 | (k,x) :: r,n=>match Nat.beq k n with
  | true=>x
  | false=>getTm r n
def evOpd (tm:List (Nat × AV)):Operand→AV
 | .tmp t=>getTm tm t
 | .const v=>ofConst v
 | .global g=>.atom (.pointer (some ⟨g,0,none⟩))
 | .func f=>.fn (.func f) [] []
def conds (e:Operand→AV):List Operand→List Prop
 | []=>[]
 | x :: r=>(e x).strip.2 ++ conds e r
def pickP (b:Bool):List Prop→List Prop
 | []=>[]
 | p :: ps=>[b = true→AllP (p :: ps)]
def minmax (mx:Bool) (x y:AV):Option AV :=
 match x,y with
 | .atom (.int k a),.atom (.int k' b)=>match decide (k = k') with
  | true=>some (.atom (.int k (match mx with
   | true=>if b > a then b else a
   | false=>if b < a then b else a)))
  | false=>none
 | _,_=>none
def mmFold (mx:Bool):AV→List AV→Option AV
 | a,[]=>some a
 | a,b :: r=>match minmax mx a b with
  | some v=>mmFold mx v r
  | none=>none
def pure1 (ps:List Prop) (x:Option AV):Option R:=x.map fun v=>⟨ps,v,[],[]⟩
def evBuiltin (P:Program) (nk:Nat) (σ:Sto) (e:Operand→AV) (b:Builtin) (args:List Operand) (tys:List TypeId):Option R :=
 let s:=fun x=>(e x).strip.1
 let c:=fun xs=>conds e xs
 match b,args,tys with
 | .len,[x],[t]=>pure1 (c [x]) (evLen P t (s x))
 | .append,[x,y],[t,t']=>match Nat.beq t t' with
  | true=>(evAppend P nk σ t (s x) (s y)).map fun (ps,v,rd,u)=>⟨c [x,y] ++ ps,v,rd,u⟩
  | false=>none
 | .min,x :: r,_=>pure1 (c (x :: r)) (mmFold false (s x) (r.map s))
 | .max,x :: r,_=>pure1 (c (x :: r)) (mmFold true (s x) (r.map s))
 | _,_,_=>none
def evOp (P:Program) (nk:Nat) (σ:Sto) (op:Op) (e:Operand→AV) (orc:Option Orc):Option R :=
 let s:=fun x=>(e x).strip.1
 let c:=fun xs=>conds e xs
 match op with
 | .move x | .assign x=>some ⟨[],e x,[],[]⟩
 | .pick q a b=>match s q,s a,s b with
  | .atom (.bool qb),.atom (.bool x),.atom (.bool y) =>
   some ⟨(e q).strip.2 ++ (pickP qb (e a).strip.2 ++ pickP (!qb) (e b).strip.2),.atom (.bool (cond qb x y)),[],[]⟩
  | _,_,_=>none
 | .alloc T=>(evAlloc P nk T).map fun (v,u)=>⟨[],v,[],u⟩
 | .box _ x=>(evBox nk (s x)).map fun (v,u)=>⟨c [x],v,[],u⟩
 | .build t parts=>pure1 (c (parts.toList.map (·.2))) (evBuild P t (parts.toList.map fun (i,x)=>(i,s x)))
 | .buildSlice t len parts=>match Nat.beq len 0 && !parts.toList.isEmpty with
  | true=>none
  | false=>(evBuildSlice P nk t len (parts.toList.map fun (i,x)=>(i,s x))).map fun (v,u)=>⟨c (parts.toList.map (·.2)),v,[],u⟩
 | .load T a=>(evLoad P σ T (s a)).map fun (ps,v,rd)=>⟨c [a] ++ ps,v,rd,[]⟩
 | .store T a x=>(evStore P σ T (s a) (s x)).map fun (ps,u,rd)=>⟨c [a,x] ++ ps,.unk,rd,u⟩
 | .nilCheck x=>match s x with
  | .op k i j=>some ⟨c [x],.op k i j,[],[]⟩
  | .rp cs j=>some ⟨c [x],.rp cs j,[],[]⟩
  | .pt b cs=>some ⟨c [x] ++ [b = true],.rp cs 0,[],[]⟩
  | _=>none
 | .binOp o t x y _=>(evBin P o t (s x) (s y)).map fun (ps,v)=>⟨c [x,y] ++ ps,v,[],[]⟩
 | .unOp o _ x=>pure1 (c [x]) (evUn o (s x))
 | .convert src dst x=>match evConv P src dst (s x) with
  | some v=>some ⟨c [x],v,[],[]⟩
  | none=>(evConvM P σ src dst (s x)).map fun (ps,v,rd)=>⟨c [x] ++ ps,v,rd,[]⟩
 | .makeMap _ none=>some ⟨[],.mp nk,[],[(nk,some ⟨false,0,0,true,fun _=>[]⟩)]⟩
 | .lookup t m x ok=>match orc with
  | some o=>(evLookup P σ t (s m) (s x) ok o).map fun (ps,v,rd)=>⟨c [m,x] ++ ps,v,rd,[]⟩
  | none=>none
 | .mapUpdate t m x y | .insert t m x y=>match orc with
  | some o=>(evMapUpd P σ t (s m) (s x) (s y) o).map fun (ps,u,rd)=>⟨c [m,x,y] ++ ps,.unk,rd,u⟩
  | none=>none
 | .makeFunc f first cap=>some ⟨c (first.toList ++ cap.toList),.fn f (first.toList.map s) (cap.toList.map s),[],[]⟩
 | .makeSlice t l m=>(evMake P nk t (s l) (s m)).map fun (ps,v,u)=>⟨c [l,m] ++ ps,v,[],u⟩
 | .slice t x lo hi none=>(evSlice P σ t (s x) (lo.map s) (hi.map s)).map fun (ps,v,rd)=>⟨c (x :: (lo.toList ++ hi.toList)) ++ ps,v,rd,[]⟩
 | .fieldAddr T x f=>pure1 (c [x]) (evFieldAddr P T (s x) f)
 | .field T x f=>pure1 (c [x]) (evField P T (s x) f)
 | .indexAddr T x i=>(evIndexAddr P σ T (s x) (s i)).map fun (ps,v,rd)=>⟨c [x,i] ++ ps,v,rd,[]⟩
 | .index T x i=>(evIndex P T (s x) (s i)).map fun (ps,v)=>⟨c [x,i] ++ ps,v,[],[]⟩
 | .extract x i=>match s x with
  | .tup cs=>pure1 (c [x]) cs[i]?
  | _=>none
 | .call ⟨.value f,args,_⟩=>match orc with
  | some o=>(evCall P nk σ (s f) (args.toList.map s) o).map fun r=>{ r with obl:=r.obl ++ c (f :: args.toList) }
  | none=>none
 | .call ⟨.builtin b,args,tys⟩=>evBuiltin P nk σ e b args.toList tys.toList
 | _=>none
section
variable {P:Program} {E:Env} {nk:Nat} {σ:Sto} {S:Nat→Prop} {μ:Mu} {w:World}
theorem conds_get {e:Operand→AV}:∀ {xs:List Operand},AllP (conds e xs)→∀ x ∈ xs,AllP (e x).strip.2
 | [],_,x,hx=>by simp at hx
 | y :: r,h,x,hx=>by
  obtain ⟨h1,h2⟩:=AllP.app h
  rcases List.mem_cons.1 hx with rfl | hx
  ·exact h1
  ·exact conds_get h2 x hx
theorem pickP_get {b:Bool} {ps:List Prop} (h:AllP (pickP b ps)) (hb:b = true):AllP ps:=by
 cases ps with
 | nil=>trivial
 | cons p ps=>exact h.1 hb
theorem mm_run {mx:Bool} {ρ:Operand→Value} {e:Operand→AV}:∀ (l:List Operand) (va:Value) (a r:AV),RepX w S μ va a→(∀ x ∈ l,RepX w S μ (ρ x) ((e x).strip.1)) →
  mmFold mx a (l.map fun x=>(e x).strip.1) = some r→∃ z,((l.map ρ).foldlM (match mx with | true=>Builtin.max2 | false=>Builtin.min2) va:Sem Value).run P w = .ok z w∧RepX w S μ z r
 | [],va,a,r,ha,_,h=>by
  simp only [List.map_nil,mmFold,Option.some.injEq] at h
  subst h
  exact ⟨va,rfl,ha⟩
 | x :: l,va,a,r,ha,hl,h=>by
  simp only [List.map_cons,mmFold] at h
  split at h
  ·rename_i v hv
   have hx:=hl x (by simp)
   obtain ⟨u,h1,h2⟩:∃ u,((match mx with | true=>Builtin.max2 | false=>Builtin.min2) va (ρ x):Sem Value).run P w = .ok u w∧RepX w S μ u v:=by
    unfold minmax at hv
    split at hv
    ·rename_i k p k' q hp hq
     rw [hq] at hx
     have e2:=rep_int hx
     have e1:=rep_int ha
     split at hv
     ·cases hv
      cases mx with
      | true=>exact ⟨_,by simp [e1,e2,Builtin.max2],.atom _⟩
      | false=>exact ⟨_,by simp [e1,e2,Builtin.min2],.atom _⟩
     ·cases hv
    ·cases hv
   obtain ⟨z,h3,h4⟩:=mm_run l u v r h2 (fun y hy=>hl y (by simp [hy])) h
   refine ⟨z,?_,h4⟩
   rw [List.map_cons,List.foldlM_cons]
   simp only [Sem.run_bind,h1,Result.andThen_ok]
   exact h3
  ·cases h
theorem rep_ptr {v:Value} {b:Bool} {cs:List AV} (h:RepX w S μ v (.pt b cs)) (hb:b = true):RepX w S μ v (.rp cs 0):=by
 cases h with
 | pt h1 _=>exact h1 hb
def Goes (E:Env) (nk:Nat) (σ:Sto) (S:Nat→Prop) (μ:Mu) (w:World) (r:R) (K:Value→World→Prop):Prop :=
 ∀ v w' S' μ',Ext w S μ w' S' μ'→Good E (supd σ r.upd) S' μ' w'→(∀ k,(k < nk ∨ nk+16≤k)→μ k = none→μ' k = none)→RepX w' S' μ' v r.val→K v w'
theorem parts_rep {ρ:Operand→Value} {e:Operand→AV} {parts:Array (Nat × Operand)} (he:∀ x ∈ (parts.toList.map (·.2)),RepX w S μ (ρ x) ((e x).strip.1)) :
  (parts.map fun (i,x)=>(i,ρ x)).toList.map (·.1) = (parts.toList.map fun (i,x)=>(i,(e x).strip.1)).map (·.1) ∧
  ∀ (j:Nat) x y,(parts.toList.map fun (i,x)=>(i,(e x).strip.1))[j]? = some x→(parts.map fun (i,x)=>(i,ρ x)).toList[j]? = some y→RepX w S μ y.2 x.2:=by
 refine ⟨by simp [List.map_map,Function.comp_def],?_⟩
 intro j x y hx hy
 simp only [Array.toList_map,List.getElem?_map,Option.map_eq_some_iff] at hx hy
 obtain ⟨p,hp,rfl⟩:=hx
 obtain ⟨q,hq,rfl⟩:=hy
 rw [hp] at hq; cases hq
 exact he _ (List.mem_map.2 ⟨p,List.mem_of_getElem? hp,rfl⟩)
theorem list_rep {ρ:Operand→Value} {e:Operand→AV} {xs:Array Operand} (he:∀ x ∈ xs.toList,RepX w S μ (ρ x) ((e x).strip.1)) :
  RL w S μ (xs.map ρ) (xs.toList.map fun x=>(e x).strip.1):=by
 refine ⟨by simp,?_⟩
 intro j c v hc hv
 simp only [List.getElem?_map,Array.getElem?_map,Option.map_eq_some_iff] at hc hv
 obtain ⟨p,hp,rfl⟩:=hc
 obtain ⟨q,hq,rfl⟩:=hv
 have:xs.toList[j]? = some q:=by simpa using hq
 rw [hp] at this; cases this
 exact he p (List.mem_of_getElem? hp)
theorem op_sound {o:Oper} {a:Act} {e:Operand→AV} {orc:Option Orc} {r:R} {next:Act→World→Prop} {Q:Exit→Act→World→Prop}
  (he:∀ x ∈ o.op.operands.toList,RepX w S μ (a.eval x) (e x)) (g:Good E σ S μ w) (hk16:∀ j,j < 16→μ (nk+j) = none) (hm:E.m0≤nk)
  (hz:∀ x,orc = some x→x.frz = true→∀ b,¬ E.fp b) (h:evOp P nk σ o.op e orc = some r) (hp:AllP r.obl) (hK:Goes E nk σ S μ w r fun v w'=>next (a.put o.dst v) w'):o.wp P a w next Q:=by
 have hk:μ nk = none:=hk16 0 (by omega)
 -- a value without a change
 have pv:∀ (s:Sem Value),execOp a.eval o = (do pure (.value (← s)):Sem Next)→r.upd = []→(∃ v,s.run P w = .ok v w∧RepX w S μ v r.val)→o.wp P a w next Q:=by
  rintro s hs hu ⟨v,h1,h2⟩
  unfold Oper.wp
  rw [hs]
  simp only [Sem.run_bind,h1,Result.andThen_ok,Sem.run_pure]
  exact hK v w S μ (Ext.refl _ _ _) (by rw [hu]; exact g) (fun _ _ h=>h) h2
 have pv0:∀ (v:Value),execOp a.eval o = pure (.value v)→r.upd = []→RepX w S μ v r.val→o.wp P a w next Q:=by
  intro v hs hu h2
  unfold Oper.wp
  rw [hs]
  exact hK v w S μ (Ext.refl _ _ _) (by rw [hu]; exact g) (fun _ _ h=>h) h2
 have sv:∀ (s:Sem Value),execOp a.eval o = (do pure (.value (← s)):Sem Next)→Step P E nk σ S μ w s r.val r.upd→o.wp P a w next Q:=by
  rintro s hs ⟨v,w',S',μ',h1,h2,h3,h4,h5⟩
  unfold Oper.wp
  rw [hs]
  simp only [Sem.run_bind,h1,Result.andThen_ok,Sem.run_pure]
  exact hK v w' S' μ' h2 h3 (fun k hk'=>h4 k (by omega)) h5
 have st:∀ (xs:List Operand),AllP (conds e xs)→(∀ x ∈ xs,x ∈ o.op.operands.toList)→∀ x ∈ xs,RepX w S μ (a.eval x) ((e x).strip.1) :=
  fun xs h1 h2 x hx=>(he x (h2 x hx)).strip (conds_get h1 x hx)
 obtain ⟨dst,op,ty,pos,after,guard⟩:=o
 simp only at he h hK pv pv0 sv st ⊢
 cases op with
 | move x =>
  simp only [evOp,Option.some.injEq] at h; subst h
  exact pv0 (a.eval x) rfl rfl (he x (by simp [Op.operands]))
 | assign x =>
  simp only [evOp,Option.some.injEq] at h; subst h
  exact pv0 (a.eval x) rfl rfl (he x (by simp [Op.operands]))
 | pick q x y =>
  simp only [evOp] at h
  split at h
  ·rename_i qb xb yb hq hx hy
   cases h
   obtain ⟨p1,p2⟩:=AllP.app hp
   obtain ⟨p2,p3⟩:=AllP.app p2
   have e1:=(he q (by simp [Op.operands])).strip p1
   rw [hq] at e1
   have e1:=rep_int e1
   refine pv (do pure (if ← asBool (a.eval q) then a.eval x else a.eval y)) (by simp [execOp]) rfl ?_
   cases qb with
   | true =>
    have e2:=(he x (by simp [Op.operands])).strip (pickP_get p2 rfl)
    rw [hx] at e2
    exact ⟨a.eval x,by simp [e1,asBool],e2⟩
   | false =>
    have e2:=(he y (by simp [Op.operands])).strip (pickP_get p3 rfl)
    rw [hy] at e2
    exact ⟨a.eval y,by simp [e1,asBool],e2⟩
  ·cases h
 | alloc T =>
  simp only [evOp,Option.map_eq_some_iff] at h
  obtain ⟨⟨v,u⟩,h1,rfl⟩:=h
  exact sv _ rfl (ev_alloc g hk hm h1)
 | box T x =>
  simp only [evOp,Option.map_eq_some_iff] at h
  obtain ⟨⟨v,u⟩,h1,rfl⟩:=h
  exact sv _ rfl (ev_box g hk hm (st [x] hp (by simp [Op.operands]) x (by simp)) h1)
 | build t parts =>
  simp only [evOp,pure1,Option.map_eq_some_iff] at h
  obtain ⟨v,h1,rfl⟩:=h
  have hpr:=parts_rep (st _ hp (by simp [Op.operands]))
  exact pv _ rfl rfl (ev_build hpr.1 hpr.2 h1)
 | buildSlice t len parts =>
  simp only [evOp] at h
  split at h
  ·cases h
  ·rename_i hl0
   simp only [Option.map_eq_some_iff] at h
   obtain ⟨⟨v,u⟩,h1,rfl⟩:=h
   have hpr:=parts_rep (st _ hp (by simp [Op.operands]))
   refine sv _ rfl (ev_buildSlice g hk hm hpr.1 hpr.2 h1 ?_)
   intro hz
   subst hz
   simp only [Bool.and_eq_false_iff] at hl0
   rcases hl0 with h0 | h0
   ·simp at h0
   ·simp only [Bool.not_eq_false',List.isEmpty_iff] at h0
    simp [h0]
 | load T x =>
  simp only [evOp,Option.map_eq_some_iff] at h
  obtain ⟨⟨ps,v,rd⟩,h1,rfl⟩:=h
  obtain ⟨p1,p2⟩:=AllP.app hp
  exact pv _ rfl rfl (ev_load g (st [x] p1 (by simp [Op.operands]) x (by simp)) h1 p2)
 | store T x y =>
  simp only [evOp,Option.map_eq_some_iff] at h
  obtain ⟨⟨ps,u,rd⟩,h1,rfl⟩:=h
  obtain ⟨p1,p2⟩:=AllP.app hp
  have s:=st [x,y] p1 (by simp [Op.operands])
  obtain ⟨w',r1,r2,r3⟩:=ev_store g (s x (by simp)) (s y (by simp)) h1 p2
  unfold Oper.wp
  have ex:execOp a.eval ⟨dst,.store T x y,ty,pos,after,guard⟩ = (do Instr.storeAt T (a.eval x) (a.eval y); pure .skip:Sem Next):=rfl
  rw [ex]
  simp only [Sem.run_bind,r1,Result.andThen_ok,Sem.run_pure]
  exact hK undef w' S μ r2 r3 (fun _ _ h=>h) .unk
 | nilCheck x =>
  simp only [evOp] at h
  split at h
  ·rename_i k i j hx
   cases h
   have e1:=st [x] hp (by simp [Op.operands]) x (by simp)
   rw [hx] at e1
   cases hv:a.eval x with
   | pointer q =>
    rw [hv] at e1
    cases q with
    | none=>cases e1
    | some q=>exact pv0 (.pointer (some q)) (by simp [execOp,hv]) rfl e1
   | _=>rw [hv] at e1; cases e1
  ·rename_i cs j hx
   cases h
   have e1:=st [x] hp (by simp [Op.operands]) x (by simp)
   rw [hx] at e1
   cases hv:a.eval x with
   | pointer q =>
    rw [hv] at e1
    cases q with
    | none=>cases e1
    | some q=>exact pv0 (.pointer (some q)) (by simp [execOp,hv]) rfl e1
   | _=>rw [hv] at e1; cases e1
  ·rename_i b cs hx
   cases h
   obtain ⟨hp,hb,_⟩:=AllP.app hp
   have e1:=st [x] hp (by simp [Op.operands]) x (by simp)
   rw [hx] at e1
   have e1:=rep_ptr e1 hb
   cases hv:a.eval x with
   | pointer q =>
    rw [hv] at e1
    cases q with
    | none=>cases e1
    | some q=>exact pv0 (.pointer (some q)) (by simp [execOp,hv]) rfl e1
   | _=>rw [hv] at e1; cases e1
  ·cases h
 | binOp o' t x y yt =>
  simp only [evOp,Option.map_eq_some_iff] at h
  obtain ⟨⟨ps,v⟩,h1,rfl⟩:=h
  obtain ⟨p1,p2⟩:=AllP.app hp
  have s:=st [x,y] p1 (by simp [Op.operands])
  exact pv (do eqGuard o' t x y (a.eval x) (a.eval y); binOp o' t (a.eval x) (a.eval y)) rfl rfl (ev_bin (s x (by simp)) (s y (by simp)) h1 p2)
 | unOp o' t x =>
  simp only [evOp,pure1,Option.map_eq_some_iff] at h
  obtain ⟨v,h1,rfl⟩:=h
  exact pv _ rfl rfl (ev_un (st [x] hp (by simp [Op.operands]) x (by simp)) h1)
 | convert src dt x =>
  simp only [evOp] at h
  split at h
  ·rename_i v h1
   cases h
   exact pv _ rfl rfl (ev_conv (st [x] hp (by simp [Op.operands]) x (by simp)) h1)
  ·simp only [Option.map_eq_some_iff] at h
   obtain ⟨⟨ps,v,rd⟩,h1,rfl⟩:=h
   obtain ⟨p1,p2⟩:=AllP.app hp
   exact sv _ rfl (ev_convM g (st [x] p1 (by simp [Op.operands]) x (by simp)) h1 p2)
 | makeMap t hint =>
  cases hint with
  | some _=>simp [evOp] at h
  | none =>
   simp only [evOp,Option.some.injEq] at h; subst h
   have ga:=g.allocMap hk hm
   refine sv (Instr.makeMap t none) rfl ⟨_,_,_,_,Go.RowKit.run_makeMap t w,ga.1,ga.2,fun k hk' hn=>by rw [muSet_ne _ hk']; exact hn,?_⟩
   exact RepX.mp (μ:=muSet μ nk ⟨w.heap.size,1,0⟩) ⟨w.heap.size,1,0⟩ (by simp [muSet])
 | lookup t m x ok =>
  simp only [evOp] at h
  split at h
  ·simp only [Option.map_eq_some_iff] at h
   obtain ⟨⟨ps,v,rd⟩,h1,rfl⟩:=h
   obtain ⟨p1,p2⟩:=AllP.app hp
   have s:=st [m,x] p1 (by simp [Op.operands])
   exact pv _ rfl rfl (ev_lookup g (s m (by simp)) (s x (by simp)) h1 p2)
  ·cases h
 | mapUpdate t m x y =>
  simp only [evOp] at h
  split at h
  ·simp only [Option.map_eq_some_iff] at h
   obtain ⟨⟨ps,u,rd⟩,h1,rfl⟩:=h
   obtain ⟨p1,p2⟩:=AllP.app hp
   have s:=st [m,x,y] p1 (by simp [Op.operands])
   obtain ⟨w',r1,r2,r3⟩:=ev_mapUpd g (s m (by simp)) (s x (by simp)) (s y (by simp)) h1 p2
   unfold Oper.wp
   have ex:execOp a.eval ⟨dst,.mapUpdate t m x y,ty,pos,after,guard⟩ = (do Instr.mapUpdate t (a.eval m) (a.eval x) (a.eval y); pure .skip:Sem Next):=rfl
   rw [ex]
   simp only [Sem.run_bind,r1,Result.andThen_ok,Sem.run_pure]
   exact hK undef w' S μ r2 r3 (fun _ _ h=>h) .unk
  ·cases h
 | insert t m x y =>
  simp only [evOp] at h
  split at h
  ·simp only [Option.map_eq_some_iff] at h
   obtain ⟨⟨ps,u,rd⟩,h1,rfl⟩:=h
   obtain ⟨p1,p2⟩:=AllP.app hp
   have s:=st [m,x,y] p1 (by simp [Op.operands])
   obtain ⟨w',r1,r2,r3⟩:=ev_mapUpd g (s m (by simp)) (s x (by simp)) (s y (by simp)) h1 p2
   unfold Oper.wp
   have ex:execOp a.eval ⟨dst,.insert t m x y,ty,pos,after,guard⟩ = (do Instr.mapUpdate t (a.eval m) (a.eval x) (a.eval y); pure .skip:Sem Next):=rfl
   rw [ex]
   simp only [Sem.run_bind,r1,Result.andThen_ok,Sem.run_pure]
   exact hK undef w' S μ r2 r3 (fun _ _ h=>h) .unk
  ·cases h
 | makeFunc f first cap =>
  simp only [evOp,Option.some.injEq] at h; subst h
  have s:=st (first.toList ++ cap.toList) hp (by simp [Op.operands])
  have l1:=list_rep (xs:=first) (fun x hx=>s x (by simp only [List.mem_append]; exact .inl hx))
  have l2:=list_rep (xs:=cap) (fun x hx=>s x (by simp only [List.mem_append]; exact .inr hx))
  exact pv _ rfl rfl ⟨_,by simp [Instr.makeFunc],.fn l1.1 l2.1 l1.2 l2.2⟩
 | makeSlice t x y =>
  simp only [evOp,Option.map_eq_some_iff] at h
  obtain ⟨⟨ps,v,u⟩,h1,rfl⟩:=h
  obtain ⟨p1,p2⟩:=AllP.app hp
  have s:=st [x,y] p1 (by simp [Op.operands])
  exact sv _ rfl (ev_make g hk hm (s x (by simp)) (s y (by simp)) h1 p2)
 | slice t x lo hi mx =>
  cases mx with
  | some _=>simp [evOp] at h
  | none =>
   simp only [evOp,Option.map_eq_some_iff] at h
   obtain ⟨⟨ps,v,rd⟩,h1,rfl⟩:=h
   obtain ⟨p1,p2⟩:=AllP.app hp
   have s:=st (x :: (lo.toList ++ hi.toList)) p1 (by
    intro y hy
    simp only [List.mem_cons,List.mem_append,Option.mem_toList] at hy
    simp only [Op.operands]
    rcases hy with rfl | hy | hy
    ·simp
    ·simp [hy]
    ·simp [hy])
   refine pv (Instr.sliceAt t (a.eval x) (lo.map a.eval) (hi.map a.eval) none) rfl rfl (ev_slice g (s x (by simp)) ?_ ?_ h1 p2)
   ·refine ⟨by simp,?_⟩
    intro p q hp' hq
    simp only [Option.map_eq_some_iff] at hp' hq
    obtain ⟨y,hy,rfl⟩:=hp'
    obtain ⟨z,hz,rfl⟩:=hq
    rw [hy] at hz; cases hz
    exact s y (by simp [hy])
   ·refine ⟨by simp,?_⟩
    intro p q hp' hq
    simp only [Option.map_eq_some_iff] at hp' hq
    obtain ⟨y,hy,rfl⟩:=hp'
    obtain ⟨z,hz,rfl⟩:=hq
    rw [hy] at hz; cases hz
    exact s y (by simp [hy])
 | fieldAddr T x f =>
  simp only [evOp,pure1,Option.map_eq_some_iff] at h
  obtain ⟨v,h1,rfl⟩:=h
  exact pv _ rfl rfl (ev_fieldAddr (st [x] hp (by simp [Op.operands]) x (by simp)) h1)
 | field T x f =>
  simp only [evOp,pure1,Option.map_eq_some_iff] at h
  obtain ⟨v,h1,rfl⟩:=h
  exact pv _ rfl rfl (ev_field (st [x] hp (by simp [Op.operands]) x (by simp)) h1)
 | indexAddr T x i =>
  simp only [evOp,Option.map_eq_some_iff] at h
  obtain ⟨⟨ps,v,rd⟩,h1,rfl⟩:=h
  obtain ⟨p1,p2⟩:=AllP.app hp
  have s:=st [x,i] p1 (by simp [Op.operands])
  exact pv _ rfl rfl (ev_indexAddr g (s x (by simp)) (s i (by simp)) h1 p2)
 | index T x i =>
  simp only [evOp,Option.map_eq_some_iff] at h
  obtain ⟨⟨ps,v⟩,h1,rfl⟩:=h
  obtain ⟨p1,p2⟩:=AllP.app hp
  have s:=st [x,i] p1 (by simp [Op.operands])
  exact pv _ rfl rfl (ev_index (s x (by simp)) (s i (by simp)) h1 p2)
 | extract x i =>
  simp only [evOp] at h
  split at h
  ·rename_i cs hx
   simp only [pure1,Option.map_eq_some_iff] at h
   obtain ⟨v,h1,rfl⟩:=h
   have e1:=st [x] hp (by simp [Op.operands]) x (by simp)
   rw [hx] at e1
   refine pv _ rfl rfl ?_
   cases hv:a.eval x with
   | tuple vs =>
    rw [hv] at e1
    cases e1 with
    | tup q1 q2 =>
     have hlt:i < vs.size:=by rw [q1]; exact (List.getElem?_eq_some_iff.1 h1).1
     exact ⟨vs[i],by simp [Instr.extract,Array.getElem?_eq_getElem hlt],q2 i v _ h1 (Array.getElem?_eq_getElem hlt)⟩
   | _=>rw [hv] at e1; cases e1
  ·cases h
 | call c =>
  obtain ⟨callee,args,argTypes⟩:=c
  cases callee with
  | invoke=>simp [evOp] at h
  | value f =>
   simp only [evOp] at h
   split at h
   ·rename_i o'
    simp only [Option.map_eq_some_iff] at h
    obtain ⟨r',h1,rfl⟩:=h
    obtain ⟨p1,p2⟩:=AllP.app hp
    have s:=st (f :: args.toList) p2 (by simp [Op.operands,Call.operands])
    have l1:=list_rep (xs:=args) (fun x hx=>s x (List.mem_cons_of_mem _ hx))
    obtain ⟨gid,vs,r1,r2⟩:=call_sound g hk16 hm (s f (by simp)) l1 (hz _ rfl) h1 p1
    unfold Oper.wp
    have ex:execOp a.eval ⟨dst,.call ⟨.value f,args,argTypes⟩,ty,pos,after,guard⟩ = (do let d ← Deferred.ofValue (a.eval f) (args.map a.eval); invoke d.target d.args:Sem Next):=rfl
    rw [ex,r1]
    simp only [Oper.upon]
    refine r2.mono ?_
    rintro e' w' ⟨v,S',μ',rfl,q1,q2,q3,q4⟩
    exact hK v w' S' μ' q1 q2 q3 q4
   ·cases h
  | builtin b =>
   simp only [evOp] at h
   unfold evBuiltin at h
   split at h
   case h_1 x t ha ht =>
    obtain ⟨rfl⟩:args = #[x]:=Array.toList_inj.1 (by rw [ha])
    obtain ⟨rfl⟩:argTypes = #[t]:=Array.toList_inj.1 (by rw [ht])
    simp only [pure1,Option.map_eq_some_iff] at h
    obtain ⟨v,h1,rfl⟩:=h
    have s:=st [x] hp (by simp [Op.operands,Call.operands])
    exact pv (Builtin.len_ #[t] ty #[a.eval x]) (by simp [execOp,resolve,invoke,builtin]) rfl (ev_len (s x (by simp)) h1 ty)
   case h_2 x y t t' ha ht =>
    obtain ⟨rfl⟩:args = #[x,y]:=Array.toList_inj.1 (by rw [ha])
    obtain ⟨rfl⟩:argTypes = #[t,t']:=Array.toList_inj.1 (by rw [ht])
    split at h
    ·rename_i hb
     have hb:=Nat.eq_of_beq_eq_true hb
     subst hb
     simp only [Option.map_eq_some_iff] at h
     obtain ⟨⟨ps,v,rd,u⟩,h1,rfl⟩:=h
     obtain ⟨p1,p2⟩:=AllP.app hp
     have s:=st [x,y] p1 (by simp [Op.operands,Call.operands])
     exact sv (Builtin.append_ #[t,t] ty #[a.eval x,a.eval y]) (by simp [execOp,resolve,invoke,builtin]) (ev_append g hk hm (s x (by simp)) (s y (by simp)) h1 p2)
    ·cases h
   case h_3 x r ha =>
    simp only [pure1,Option.map_eq_some_iff] at h
    obtain ⟨v,h1,rfl⟩:=h
    have s:=st (x :: r) hp (by intro y hy; simpa [Op.operands,Call.operands,ha] using hy)
    refine pv (Builtin.min_ argTypes ty (args.map a.eval)) (by simp [execOp,resolve,invoke,builtin]) rfl ?_
    obtain ⟨z,h3,h4⟩:=mm_run (P:=P) r (a.eval x) _ v (s x (by simp)) (fun y hy=>s y (by simp [hy])) h1
    refine ⟨z,?_,h4⟩
    unfold Builtin.min_
    rw [Array.toList_map,ha,List.map_cons]
    exact h3
   case h_4 x r ha =>
    simp only [pure1,Option.map_eq_some_iff] at h
    obtain ⟨v,h1,rfl⟩:=h
    have s:=st (x :: r) hp (by intro y hy; simpa [Op.operands,Call.operands,ha] using hy)
    refine pv (Builtin.max_ argTypes ty (args.map a.eval)) (by simp [execOp,resolve,invoke,builtin]) rfl ?_
    obtain ⟨z,h3,h4⟩:=mm_run (P:=P) r (a.eval x) _ v (s x (by simp)) (fun y hy=>s y (by simp [hy])) h1
    refine ⟨z,?_,h4⟩
    unfold Builtin.max_
    rw [Array.toList_map,ha,List.map_cons]
    exact h3
   case h_5=>cases h
 | _=>simp [evOp] at h
end
end Go.Ab
namespace Go.Ab
structure St where
 tm:List (Nat × AV)
 sto:Sto
 nk:Nat
def guardB:AV→Bool→Option Bool
 | .atom (.bool b),want=>some (match want with
  | true=>b
  | false=>!b)
 | .when g x,want=>(guardB x want).map fun b=>g && b
 | _,_=>none
structure Rec where
 obl:List Prop
 dst:Option Nat
 val:AV
 rds:List Nat
 upd:Upd
def evYield (σ:Sto) (op:Op) (e:Operand→AV) (y:YC):Option R :=
 match op with
 | .call ⟨.value f,args,_⟩=>match (e f).strip.1,sget σ y.k with
  | .atom (.func (.yield l) vs ws),some o=>some ⟨(l = y.l∧vs = #[]∧ws = #[]∧args.toList.map (fun x=>(e x).strip.1) = y.as∧o = y.o) :: conds e (f :: args.toList),.atom (.bool true),[y.k],[(y.k,some y.o')]⟩
  | _,_=>none
 | _=>none
def evOpY (P:Program) (nk:Nat) (σ:Sto) (op:Op) (e:Operand→AV) (orc:Option Orc):Option R :=
 match orcY orc with
 | some y=>evYield σ op e y
 | none=>evOp P nk σ op e orc
def under (g:Bool):List Prop→List Prop
 | []=>[]
 | p :: ps=>[g = true→AllP (p :: ps)]
def dstOf (ops:List Oper) (j:Nat):Option Nat:=(ops[j]?).bind (·.dst)
def dstOk (nt:Nat):Option Nat→Bool
 | none=>true
 | some d=>Nat.blt d nt
def evOne (P:Program) (nt:Nat) (ops:List Oper) (nk:Nat) (tm:List (Nat × AV)) (σ:Sto) (o:Oper) (orc:Option Orc):Option Rec :=
 match dstOk nt o.dst with
 | false=>none
 | true=>match o.guard with
  | none=>(evOpY P nk σ o.op (evOpd tm) orc).map fun r=>⟨r.obl,o.dst,r.val,r.rds,r.upd⟩
  | some (j,want)=>match dstOf ops j with
   | none=>none
   | some d=>match decO orc with
    | 0=>match guardB (getTm tm d) want,evOpY P nk σ o.op (evOpd tm) orc with
     | some g,some r=>match r.upd with
      | []=>some ⟨under g r.obl,o.dst,.when g r.val,r.rds,[]⟩
      | _ :: _=>none
     | _,_=>none
    | 1=>match guardB (getTm tm d) want,evOpY P nk σ o.op (evOpd tm) orc with
     | some g,some r=>some ⟨(g = true) :: r.obl,o.dst,r.val,r.rds,r.upd⟩
     | _,_=>none
    | _=>match guardB (getTm tm d) want with
     | some g=>some ⟨[g = false],o.dst,.when g (resO orc),[],[]⟩
     | none=>none
def putTm (tm:List (Nat × AV)) (d:Option Nat) (x:AV):List (Nat × AV) :=
 match d with
 | none=>tm
 | some d=>(d,x) :: tm
def getOrc:List (Nat × Orc)→Nat→Option Orc
 | [],_=>none
 | (k,o) :: r,n=>match Nat.beq k n with
  | true=>some o
  | false=>getOrc r n
def evTrace (P:Program) (nt:Nat) (ops:List Oper) (nk:Nat) (orcs:List (Nat × Orc)):List Oper→Nat→List (Nat × AV)→Sto→Option (List Rec)
 | [],_,_,_=>some []
 | o :: r,i,tm,σ=>match evOne P nt ops (nk+16 * i) tm σ o (getOrc orcs i) with
  | none=>none
  | some x=>(evTrace P nt ops nk orcs r (i+1) (putTm tm x.dst x.val) (supd σ x.upd)).map fun l=>x :: l
def tmAll:List Rec→List (Nat × AV)→List (Nat × AV)
 | [],tm=>tm
 | x :: r,tm=>tmAll r (putTm tm x.dst x.val)
def stoAll:List Rec→Sto→Sto
 | [],σ=>σ
 | x :: r,σ=>stoAll r (supd σ x.upd)
def oblAll:List Rec→List Prop
 | []=>[]
 | x :: r=>x.obl ++ oblAll r
def Rep (E:Env) (st:St) (tm:Array Value) (w:World):Prop :=
 ∃ S μ,Good E st.sto S μ w∧(∀ k,st.nk≤k→μ k = none)∧E.m0≤st.nk∧∀ t,RepX w S μ (tm.getD t undef) (getTm st.tm t)
theorem getTm_put {tm:List (Nat × AV)} {d:Option Nat} {x:AV} (t:Nat):getTm (putTm tm d x) t = if d = some t then x else getTm tm t:=by
 cases d with
 | none=>simp [putTm]
 | some d =>
  simp only [putTm,getTm,Option.some.injEq]
  by_cases h:d = t
  ·rw [beq_t h,if_pos h]
  ·rw [beq_f h,if_neg h]
theorem put_get (a:Act) (d:Option Nat) (v:Value) (t:Nat) (h:∀ n,d = some n→n < a.tmps.size):(a.put d v).tmps.getD t undef = if d = some t then v else a.tmps.getD t undef:=by
 cases d with
 | none=>simp [Act.put]
 | some d =>
  simp only [Act.put,Option.some.injEq]
  have hd:=h d rfl
  by_cases ht:d = t
  ·subst ht; simp [Array.getD_eq_getD_getElem?,hd]
  ·simp [Array.getD_eq_getD_getElem?,ht]
theorem put_size (a:Act) (d:Option Nat) (v:Value):(a.put d v).tmps.size = a.tmps.size:=by cases d <;> simp [Act.put]
theorem put_defers' (a:Act) (d:Option Nat) (v:Value):(a.put d v).defers = a.defers:=by cases d <;> simp [Act.put]
theorem opd_rep {w:World} {S:Nat→Prop} {μ:Mu} {a:Act} {tm:List (Nat × AV)} (h:∀ t,RepX w S μ (a.tmps.getD t undef) (getTm tm t)) (x:Operand):RepX w S μ (a.eval x) (evOpd tm x):=by
 cases x with
 | tmp t=>exact h t
 | const v=>exact rep_const w S μ v
 | global g=>exact .atom _
 | func f=>exact .fn (by simp) (by simp) (fun j c v hc=>by simp at hc) (fun j c v hc=>by simp at hc)
def boolOf:Value→Option Bool
 | .bool b=>some b
 | _=>none
theorem guardB_spec {w:World} {S:Nat→Prop} {μ:Mu} {v:Value} {x:AV} (h:RepX w S μ v x):∀ {want g:Bool},guardB x want = some g→(boolOf v == some want) = g:=by
 induction h with
 | atom v =>
  intro want g hg
  cases v with
  | bool b =>
   simp only [guardB,Option.some.injEq] at hg
   subst hg
   cases b <;> cases want <;> rfl
  | _=>simp [guardB] at hg
 | @when μ b v x h1 hu ih =>
  intro want g hg
  simp only [guardB,Option.map_eq_some_iff] at hg
  obtain ⟨g',hg',rfl⟩:=hg
  cases b with
  | true=>simpa using ih rfl hg'
  | false =>
   rw [hu rfl]
   simp [undef,boolOf]
 | _=>intro want g hg; simp [guardB] at hg
section
variable {P:Program} {E:Env} {σ:Sto} {S:Nat→Prop} {μ:Mu} {w:World}
def FW (rd:Option Nat):Fence:={ Fence.wide with round:=rd }
theorem upon_in {rd:Option Nat} {o:Oper} {a:Act} {next:Act→World→Prop} {Q:Exit→Act→World→Prop} {r:Result Next} (h:o.upon P a next Q r):o.uponIn (FW rd) 0 P a next Q r:=by
 cases r with
 | ok x w' =>
  cases x with
  | value v=>exact h
  | skip=>exact h
  | defer d=>exact h
  | enter f args=>exact ⟨fun hh=>by simp [FW,Fence.wide] at hh,(callsIn_wide (n:=0)).2 h⟩
  | row row args=>exact ⟨fun hh=>by simp [FW,Fence.wide] at hh,fun c cs _=>let ⟨v,w',q1,q2⟩:=h c cs; ⟨v,w',q1,stepsIn_wide.2 q2⟩⟩
  | _=>exact h.elim
 | halt x w' =>
  cases x with
  | panic v=>exact h
  | _=>exact h.elim
def YOK (P:Program) (E:Env) (y:YC):Prop:=∀ (w:World) (S:Nat→Prop) (μ:Mu) (σ:Sto) (vs:Array Value),Good E σ S μ w→RL w S μ vs y.as→sget σ y.k = some y.o →
 YieldAt Fence.wide 0 P y.l vs w fun e w'=>e = .returned (.bool true)∧∃ S',Ext w S μ w' S' μ∧Good E (sset σ y.k y.o') S' μ w'
def OrcOk (P:Program) (E:Env) (orc:Option Orc):Prop:=(∀ x,orc = some x→x.frz = true→∀ b,¬ E.fp b)∧∀ x y,orc = some x→x.y = some y→YOK P E y
theorem yield_sound {rd:Option Nat} {o:Oper} {a:Act} {e:Operand→AV} {y:YC} {r:R} {next:Act→World→Prop} {Q:Exit→Act→World→Prop}
  (he:∀ x ∈ o.op.operands.toList,RepX w S μ (a.eval x) (e x)) (g:Good E σ S μ w) {nk:Nat} (hy:YOK P E y) (h:evYield σ o.op e y = some r) (hp:AllP r.obl)
  (hK:Goes E nk σ S μ w r fun v w'=>next (a.put o.dst v) w'):o.wpIn (FW rd) 0 P a w next Q:=by
 obtain ⟨dst,op,ty,pos,after,guard⟩:=o
 unfold evYield at h
 simp only at h he
 split at h
 case h_2=>cases h
 rename_i f args tys
 split at h
 case h_2=>cases h
 rename_i l vs ws o1 hfe ho1
 simp only [Option.some.injEq] at h
 subst h
 obtain ⟨⟨rfl,rfl,rfl,has,rfl⟩,hc⟩:=hp
 have hcond:=conds_get hc
 have mem:∀ x,x ∈ f :: args.toList→x ∈ (Op.call ⟨.value f,args,tys⟩).operands.toList:=by
  intro x hx
  simp only [Op.operands,Call.operands] at *
  simpa using hx
 have hs:∀ x,x ∈ f :: args.toList→RepX w S μ (a.eval x) ((e x).strip.1):=fun x hx=>(he x (mem x hx)).strip (hcond x hx)
 have hf:=hs f (by simp)
 rw [hfe] at hf
 have hf:=rep_int hf
 have hrl:RL w S μ (args.map a.eval) y.as:=by
  rw [← has]
  refine ⟨by simp,fun j c v hc hv=>?_⟩
  simp only [List.getElem?_map,Option.map_eq_some_iff,Array.getElem?_map] at hc hv
  obtain ⟨x,hx,rfl⟩:=hc
  obtain ⟨x',hx',rfl⟩:=hv
  rw [← Array.getElem?_toList,hx] at hx'
  cases hx'
  exact hs x (List.mem_cons_of_mem _ (List.mem_of_getElem? hx))
 obtain ⟨fn,tmps,assign,body,hrun,hround⟩:=hy w S μ σ _ g hrl ho1
 refine ⟨fun _ _=>trivial,?_⟩
 have ex:(Oper.semAt (FW rd).round a.eval ⟨dst,.call ⟨.value f,args,tys⟩,ty,pos,after,guard⟩).run P w = .ok (.round y.l fn tmps assign body) w:=by
  rw [Oper.semAt_eq _ _ _ (fun c=>by simp)]
  have:execOp a.eval ⟨dst,.call ⟨.value f,args,tys⟩,ty,pos,after,guard⟩ = (do let d ← Deferred.ofValue (a.eval f) (args.map a.eval); invoke d.target d.args:Sem Next):=rfl
  rw [this,hf]
  simpa [Deferred.ofValue,invoke] using hrun
 rw [ex]
 refine ⟨fun hh=>by simp [FW,Fence.wide] at hh,RoundIn.mono (F:=Fence.wide) hround ?_⟩
 rintro e' w' ⟨rfl,S',hx,hg⟩
 exact hK _ w' S' μ hx (by simpa [supd] using hg) (fun _ _ h=>h) (.atom _)
theorem op_soundY {rd:Option Nat} {o:Oper} {a:Act} {e:Operand→AV} {orc:Option Orc} {r:R} {nk:Nat} {next:Act→World→Prop} {Q:Exit→Act→World→Prop}
  (he:∀ x ∈ o.op.operands.toList,RepX w S μ (a.eval x) (e x)) (g:Good E σ S μ w) (hk16:∀ j,j < 16→μ (nk+j) = none) (hm:E.m0≤nk)
  (hz:OrcOk P E orc) (h:evOpY P nk σ o.op e orc = some r) (hp:AllP r.obl) (hK:Goes E nk σ S μ w r fun v w'=>next (a.put o.dst v) w'):o.wpIn (FW rd) 0 P a w next Q:=by
 unfold evOpY at h
 split at h
 ·rename_i y hy
  have:∃ x,orc = some x∧x.y = some y:=by
   cases orc with
   | none=>cases hy
   | some x=>exact ⟨x,rfl,hy⟩
  obtain ⟨x,h1,h2⟩:=this
  exact yield_sound (nk:=nk) he g (hz.2 x y h1 h2) h hp hK
 ·refine ⟨fun _ _=>trivial,?_⟩
  have hd:∀ c,o.op ≠ .defer c:=fun c hc=>by rw [hc] at h; simp [evOp] at h
  rw [Oper.semAt_eq _ _ _ hd]
  exact upon_in (op_sound he g hk16 hm hz.1 h hp hK)
theorem one_sound {rd:Option Nat} {nt nk:Nat} {ops:Array Oper} {i:Nat} {o:Oper} {a:Act} {tm:List (Nat × AV)} {orc:Option Orc} {x:Rec} {K:Act→World→Prop} {Q:Exit→Act→World→Prop}
  (hi:ops[i]? = some o) (ht:∀ t,RepX w S μ (a.tmps.getD t undef) (getTm tm t)) (g:Good E σ S μ w) (hk:∀ j,j < 16→μ (nk+j) = none) (hm:E.m0≤nk)
  (hz:OrcOk P E orc) (h:evOne P nt ops.toList nk tm σ o orc = some x) (hp:AllP x.obl)
  (hK:∀ v w' S' μ',Ext w S μ w' S' μ'→Good E (supd σ x.upd) S' μ' w'→(∀ k,(k < nk ∨ nk+16≤k)→μ k = none→μ' k = none)→RepX w' S' μ' v x.val→K (a.put x.dst v) w') :
  wpOpIn (FW rd) 0 P ops Q i K a w:=by
 unfold evOne at h
 split at h
 ·cases h
 ·split at h
  ·rename_i hgd
   simp only [Option.map_eq_some_iff] at h
   obtain ⟨r,h1,rfl⟩:=h
   unfold wpOpIn
   rw [hi]
   simp only [Region.wanted,hgd,if_true]
   exact op_soundY (fun x _=>opd_rep ht x) g hk hm hz h1 hp hK
  ·rename_i j want hgd
   split at h
   ·cases h
   ·rename_i d hd
    have hwan:∀ gb,guardB (getTm tm d) want = some gb→Region.wanted o (yielded ops a.tmps) = gb:=fun gb hg=>by
     have hy:yielded ops a.tmps j = boolOf (a.tmps.getD d undef):=by
      unfold yielded
      unfold dstOf at hd
      have hd':(ops[j]?).bind (·.dst) = some d:=by simpa using hd
      rw [hd']
      simp only [Option.bind_some,Array.getD_eq_getD_getElem?]
      cases a.tmps[d]? with
      | none=>simp [undef,boolOf]
      | some v=>cases v <;> simp [boolOf]
     simp only [Region.wanted,hgd]
     rw [hy]
     exact guardB_spec (ht d) hg
    split at h
    rotate_left
    ·split at h
     ·rename_i gb r hg h1
      cases h
      unfold wpOpIn
      rw [hi]
      have hw:=hwan gb hg
      obtain ⟨hg1,hp1⟩:=hp
      subst hg1
      simp only [hw,if_true]
      exact op_soundY (fun x _=>opd_rep ht x) g hk hm hz h1 hp1 hK
     ·cases h
    ·split at h
     ·rename_i gb hg
      cases h
      unfold wpOpIn
      rw [hi]
      have hw:=hwan gb hg
      obtain ⟨hg1,-⟩:=hp
      subst hg1
      simp only [hw,Bool.false_eq_true,if_false]
      refine ⟨fun _ _=>trivial,?_⟩
      exact hK undef w S μ (Ext.refl _ _ _) g (fun _ _ h=>h) (.when (fun h=>by cases h) (fun _=>rfl))
     ·cases h
    split at h
    ·rename_i gb r hg h1
     split at h
     ·rename_i hu
      cases h
      unfold wpOpIn
      rw [hi]
      have hw:Region.wanted o (yielded ops a.tmps) = gb:=hwan gb hg
      simp only [hw]
      cases gb with
      | true =>
       simp only [if_true]
       have hp':AllP r.obl:=by
        cases hr:r.obl with
        | nil=>trivial
        | cons p ps =>
         rw [hr] at hp
         exact hp.1 rfl
       refine op_soundY (fun x _=>opd_rep ht x) g hk hm hz h1 hp' ?_
       intro v w' S' μ' q1 q2 q3 q4
       rw [hu] at q2
       exact hK v w' S' μ' q1 q2 q3 (.when (fun _=>q4) (fun h=>by cases h))
      | false =>
       simp only [Bool.false_eq_true,if_false]
       refine ⟨fun _ _=>trivial,?_⟩
       exact hK undef w S μ (Ext.refl _ _ _) g (fun _ _ h=>h) (.when (fun h=>by cases h) (fun _=>rfl))
     ·cases h
    ·cases h
theorem evOne_dst {nt nk:Nat} {ops:List Oper} {tm:List (Nat × AV)} {o:Oper} {orc:Option Orc} {x:Rec} (h:evOne P nt ops nk tm σ o orc = some x):x.dst = o.dst∧∀ n,o.dst = some n→n < nt:=by
 unfold evOne at h
 split at h
 ·cases h
 ·rename_i hd
  have h2:∀ n,o.dst = some n→n < nt:=fun n hn=>by
   rw [hn] at hd; simp only [dstOk,Nat.blt,Nat.ble_eq] at hd; exact hd
  split at h
  ·simp only [Option.map_eq_some_iff] at h
   obtain ⟨r,_,rfl⟩:=h
   exact ⟨rfl,h2⟩
  ·split at h
   ·cases h
   ·split at h
    ·split at h
     ·split at h
      ·cases h; exact ⟨rfl,h2⟩
      ·cases h
     ·cases h
    ·split at h
     ·cases h; exact ⟨rfl,h2⟩
     ·cases h
    ·split at h
     ·cases h; exact ⟨rfl,h2⟩
     ·cases h
theorem seq_sound {rd:Option Nat} {ds:List Deferred} {nt nk:Nat} {ops:Array Oper} {orcs:List (Nat × Orc)} (hz:∀ i,OrcOk P E (getOrc orcs i)) (hm:E.m0≤nk) {Q:Exit→Act→World→Prop}:∀ (l:List Oper) (i:Nat) (a:Act) (w:World) (tm:List (Nat × AV)) (σ:Sto) (S:Nat→Prop) (μ:Mu) (recs:List Rec),
  ops.toList.drop i = l→i+l.length = ops.size→a.tmps.size = nt→a.defers = ds→Good E σ S μ w→(∀ k,nk+16 * i≤k→μ k = none)→(∀ t,RepX w S μ (a.tmps.getD t undef) (getTm tm t)) →
  evTrace P nt ops.toList nk orcs l i tm σ = some recs→AllP (oblAll recs) →
  (∀ a' w' S' μ',a'.tmps.size = nt→a'.defers = ds→Good E (stoAll recs σ) S' μ' w'→(∀ k,nk+16 * ops.size≤k→μ' k = none)→(∀ t,RepX w' S' μ' (a'.tmps.getD t undef) (getTm (tmAll recs tm) t))→Q .normal a' w') →
  wpOpsIn (FW rd) 0 P ops Q (List.range' i l.length) a w
 | [],i,a,w,tm,σ,S,μ,recs,hl,hil,hs,hdf,g,hk,ht,h,hp,hQ=>by
  simp only [evTrace,Option.some.injEq] at h
  subst h
  simp only [List.length_nil,List.range'_zero,wpOpsIn]
  refine hQ a w S μ hs hdf g (fun k hk'=>hk k (by simp at hil; omega)) ht
 | o :: r,i,a,w,tm,σ,S,μ,recs,hl,hil,hs,hdf,g,hk,ht,h,hp,hQ=>by
  simp only [evTrace] at h
  split at h
  ·cases h
  ·rename_i x hx
   simp only [Option.map_eq_some_iff] at h
   obtain ⟨l',h2,rfl⟩:=h
   obtain ⟨p1,p2⟩:=AllP.app hp
   have hi:ops[i]? = some o:=by
    have:(ops.toList.drop i)[0]? = some o:=by rw [hl]; rfl
    rw [List.getElem?_drop] at this
    simpa using this
   have hl2:ops.toList.drop (i+1) = r:=by
    rw [← List.tail_drop,hl]; rfl
   obtain ⟨d1,d2⟩:=evOne_dst hx
   simp only [List.length_cons,List.range'_succ]
   rw [wpOpsIn_cons]
   refine one_sound hi ht g (fun j hj=>hk _ (by omega)) (by omega) (hz i) hx p1 ?_
   intro v w' S' μ' q1 q2 q3 q4
   refine seq_sound hz hm r (i+1) _ w' _ _ S' μ' l' hl2 (by simp at hil; omega) (by rw [put_size]; exact hs) (by rw [put_defers']; exact hdf) q2 (fun k hk'=>q3 k (by omega) (hk k (by omega))) ?_ h2 p2 hQ
   intro t
   rw [put_get a x.dst v t (fun n hn=>by rw [hs]; exact d2 n (d1 ▸ hn)),getTm_put]
   split
   ·exact q4
   ·exact (ht t).ext q1
end
end Go.Ab
namespace Go.Ab
def keysOf (u:Upd):List Nat:=u.map (·.1)
section
variable {P:Program} {nk:Nat} {σ σ':Sto}
theorem conds_congr {e e':Operand→AV}:∀ {xs:List Operand},(∀ x ∈ xs,e' x = e x)→conds e' xs = conds e xs
 | [],_=>rfl
 | x :: r,h=>by simp only [conds]; rw [h x (by simp),conds_congr fun y hy=>h y (by simp [hy])]
theorem evOp_e {op:Op} {e e':Operand→AV} {orc:Option Orc} (he:∀ x ∈ op.operands.toList,e' x = e x):evOp P nk σ op e' orc = evOp P nk σ op e orc:=by
 cases op with
 | move x=>simp only [evOp]; rw [he x (by simp [Op.operands])]
 | assign x=>simp only [evOp]; rw [he x (by simp [Op.operands])]
 | pick q a b=>simp only [evOp]; rw [he q (by simp [Op.operands]),he a (by simp [Op.operands]),he b (by simp [Op.operands])]
 | alloc T=>rfl
 | box T x=>simp only [evOp,conds]; rw [he x (by simp [Op.operands])]
 | build t parts =>
  simp only [evOp]
  have h1:∀ x ∈ parts.toList.map (·.2),e' x = e x:=fun x hx=>he x (by simpa [Op.operands] using hx)
  rw [conds_congr h1]
  congr 2
  apply List.map_congr_left
  intro p hp
  rw [h1 p.2 (List.mem_map.2 ⟨p,hp,rfl⟩)]
 | buildSlice t len parts =>
  simp only [evOp]
  have h1:∀ x ∈ parts.toList.map (·.2),e' x = e x:=fun x hx=>he x (by simpa [Op.operands] using hx)
  rw [conds_congr h1]
  have h2:(parts.toList.map fun p=>(p.1,(e' p.2).strip.1)) = (parts.toList.map fun p=>(p.1,(e p.2).strip.1)):=by
   apply List.map_congr_left
   intro p hp
   rw [h1 p.2 (List.mem_map.2 ⟨p,hp,rfl⟩)]
  rw [h2]
 | load T x=>simp only [evOp,conds]; rw [he x (by simp [Op.operands])]
 | store T x y=>simp only [evOp,conds]; rw [he x (by simp [Op.operands]),he y (by simp [Op.operands])]
 | nilCheck x=>simp only [evOp,conds]; rw [he x (by simp [Op.operands])]
 | binOp o t x y yt=>simp only [evOp,conds]; rw [he x (by simp [Op.operands]),he y (by simp [Op.operands])]
 | unOp o t x=>simp only [evOp,conds]; rw [he x (by simp [Op.operands])]
 | convert s d x=>simp only [evOp,conds]; rw [he x (by simp [Op.operands])]
 | makeMap t r=>cases r <;> simp [evOp]
 | lookup t m x ok=>simp only [evOp,conds]; rw [he m (by simp [Op.operands]),he x (by simp [Op.operands])]
 | mapUpdate t m x y=>simp only [evOp,conds]; rw [he m (by simp [Op.operands]),he x (by simp [Op.operands]),he y (by simp [Op.operands])]
 | insert t m x y=>simp only [evOp,conds]; rw [he m (by simp [Op.operands]),he x (by simp [Op.operands]),he y (by simp [Op.operands])]
 | makeFunc f first cap =>
  simp only [evOp]
  have h1:∀ x ∈ first.toList ++ cap.toList,e' x = e x:=fun x hx=>he x (by simpa [Op.operands] using hx)
  rw [conds_congr h1]
  congr 3
  ·apply List.map_congr_left; intro x hx; rw [h1 x (by simp only [List.mem_append]; exact .inl hx)]
  ·apply List.map_congr_left; intro x hx; rw [h1 x (by simp only [List.mem_append]; exact .inr hx)]
 | makeSlice t x y=>simp only [evOp,conds]; rw [he x (by simp [Op.operands]),he y (by simp [Op.operands])]
 | slice t x lo hi mx =>
  cases mx with
  | some _=>simp [evOp]
  | none =>
   simp only [evOp]
   have h1:∀ y ∈ x :: (lo.toList ++ hi.toList),e' y = e y:=fun y hy=>he y (by
    simp only [List.mem_cons,List.mem_append,Option.mem_toList] at hy
    simp only [Op.operands]
    rcases hy with rfl | hy | hy
    ·simp
    ·simp [hy]
    ·simp [hy])
   rw [conds_congr h1,h1 x (by simp)]
   have h2:(lo.map fun x=>(e' x).strip.1) = lo.map fun x=>(e x).strip.1:=by
    cases lo with
    | none=>rfl
    | some y=>simp [h1 y (by simp)]
   have h3:(hi.map fun x=>(e' x).strip.1) = hi.map fun x=>(e x).strip.1:=by
    cases hi with
    | none=>rfl
    | some y=>simp [h1 y (by simp)]
   rw [h2,h3]
 | fieldAddr T x f=>simp only [evOp,conds]; rw [he x (by simp [Op.operands])]
 | field T x f=>simp only [evOp,conds]; rw [he x (by simp [Op.operands])]
 | indexAddr T x i=>simp only [evOp,conds]; rw [he x (by simp [Op.operands]),he i (by simp [Op.operands])]
 | index T x i=>simp only [evOp,conds]; rw [he x (by simp [Op.operands]),he i (by simp [Op.operands])]
 | extract x i=>simp only [evOp,conds]; rw [he x (by simp [Op.operands])]
 | call c =>
  obtain ⟨callee,args,argTypes⟩:=c
  cases callee with
  | invoke=>simp [evOp]
  | value f =>
   simp only [evOp]
   have h1:∀ x ∈ f :: args.toList,e' x = e x:=fun x hx=>he x (by simpa [Op.operands,Call.operands] using hx)
   rw [conds_congr h1,h1 f (by simp)]
   have h2:(args.toList.map fun x=>(e' x).strip.1) = args.toList.map fun x=>(e x).strip.1:=by
    apply List.map_congr_left; intro x hx; rw [h1 x (by simp [hx])]
   rw [h2]
  | builtin b =>
   simp only [evOp]
   have h1:∀ x ∈ args.toList,e' x = e x:=fun x hx=>he x (by simpa [Op.operands,Call.operands] using hx)
   unfold evBuiltin
   split
   ·rename_i x t ha ht
    rw [ha] at h1
    simp only [conds]; rw [h1 x (by simp)]
   ·rename_i x y t t' ha ht
    rw [ha] at h1
    simp only [conds]; rw [h1 x (by simp),h1 y (by simp)]
   ·rename_i x r ha
    rw [ha] at h1
    dsimp only
    rw [conds_congr h1,h1 x (by simp)]
    have h2:(r.map fun x=>(e' x).strip.1) = r.map fun x=>(e x).strip.1:=by
     apply List.map_congr_left; intro y hy; rw [h1 y (by simp [hy])]
    rw [h2]
   ·rename_i x r ha
    rw [ha] at h1
    dsimp only
    rw [conds_congr h1,h1 x (by simp)]
    have h2:(r.map fun x=>(e' x).strip.1) = r.map fun x=>(e x).strip.1:=by
     apply List.map_congr_left; intro y hy; rw [h1 y (by simp [hy])]
    rw [h2]
   ·rfl
 | _=>simp [evOp]
theorem load_loc {T:TypeId} {a:AV} {ps:List Prop} {x:AV} {rd:List Nat} (h:evLoad P σ T a = some (ps,x,rd)) (hs:∀ k ∈ rd,sget σ' k = sget σ k):evLoad P σ' T a = some (ps,x,rd):=by
 unfold evLoad at h ⊢
 split at h
 ·split at h
  ·rename_i k i j
   split at h
   ·rename_i o ho
    simp only [Option.map_eq_some_iff,Prod.mk.injEq] at h
    obtain ⟨y,hy,rfl,rfl,rfl⟩:=h
    simp [hs k (by simp),ho,hy]
   ·cases h
  ·exact h
  ·rename_i k i j m q
   have h':=h
   split at h
   ·rename_i o kd ho
    split at h
    ·split at h
     ·rename_i hbq
      simp only [Option.some.injEq,Prod.mk.injEq] at h
      simp only [hs k (by rw [← h.2.2]; simp)]
      simp only [hbq] at h'
      exact h'
     ·cases h
    ·cases h
   ·rename_i o ho
    split at h
    ·split at h
     ·rename_i hbq
      simp only [Option.some.injEq,Prod.mk.injEq] at h
      simp only [hs k (by rw [← h.2.2]; simp)]
      simp only [hbq] at h'
      exact h'
     ·cases h
    ·cases h
   ·cases h
  ·cases h
 ·cases h
theorem store_loc0 {T:TypeId} {a x:AV} {ps:List Prop} {u:Upd} {rd:List Nat} (h:evStore0 P σ T a x = some (ps,u,rd)) (hs:∀ k ∈ rd,sget σ' k = sget σ k):evStore0 P σ' T a x = some (ps,u,rd):=by
 unfold evStore0 at h ⊢
 split at h
 ·rename_i k i j ns n h1 h2
  split at h
  ·rename_i o ho
   split at h
   ·rename_i hb
    have h':=h
    simp only [Option.some.injEq,Prod.mk.injEq] at h
    obtain ⟨rfl,rfl,rfl⟩:=h
    simp only [hs k (by simp),ho,hb]
   ·cases h
  ·cases h
 ·cases h
theorem store_loc {T:TypeId} {a x:AV} {ps:List Prop} {u:Upd} {rd:List Nat} (h:evStore P σ T a x = some (ps,u,rd)) (hs:∀ k ∈ rd,sget σ' k = sget σ k):evStore P σ' T a x = some (ps,u,rd):=by
 unfold evStore at h ⊢
 split at h
 ·rename_i k i j m q
  have h':=h
  split at h
  ·split at h
   ·split at h
    ·simp only [Option.some.injEq,Prod.mk.injEq] at h
     simp only [hs k (by rw [← h.2.2]; simp)]
     exact h'
    ·cases h
   ·cases h
  ·split at h
   ·split at h
    ·simp only [Option.some.injEq,Prod.mk.injEq] at h
     simp only [hs k (by rw [← h.2.2]; simp)]
     exact h'
    ·cases h
   ·cases h
  ·cases h
 ·exact store_loc0 h hs
theorem indexAddr_loc {T:TypeId} {x i:AV} {ps:List Prop} {v:AV} {rd:List Nat} (h:evIndexAddr P σ T x i = some (ps,v,rd)) (hs:∀ k ∈ rd,sget σ' k = sget σ k):evIndexAddr P σ' T x i = some (ps,v,rd):=by
 unfold evIndexAddr at h ⊢
 split at h
 ·split at h
  ·rename_i sz hsz
   split at h
   ·rename_i k off len
    split at h
    ·rename_i o ho
     split at h
     ·rename_i hb
      simp only [Option.some.injEq,Prod.mk.injEq] at h
      obtain ⟨rfl,rfl,rfl⟩:=h
      simp only [hs k (by simp),ho,hb]
     ·cases h
    ·cases h
   ·rename_i len get
    exact h
   ·cases h
  ·cases h
 ·split at h
  ·rename_i sz hsz
   exact h
  ·cases h
 ·cases h
theorem slice_loc {T:TypeId} {x:AV} {lo hi:Option AV} {ps:List Prop} {v:AV} {rd:List Nat} (h:evSlice P σ T x lo hi = some (ps,v,rd)) (hs:∀ k ∈ rd,sget σ' k = sget σ k):evSlice P σ' T x lo hi = some (ps,v,rd):=by
 unfold evSlice at h ⊢
 split at h
 ·exact h
 ·split at h
  ·rename_i sz hsz
   split at h
   ·rename_i k off len
    split at h
    ·rename_i l hh o h1 h2 h3
     split at h
     ·rename_i hb
      simp only [Option.some.injEq,Prod.mk.injEq] at h
      obtain ⟨rfl,rfl,rfl⟩:=h
      simp only [hs k (by simp),h1,h2,h3,hb]
     ·cases h
    ·cases h
   ·exact h
   ·cases h
  ·cases h
 ·cases h
theorem src_loc {sz:Nat} {x:AV} {n:Nat} {g:Nat→List AV} {pr:Bool} {ps:List Prop} {rd:List Nat} (h:srcOf σ sz x = some (n,g,pr,ps,rd)) (hs:∀ k ∈ rd,sget σ' k = sget σ k):srcOf σ' sz x = some (n,g,pr,ps,rd):=by
 unfold srcOf at h ⊢
 split at h
 ·exact h
 ·exact h
 ·rename_i k off n'
  split at h
  ·rename_i o ho
   split at h
   ·rename_i hb
    have hrd:rd = [k]:=by simp only [Option.some.injEq,Prod.mk.injEq] at h; exact h.2.2.2.2.symm
    simp only [hs k (by simp [hrd]),ho,hb]
    exact h
   ·cases h
  ·cases h
 ·cases h
theorem convM_loc {src dst:TypeId} {x:AV} {ps:List Prop} {v:AV} {rd:List Nat} (h:evConvM P σ src dst x = some (ps,v,rd)) (hs:∀ k ∈ rd,sget σ' k = sget σ k):evConvM P σ' src dst x = some (ps,v,rd):=by
 unfold evConvM at h ⊢
 split at h
 ·exact h
 ·split at h
  ·rename_i n gt pr qs rd' he hsrc
   simp only [Option.some.injEq,Prod.mk.injEq] at h
   obtain ⟨rfl,rfl,rfl⟩:=h
   rw [src_loc hsrc hs,he]
  ·cases h
 ·cases h
theorem append_loc {t:TypeId} {s x:AV} {ps:List Prop} {v:AV} {rd:List Nat} {u:Upd} (h:evAppend P nk σ t s x = some (ps,v,rd,u)) (hs:∀ k ∈ rd,sget σ' k = sget σ k):evAppend P nk σ' t s x = some (ps,v,rd,u):=by
 unfold evAppend at h ⊢
 split at h
 ·split at h
  ·rename_i sz b z h1 h2 h3
   split at h
   ·rename_i n g pr ps' rd' hb hsrc
    split at h
    ·have hrd:rd = rd':=by simp only [Option.some.injEq,Prod.mk.injEq] at h; exact h.2.2.1.symm
     rw [src_loc hsrc (fun k hk=>hs k (hrd ▸ hk))]
     simp only [hb]
     exact h
    ·rename_i k len
     split at h
     ·rename_i o ho
      split at h
      ·rename_i hos
       have hrd:rd = k :: rd':=by simp only [Option.some.injEq,Prod.mk.injEq] at h; exact h.2.2.1.symm
       rw [src_loc hsrc (fun k hk=>hs k (by rw [hrd]; simp [hk]))]
       simp only [hb,hs k (by simp [hrd]),ho,hos]
       exact h
      ·cases h
     ·cases h
    ·cases h
   ·cases h
  ·cases h
 ·cases h
mutual
theorem lend_loc {ks:List Nat}:∀ (x y:AV) (bs:List Nat) (ps:List Prop),x.lend σ ks = some (y,bs,ps)→(∀ k ∈ bs,sget σ' k = sget σ k)→x.lend σ' ks = some (y,bs,ps)
 | .op k i j,y,bs,ps,h,_=>by simpa [AV.lend] using h
 | .mp k,y,bs,ps,h,_=>by simpa [AV.lend] using h
 | .ov _ _ _ _ _,y,bs,ps,h,_=>by simp [AV.lend] at h
 | .bn _,y,bs,ps,h,_=>by simpa [AV.lend] using h
 | .pt _ _,y,bs,ps,h,_=>by simpa [AV.lend] using h
 | .os k off len,y,bs,ps,h,hs=>by
  simp only [AV.lend] at h ⊢
  split at h
  ·rename_i n hn; exact h
  ·rename_i hn
   split at h
   ·rename_i o ho
    split at h
    ·rename_i hp
     have hb:bs = [k]:=by simp only [Option.some.injEq,Prod.mk.injEq] at h; exact h.2.1.symm
     simp only [hs k (by simp [hb]),ho,hp]
     exact h
    ·cases h
   ·cases h
 | .agg cs,y,bs,ps,h,hs=>by
  simp only [AV.lend,Option.map_eq_some_iff] at h ⊢
  obtain ⟨⟨a,b,c⟩,h,e⟩:=h
  simp only [Prod.mk.injEq] at e
  obtain ⟨rfl,rfl,rfl⟩:=e
  exact ⟨(a,b,c),lendL_loc cs a b c h hs,rfl⟩
 | .tup cs,y,bs,ps,h,hs=>by
  simp only [AV.lend,Option.map_eq_some_iff] at h ⊢
  obtain ⟨⟨a,b,c⟩,h,e⟩:=h
  simp only [Prod.mk.injEq] at e
  obtain ⟨rfl,rfl,rfl⟩:=e
  exact ⟨(a,b,c),lendL_loc cs a b c h hs,rfl⟩
 | .fn g x z,y,bs,ps,h,hs=>by
  simp only [AV.lend] at h ⊢
  split at h
  ·rename_i a b c a' b' c' e1 e2
   simp only [Option.some.injEq,Prod.mk.injEq] at h
   obtain ⟨rfl,rfl,rfl⟩:=h
   rw [lendL_loc x a b c e1 (fun k hk=>hs k (by simp [hk])),lendL_loc z a' b' c' e2 (fun k hk=>hs k (by simp [hk]))]
  ·cases h
 | .when _ _,y,bs,ps,h,_=>by simp [AV.lend] at h
 | .atom _,y,bs,ps,h,_=>by simpa [AV.lend] using h
 | .sl _ _,y,bs,ps,h,_=>by simpa [AV.lend] using h
 | .rp _ _,y,bs,ps,h,_=>by simpa [AV.lend] using h
 | .nil,y,bs,ps,h,_=>by simpa [AV.lend] using h
 | .unk,y,bs,ps,h,_=>by simpa [AV.lend] using h
theorem lendL_loc {ks:List Nat}:∀ (xs ys:List AV) (bs:List Nat) (ps:List Prop),AV.lendL σ ks xs = some (ys,bs,ps)→(∀ k ∈ bs,sget σ' k = sget σ k)→AV.lendL σ' ks xs = some (ys,bs,ps)
 | [],ys,bs,ps,h,_=>by simpa [AV.lendL] using h
 | c :: cs,ys,bs,ps,h,hs=>by
  simp only [AV.lendL] at h ⊢
  split at h
  ·rename_i a b p a' b' p' e1 e2
   simp only [Option.some.injEq,Prod.mk.injEq] at h
   obtain ⟨rfl,rfl,rfl⟩:=h
   rw [lend_loc c a b p e1 (fun k hk=>hs k (by simp [hk])),lendL_loc cs a' b' p' e2 (fun k hk=>hs k (by simp [hk]))]
  ·cases h
end
theorem canon_loc {ks:List Nat}:∀ (l:List Nat) (i:Nat),(∀ k ∈ l,sget σ' k = sget σ k)→canon σ' ks i l = canon σ ks i l
 | [],i,_=>rfl
 | k :: r,i,h=>by simp only [canon]; rw [h k (by simp),canon_loc r (i+1) fun k hk=>h k (by simp [hk])]
theorem sameOk_loc {ks:List Nat} {lone:Bool}:∀ (l:List Nat),(∀ k ∈ l,sget σ' k = sget σ k)→sameOk σ' ks lone l = sameOk σ ks lone l
 | [],_=>rfl
 | k :: r,h=>by simp only [sameOk]; rw [h k (by simp),sameOk_loc r fun k hk=>h k (by simp [hk])]
theorem call_loc {f:AV} {args:List AV} {orc:Orc} {r:R} (h:evCall P nk σ f args orc = some r) (hs:∀ k ∈ r.rds,sget σ' k = sget σ k):evCall P nk σ' f args orc = some r:=by
 unfold evCall evCallG at h ⊢
 split at h
 case h_2=>cases h
 rename_i gid first cap
 split at h
 case h_2=>cases h
 rename_i as bs ps σc h1 h2 h3
 split at h
 case h_2=>cases h
 rename_i h4
 have hr:r.rds = orc.ks ++ bs:=by
  split at h
  ·split at h
   ·cases h; rfl
   ·cases h
  ·split at h
   ·cases h; rfl
   ·cases h
 rw [hr] at hs
 simp only [h1,lendL_loc _ _ _ _ h2 (fun k hk=>hs k (by simp [hk])),canon_loc orc.ks 0 (fun k hk=>hs k (by simp [hk])),sameOk_loc (ks:=orc.ks) (lone:=bs.isEmpty || orc.frz) orc.ks (fun k hk=>hs k (by simp [hk])),h3,h4]
 exact h
theorem lookup_loc {t:TypeId} {m x:AV} {ok:Bool} {orc:Orc} {ps:List Prop} {v:AV} {rd:List Nat} (h:evLookup P σ t m x ok orc = some (ps,v,rd)) (hs:∀ k ∈ rd,sget σ' k = sget σ k):evLookup P σ' t m x ok orc = some (ps,v,rd):=by
 unfold evLookup at h ⊢
 split at h
 ·rename_i k kt et ht
  split at h
  ·rename_i d o z hd ho hz
   split at h
   ·rename_i hb
    have hk:sget σ' k = some o:=by
     rw [← ho]
     refine hs k ?_
     split at h
     ·simp only [Option.some.injEq,Prod.mk.injEq] at h; obtain ⟨_,_,rfl⟩:=h; simp
     ·simp only [Option.some.injEq,Prod.mk.injEq] at h; obtain ⟨_,_,rfl⟩:=h; simp
    simp only [ht,hd,hk,hz,hb]
    exact h
   ·cases h
  ·cases h
 ·cases h
theorem mapUpd_loc {t:TypeId} {m x y:AV} {orc:Orc} {ps:List Prop} {u:Upd} {rd:List Nat} (h:evMapUpd P σ t m x y orc = some (ps,u,rd)) (hs:∀ k ∈ rd,sget σ' k = sget σ k):evMapUpd P σ' t m x y orc = some (ps,u,rd):=by
 unfold evMapUpd at h ⊢
 split at h
 ·rename_i k kt et cs ht hres
  split at h
  ·rename_i d o hd ho
   split at h
   ·rename_i hb
    have hk:sget σ' k = some o:=by
     rw [← ho]
     refine hs k ?_
     simp only [Option.some.injEq,Prod.mk.injEq] at h; obtain ⟨_,_,rfl⟩:=h; simp
    simp only [ht,hres,hd,hk,hb]
    exact h
   ·cases h
  ·cases h
 ·cases h
theorem evOp_loc {op:Op} {e:Operand→AV} {orc:Option Orc} {r:R} (h:evOp P nk σ op e orc = some r) (hs:∀ k ∈ r.rds,sget σ' k = sget σ k):evOp P nk σ' op e orc = some r:=by
 cases op with
 | load T x =>
  simp only [evOp,Option.map_eq_some_iff] at h ⊢
  obtain ⟨⟨ps,v,rd⟩,h1,rfl⟩:=h
  exact ⟨_,load_loc h1 hs,rfl⟩
 | store T x y =>
  simp only [evOp,Option.map_eq_some_iff] at h ⊢
  obtain ⟨⟨ps,v,rd⟩,h1,rfl⟩:=h
  exact ⟨_,store_loc h1 hs,rfl⟩
 | indexAddr T x i =>
  simp only [evOp,Option.map_eq_some_iff] at h ⊢
  obtain ⟨⟨ps,v,rd⟩,h1,rfl⟩:=h
  exact ⟨_,indexAddr_loc h1 hs,rfl⟩
 | slice t x lo hi mx =>
  cases mx with
  | some _=>simp [evOp] at h
  | none =>
   simp only [evOp,Option.map_eq_some_iff] at h ⊢
   obtain ⟨⟨ps,v,rd⟩,h1,rfl⟩:=h
   exact ⟨_,slice_loc h1 hs,rfl⟩
 | convert src dst x =>
  simp only [evOp] at h ⊢
  split at h
  ·rename_i v h1
   exact h
  ·rename_i h0
   simp only [Option.map_eq_some_iff] at h ⊢
   obtain ⟨⟨ps,v,rd⟩,h1,rfl⟩:=h
   exact ⟨_,convM_loc h1 hs,rfl⟩
 | makeMap t r=>cases r with
  | none=>exact h
  | some _=>simp [evOp] at h
 | lookup t m x ok =>
  simp only [evOp] at h ⊢
  split at h
  ·simp only [Option.map_eq_some_iff] at h ⊢
   obtain ⟨⟨ps,v,rd⟩,h1,rfl⟩:=h
   exact ⟨_,lookup_loc h1 hs,rfl⟩
  ·cases h
 | mapUpdate t m x y =>
  simp only [evOp] at h ⊢
  split at h
  ·simp only [Option.map_eq_some_iff] at h ⊢
   obtain ⟨⟨ps,u,rd⟩,h1,rfl⟩:=h
   exact ⟨_,mapUpd_loc h1 hs,rfl⟩
  ·cases h
 | insert t m x y =>
  simp only [evOp] at h ⊢
  split at h
  ·simp only [Option.map_eq_some_iff] at h ⊢
   obtain ⟨⟨ps,u,rd⟩,h1,rfl⟩:=h
   exact ⟨_,mapUpd_loc h1 hs,rfl⟩
  ·cases h
 | call c =>
  obtain ⟨callee,args,argTypes⟩:=c
  cases callee with
  | invoke=>simp [evOp] at h
  | value f =>
   simp only [evOp] at h ⊢
   split at h
   ·simp only [Option.map_eq_some_iff] at h ⊢
    obtain ⟨r',h1,rfl⟩:=h
    exact ⟨_,call_loc h1 hs,rfl⟩
   ·cases h
  | builtin b =>
   simp only [evOp] at h ⊢
   unfold evBuiltin at h ⊢
   split at h
   ·exact h
   ·split at h
    ·simp only [Option.map_eq_some_iff] at h ⊢
     obtain ⟨⟨ps,v,rd,u⟩,h1,rfl⟩:=h
     exact ⟨_,append_loc h1 hs,rfl⟩
    ·cases h
   ·exact h
   ·exact h
   ·cases h
 | _=>exact h
end
end Go.Ab
namespace Go.Ab
def hasK (l:List Nat) (k:Nat):Bool:=l.any fun x=>Nat.beq x k
theorem hasK_iff {l:List Nat} {k:Nat}:hasK l k = true ↔ k ∈ l:=by
 simp only [hasK,List.any_eq_true]
 constructor
 ·rintro ⟨x,hx,hb⟩; exact Nat.eq_of_beq_eq_true hb ▸ hx
 ·intro h; exact ⟨k,h,beq_t rfl⟩
theorem blt_t {a b:Nat} (h:a < b):Nat.blt a b = true:=by
 simp only [Nat.blt,Nat.ble_eq]; exact h
theorem blt_f {a b:Nat} (h:¬ a < b):Nat.blt a b = false:=by
 cases hb:Nat.blt a b with
 | false=>rfl
 | true=>simp only [Nat.blt,Nat.ble_eq] at hb; exact (h hb).elim
theorem blt_lt {a b:Nat} (h:Nat.blt a b = true):a < b:=by
 simp only [Nat.blt,Nat.ble_eq] at h; exact h
def tmpsOf:List Operand→List Nat
 | []=>[]
 | .tmp t :: r=>t :: tmpsOf r
 | _ :: r=>tmpsOf r
def looks (ops:List Oper) (o:Oper):List Nat :=
 tmpsOf o.op.operands.toList ++ (match o.guard with
  | some (j,_)=>(dstOf ops j).toList
  | none=>[])
theorem mem_tmpsOf:∀ {l:List Operand} {t:Nat},Operand.tmp t ∈ l→t ∈ tmpsOf l
 | [],_,h=>by simp at h
 | x :: r,t,h=>by
  rcases List.mem_cons.1 h with rfl | h'
  ·simp [tmpsOf]
  ·have:=mem_tmpsOf h'
   cases x <;> simp [tmpsOf,this]
def edgesOf (o:Oper):List Nat:=(o.after.toList.filter (Region.binds .any ·)).map (·.on)
def isAnc (ops:List Oper):Nat→Nat→Nat→Bool
 | 0,_,_=>false
 | n+1,i,j=>match ops[j]? with
  | none=>false
  | some o=>(edgesOf o).any fun e=>Nat.beq e i || isAnc ops n i e
def sameDst:Option Nat→Option Nat→Bool
 | some a,some b=>Nat.beq a b
 | _,_=>false
def meets (l m:List Nat):Bool:=l.any fun k=>hasK m k
def clash (ops:List Oper) (o p:Oper) (x y:Rec):Bool :=
 meets x.dst.toList (looks ops p) || meets y.dst.toList (looks ops o) || meets (keysOf x.upd) (y.rds ++ keysOf y.upd) || meets x.rds (keysOf y.upd)
def pairOk (ops:List Oper) (recs:List Rec) (i j:Nat):Bool :=
 match ops[i]?,ops[j]?,recs[i]?,recs[j]? with
 | some o,some p,some x,some y=>!sameDst x.dst y.dst && (!clash ops o p x y || isAnc ops ops.length i j)
 | _,_,_,_=>false
def edgesOk (ops:List Oper) (j:Nat):Bool :=
 match ops[j]? with
 | some o=>(edgesOf o).all fun e=>Nat.blt e j
 | none=>false
def drawOk (ops:List Oper) (recs:List Rec):Bool :=
 (List.range ops.length).all fun j=>edgesOk ops j && (List.range j).all fun i=>pairOk ops recs i j
def tmL (L:Nat→Bool):List Rec→Nat→List (Nat × AV)→List (Nat × AV)
 | [],_,tm=>tm
 | x :: r,i,tm=>tmL L r (i+1) (match L i with
  | true=>putTm tm x.dst x.val
  | false=>tm)
def stoL (L:Nat→Bool):List Rec→Nat→Sto→Sto
 | [],_,σ=>σ
 | x :: r,i,σ=>stoL L r (i+1) (match L i with
  | true=>supd σ x.upd
  | false=>σ)
theorem supd_get:∀ (u:Upd) (σ:Sto) (k:Nat),sget (supd σ u) k = if k ∈ keysOf u then sget (supd [] u) k else sget σ k
 | [],σ,k=>by simp [keysOf,supd]
 | (n,some o) :: r,σ,k=>by
  simp only [supd]
  rw [supd_get r (sset σ n o) k,supd_get r (sset [] n o) k,sget_sset,sget_sset]
  by_cases h1:k ∈ keysOf r
  ·simp [keysOf] at h1 ⊢; simp [h1]
  ·by_cases h2:n = k
   ·subst h2; simp [keysOf]
   ·have:¬ k ∈ keysOf ((n,some o) :: r):=by simp [keysOf] at h1 ⊢; exact ⟨fun h=>h2 h.symm,h1⟩
    rw [if_neg h1,if_neg h2,if_neg this]
 | (n,none) :: r,σ,k=>by
  simp only [supd]
  rw [supd_get r (sdel σ n) k,supd_get r (sdel [] n) k,sget_sdel,sget_sdel]
  by_cases h1:k ∈ keysOf r
  ·simp [keysOf] at h1 ⊢; simp [h1]
  ·by_cases h2:n = k
   ·subst h2; simp [keysOf]
   ·have:¬ k ∈ keysOf ((n,none) :: r):=by simp [keysOf] at h1 ⊢; exact ⟨fun h=>h2 h.symm,h1⟩
    rw [if_neg h1,if_neg h2,if_neg this]
theorem tm_agree {L L':Nat→Bool} {t:Nat}:∀ (recs:List Rec) (i:Nat) (tm tm':List (Nat × AV)),getTm tm t = getTm tm' t →
  (∀ (m:Nat) (x:Rec),recs[m]? = some x→L (i+m) ≠ L' (i+m)→x.dst ≠ some t)→getTm (tmL L recs i tm) t = getTm (tmL L' recs i tm') t
 | [],_,_,_,h,_=>h
 | x :: r,i,tm,tm',h,hd=>by
  simp only [tmL]
  refine tm_agree r (i+1) _ _ ?_ (fun m y hy hne=>hd (m+1) y (by simpa using hy) (by rw [show i+(m+1) = i+1+m by omega]; exact hne))
  by_cases he:L i = L' i
  ·rw [he]
   split
   ·rw [getTm_put,getTm_put]
    split
    ·rfl
    ·exact h
   ·exact h
  ·have:=hd 0 x (by simp) (by simpa using he)
   have e1:getTm (putTm tm x.dst x.val) t = getTm tm t:=by rw [getTm_put,if_neg this]
   have e2:getTm (putTm tm' x.dst x.val) t = getTm tm' t:=by rw [getTm_put,if_neg this]
   split <;> split <;> simp [e1,e2,h]
theorem sto_agree {L L':Nat→Bool} {k:Nat}:∀ (recs:List Rec) (i:Nat) (σ σ':Sto),sget σ k = sget σ' k →
  (∀ (m:Nat) (x:Rec),recs[m]? = some x→L (i+m) ≠ L' (i+m)→k ∉ keysOf x.upd)→sget (stoL L recs i σ) k = sget (stoL L' recs i σ') k
 | [],_,_,_,h,_=>h
 | x :: r,i,σ,σ',h,hd=>by
  simp only [stoL]
  refine sto_agree r (i+1) _ _ ?_ (fun m y hy hne=>hd (m+1) y (by simpa using hy) (by rw [show i+(m+1) = i+1+m by omega]; exact hne))
  by_cases he:L i = L' i
  ·rw [he]
   split
   ·rw [supd_get,supd_get x.upd σ']
    split
    ·rfl
    ·exact h
   ·exact h
  ·have:=hd 0 x (by simp) (by simpa using he)
   have e1:sget (supd σ x.upd) k = sget σ k:=by rw [supd_get,if_neg this]
   have e2:sget (supd σ' x.upd) k = sget σ' k:=by rw [supd_get,if_neg this]
   split <;> split <;> simp [e1,e2,h]
theorem tm_more {L:Nat→Bool} {i0:Nat} {x:Rec} {t:Nat}:∀ (recs:List Rec) (i:Nat) (tm:List (Nat × AV)),i≤i0→recs[i0 - i]? = some x →
  (∀ (m:Nat) (y:Rec),recs[m]? = some y→i0 < i+m→x.dst = some t→y.dst ≠ some t) →
  getTm (tmL (fun q=>L q || Nat.beq q i0) recs i tm) t = if x.dst = some t then x.val else getTm (tmL L recs i tm) t
 | [],i,tm,_,h,_=>by simp at h
 | y :: r,i,tm,hi,h,hd=>by
  simp only [tmL]
  by_cases he:i = i0
  ·subst he
   simp at h; subst h
   rw [beq_t rfl,Bool.or_true]
   have hlater:∀ tm1 tm2:List (Nat × AV),getTm tm1 t = getTm tm2 t→getTm (tmL (fun q=>L q || Nat.beq q i) r (i+1) tm1) t = getTm (tmL L r (i+1) tm2) t:=by
    intro tm1 tm2 h12
    refine tm_agree r (i+1) _ _ h12 ?_
    intro m z hz hne
    exfalso
    apply hne
    rw [beq_f (by omega),Bool.or_false]
   by_cases hx:y.dst = some t
   ·rw [if_pos hx]
    have hno:∀ (l:List Rec) (n:Nat) (tm:List (Nat × AV)) (M:Nat→Bool),(∀ (m:Nat) (z:Rec),l[m]? = some z→z.dst ≠ some t)→getTm (tmL M l n tm) t = getTm tm t:=by
     intro l
     induction l with
     | nil=>intro n tm M _; rfl
     | cons z l ih =>
      intro n tm M hz
      simp only [tmL]
      rw [ih _ _ _ (fun m u hu=>hz (m+1) u (by simpa using hu))]
      split
      ·rw [getTm_put,if_neg (hz 0 z (by simp))]
      ·rfl
    rw [hno r _ _ _ (fun m z hz=>hd (m+1) z (by simpa using hz) (by omega) hx),getTm_put,if_pos hx]
   ·rw [if_neg hx]
    refine hlater _ _ ?_
    rw [getTm_put,if_neg hx]
    split
    ·rw [getTm_put,if_neg hx]
    ·rfl
  ·rw [beq_f he,Bool.or_false]
   refine tm_more r (i+1) _ (by omega) ?_ (fun m z hz hlt=>hd (m+1) z (by simpa using hz) (by omega))
   rw [show i0 - i = (i0 - (i+1))+1 by omega] at h
   simpa using h
theorem sto_more {L:Nat→Bool} {i0:Nat} {x:Rec} {k:Nat}:∀ (recs:List Rec) (i:Nat) (σ:Sto),i≤i0→recs[i0 - i]? = some x →
  (∀ (m:Nat) (y:Rec),recs[m]? = some y→i0 < i+m→L (i+m) = true→k ∈ keysOf x.upd→k ∉ keysOf y.upd) →
  sget (stoL (fun q=>L q || Nat.beq q i0) recs i σ) k = if k ∈ keysOf x.upd then sget (supd [] x.upd) k else sget (stoL L recs i σ) k
 | [],i,σ,_,h,_=>by simp at h
 | y :: r,i,σ,hi,h,hd=>by
  simp only [stoL]
  by_cases he:i = i0
  ·subst he
   simp at h; subst h
   rw [beq_t rfl,Bool.or_true]
   by_cases hx:k ∈ keysOf y.upd
   ·rw [if_pos hx]
    have hno:∀ (l:List Rec) (n:Nat) (σ:Sto) (M:Nat→Bool),(∀ (m:Nat) (z:Rec),l[m]? = some z→M (n+m) = true→k ∉ keysOf z.upd)→sget (stoL M l n σ) k = sget σ k:=by
     intro l
     induction l with
     | nil=>intro n tm M _; rfl
     | cons z l ih =>
      intro n σ M hz
      simp only [stoL]
      rw [ih _ _ _ (fun m u hu hM=>hz (m+1) u (by simpa using hu) (by rw [show n+(m+1) = n+1+m by omega]; exact hM))]
      split
      ·rename_i hM
       rw [supd_get,if_neg (hz 0 z (by simp) (by simpa using hM))]
      ·rfl
    rw [hno r _ _ _ ?_,supd_get,if_pos hx]
    intro m z hz hM
    rw [beq_f (by omega),Bool.or_false] at hM
    exact hd (m+1) z (by simpa using hz) (by omega) (by rw [show i+(m+1) = i+1+m by omega]; exact hM) hx
   ·rw [if_neg hx]
    refine sto_agree r (i+1) _ _ ?_ ?_
    ·rw [supd_get,if_neg hx]
     split
     ·rw [supd_get,if_neg hx]
     ·rfl
    ·intro m z hz hne
     exfalso
     apply hne
     rw [beq_f (by omega),Bool.or_false]
  ·rw [beq_f he,Bool.or_false]
   refine sto_more r (i+1) _ (by omega) ?_ (fun m z hz hlt hL=>hd (m+1) z (by simpa using hz) (by omega) (by rw [show i+(m+1) = i+1+m by omega]; exact hL))
   rw [show i0 - i = (i0 - (i+1))+1 by omega] at h
   simpa using h
theorem tmL_all:∀ (recs:List Rec) (i:Nat) (tm:List (Nat × AV)) (L:Nat→Bool),(∀ m,m < recs.length→L (i+m) = true)→tmL L recs i tm = tmAll recs tm
 | [],_,_,_,_=>rfl
 | x :: r,i,tm,L,h=>by
  simp only [tmL,tmAll]
  have:=h 0 (by simp)
  rw [Nat.add_zero] at this
  rw [this,tmL_all r (i+1) _ L (fun m hm=>by rw [show i+1+m = i+(m+1) by omega]; exact h (m+1) (by simpa using hm))]
theorem stoL_all:∀ (recs:List Rec) (i:Nat) (σ:Sto) (L:Nat→Bool),(∀ m,m < recs.length→L (i+m) = true)→stoL L recs i σ = stoAll recs σ
 | [],_,_,_,_=>rfl
 | x :: r,i,σ,L,h=>by
  simp only [stoL,stoAll]
  have:=h 0 (by simp)
  rw [Nat.add_zero] at this
  rw [this,stoL_all r (i+1) _ L (fun m hm=>by rw [show i+1+m = i+(m+1) by omega]; exact h (m+1) (by simpa using hm))]
theorem tmL_none:∀ (recs:List Rec) (i:Nat) (tm:List (Nat × AV)) (L:Nat→Bool),(∀ m,m < recs.length→L (i+m) = false)→tmL L recs i tm = tm
 | [],_,_,_,_=>rfl
 | x :: r,i,tm,L,h=>by
  simp only [tmL]
  have:=h 0 (by simp)
  rw [Nat.add_zero] at this
  rw [this,tmL_none r (i+1) _ L (fun m hm=>by rw [show i+1+m = i+(m+1) by omega]; exact h (m+1) (by simpa using hm))]
theorem stoL_none:∀ (recs:List Rec) (i:Nat) (σ:Sto) (L:Nat→Bool),(∀ m,m < recs.length→L (i+m) = false)→stoL L recs i σ = σ
 | [],_,_,_,_=>rfl
 | x :: r,i,σ,L,h=>by
  simp only [stoL]
  have:=h 0 (by simp)
  rw [Nat.add_zero] at this
  rw [this,stoL_none r (i+1) _ L (fun m hm=>by rw [show i+1+m = i+(m+1) by omega]; exact h (m+1) (by simpa using hm))]
section
variable {P:Program}
theorem trace_get {nt nk:Nat} {ops:List Oper} {orcs:List (Nat × Orc)}:∀ (l:List Oper) (i:Nat) (tm:List (Nat × AV)) (σ:Sto) (recs:List Rec),evTrace P nt ops nk orcs l i tm σ = some recs →
  recs.length = l.length∧∀ (m:Nat) (x:Rec),recs[m]? = some x→∃ o,l[m]? = some o ∧
   evOne P nt ops (nk+16 * (i+m)) (tmL (fun q=>Nat.blt q (i+m)) recs i tm) (stoL (fun q=>Nat.blt q (i+m)) recs i σ) o (getOrc orcs (i+m)) = some x
 | [],i,tm,σ,recs,h=>by
  simp only [evTrace,Option.some.injEq] at h
  subst h
  exact ⟨rfl,fun m x hx=>by simp at hx⟩
 | o :: r,i,tm,σ,recs,h=>by
  simp only [evTrace] at h
  split at h
  ·cases h
  ·rename_i x0 hx0
   simp only [Option.map_eq_some_iff] at h
   obtain ⟨l',h2,rfl⟩:=h
   obtain ⟨h3,h4⟩:=trace_get r (i+1) _ _ l' h2
   refine ⟨by simp [h3],?_⟩
   intro m x hx
   cases m with
   | zero =>
    simp at hx; subst hx
    refine ⟨o,by simp,?_⟩
    simp only [Nat.add_zero,tmL,stoL]
    have hii:Nat.blt i i = false:=blt_f (by omega)
    rw [hii]
    rw [tmL_none,stoL_none]
    ·exact hx0
    ·intro m _; exact blt_f (by omega)
    ·intro m _; exact blt_f (by omega)
   | succ m =>
    obtain ⟨o',ho',he⟩:=h4 m x (by simpa using hx)
    refine ⟨o',by simpa using ho',?_⟩
    have hii:Nat.blt i (i+(m+1)) = true:=blt_t (by omega)
    simp only [tmL,stoL]
    rw [hii]
    rw [show i+(m+1) = i+1+m by omega]
    exact he
theorem evOpY_e {nk:Nat} {op:Op} {e e':Operand→AV} {orc:Option Orc} {σ:Sto} (he:∀ x ∈ op.operands.toList,e' x = e x):evOpY P nk σ op e' orc = evOpY P nk σ op e orc:=by
 unfold evOpY
 split
 ·unfold evYield
  split
  ·rename_i f args tys
   have mem:∀ x,x ∈ f :: args.toList→e' x = e x:=by
    intro x hx
    refine he x ?_
    simp only [Op.operands,Call.operands] at *
    simpa using hx
   rw [mem f (by simp),conds_congr mem,List.map_congr_left (fun x hx=>by rw [mem x (List.mem_cons_of_mem _ hx)]:∀ x ∈ args.toList,(e' x).strip.1 = (e x).strip.1)]
  ·rfl
 ·exact evOp_e he
theorem evOpY_loc {nk:Nat} {op:Op} {e:Operand→AV} {orc:Option Orc} {σ σ':Sto} {r:R} (h:evOpY P nk σ op e orc = some r) (hs:∀ k ∈ r.rds,sget σ' k = sget σ k):evOpY P nk σ' op e orc = some r:=by
 unfold evOpY at h ⊢
 split at h
 ·unfold evYield at h ⊢
  split at h
  ·split at h
   ·rename_i h1 h2
    cases h
    rw [hs _ (by simp),h1,h2]
   ·cases h
  ·cases h
 ·exact evOp_loc h hs
theorem evOne_loc {nt nk:Nat} {ops:List Oper} {tm tm':List (Nat × AV)} {σ σ':Sto} {o:Oper} {orc:Option Orc} {x:Rec} (h:evOne P nt ops nk tm σ o orc = some x)
  (ht:∀ t ∈ looks ops o,getTm tm' t = getTm tm t) (hs:∀ k ∈ x.rds,sget σ' k = sget σ k):evOne P nt ops nk tm' σ' o orc = some x:=by
 have he:∀ y ∈ o.op.operands.toList,evOpd tm' y = evOpd tm y:=by
  intro y hy
  cases y with
  | tmp t=>exact ht t (by simp only [looks,List.mem_append]; exact .inl (mem_tmpsOf hy))
  | _=>rfl
 unfold evOne at h ⊢
 split at h
 ·cases h
 ·split at h
  ·simp only [Option.map_eq_some_iff] at h ⊢
   obtain ⟨r,h1,rfl⟩:=h
   exact ⟨r,by rw [evOpY_e he]; exact evOpY_loc h1 hs,rfl⟩
  ·rename_i j want hgd
   split at h
   ·cases h
   ·rename_i d hd
    have htd:getTm tm' d = getTm tm d:=ht d (by simp [looks,hgd,hd])
    rw [htd]
    split at h
    ·split at h
     ·rename_i g r hg h1
      split at h
      ·rename_i hu
       cases h
       rw [evOpY_e he,evOpY_loc h1 hs,hg]
       simp [hu]
      ·cases h
     ·cases h
    ·split at h
     ·rename_i g r hg h1
      cases h
      rw [evOpY_e he,evOpY_loc h1 hs,hg]
     ·cases h
    ·split at h
     ·rename_i g hg
      exact h
     ·cases h
theorem anc_listed {ops:List Oper} {L:Nat→Bool} (hd:∀ j,L j = true→∀ o,ops[j]? = some o→∀ e ∈ edgesOf o,L e = true):∀ (n i j:Nat),isAnc ops n i j = true →
  (∀ o,ops[j]? = some o→∀ e ∈ edgesOf o,L e = true)→L i = true
 | 0,i,j,h,_=>by simp [isAnc] at h
 | n+1,i,j,h,hj=>by
  simp only [isAnc] at h
  split at h
  ·cases h
  ·rename_i o ho
   simp only [List.any_eq_true,Bool.or_eq_true] at h
   obtain ⟨e,he,h | h⟩:=h
   ·rw [← Nat.eq_of_beq_eq_true h]; exact hj o ho e he
   ·exact anc_listed hd n i e h fun o' ho' e' he'=>hd e (hj o ho e he) o' ho' e' he'
def Meet (ops:List Oper) (o p:Oper) (x y:Rec):Prop :=
 (∃ d,x.dst = some d∧d ∈ looks ops p) ∨ (∃ d,y.dst = some d∧d ∈ looks ops o) ∨ (∃ k,k ∈ keysOf x.upd∧(k ∈ y.rds ∨ k ∈ keysOf y.upd)) ∨ ∃ k,k ∈ x.rds∧k ∈ keysOf y.upd
theorem meets_iff {l m:List Nat} {k:Nat} (h1:k ∈ l) (h2:k ∈ m):meets l m = true:=List.any_eq_true.2 ⟨k,h1,hasK_iff.2 h2⟩
theorem Meet.clash {ops:List Oper} {o p:Oper} {x y:Rec} (h:Meet ops o p x y):clash ops o p x y = true:=by
 unfold Ab.clash
 simp only [Bool.or_eq_true]
 rcases h with ⟨d,h1,h2⟩ | ⟨d,h1,h2⟩ | ⟨k,h1,h2⟩ | ⟨k,h1,h2⟩
 ·exact .inl (.inl (.inl (meets_iff (k:=d) (by simp [h1]) h2)))
 ·exact .inl (.inl (.inr (meets_iff (k:=d) (by simp [h1]) h2)))
 ·exact .inl (.inr (meets_iff h1 (by simpa using h2)))
 ·exact .inr (meets_iff h1 h2)
theorem Meet.symm {ops:List Oper} {o p:Oper} {x y:Rec} (h:Meet ops o p x y):Meet ops p o y x:=by
 rcases h with h | h | ⟨k,h1,h2 | h2⟩ | ⟨k,h1,h2⟩
 ·exact .inr (.inl h)
 ·exact .inl h
 ·exact .inr (.inr (.inr ⟨k,h2,h1⟩))
 ·exact .inr (.inr (.inl ⟨k,h2,.inr h1⟩))
 ·exact .inr (.inr (.inl ⟨k,h2,.inl h1⟩))
theorem count_set:∀ (l:List Bool) (i:Nat),l[i]? = some false→((l.set i true).filter (· == true)).length = (l.filter (· == true)).length+1
 | [],i,h=>by simp at h
 | b :: l,0,h=>by simp at h; subst h; simp
 | b :: l,i+1,h=>by
  have:=count_set l i (by simpa using h)
  cases b <;> simp_all
theorem draw_sound {E:Env} {rd:Option Nat} {ds:List Deferred} {nt nk:Nat} {ops:Array Oper} {orcs:List (Nat × Orc)} {tm0:List (Nat × AV)} {σ0:Sto} {recs:List Rec} {Q:Exit→Act→World→Prop} (hz:∀ i,OrcOk P E (getOrc orcs i)) (hm:E.m0≤nk)
  (htr:evTrace P nt ops.toList nk orcs ops.toList 0 tm0 σ0 = some recs) (hp:AllP (oblAll recs)) (hok:drawOk ops.toList recs = true)
  (hQ:∀ a' w' S' μ',a'.tmps.size = nt→a'.defers = ds→Good E (stoAll recs σ0) S' μ' w'→(∀ k,nk+16 * ops.size≤k→μ' k = none)→(∀ t,RepX w' S' μ' (a'.tmps.getD t undef) (getTm (tmAll recs tm0) t))→Q .normal a' w') :
  ∀ (fuel:Nat) (listed:Array Bool) (a:Act) (w:World) (S:Nat→Prop) (μ:Mu),listed.size = ops.size→a.tmps.size = nt→a.defers = ds →
   (∀ j,listed.getD j false = true→∀ o,ops.toList[j]? = some o→∀ e ∈ edgesOf o,listed.getD e false = true)→ops.size≤fuel+(listed.toList.filter (· == true)).length →
   Good E (stoL (fun j=>listed.getD j false) recs 0 σ0) S μ w→(∀ k,nk≤k→(∀ j,nk+16 * j≤k→k < nk+16 * j+16→listed.getD j false = false)→μ k = none) →
   (∀ t,RepX w S μ (a.tmps.getD t undef) (getTm (tmL (fun j=>listed.getD j false) recs 0 tm0) t)) →
   wpAnyIn (FW rd) 0 P .any ops Q fuel listed a w:=by
 obtain ⟨hlen,hget⟩:=trace_get ops.toList 0 tm0 σ0 recs htr
 simp only [Nat.zero_add] at hget
 have hall:∀ j,j < ops.size→edgesOk ops.toList j = true∧∀ i,i < j→pairOk ops.toList recs i j = true:=by
  intro j hj
  have:=List.all_eq_true.1 hok j (List.mem_range.2 (by simpa using hj))
  simp only [Bool.and_eq_true] at this
  exact ⟨this.1,fun i hi=>List.all_eq_true.1 this.2 i (List.mem_range.2 hi)⟩
 have hedge:∀ j o,ops.toList[j]? = some o→∀ e ∈ edgesOf o,e < j:=by
  intro j o ho e he
  have hj:j < ops.size:=by simpa using (List.getElem?_eq_some_iff.1 ho).1
  have h1:=(hall j hj).1
  unfold edgesOk at h1
  rw [ho] at h1
  exact blt_lt (List.all_eq_true.1 h1 e he)
 have hpair:∀ i j o p x y,i < j→ops.toList[i]? = some o→ops.toList[j]? = some p→recs[i]? = some x→recs[j]? = some y →
   sameDst x.dst y.dst = false∧(clash ops.toList o p x y = true→isAnc ops.toList ops.toList.length i j = true):=by
  intro i j o p x y hij ho hp' hx hy
  have hj:j < ops.size:=by simpa using (List.getElem?_eq_some_iff.1 hp').1
  have h1:=(hall j hj).2 i hij
  unfold pairOk at h1
  rw [ho,hp',hx,hy] at h1
  simp only [Bool.and_eq_true,Bool.not_eq_true',Bool.or_eq_true] at h1
  refine ⟨h1.1,fun hc=>?_⟩
  rcases h1.2 with h2 | h2
  ·rw [hc] at h2; cases h2
  ·exact h2
 -- what is ready
 have hready:∀ (listed:Array Bool),listed.size = ops.size→∀ i,i ∈ Region.ready .any ops listed ↔ (i < ops.size∧listed.getD i false = false∧∀ o,ops.toList[i]? = some o→∀ e ∈ edgesOf o,listed.getD e false = true):=by
  intro listed hls i
  unfold Region.ready
  simp only [List.mem_filter,List.mem_range,Bool.and_eq_true,Bool.not_eq_true']
  constructor
  ·rintro ⟨h1,h2,h3⟩
   have hl:i < listed.size:=by omega
   refine ⟨h1,?_,?_⟩
   ·simp only [Array.getD_eq_getD_getElem?,Array.getElem?_eq_getElem hl,Option.getD_some] at h2 ⊢; exact h2
   ·intro o ho e he
    have ho':ops[i]? = some o:=by simpa using ho
    simp only [ho',Option.map_some,Option.getD_some,Array.all_eq_true'] at h3
    simp only [edgesOf,List.mem_map,List.mem_filter] at he
    obtain ⟨ed,⟨hed,hbd⟩,rfl⟩:=he
    have:=h3 ed (by simpa using hed)
    rw [hbd] at this
    simpa only [Bool.not_true,Bool.false_or] using this
  ·rintro ⟨h1,h2,h3⟩
   have hl:i < listed.size:=by omega
   refine ⟨h1,?_,?_⟩
   ·simp only [Array.getD_eq_getD_getElem?,Array.getElem?_eq_getElem hl,Option.getD_some] at h2 ⊢; exact h2
   ·have ho:ops[i]? = some ops[i]:=Array.getElem?_eq_getElem h1
    simp only [ho,Option.map_some,Option.getD_some,Array.all_eq_true']
    intro ed hed
    simp only [Bool.or_eq_true,Bool.not_eq_true']
    cases hb:Region.binds .any ed with
    | false=>exact .inl rfl
    | true =>
     right
     exact h3 ops[i] (by simp) ed.on (by simp only [edgesOf,List.mem_map,List.mem_filter]; exact ⟨ed,⟨by simpa using hed,hb⟩,rfl⟩)
 intro fuel
 -- the end
 have fin:∀ (listed:Array Bool) (a:Act) (w:World) (S:Nat→Prop) (μ:Mu),listed.size = ops.size→a.tmps.size = nt→a.defers = ds→(∀ j,j < ops.size→listed.getD j false = true) →
   Good E (stoL (fun j=>listed.getD j false) recs 0 σ0) S μ w→(∀ k,nk≤k→(∀ j,nk+16 * j≤k→k < nk+16 * j+16→listed.getD j false = false)→μ k = none) →
   (∀ t,RepX w S μ (a.tmps.getD t undef) (getTm (tmL (fun j=>listed.getD j false) recs 0 tm0) t))→Q .normal a w:=by
  intro listed a w S μ hls hs hdf hal g hk ht
  have hL:∀ m,m < recs.length→(fun j=>listed.getD j false) (0+m) = true:=fun m hm'=>by
   rw [Nat.zero_add]; exact hal m (by rw [hlen] at hm'; simpa using hm')
  rw [stoL_all recs 0 σ0 _ hL] at g
  refine hQ a w S μ hs hdf g (fun k hk'=>hk k (by omega) fun j hj hj2=>?_) (fun t=>by rw [← tmL_all recs 0 tm0 (fun j=>listed.getD j false) hL]; exact ht t)
  have:listed.size≤j:=by omega
  simp [Array.getD_eq_getD_getElem?,Array.getElem?_eq_none this]
 have allOf:∀ (listed:Array Bool),listed.size = ops.size→(∀ j,listed.getD j false = true→∀ o,ops.toList[j]? = some o→∀ e ∈ edgesOf o,listed.getD e false = true)→Region.ready .any ops listed = []→∀ j,j < ops.size→listed.getD j false = true:=by
  intro listed hls hdc hr j
  induction j using Nat.strongRecOn with
  | _ j ih =>
   intro hj
   cases hb:listed.getD j false with
   | true=>rfl
   | false =>
    have:j ∈ Region.ready .any ops listed:=(hready listed hls j).2 ⟨hj,hb,fun o ho e he=>ih e (hedge j o ho e he) (by have:=hedge j o ho e he; omega)⟩
    rw [hr] at this; simp at this
 induction fuel with
 | zero =>
  intro listed a w S μ hls hs hdf hdc hfuel g hk ht
  simp only [wpAnyIn]
  have hal:∀ j,j < ops.size→listed.getD j false = true:=by
   have hle:(listed.toList.filter (· == true)).length = listed.toList.length:=by
    have h1:=List.length_filter_le (· == true) listed.toList
    simp at h1 hfuel ⊢; omega
   have h2:=List.length_filter_eq_length_iff.1 hle
   intro j hj
   have hl:j < listed.size:=by omega
   have:=h2 listed[j] (by simp)
   simp only [Array.getD_eq_getD_getElem?,Array.getElem?_eq_getElem hl,Option.getD_some]
   simpa using this
  refine ⟨?_,fin listed a w S μ hls hs hdf hal g hk ht⟩
  cases hr:Region.ready .any ops listed with
  | nil=>rfl
  | cons i r =>
   have:=(hready listed hls i).1 (by rw [hr]; simp)
   rw [hal i this.1] at this
   simp at this
 | succ fuel ih =>
  intro listed a w S μ hls hs hdf hdc hfuel g hk ht
  simp only [wpAnyIn]
  refine ⟨fun hr=>fin listed a w S μ hls hs hdf (allOf listed hls hdc hr) g hk ht,?_⟩
  intro i hi
  obtain ⟨hin,hil,hie⟩:=(hready listed hls i).1 hi
  have hirec:i < recs.length:=by rw [hlen]; simpa using hin
  have hx:recs[i]? = some recs[i]:=List.getElem?_eq_getElem hirec
  obtain ⟨o,ho,hev⟩:=hget i _ hx
  generalize recs[i] = x at hx hev
  have hpx:AllP x.obl:=by
   have:∀ (l:List Rec) (i:Nat),AllP (oblAll l)→l[i]? = some x→AllP x.obl:=by
    intro l
    induction l with
    | nil=>intro i _ h; simp at h
    | cons y l ih =>
     intro i h hi
     obtain ⟨h1,h2⟩:=AllP.app h
     cases i with
     | zero=>simp at hi; exact hi ▸ h1
     | succ i=>exact ih i h2 (by simpa using hi)
   exact this recs i hp hx
  -- an operation that meets this one is carried out just if it stands before it
  have order:∀ (j:Nat) (p:Oper) (y:Rec),j ≠ i→ops.toList[j]? = some p→recs[j]? = some y→Meet ops.toList o p x y→Nat.blt j i = listed.getD j false:=by
   intro j p y hne hpj hyj hc
   rcases Nat.lt_or_gt_of_ne hne with hlt | hgt
   ·rw [blt_t hlt]
    exact (anc_listed (L:=fun j=>listed.getD j false) hdc _ j i ((hpair j i p o y x hlt hpj ho hyj hx).2 hc.symm.clash) (fun o' ho' e he=>by rw [ho] at ho'; cases ho'; exact hie o ho e he)).symm
   ·rw [blt_f (by omega)]
    cases hb:listed.getD j false with
    | false=>rfl
    | true =>
     have:=anc_listed (L:=fun j=>listed.getD j false) hdc _ i j ((hpair i j o p x y hgt ho hpj hx hyj).2 hc.clash) (fun o' ho' e he=>hdc j hb o' ho' e he)
     have:listed.getD i false = true:=this
     rw [hil] at this; cases this
  have recOp:∀ (m:Nat) (y:Rec),recs[m]? = some y→∃ p,ops.toList[m]? = some p:=fun m y hy=>let ⟨p,hp',_⟩:=hget m y hy; ⟨p,hp'⟩
  have hloc:evOne P nt ops.toList (nk+16 * i) (tmL (fun j=>listed.getD j false) recs 0 tm0) (stoL (fun j=>listed.getD j false) recs 0 σ0) o (getOrc orcs i) = some x:=by
   refine evOne_loc hev ?_ ?_
   ·intro t htl
    refine tm_agree recs 0 _ _ rfl ?_
    intro m y hy hne hdst
    rw [Nat.zero_add] at hne
    obtain ⟨p,hp'⟩:=recOp m y hy
    by_cases hmi:m = i
    ·subst hmi; exact hne (by rw [hil,blt_f (by omega)])
    ·exact hne (order m p y hmi hp' hy (.inr (.inl ⟨t,hdst,htl⟩))).symm
   ·intro k hkr
    refine sto_agree recs 0 _ _ rfl ?_
    intro m y hy hne hku
    rw [Nat.zero_add] at hne
    obtain ⟨p,hp'⟩:=recOp m y hy
    by_cases hmi:m = i
    ·subst hmi; exact hne (by rw [hil,blt_f (by omega)])
    ·exact hne (order m p y hmi hp' hy (.inr (.inr (.inr ⟨k,hkr,hku⟩)))).symm
  have hls':i < listed.size:=by omega
  have hset:∀ j,(listed.setIfInBounds i true).getD j false = (listed.getD j false || Nat.beq j i):=by
   intro j
   by_cases hji:j = i
   ·subst hji
    rw [beq_t rfl,Bool.or_true]
    simp [Array.getD_eq_getD_getElem?,hls']
   ·rw [beq_f hji,Bool.or_false]
    simp only [Array.getD_eq_getD_getElem?]
    rw [Array.getElem?_setIfInBounds_ne (fun h=>hji h.symm)]
  have hfun:(fun j=>(listed.setIfInBounds i true).getD j false) = fun q=>listed.getD q false || Nat.beq q i:=funext hset
  have hfree:∀ q,q < 16→μ (nk+16 * i+q) = none:=fun q hq=>hk _ (by omega) fun j hj hj2=>by
   have hji:j = i:=by omega
   rw [hji]; exact hil
  refine one_sound (by simpa using ho) ht g hfree (by omega) (hz i) hloc hpx ?_
  intro v w' S' μ' q1 q2 q3 q4
  obtain ⟨d1,d2⟩:=evOne_dst hloc
  refine ih _ _ w' S' μ' (by simp [hls]) (by rw [put_size]; exact hs) (by rw [put_defers']; exact hdf) ?_ ?_ ?_ ?_ ?_
  ·intro j hj o' ho' e he
   rw [hset] at hj ⊢
   rw [Bool.or_eq_true] at hj ⊢
   rcases hj with hj | hj
   ·exact .inl (hdc j hj o' ho' e he)
   ·have:=Nat.eq_of_beq_eq_true hj
    subst this
    exact .inl (hie o' ho' e he)
  ·have hc:=count_set listed.toList i (by
    rw [Array.getElem?_toList,Array.getElem?_eq_getElem hls']
    simp only [Array.getD_eq_getD_getElem?,Array.getElem?_eq_getElem hls',Option.getD_some] at hil
    rw [hil])
   rw [Array.toList_setIfInBounds,hc]
   omega
  ·rw [hfun]
   refine q2.congr ?_
   intro k
   rw [sto_more recs 0 σ0 (Nat.zero_le _) (by simpa using hx) ?_,supd_get x.upd (stoL (fun j=>listed.getD j false) recs 0 σ0)]
   intro m y hy hlt hL hku hku'
   rw [Nat.zero_add] at hlt hL
   obtain ⟨p,hp'⟩:=recOp m y hy
   have:=order m p y (by omega) hp' hy (.inr (.inr (.inl ⟨k,hku,.inr hku'⟩)))
   rw [blt_f (by omega)] at this
   rw [← this] at hL; cases hL
  ·intro k hk' hno
   have hki:k < nk+16 * i ∨ nk+16 * i+16≤k:=by
    rcases Nat.lt_or_ge k (nk+16 * i) with h1 | h1
    ·exact .inl h1
    ·rcases Nat.lt_or_ge k (nk+16 * i+16) with h2 | h2
     ·have:=hno i h1 h2
      rw [hset,beq_t rfl,Bool.or_true] at this
      cases this
     ·exact .inr h2
   refine q3 k hki (hk k hk' fun j hj hj2=>?_)
   have:=hno j hj hj2
   rw [hset,Bool.or_eq_false_iff] at this
   exact this.1
  ·intro t
   rw [hfun,tm_more recs 0 tm0 (Nat.zero_le _) (by simpa using hx) ?_,put_get a x.dst v t (fun n hn=>by rw [hs]; exact d2 n (d1 ▸ hn))]
   ·split
    ·exact q4
    ·exact (ht t).ext q1
   ·intro m y hy hlt hxd hyd
    rw [Nat.zero_add] at hlt
    obtain ⟨p,hp'⟩:=recOp m y hy
    have:=(hpair i m o p x y hlt ho hp' hx hy).1
    rw [hxd,hyd] at this
    simp only [sameDst] at this
    rw [beq_t rfl] at this; cases this
end
end Go.Ab
namespace Go.Ab
inductive Wd where
 | keep
 | sl (n:Nat) (g:Nat→List AV)
 | osl (n:Nat)
 | nilos (k:Nat)
 | pt (b:Bool) (cs:List AV)
 | agg (ds:List Wd)
 | tup (ds:List Wd)
def UpL:List AV→List AV→Prop
 | [],[]=>True
 | a :: as,b :: bs=>(a = b ∨ (a = .nil∧∃ f,b = .sl 0 f))∧UpL as bs
 | _,_=>False
theorem UpL.len:∀ {as bs:List AV},UpL as bs→bs.length = as.length
 | [],[],_=>rfl
 | _ :: _,_ :: _,h=>congrArg (·+1) (UpL.len h.2)
theorem UpL.get:∀ {as bs:List AV} {j:Nat} {x:AV},UpL as bs→bs[j]? = some x→∃ a,as[j]? = some a∧(a = x ∨ (a = .nil∧∃ f,x = .sl 0 f))
 | [],[],_,_,_,hx=>by simp at hx
 | a :: _,b :: _,0,x,h,hx=>by
  have:b = x:=by simpa using hx
  subst this
  exact ⟨a,rfl,h.1⟩
 | _ :: as,_ :: bs,j+1,x,h,hx=>by
  have:=UpL.get (as:=as) (bs:=bs) (j:=j) (x:=x) h.2 (by simpa using hx)
  simpa using this
theorem nil_sl {w:World} {S:Nat→Prop} {μ:Mu} {v:Value} {a x:AV} (h:a = x ∨ (a = .nil∧∃ f,x = .sl 0 f)) (hv:RepX w S μ v a):RepX w S μ v x:=by
 rcases h with rfl | ⟨rfl,f,rfl⟩
 ·exact hv
 ·cases hv
  exact .sl 0 0 0 (fun _ _=>undef) (fun h=>absurd h (by decide)) (fun i h=>absurd h (Nat.not_lt_zero _)) (fun i j h=>absurd h (Nat.not_lt_zero _)) (fun i j c h=>absurd h (Nat.not_lt_zero _)) (Nat.le_refl _)
inductive Od where
 | keep (k:Nat)
 | arr (k:Nat) (n:Nat) (g:Nat→List AV)
 | arz (k:Nat) (n:Nat) (g:Nat→List AV)
 | var (k:Nat) (ds:List Wd)
 | mp (k:Nat) (cs:List AV)
 | nil (sz:Nat) (g:Nat→List AV)
def Od.old:Od→Option Nat
 | .keep k | .arr k _ _ | .arz k _ _ | .var k _ | .mp k _=>some k
 | .nil _ _=>none
abbrev Ods:=List (Nat × Od)
def toNew (m0:Nat):Ods→Nat→Option Nat
 | [],k=>match Nat.blt k m0 with
  | true=>some k
  | false=>none
 | (k',d) :: r,k=>match d.old with
  | some q=>match Nat.beq q k with
   | true=>some k'
   | false=>toNew m0 r k
  | none=>toNew m0 r k
def getOd:Ods→Nat→Option Od
 | [],_=>none
 | (k',d) :: r,k=>match Nat.beq k' k with
  | true=>some d
  | false=>getOd r k
mutual
def wkV (σ:Sto) (F:List Nat) (f:Nat→Option Nat) (ods:Ods):Wd→AV→Option (List Prop × AV)
 | .keep,x=>some ([],x.ren f)
 | .sl n g,.sl n0 g0=>some ([n0 = n,∀ i,i < n→g i = g0 i],.sl n g)
 | .sl n g,.os k off len=>match hasK F k,sget σ k with
  | true,some o=>match o.pr with
   | true=>some ([len = n,off+len≤o.len,∀ i,i < n→g i = o.get (addz off i)],.sl n g)
   | false=>none
  | _,_=>none
 | .sl n g,.nil=>some ([n = 0],.sl n g)
 | .osl n,.os k off len=>(f k).map fun k'=>([len = n],.os k' off n)
 | .nilos k',.nil=>match getOd ods k' with
  | some (.nil _ _)=>some ([],.os k' 0 0)
  | _=>none
 | .pt b cs,.rp cs0 off=>match off with
  | 0=>some ([b = true,cs = cs0],.pt b cs)
  | _+1=>none
 | .pt b cs,.atom v=>match v with
  | .pointer none=>some ([b = false],.pt b cs)
  | _=>none
 | .pt b cs,.pt b0 cs0=>some ([b = b0,b0 = true→cs = cs0],.pt b cs)
 | .agg ds,.agg cs=>(wkL σ F f ods ds cs).map fun (p,c)=>(p,.agg c)
 | .tup ds,.tup cs=>(wkL σ F f ods ds cs).map fun (p,c)=>(p,.tup c)
 | _,_=>none
def wkL (σ:Sto) (F:List Nat) (f:Nat→Option Nat) (ods:Ods):List Wd→List AV→Option (List Prop × List AV)
 | [],[]=>some ([],[])
 | d :: ds,c :: cs=>match wkV σ F f ods d c,wkL σ F f ods ds cs with
  | some (p,x),some (q,xs)=>some (p ++ q,x :: xs)
  | _,_=>none
 | _,_=>none
end
def wkOb (σ:Sto) (F:List Nat) (f:Nat→Option Nat) (ods:Ods):Od→Option (List Prop × Ob)
 | .keep k=>(sget σ k).map fun o=>([],o.ren f)
 | .arr k n g=>match sget σ k with
  | some o=>match o.pr && !o.var && Nat.ble 1 o.sz with
   | true=>some ([o.len = n,∀ i,i < n→g i = o.get i],⟨o.var,o.sz,n,true,g⟩)
   | false=>none
  | none=>none
 | .arz k n g=>match sget σ k with
  | some o=>match o.pr && !o.var && Nat.ble 1 o.sz with
   | true=>some ([o.len = n,∀ i,i < n→UpL (o.get i) (g i)],⟨o.var,o.sz,n,true,g⟩)
   | false=>none
  | none=>none
 | .var k ds=>match sget σ k with
  | some o=>match o.var && Nat.beq o.len 1 && Nat.ble 1 o.sz,wkL σ F f ods ds (o.get 0) with
   | true,some (p,cs)=>some (p,⟨true,o.sz,1,AV.pureL cs,fun _=>cs⟩)
   | _,_=>none
  | none=>none
 | .mp k cs=>match sget σ k with
  | some o=>match Nat.beq o.sz 0 && o.pr && Nat.beq o.len 0 with
   | true=>some ([cs = o.get 0],⟨o.var,o.sz,o.len,true,fun _=>cs⟩)
   | false=>none
  | none=>none
 | .nil sz g=>match Nat.ble 1 sz with
  | true=>some ([],⟨false,sz,0,true,g⟩)
  | false=>none
def wkTms (σ:Sto) (F:List Nat) (f:Nat→Option Nat) (ods:Ods) (tm:List (Nat × AV)):List (Nat × Wd)→Option (List Prop × List (Nat × AV))
 | []=>some ([],[])
 | (t,d) :: r=>match wkV σ F f ods d (getTm tm t),wkTms σ F f ods tm r with
  | some (p,x),some (q,l)=>some (p ++ q,(t,x) :: l)
  | _,_=>none
def wkObs (σ:Sto) (F:List Nat) (f:Nat→Option Nat) (ods:Ods):Ods→Option (List Prop × Sto)
 | []=>some ([],[])
 | (k,d) :: r=>match wkOb σ F f ods d,wkObs σ F f ods r with
  | some (p,o),some (q,l)=>some (p ++ q,(k,o) :: l)
  | _,_=>none
def namesOk (m0 nk:Nat) (F:List Nat) (ods:Ods):Bool :=
 nodupB (ods.map (·.1)) && nodupB (ods.filterMap (·.2.old)) && (ods.all fun x=>Nat.blt x.1 nk && match x.2.old with
  | some k=>!hasK F k && (match Nat.blt k m0 with
   | true=>Nat.beq x.1 k || Nat.ble m0 x.1
   | false=>Nat.ble m0 x.1)
  | none=>Nat.ble m0 x.1) && Nat.ble m0 nk
def wkSt (m0:Nat) (st:St) (F:List Nat) (tms:List (Nat × Wd)) (ods:Ods) (nk:Nat):Option (List Prop × St) :=
 match namesOk m0 nk F ods,wkTms st.sto F (toNew m0 ods) ods st.tm tms,wkObs st.sto F (toNew m0 ods) ods ods with
 | true,some (p,tm),some (q,σ)=>some (p ++ q,⟨tm,σ,nk⟩)
 | _,_,_=>none
def muW (m0:Nat) (μ:Mu) (ods:Ods):Mu:=fun k =>
 if k < m0 then μ k else match getOd ods k with
  | some (.nil sz _)=>some ⟨0,0,sz⟩
  | some d=>d.old.bind μ
  | none=>none
section
variable {P:Program} {E:Env} {σ:Sto} {S:Nat→Prop} {μ:Mu} {w:World} {m0 nk:Nat} {F:List Nat} {ods:Ods}
theorem getOd_mem:∀ {ods:Ods} {k:Nat} {d:Od},getOd ods k = some d→(k,d) ∈ ods
 | [],k,d,h=>by simp [getOd] at h
 | (k',d') :: r,k,d,h=>by
  simp only [getOd] at h
  split at h
  ·rename_i hb; cases h; rw [Nat.eq_of_beq_eq_true hb]; simp
  ·exact List.mem_cons_of_mem _ (getOd_mem h)
theorem getOd_of:∀ {ods:Ods} {k:Nat} {d:Od},nodupB (ods.map (·.1)) = true→(k,d) ∈ ods→getOd ods k = some d
 | [],k,d,_,h=>by simp at h
 | (k',d') :: r,k,d,hn,h=>by
  simp only [List.map_cons,nodupB,Bool.and_eq_true] at hn
  simp only [getOd]
  rcases List.mem_cons.1 h with h | h
  ·cases h; rw [beq_t rfl]
  ·have hne:¬ k' = k:=by
    rintro rfl
    have hnone:idx (r.map (·.1)) k' = none:=by simpa using hn.1
    obtain ⟨i,hi⟩:=List.getElem?_of_mem (List.mem_map.2 ⟨_,h,rfl⟩:k' ∈ r.map (·.1))
    exact idx_none _ _ hnone i hi
   rw [beq_f hne]
   exact getOd_of hn.2 h
theorem toNew_spec:∀ {ods:Ods} {k k':Nat},toNew m0 ods k = some k'→(∃ d,(k',d) ∈ ods∧d.old = some k) ∨ (k < m0∧k' = k)
 | [],k,k',h=>by
  simp only [toNew] at h
  split at h
  ·rename_i hb; cases h; exact .inr ⟨blt_lt hb,rfl⟩
  ·cases h
 | (q,d) :: r,k,k',h=>by
  simp only [toNew] at h
  have step:toNew m0 r k = some k'→(∃ d',(k',d') ∈ (q,d) :: r∧d'.old = some k) ∨ (k < m0∧k' = k):=fun h'=>by
   rcases toNew_spec h' with ⟨d',h1,h2⟩ | h1
   ·exact .inl ⟨d',List.mem_cons_of_mem _ h1,h2⟩
   ·exact .inr h1
  split at h
  ·rename_i o ho
   split at h
   ·rename_i hb
    cases h
    exact .inl ⟨d,by simp,by rw [ho,Nat.eq_of_beq_eq_true hb]⟩
   ·exact step h
  ·exact step h
structure Names (m0 nk:Nat) (F:List Nat) (ods:Ods):Prop where
 nd:nodupB (ods.map (·.1)) = true
 od:nodupB (ods.filterMap (·.2.old)) = true
 lt:∀ k d,(k,d) ∈ ods→k < nk
 fr:∀ k d q,(k,d) ∈ ods→d.old = some q→q ∉ F
 lo:∀ k d q,(k,d) ∈ ods→d.old = some q→q < m0→k = q ∨ m0≤k
 hi:∀ k d q,(k,d) ∈ ods→d.old = some q→m0≤q→m0≤k
 no:∀ k d,(k,d) ∈ ods→d.old = none→m0≤k
 m0:m0≤nk
theorem names_of (h:namesOk m0 nk F ods = true):Names m0 nk F ods:=by
 unfold namesOk at h
 simp only [Bool.and_eq_true,Nat.ble_eq] at h
 obtain ⟨⟨⟨h1,h2⟩,h3⟩,h4⟩:=h
 have h3:=fun k d (hm:(k,d) ∈ ods)=>List.all_eq_true.1 h3 (k,d) hm
 simp only [Bool.and_eq_true] at h3
 refine ⟨h1,h2,fun k d hm=>blt_lt (h3 k d hm).1,?_,?_,?_,?_,h4⟩
 ·intro k d q hm hq hF
  have:=(h3 k d hm).2
  rw [hq] at this
  simp only [Bool.and_eq_true,Bool.not_eq_true'] at this
  rw [hasK_iff.2 hF] at this
  cases this.1
 ·intro k d q hm hq hlt
  have:=(h3 k d hm).2
  rw [hq] at this
  simp only [Bool.and_eq_true] at this
  rw [blt_t hlt] at this
  rcases Bool.or_eq_true_iff.1 this.2 with h | h
  ·exact .inl (Nat.eq_of_beq_eq_true h)
  ·exact .inr (Nat.le_of_ble_eq_true h)
 ·intro k d q hm hq hge
  have:=(h3 k d hm).2
  rw [hq] at this
  simp only [Bool.and_eq_true] at this
  rw [blt_f (by omega)] at this
  simpa only [Nat.ble_eq] using this.2
 ·intro k d hm hq
  have:=(h3 k d hm).2
  rw [hq] at this
  simpa only [Nat.ble_eq] using this
theorem muW_new (N:Names m0 nk F ods) {k k':Nat} {pl:Place} (h:toNew m0 ods k = some k') (hm:μ k = some pl):muW m0 μ ods k' = some pl:=by
 rcases toNew_spec h with ⟨d,h1,h2⟩ | ⟨h1,rfl⟩
 ·unfold muW
  by_cases hlt:k < m0
  ·rcases N.lo k' d k h1 h2 hlt with h | h
   ·rw [if_pos (by omega),h]; exact hm
   ·rw [if_neg (by omega),getOd_of N.nd h1]
    cases d <;> simp_all [Od.old]
  ·have:=N.hi k' d k h1 h2 (by omega)
   rw [if_neg (by omega),getOd_of N.nd h1]
   cases d <;> simp_all [Od.old]
 ·unfold muW
  rw [if_pos h1]; exact hm
theorem muW_od (N:Names m0 nk F ods) {k k':Nat} {d:Od} (h:(k',d) ∈ ods) (ho:d.old = some k):muW m0 μ ods k' = μ k:=by
 unfold muW
 by_cases hlt:k < m0
 ·rcases N.lo k' d k h ho hlt with h1 | h1
  ·rw [if_pos (by omega),h1]
  ·rw [if_neg (by omega),getOd_of N.nd h]
   cases d <;> simp_all [Od.old]
 ·have:=N.hi k' d k h ho (by omega)
  rw [if_neg (by omega),getOd_of N.nd h]
  cases d <;> simp_all [Od.old]
theorem muW_nil (N:Names m0 nk F ods) {k' sz:Nat} {g:Nat→List AV} (h:(k',Od.nil sz g) ∈ ods):muW m0 μ ods k' = some ⟨0,0,sz⟩:=by
 have:=N.no k' _ h rfl
 unfold muW
 rw [if_neg (by omega),getOd_of N.nd h]
def SF (μ:Mu) (F:List Nat) (σ:Sto) (S:Nat→Prop) (b:Nat):Prop:=S b ∨ ∃ k o pl,k ∈ F∧sget σ k = some o∧μ k = some pl∧0 < pl.cap∧pl.blk = b
theorem wkV_rep (g:Good E σ S μ w) (N:Names m0 nk F ods):∀ (d:Wd) (x:AV) (v:Value) (ps:List Prop) (y:AV),RepX w S μ v x→wkV σ F (toNew m0 ods) ods d x = some (ps,y)→AllP ps →
  RepX w (SF μ F σ S) (muW m0 μ ods) v y:=by
 have mono:∀ {v:Value} {x:AV} {μ':Mu},RepX w S μ' v x→RepX w (SF μ F σ S) μ' v x:=fun h=>h.mono (fun _ h=>.inl h) (fun _ _=>rfl) (fun _ _ h=>h)
 intro d
 induction d using Wd.rec (motive_2:=fun ds=>∀ (cs:List AV) (ps:List Prop) (ys:List AV),wkL σ F (toNew m0 ods) ods ds cs = some (ps,ys)→AllP ps →
   cs.length = ys.length∧∀ (j:Nat) c y v,cs[j]? = some c→ys[j]? = some y→RepX w S μ v c→RepX w (SF μ F σ S) (muW m0 μ ods) v y) with
 | keep =>
  intro x v ps y h hw hp
  simp only [wkV,Option.some.injEq,Prod.mk.injEq] at hw
  obtain ⟨rfl,rfl⟩:=hw
  exact (mono h).ren fun k k' pl hk hm=>muW_new N hk hm
 | sl n gt =>
  intro x v ps y h hw hp
  cases x <;> simp only [wkV] at hw <;> try (cases hw; done)
  case sl n0 g0 =>
   simp only [Option.some.injEq,Prod.mk.injEq] at hw
   obtain ⟨rfl,rfl⟩:=hw
   obtain ⟨rfl,p2,_⟩:=hp
   cases h with
   | sl b off sz f h1 h2 h3 h4 h5 =>
    exact .sl b off sz f (fun hl=>⟨(h1 hl).1,.inl (h1 hl).2⟩) (fun i hi=>by rw [p2 i hi]; exact h2 i hi) h3 (fun i j c hi hc=>mono (h4 i j c hi (by rw [← p2 i hi]; exact hc))) h5
  case os k off len =>
   split at hw
   ·rename_i o hF ho
    split at hw
    ·rename_i hpr
     simp only [Option.some.injEq,Prod.mk.injEq] at hw
     obtain ⟨rfl,rfl⟩:=hw
     obtain ⟨rfl,p2,p3,_⟩:=hp
     obtain ⟨pl,c,T,hm,hob⟩:=g.rep.ob k o ho
     cases h with
     | os pl' hm' h1 h2 h3 =>
      rename_i cap a
      rw [hm] at hm'; cases hm'
      refine .sl pl.blk (off * pl.sz) o.sz (fun i j=>(c[(off+i) * o.sz+j]?).getD undef) ?_ (fun i hi=>by rw [p3 i hi,addz_eq]; exact hob.els _ (by omega)) ?_ ?_ h2
      ·intro hl
       exact ⟨h1 (by omega),.inr ⟨k,o,pl,hasK_iff.1 hF,ho,hm,by omega,rfl⟩⟩
      ·intro i j hi hj
       obtain ⟨v,q1,q2⟩:=cell_of_obrep hob (i:=off+i) (by omega) hj
       rw [q1,hob.sz,← Nat.add_mul,q2]; rfl
      ·intro i j c' hi hc'
       rw [p3 i hi,addz_eq] at hc'
       obtain ⟨v,q1,q2⟩:=cell_of_obrep hob (i:=off+i) (by omega) (by have:=(List.getElem?_eq_some_iff.1 hc').1; rwa [hob.els _ (by omega)] at this)
       rw [q1]
       have:=hob.rep _ j c' v (by omega) hc' q1
       rw [hpr] at this
       exact mono this
    ·cases hw
   ·cases hw
  case nil =>
   simp only [Option.some.injEq,Prod.mk.injEq] at hw
   obtain ⟨rfl,rfl⟩:=hw
   obtain ⟨rfl,_⟩:=hp
   cases h
   exact .sl 0 0 0 (fun _ _=>undef) (fun h=>absurd h (by omega)) (fun i h=>absurd h (by omega)) (fun i j h=>absurd h (by omega)) (fun i j c h=>absurd h (by omega)) (Nat.le_refl _)
 | osl n =>
  intro x v ps y h hw hp
  cases x <;> simp only [wkV] at hw <;> try (cases hw; done)
  case os k off len =>
   simp only [Option.map_eq_some_iff,Prod.mk.injEq] at hw
   obtain ⟨k',hk',rfl,rfl⟩:=hw
   obtain ⟨rfl,_⟩:=hp
   cases h with
   | os pl hm h1 h2 h3=>exact .os pl (muW_new N hk' hm) h1 h2 h3
 | nilos k' =>
  intro x v ps y h hw hp
  cases x <;> simp only [wkV] at hw <;> try (cases hw; done)
  case nil =>
   split at hw
   ·rename_i sz gt hod
    simp only [Option.some.injEq,Prod.mk.injEq] at hw
    obtain ⟨rfl,rfl⟩:=hw
    cases h
    exact .os ⟨0,0,sz⟩ (muW_nil N (getOd_mem hod)) (fun h=>absurd h (by omega)) (Nat.le_refl _) (by simp)
   ·cases hw
 | pt b cs =>
  intro x v ps y h hw hp
  have other:∀ {b:Bool} {cs:List AV} {v:Value},RepX w S μ v (.pt b cs)→RepX w (SF μ F σ S) (muW m0 μ ods) v (.pt b cs):=fun h=>(mono h).pure rfl _
  cases x <;> simp only [wkV] at hw <;> try (cases hw; done)
  case rp cs0 off =>
   split at hw
   ·simp only [Option.some.injEq,Prod.mk.injEq] at hw
    obtain ⟨rfl,rfl⟩:=hw
    obtain ⟨rfl,rfl,_⟩:=hp
    exact other (.pt (fun _=>h) (fun h=>by cases h))
   ·cases hw
  case atom v0 =>
   split at hw
   ·simp only [Option.some.injEq,Prod.mk.injEq] at hw
    obtain ⟨rfl,rfl⟩:=hw
    obtain ⟨rfl,_⟩:=hp
    exact other (.pt (fun h=>by cases h) (fun _=>rep_int h))
   ·cases hw
  case pt b0 cs0 =>
   simp only [Option.some.injEq,Prod.mk.injEq] at hw
   obtain ⟨rfl,rfl⟩:=hw
   obtain ⟨rfl,hcs,_⟩:=hp
   cases h with
   | pt h1 h2=>exact other (.pt (fun hb=>by rw [hcs hb]; exact h1 hb) h2)
 | agg ds ih =>
  intro x v ps y h hw hp
  cases x <;> simp only [wkV] at hw <;> try (cases hw; done)
  case agg cs =>
   simp only [Option.map_eq_some_iff,Prod.mk.injEq] at hw
   obtain ⟨⟨p,c⟩,h1,rfl,rfl⟩:=hw
   obtain ⟨q1,q2⟩:=ih cs p c h1 hp
   cases h with
   | agg h2 h3 =>
    refine .agg (h2.trans q1) fun j y v hy hv=>?_
    have hlt:j < cs.length:=by rw [q1]; exact (List.getElem?_eq_some_iff.1 hy).1
    exact q2 j _ y v (List.getElem?_eq_getElem hlt) hy (h3 j _ v (List.getElem?_eq_getElem hlt) hv)
 | tup ds ih =>
  intro x v ps y h hw hp
  cases x <;> simp only [wkV] at hw <;> try (cases hw; done)
  case tup cs =>
   simp only [Option.map_eq_some_iff,Prod.mk.injEq] at hw
   obtain ⟨⟨p,c⟩,h1,rfl,rfl⟩:=hw
   obtain ⟨q1,q2⟩:=ih cs p c h1 hp
   cases h with
   | tup h2 h3 =>
    refine .tup (h2.trans q1) fun j y v hy hv=>?_
    have hlt:j < cs.length:=by rw [q1]; exact (List.getElem?_eq_some_iff.1 hy).1
    exact q2 j _ y v (List.getElem?_eq_getElem hlt) hy (h3 j _ v (List.getElem?_eq_getElem hlt) hv)
 | nil =>
  rename_i cs ps ys h hp
  cases cs with
  | nil=>simp [wkL] at h; obtain ⟨_,rfl⟩:=h; exact ⟨rfl,fun j c y v hc=>by simp at hc⟩
  | cons=>simp [wkL] at h
 | cons d ds ih1 ih2 =>
  rename_i cs ps ys h hp
  cases cs with
  | nil=>simp [wkL] at h
  | cons c cs =>
   simp only [wkL] at h
   split at h
   ·rename_i p x q xs e1 e2
    simp only [Option.some.injEq,Prod.mk.injEq] at h
    obtain ⟨rfl,rfl⟩:=h
    obtain ⟨hp1,hp2⟩:=AllP.app hp
    obtain ⟨r1,r2⟩:=ih2 cs q xs e2 hp2
    refine ⟨by simp [r1],?_⟩
    intro j c' y v hc hy hr
    cases j with
    | zero=>simp at hc hy; subst hc hy; exact ih1 c v p x hr e1 hp1
    | succ j=>exact r2 j c' y v (by simpa using hc) (by simpa using hy) hr
   ·cases h
end
end Go.Ab
