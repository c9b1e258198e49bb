/- Abstract values over the heap of the machine, and functions read off its code (part 1). No conditions. -/
import Derived.Orders
import Derived.Laws.Cells
import Derived.Laws.World
import Derived.Laws.Rows
import Derived.Laws.Sem
import Derived.KernelRfl
import Derived.Laws.CopyRow
import Derived.Laws.AppendOwn
import Derived.Laws.MakeOwn
import Derived.Laws.StructEq
import Derived.Great.BuildSlice
import Derived.Deep.MidRow

set_option linter.unusedVariables false
set_option linter.unusedSimpArgs false
namespace Go.Ab

/-- An abstract value. 'sl': a slice in memory that nobody writes any more; 'rp': a pointer into such memory; 'op', 'os': a pointer into, a slice of, an object of the store; 'when': known only if the condition holds; 'nil': the nil slice; 'mp': a map of the store; 'bn': a bool that is true only if a number is 0; 'pt': a pointer into memory that nobody writes, or nil; 'unk': nothing known. -/
inductive AV where
  | atom (v : Value)
  | agg (cs : List AV)
  | tup (cs : List AV)
  | sl (len : Nat) (get : Nat → List AV)
  | rp (cs : List AV) (off : Nat)
  | op (k i j : Nat)
  | os (k off len : Nat)
  | fn (f : Fn) (first cap : List AV)
  | when (b : Bool) (v : AV)
  | mp (k : Nat)
  | bn (n : Nat)
  | pt (b : Bool) (cs : List AV)
  | nil
  | unk
  deriving Inhabited

/-- Where an object of the store lies: its block, how many elements the block bears, the cells of an element. -/
structure Place where
  blk : Nat
  cap : Nat
  sz : Nat

abbrev Mu := Nat → Option Place
def noMu : Mu := fun _ => none

inductive RepX (w : World) (S : Nat → Prop) : Mu → Value → AV → Prop where
  | atom {μ : Mu} (v : Value) : RepX w S μ v (.atom v)
  | agg {μ : Mu} {vs : Array Value} {cs : List AV} : vs.size = cs.length →
      (∀ (j : Nat) (c : AV) (v : Value), cs[j]? = some c → vs[j]? = some v → RepX w S μ v c) → RepX w S μ (.agg vs) (.agg cs)
  | tup {μ : Mu} {vs : Array Value} {cs : List AV} : vs.size = cs.length →
      (∀ (j : Nat) (c : AV) (v : Value), cs[j]? = some c → vs[j]? = some v → RepX w S μ v c) → RepX w S μ (.tuple vs) (.tup cs)
  | sl {μ : Mu} {a : Option Addr} {len cap : Nat} {get : Nat → List AV} (b off sz : Nat) (f : Nat → Nat → Value) :
      (0 < len → a = some ⟨b, off, none⟩ ∧ S b) → (∀ i, i < len → (get i).length = sz) →
      (∀ i j, i < len → j < sz → w.cell? ⟨b, off + i * sz + j, none⟩ = some (f i j)) →
      (∀ i j c, i < len → (get i)[j]? = some c → RepX w S noMu (f i j) c) → len ≤ cap → RepX w S μ (.slice a len cap) (.sl len get)
  | rp {μ : Mu} {cs : List AV} {off : Nat} (b o : Nat) (f : Nat → Value) : S b →
      (∀ j, j < cs.length → w.cell? ⟨b, o + j, none⟩ = some (f j)) →
      (∀ j c, cs[j]? = some c → RepX w S noMu (f j) c) → RepX w S μ (.pointer (some ⟨b, o + off, none⟩)) (.rp cs off)
  | op {μ : Mu} {k i j : Nat} (pl : Place) : μ k = some pl → RepX w S μ (.pointer (some ⟨pl.blk, i * pl.sz + j, none⟩)) (.op k i j)
  | os {μ : Mu} {k off len cap : Nat} {a : Option Addr} (pl : Place) : μ k = some pl →
      (0 < cap → a = some ⟨pl.blk, off * pl.sz, none⟩) → len ≤ cap → off + cap ≤ pl.cap → RepX w S μ (.slice a len cap) (.os k off len)
  | fn {μ : Mu} {f : Fn} {vs ws : Array Value} {first cap : List AV} : vs.size = first.length → ws.size = cap.length →
      (∀ (j : Nat) (c : AV) (v : Value), first[j]? = some c → vs[j]? = some v → RepX w S μ v c) →
      (∀ (j : Nat) (c : AV) (v : Value), cap[j]? = some c → ws[j]? = some v → RepX w S μ v c) → RepX w S μ (.func f vs ws) (.fn f first cap)
  | when {μ : Mu} {b : Bool} {v : Value} {x : AV} : (b = true → RepX w S μ v x) → (b = false → v = undef) → RepX w S μ v (.when b x)
  | mp {μ : Mu} {k : Nat} (pl : Place) : μ k = some pl → RepX w S μ (.map (some pl.blk)) (.mp k)
  | bn {μ : Mu} {n : Nat} (b : Bool) : (b = true → n = 0) → RepX w S μ (.bool b) (.bn n)
  | pt {μ : Mu} {b : Bool} {cs : List AV} {v : Value} : (b = true → RepX w S μ v (.rp cs 0)) → (b = false → v = .pointer none) → RepX w S μ v (.pt b cs)
  | nil {μ : Mu} : RepX w S μ (.slice none 0 0) .nil
  | unk {μ : Mu} {v : Value} : RepX w S μ v .unk

/-- The heap has grown: what is stable stays stable and reads as it did; objects stay where they are. -/
structure Ext (w : World) (S : Nat → Prop) (μ : Mu) (w' : World) (S' : Nat → Prop) (μ' : Mu) : Prop where
  size : w.heap.size ≤ w'.heap.size
  stab : ∀ b, S b → S' b
  blk : ∀ b, S b → w'.heap[b]? = w.heap[b]?
  mu : ∀ k pl, μ k = some pl → μ' k = some pl

theorem Ext.refl (w : World) (S : Nat → Prop) (μ : Mu) : Ext w S μ w S μ := ⟨Nat.le_refl _, fun _ h => h, fun _ _ => rfl, fun _ _ h => h⟩
theorem Ext.trans {w w' w'' : World} {S S' S'' : Nat → Prop} {μ μ' μ'' : Mu} (h : Ext w S μ w' S' μ') (k : Ext w' S' μ' w'' S'' μ'') : Ext w S μ w'' S'' μ'' :=
  ⟨Nat.le_trans h.size k.size, fun b hb => k.stab b (h.stab b hb), fun b hb => (k.blk b (h.stab b hb)).trans (h.blk b hb), fun i pl hi => k.mu i pl (h.mu i pl hi)⟩

theorem cell_of_blk {w w' : World} {b : Nat} (h : w'.heap[b]? = w.heap[b]?) (o : Nat) : w'.cell? ⟨b, o, none⟩ = w.cell? ⟨b, o, none⟩ := by
  simp [World.cell?, h]

theorem RepX.mono {w w' : World} {S S' : Nat → Prop} (hS : ∀ b, S b → S' b) (hb : ∀ b, S b → w'.heap[b]? = w.heap[b]?) {μ : Mu} {v : Value} {x : AV} (h : RepX w S μ v x) :
    ∀ {μ' : Mu}, (∀ k pl, μ k = some pl → μ' k = some pl) → RepX w' S' μ' v x := by
  induction h with
  | atom v => exact fun _ => .atom v
  | agg h1 _ ih => exact fun hm => .agg h1 fun j c v hc hv => ih j c v hc hv hm
  | tup h1 _ ih => exact fun hm => .tup h1 fun j c v hc hv => ih j c v hc hv hm
  | @sl μ a len cap get b off sz f h1 h2 h3 _ h5 ih =>
    intro μ' _
    refine .sl b off sz f (fun hl => ⟨(h1 hl).1, hS _ (h1 hl).2⟩) h2 ?_ (fun i j c hi hc => ih i j c hi hc fun _ _ h => h) h5
    intro i j hi hj
    rw [cell_of_blk (hb b (h1 (by omega)).2)]
    exact h3 i j hi hj
  | @rp μ cs off b o f h1 h2 _ ih =>
    intro μ' _
    refine .rp b o f (hS _ h1) ?_ (fun j c hc => ih j c hc fun _ _ h => h)
    intro j hj
    rw [cell_of_blk (hb b h1)]
    exact h2 j hj
  | op pl h => exact fun hm => .op pl (hm _ _ h)
  | os pl h h1 h2 h3 => exact fun hm => .os pl (hm _ _ h) h1 h2 h3
  | fn h1 h2 _ _ ih1 ih2 => exact fun hm => .fn h1 h2 (fun j c v hc hv => ih1 j c v hc hv hm) (fun j c v hc hv => ih2 j c v hc hv hm)
  | when _ hu ih => exact fun hm => .when (fun hb => ih hb hm) hu
  | mp pl h => exact fun hm => .mp pl (hm _ _ h)
  | bn b h => exact fun _ => .bn b h
  | pt _ h2 ih => exact fun hm => .pt (fun hb => ih hb hm) h2
  | nil => exact fun _ => .nil
  | unk => exact fun _ => .unk

theorem RepX.ext {w w' : World} {S S' : Nat → Prop} {μ μ' : Mu} {v : Value} {x : AV} (h : RepX w S μ v x) (e : Ext w S μ w' S' μ') : RepX w' S' μ' v x :=
  h.mono e.stab e.blk e.mu

mutual
/-- No object of the store is named. -/
def AV.pure : AV → Bool
  | .atom _ | .sl _ _ | .rp _ _ | .bn _ | .pt _ _ | .nil | .unk => true
  | .agg cs | .tup cs => AV.pureL cs
  | .fn _ a b => AV.pureL a && AV.pureL b
  | .when _ v => v.pure
  | .op _ _ _ | .os _ _ _ | .mp _ => false
def AV.pureL : List AV → Bool
  | [] => true
  | c :: cs => c.pure && AV.pureL cs
end

mutual
/-- No memory is named at all. -/
def AV.flat : AV → Bool
  | .atom _ | .bn _ | .nil => true
  | .agg cs | .tup cs => AV.flatL cs
  | .fn _ a b => AV.flatL a && AV.flatL b
  | _ => false
def AV.flatL : List AV → Bool
  | [] => true
  | c :: cs => c.flat && AV.flatL cs
end

theorem pureL_get {cs : List AV} (h : AV.pureL cs = true) {j : Nat} {c : AV} (hc : cs[j]? = some c) : c.pure = true := by
  induction cs generalizing j with
  | nil => simp at hc
  | cons x xs ih =>
    simp only [AV.pureL, Bool.and_eq_true] at h
    cases j with
    | zero => simp at hc; exact hc ▸ h.1
    | succ j => exact ih h.2 (by simpa using hc)
theorem flatL_get {cs : List AV} (h : AV.flatL cs = true) {j : Nat} {c : AV} (hc : cs[j]? = some c) : c.flat = true := by
  induction cs generalizing j with
  | nil => simp at hc
  | cons x xs ih =>
    simp only [AV.flatL, Bool.and_eq_true] at h
    cases j with
    | zero => simp at hc; exact hc ▸ h.1
    | succ j => exact ih h.2 (by simpa using hc)

theorem RepX.pure {w : World} {S : Nat → Prop} {μ : Mu} {v : Value} {x : AV} (h : RepX w S μ v x) : x.pure = true → ∀ μ', RepX w S μ' v x := by
  induction h with
  | atom v => exact fun _ _ => .atom v
  | agg h1 _ ih => exact fun hp μ' => .agg h1 fun j c v hc hv => ih j c v hc hv (pureL_get (by simpa [AV.pure] using hp) hc) μ'
  | tup h1 _ ih => exact fun hp μ' => .tup h1 fun j c v hc hv => ih j c v hc hv (pureL_get (by simpa [AV.pure] using hp) hc) μ'
  | sl b off sz f h1 h2 h3 h4 h5 _ => exact fun _ _ => .sl b off sz f h1 h2 h3 h4 h5
  | rp b o f h1 h2 h3 _ => exact fun _ _ => .rp b o f h1 h2 h3
  | op pl h => exact fun hp => by simp [AV.pure] at hp
  | os pl h h1 h2 h3 => exact fun hp => by simp [AV.pure] at hp
  | fn h1 h2 _ _ ih1 ih2 =>
    intro hp μ'
    simp only [AV.pure, Bool.and_eq_true] at hp
    exact .fn h1 h2 (fun j c v hc hv => ih1 j c v hc hv (pureL_get hp.1 hc) μ') (fun j c v hc hv => ih2 j c v hc hv (pureL_get hp.2 hc) μ')
  | when _ hu ih => exact fun hp μ' => .when (fun hb => ih hb (by simpa [AV.pure] using hp) μ') hu
  | mp pl h => exact fun hp => by simp [AV.pure] at hp
  | bn b h => exact fun _ _ => .bn b h
  | pt _ h2 ih => exact fun _ μ' => .pt (fun hb => ih hb rfl μ') h2
  | nil => exact fun _ _ => .nil
  | unk => exact fun _ _ => .unk

theorem RepX.flat {w : World} {S : Nat → Prop} {μ : Mu} {v : Value} {x : AV} (h : RepX w S μ v x) : x.flat = true → ∀ w' S' μ', RepX w' S' μ' v x := by
  induction h with
  | atom v => exact fun _ _ _ _ => .atom v
  | agg h1 _ ih => exact fun hp w' S' μ' => .agg h1 fun j c v hc hv => ih j c v hc hv (flatL_get (by simpa [AV.flat] using hp) hc) w' S' μ'
  | tup h1 _ ih => exact fun hp w' S' μ' => .tup h1 fun j c v hc hv => ih j c v hc hv (flatL_get (by simpa [AV.flat] using hp) hc) w' S' μ'
  | sl => exact fun hp => by simp [AV.flat] at hp
  | rp => exact fun hp => by simp [AV.flat] at hp
  | op => exact fun hp => by simp [AV.flat] at hp
  | os => exact fun hp => by simp [AV.flat] at hp
  | fn h1 h2 _ _ ih1 ih2 =>
    intro hp w' S' μ'
    simp only [AV.flat, Bool.and_eq_true] at hp
    exact .fn h1 h2 (fun j c v hc hv => ih1 j c v hc hv (flatL_get hp.1 hc) w' S' μ') (fun j c v hc hv => ih2 j c v hc hv (flatL_get hp.2 hc) w' S' μ')
  | when => exact fun hp => by simp [AV.flat] at hp
  | mp => exact fun hp => by simp [AV.flat] at hp
  | bn b h => exact fun _ _ _ _ => .bn b h
  | pt => exact fun hp => by simp [AV.flat] at hp
  | nil => exact fun _ _ _ _ => .nil
  | unk => exact fun hp => by simp [AV.flat] at hp

/-- An object of the store: whether it is a variable (else a slice's array), the cells of an element, how many elements, whether its cells name no object, the elements. -/
structure Ob where
  var : Bool
  sz : Nat
  len : Nat
  pr : Bool
  get : Nat → List AV

abbrev Sto := List (Nat × Ob)

def sget : Sto → Nat → Option Ob
  | [], _ => none
  | (k, o) :: r, n => match Nat.beq k n with
    | true => some o
    | false => sget r n
def sset : Sto → Nat → Ob → Sto
  | [], k, o => [(k, o)]
  | (a, x) :: r, k, o => match Nat.beq a k with
    | true => (a, o) :: r
    | false => (a, x) :: sset r k o
def sdel : Sto → Nat → Sto
  | [], _ => []
  | (a, x) :: r, k => match Nat.beq a k with
    | true => sdel r k
    | false => (a, x) :: sdel r k

theorem beq_t {a b : Nat} (h : a = b) : Nat.beq a b = true := by subst h; exact Nat.beq_refl a
theorem beq_f {a b : Nat} (h : ¬ a = b) : Nat.beq a b = false := Bool.eq_false_iff.2 fun e => h (Nat.eq_of_beq_eq_true e)
theorem sget_sset (σ : Sto) (k n : Nat) (o : Ob) : sget (sset σ k o) n = if k = n then some o else sget σ n := by
  induction σ with
  | nil =>
    simp only [sset, sget]
    by_cases h : k = n
    · rw [beq_t h, if_pos h]
    · rw [beq_f h, if_neg h]
  | cons x r ih =>
    obtain ⟨a, x⟩ := x
    simp only [sset]
    by_cases ha : a = k
    · rw [beq_t ha]
      simp only [sget]
      subst ha
      by_cases h : a = n
      · rw [beq_t h, if_pos h]
      · rw [beq_f h, if_neg h]
    · rw [beq_f ha]
      simp only [sget, ih]
      by_cases hn : a = n
      · simp only [beq_t hn, if_neg (fun e : k = n => ha (hn.trans e.symm))]
      · rw [beq_f hn]
theorem sget_sdel (σ : Sto) (k n : Nat) : sget (sdel σ k) n = if k = n then none else sget σ n := by
  induction σ with
  | nil => simp [sdel, sget]
  | cons x r ih =>
    obtain ⟨a, x⟩ := x
    simp only [sdel]
    by_cases ha : a = k
    · rw [beq_t ha]
      simp only [sget, ih]
      by_cases h : k = n
      · rw [if_pos h, if_pos h]
      · rw [beq_f (by omega : ¬ a = n)]
    · rw [beq_f ha]
      simp only [sget, ih]
      by_cases hn : a = n
      · simp only [beq_t hn, if_neg (fun e : k = n => ha (hn.trans e.symm))]
      · rw [beq_f hn]

/-- The changes of an operation, one behind the other. -/
def supd : Sto → List (Nat × Option Ob) → Sto
  | σ, [] => σ
  | σ, (k, some o) :: r => supd (sset σ k o) r
  | σ, (k, none) :: r => supd (sdel σ k) r

/-- The entries of a map, out of its keys and values one after another. -/
def entsOf (c : Array Value) : Array MapEntry := (Array.range (c.size / 2)).map fun i => ⟨c[2 * i]?.getD undef, c[2 * i + 1]?.getD undef, i⟩
/-- What lies in the heap: a row of cells; for an object whose elements have no cells: a map. -/
def blkObj (sz : Nat) (c : Array Value) (T : TypeId) : Obj :=
  match sz with
  | 0 => .map (entsOf c) (c.size / 2)
  | _ + 1 => .cells c T (0, 0)
theorem blkObj_row {sz : Nat} (h : sz ≠ 0) (c : Array Value) (T : TypeId) : blkObj sz c T = .cells c T (0, 0) := by
  cases sz with
  | zero => exact absurd rfl h
  | succ n => rfl
theorem blkObj_map {sz : Nat} (h : sz = 0) (c : Array Value) (T : TypeId) : blkObj sz c T = .map (entsOf c) (c.size / 2) := by subst h; rfl

/-- An object lies in the heap (an array of no capacity lies nowhere). A map: an object whose elements have no cells; its keys and values are 'get 0'. -/
structure ObRep (w : World) (S : Nat → Prop) (μ : Mu) (o : Ob) (pl : Place) (c : Array Value) (T : TypeId) : Prop where
  sz : pl.sz = o.sz
  blk : 0 < pl.cap → w.heap[pl.blk]? = some (blkObj o.sz c T)
  cap : pl.cap * o.sz ≤ c.size
  len : o.len ≤ pl.cap
  out : 0 < pl.cap → ¬ S pl.blk
  els : ∀ i, i < o.len → (o.get i).length = o.sz
  rep : ∀ i j x v, i < o.len → (o.get i)[j]? = some x → c[i * o.sz + j]? = some v → RepX w S (if o.pr then noMu else μ) v x
  mp : o.sz = 0 → 0 < pl.cap ∧ c.size % 2 = 0 ∧ c.size = (o.get 0).length ∧ o.pr = true ∧ ∀ (j : Nat) x v, (o.get 0)[j]? = some x → c[j]? = some v → RepX w S noMu v x

structure SRep (w : World) (S : Nat → Prop) (μ : Mu) (σ : Sto) : Prop where
  ob : ∀ k o, sget σ k = some o → ∃ pl c T, μ k = some pl ∧ ObRep w S μ o pl c T
  ne : ∀ k k' o o' pl pl', k ≠ k' → sget σ k = some o → sget σ k' = some o' → μ k = some pl → μ k' = some pl' → 0 < pl.cap → 0 < pl'.cap → pl.blk ≠ pl'.blk

theorem ObRep.ext {w w' : World} {S S' : Nat → Prop} {μ μ' : Mu} {o : Ob} {pl : Place} {c : Array Value} {T : TypeId} (h : ObRep w S μ o pl c T) (e : Ext w S μ w' S' μ')
    (hb : 0 < pl.cap → w'.heap[pl.blk]? = w.heap[pl.blk]?) (ho : 0 < pl.cap → ¬ S' pl.blk) : ObRep w' S' μ' o pl c T :=
  { h with
    blk := fun hc => (hb hc).trans (h.blk hc)
    out := ho
    rep := fun i j x v hi hx hv => (h.rep i j x v hi hx hv).mono e.stab e.blk (by
      cases o.pr
      · exact e.mu
      · exact fun _ _ h => h)
    mp := fun hz => let ⟨h0, h1, h2, h3, h4⟩ := h.mp hz
      ⟨h0, h1, h2, h3, fun j x v hx hv => (h4 j x v hx hv).mono e.stab e.blk (fun _ _ h => h)⟩ }

end Go.Ab

namespace Go.Ab

/-- The world in which a call began, what was stable then, the blocks that the call may write, where the captured objects lay, how many there are. -/
structure Env where
  w0 : World
  S0 : Nat → Prop
  fp : Nat → Prop
  μ0 : Mu
  m0 : Nat

/-- Nothing has changed but in blocks that may be written, and in new ones. -/
structure Fr (w0 : World) (fp : Nat → Prop) (w : World) : Prop where
  os : w.os = w0.os
  tape : w.tape = w0.tape
  output : w.output = w0.output
  size : w0.heap.size ≤ w.heap.size
  blk : ∀ b, b < w0.heap.size → ¬ fp b → w.heap[b]? = w0.heap[b]?

theorem Fr.refl (w : World) (fp : Nat → Prop) : Fr w fp w := ⟨rfl, rfl, rfl, Nat.le_refl _, fun _ _ _ => rfl⟩

structure Good (E : Env) (σ : Sto) (S : Nat → Prop) (μ : Mu) (w : World) : Prop where
  fr : Fr E.w0 E.fp w
  S0 : ∀ b, E.S0 b → S b
  S1 : ∀ b, S b → b < w.heap.size
  S2 : ∀ b, S b → E.S0 b ∨ E.w0.heap.size ≤ b
  rep : SRep w S μ σ
  own : ∀ k o pl, sget σ k = some o → μ k = some pl → 0 < pl.cap → E.fp pl.blk ∨ E.w0.heap.size ≤ pl.blk
  mu0 : ∀ k, k < E.m0 → μ k = E.μ0 k

theorem lt_of_blk {w : World} {b : Nat} {o : Obj} (h : w.heap[b]? = some o) : b < w.heap.size := (Array.getElem?_eq_some_iff.1 h).1

def muSet (μ : Mu) (k : Nat) (pl : Place) : Mu := fun n => if n = k then some pl else μ n

theorem heap_push_lt {w : World} {o : Obj} {b : Nat} (h : b < w.heap.size) : (w.alloc o).heap[b]? = w.heap[b]? := heap_alloc_old w o b h
/-- A new block that becomes an object of the store. -/
theorem Good.alloc {E : Env} {σ : Sto} {S : Nat → Prop} {μ : Mu} {w : World} (g : Good E σ S μ w) {nk : Nat} (hk : μ nk = none) (hm : E.m0 ≤ nk) (c : Array Value) (T : TypeId) (o : Ob) (cap : Nat)
    (hcap : cap * o.sz ≤ c.size) (hlen : o.len ≤ cap) (hels : ∀ i, i < o.len → (o.get i).length = o.sz)
    (hrep : ∀ i j x v, i < o.len → (o.get i)[j]? = some x → c[i * o.sz + j]? = some v → RepX w S (if o.pr then noMu else μ) v x) (hsz0 : o.sz ≠ 0) :
    Ext w S μ (w.alloc (.cells c T)) S (muSet μ nk ⟨w.heap.size, cap, o.sz⟩) ∧ Good E (sset σ nk o) S (muSet μ nk ⟨w.heap.size, cap, o.sz⟩) (w.alloc (.cells c T)) := by
  have e : Ext w S μ (w.alloc (.cells c T)) S (muSet μ nk ⟨w.heap.size, cap, o.sz⟩) :=
    ⟨by simp, fun _ h => h, fun b hb => heap_push_lt (g.S1 b hb), fun k pl h => by
      unfold muSet
      split
      · rename_i hkn; rw [hkn, hk] at h; cases h
      · exact h⟩
  refine ⟨e, ⟨⟨g.fr.os, g.fr.tape, g.fr.output, by have := g.fr.size; simp; omega, fun b hb hf => (heap_push_lt (Nat.lt_of_lt_of_le hb g.fr.size)).trans (g.fr.blk b hb hf)⟩,
    g.S0, fun b hb => by have := g.S1 b hb; simp; omega, g.S2, ⟨?_, ?_⟩, ?_, fun k hk' => ?_⟩⟩
  · intro k x hx
    rw [sget_sset] at hx
    by_cases hkn : nk = k
    · rw [if_pos hkn] at hx
      cases hx
      refine ⟨⟨w.heap.size, cap, o.sz⟩, c, T, by simp [muSet, hkn], rfl, fun _ => (heap_alloc_new w _).trans (by rw [blkObj_row hsz0]), hcap, hlen, fun _ hS => Nat.lt_irrefl _ (g.S1 _ hS), hels, ?_, fun h => absurd h hsz0⟩
      intro i j x v hi hx hv
      refine (hrep i j x v hi hx hv).mono e.stab e.blk ?_
      cases o.pr
      · exact e.mu
      · exact fun _ _ h => h
    · rw [if_neg hkn] at hx
      obtain ⟨pl, c', T', hm', ho⟩ := g.rep.ob k x hx
      exact ⟨pl, c', T', e.mu _ _ hm', ho.ext e (fun hc => heap_push_lt (lt_of_blk (ho.blk hc))) ho.out⟩
  · intro k k' x x' pl pl' hne hx hx' hp hp' hc1 hc2
    rw [sget_sset] at hx hx'
    simp only [muSet] at hp hp'
    have lt : ∀ {k x pl}, nk ≠ k → sget σ k = some x → μ k = some pl → 0 < pl.cap → pl.blk < w.heap.size := fun {k x pl} _ hx hp hc => by
      obtain ⟨pl2, c', T', hm', ho⟩ := g.rep.ob k x hx
      rw [hp] at hm'; cases hm'; exact lt_of_blk (ho.blk hc)
    by_cases h1 : nk = k
    · have h2 : ¬ nk = k' := fun h => hne (h1.symm.trans h)
      rw [if_neg h2] at hx'
      rw [if_neg (fun h => h2 h.symm)] at hp'
      rw [if_pos h1.symm] at hp
      cases hp
      have := lt h2 hx' hp' hc2
      show w.heap.size ≠ _
      omega
    · rw [if_neg h1] at hx
      rw [if_neg (fun h => h1 h.symm)] at hp
      by_cases h2 : nk = k'
      · rw [if_pos h2.symm] at hp'
        cases hp'
        have := lt h1 hx hp hc1
        show _ ≠ w.heap.size
        omega
      · rw [if_neg h2] at hx'
        rw [if_neg (fun h => h2 h.symm)] at hp'
        exact g.rep.ne k k' x x' pl pl' hne hx hx' hp hp' hc1 hc2
  · intro k x pl hx hp hc
    rw [sget_sset] at hx
    simp only [muSet] at hp
    by_cases h1 : nk = k
    · rw [if_pos h1.symm] at hp
      cases hp
      exact .inr g.fr.size
    · rw [if_neg h1] at hx
      rw [if_neg (fun h => h1 h.symm)] at hp
      exact g.own k x pl hx hp hc
  · simp only [muSet]
    rw [if_neg (by omega)]
    exact g.mu0 k hk'

/-- A new block that is stable from the first. -/
theorem Good.allocStab {E : Env} {σ : Sto} {S : Nat → Prop} {μ : Mu} {w : World} (g : Good E σ S μ w) (o : Obj) :
    Ext w S μ (w.alloc o) (fun b => S b ∨ b = w.heap.size) μ ∧ Good E σ (fun b => S b ∨ b = w.heap.size) μ (w.alloc o) := by
  have e : Ext w S μ (w.alloc o) (fun b => S b ∨ b = w.heap.size) μ :=
    ⟨by simp, fun _ h => .inl h, fun b hb => heap_push_lt (g.S1 b hb), fun k pl h => h⟩
  refine ⟨e, ⟨⟨g.fr.os, g.fr.tape, g.fr.output, by have := g.fr.size; simp; omega, fun b hb hf => (heap_push_lt (Nat.lt_of_lt_of_le hb g.fr.size)).trans (g.fr.blk b hb hf)⟩,
    fun b h => .inl (g.S0 b h), fun b hb => ?_, fun b hb => ?_, ⟨?_, g.rep.ne⟩, g.own, g.mu0⟩⟩
  · rcases hb with hb | hb
    · have := g.S1 b hb; simp; omega
    · simp; omega
  · rcases hb with hb | hb
    · exact g.S2 b hb
    · exact .inr (hb ▸ g.fr.size)
  · intro k x hx
    obtain ⟨pl, c', T', hm', ho⟩ := g.rep.ob k x hx
    exact ⟨pl, c', T', hm', ho.ext e (fun hc => heap_push_lt (lt_of_blk (ho.blk hc))) (fun hc h => h.elim (ho.out hc) (by have := lt_of_blk (ho.blk hc); omega))⟩

/-- A draw changes no block. -/
theorem Good.drew {E : Env} {σ : Sto} {S : Nat → Prop} {μ : Mu} {w : World} (g : Good E σ S μ w) : Good E σ S μ w.drew :=
  ⟨⟨g.fr.os, g.fr.tape, g.fr.output, g.fr.size, g.fr.blk⟩, g.S0, g.S1, g.S2,
    ⟨fun k o h => let ⟨pl, c, T, hm, ho⟩ := g.rep.ob k o h
      ⟨pl, c, T, hm, ho.ext (w' := w.drew) ⟨Nat.le_refl _, fun _ h => h, fun _ _ => rfl, fun _ _ h => h⟩ (fun _ => rfl) ho.out⟩, g.rep.ne⟩, g.own, g.mu0⟩
theorem Ext.drew (w : World) (S : Nat → Prop) (μ : Mu) : Ext w S μ w.drew S μ := ⟨Nat.le_refl _, fun _ h => h, fun _ _ => rfl, fun _ _ h => h⟩

/-- An object is forgotten. -/
theorem Good.del {E : Env} {σ : Sto} {S : Nat → Prop} {μ : Mu} {w : World} (g : Good E σ S μ w) (k : Nat) : Good E (sdel σ k) S μ w := by
  have hs : ∀ n o, sget (sdel σ k) n = some o → sget σ n = some o := fun n o h => by
    rw [sget_sdel] at h
    split at h
    · cases h
    · exact h
  exact ⟨g.fr, g.S0, g.S1, g.S2, ⟨fun n o h => g.rep.ob n o (hs n o h), fun k k' o o' pl pl' hne h h' => g.rep.ne k k' o o' pl pl' hne (hs _ _ h) (hs _ _ h')⟩,
    fun k o pl h => g.own k o pl (hs _ _ h), g.mu0⟩

/-- The cells of an object's block are written anew, and the object with them. -/
theorem Good.write {E : Env} {σ : Sto} {S : Nat → Prop} {μ : Mu} {w : World} (g : Good E σ S μ w) {k : Nat} {o : Ob} (hs : sget σ k = some o) {pl : Place} {c : Array Value} {T : TypeId}
    (hm : μ k = some pl) (hcp : 0 < pl.cap) (ho : ObRep w S μ o pl c T) (hsz0 : o.sz ≠ 0) (o' : Ob) (c' : Array Value) (hsz : o'.sz = o.sz) (hc : c'.size = c.size) (hlen : o'.len ≤ pl.cap)
    (hels : ∀ i, i < o'.len → (o'.get i).length = o'.sz)
    (hrep : ∀ i j x v, i < o'.len → (o'.get i)[j]? = some x → c'[i * o'.sz + j]? = some v → RepX w S (if o'.pr then noMu else μ) v x) :
    Ext w S μ (w.setRow pl.blk c') S μ ∧ Good E (sset σ k o') S μ (w.setRow pl.blk c') := by
  have hsame : ∀ b, b ≠ pl.blk → (w.setRow pl.blk c').heap[b]? = w.heap[b]? := fun b hb => by
    simp only [World.setRow, Array.getElem?_modify]
    rw [if_neg (fun h => hb h.symm)]
  have e : Ext w S μ (w.setRow pl.blk c') S μ :=
    ⟨by simp, fun _ h => h, fun b hb => hsame b fun h => ho.out hcp (h ▸ hb), fun _ _ h => h⟩
  refine ⟨e, ⟨⟨g.fr.os, g.fr.tape, g.fr.output, by have := g.fr.size; simpa using this, fun b hb hf => ?_⟩, g.S0, fun b hb => by simpa using g.S1 b hb, g.S2, ⟨?_, ?_⟩, ?_, g.mu0⟩⟩
  · rw [hsame b, g.fr.blk b hb hf]
    rintro rfl
    rcases g.own k o pl hs hm hcp with h | h
    · exact hf h
    · omega
  · intro n x hx
    rw [sget_sset] at hx
    by_cases hkn : k = n
    · rw [if_pos hkn] at hx
      cases hx
      refine ⟨pl, c', T, hkn ▸ hm, ho.sz.trans hsz.symm, fun _ => (setRow_heap w _ c c' T (0, 0) ((ho.blk hcp).trans (by rw [blkObj_row hsz0]))).trans (by rw [blkObj_row (by rw [hsz]; exact hsz0)]), ?_, hlen, ho.out, hels, ?_, fun h => absurd (hsz ▸ h) hsz0⟩
      · rw [hsz, hc]; exact ho.cap
      · intro i j x v hi hx hv
        refine (hrep i j x v hi hx hv).mono e.stab e.blk ?_
        cases o'.pr
        · exact e.mu
        · exact fun _ _ h => h
    · rw [if_neg hkn] at hx
      obtain ⟨pl2, c2, T2, hm2, ho2⟩ := g.rep.ob n x hx
      exact ⟨pl2, c2, T2, hm2, ho2.ext e (fun hc => hsame _ (g.rep.ne n k x o pl2 pl (fun h => hkn h.symm) hx hs hm2 hm hc hcp)) ho2.out⟩
  · intro n n' x x' p p' hne hx hx' hp hp' hc1 hc2
    rw [sget_sset] at hx hx'
    have f : ∀ {n x}, (if k = n then some o' else sget σ n) = some x → ∃ y, sget σ n = some y := fun {n x} h => by
      split at h
      · rename_i hh; exact ⟨o, hh ▸ hs⟩
      · exact ⟨_, h⟩
    obtain ⟨y, hy⟩ := f hx
    obtain ⟨y', hy'⟩ := f hx'
    exact g.rep.ne n n' y y' p p' hne hy hy' hp hp' hc1 hc2
  · intro n x p hx hp hc
    rw [sget_sset] at hx
    split at hx
    · rename_i hh; subst hh; exact g.own _ o p hs hp hc
    · exact g.own n x p hx hp hc

/-- An object's block is written anew, and the object with it: any block. -/
theorem Good.writeAt {E : Env} {σ : Sto} {S : Nat → Prop} {μ : Mu} {w w' : World} (g : Good E σ S μ w) {k : Nat} {o : Ob} (hs : sget σ k = some o) {pl : Place} {c : Array Value} {T : TypeId}
    (hm : μ k = some pl) (hcp : 0 < pl.cap) (ho : ObRep w S μ o pl c T) (h1 : w'.os = w.os) (h2 : w'.tape = w.tape) (h3 : w'.output = w.output) (h4 : w'.heap.size = w.heap.size) (hsame : ∀ b, b ≠ pl.blk → w'.heap[b]? = w.heap[b]?)
    (o' : Ob) (hnew : Ext w S μ w' S μ → ∃ c' T', ObRep w' S μ o' pl c' T') : Ext w S μ w' S μ ∧ Good E (sset σ k o') S μ w' := by
  have e : Ext w S μ w' S μ := ⟨by omega, fun _ h => h, fun b hb => hsame b fun h => ho.out hcp (h ▸ hb), fun _ _ h => h⟩
  refine ⟨e, ⟨⟨h1.trans g.fr.os, h2.trans g.fr.tape, h3.trans g.fr.output, by have := g.fr.size; omega, fun b hb hf => ?_⟩, g.S0, fun b hb => by rw [h4]; exact g.S1 b hb, g.S2, ⟨?_, ?_⟩, ?_, g.mu0⟩⟩
  · rw [hsame b, g.fr.blk b hb hf]
    rintro rfl
    rcases g.own k o pl hs hm hcp with h | h
    · exact hf h
    · omega
  · intro n x hx
    rw [sget_sset] at hx
    by_cases hkn : k = n
    · rw [if_pos hkn] at hx
      cases hx
      obtain ⟨c', T', hn⟩ := hnew e
      exact ⟨pl, c', T', hkn ▸ hm, hn⟩
    · rw [if_neg hkn] at hx
      obtain ⟨pl2, c2, T2, hm2, ho2⟩ := g.rep.ob n x hx
      exact ⟨pl2, c2, T2, hm2, ho2.ext e (fun hc => hsame _ (g.rep.ne n k x o pl2 pl (fun h => hkn h.symm) hx hs hm2 hm hc hcp)) ho2.out⟩
  · intro n n' x x' p p' hne hx hx' hp hp' hc1 hc2
    rw [sget_sset] at hx hx'
    have f : ∀ {n x}, (if k = n then some o' else sget σ n) = some x → ∃ y, sget σ n = some y := fun {n x} h => by
      split at h
      · rename_i hh; exact ⟨o, hh ▸ hs⟩
      · exact ⟨_, h⟩
    obtain ⟨y, hy⟩ := f hx
    obtain ⟨y', hy'⟩ := f hx'
    exact g.rep.ne n n' y y' p p' hne hy hy' hp hp' hc1 hc2
  · intro n x p hx hp hc
    rw [sget_sset] at hx
    split at hx
    · rename_i hh; subst hh; exact g.own _ o p hs hp hc
    · exact g.own n x p hx hp hc

/-- A new map. -/
theorem Good.allocMap {E : Env} {σ : Sto} {S : Nat → Prop} {μ : Mu} {w : World} (g : Good E σ S μ w) {nk : Nat} (hk : μ nk = none) (hm : E.m0 ≤ nk) :
    Ext w S μ (w.alloc (.map #[] 0)) S (muSet μ nk ⟨w.heap.size, 1, 0⟩) ∧ Good E (sset σ nk ⟨false, 0, 0, true, fun _ => []⟩) S (muSet μ nk ⟨w.heap.size, 1, 0⟩) (w.alloc (.map #[] 0)) := by
  have hold : ∀ b, b < w.heap.size → (w.alloc (.map #[] 0)).heap[b]? = w.heap[b]? := fun b h => heap_push_lt h
  have e : Ext w S μ (w.alloc (.map #[] 0)) S (muSet μ nk ⟨w.heap.size, 1, 0⟩) :=
    ⟨by simp, fun _ h => h, fun b hb => hold b (g.S1 b hb), fun k pl h => by
      unfold muSet
      split
      · rename_i hkn; rw [hkn, hk] at h; cases h
      · exact h⟩
  have lt : ∀ {k x pl}, sget σ k = some x → μ k = some pl → 0 < pl.cap → pl.blk < w.heap.size := fun {k x pl} hx hp hc => by
    obtain ⟨pl2, c', T', hm', ho⟩ := g.rep.ob k x hx
    rw [hp] at hm'; cases hm'; exact lt_of_blk (ho.blk hc)
  refine ⟨e, ⟨⟨g.fr.os, g.fr.tape, g.fr.output, by have := g.fr.size; simp; omega, fun b hb hf => (hold b (Nat.lt_of_lt_of_le hb g.fr.size)).trans (g.fr.blk b hb hf)⟩,
    g.S0, fun b hb => by have := g.S1 b hb; simp; omega, g.S2, ⟨?_, ?_⟩, ?_, fun k hk' => ?_⟩⟩
  · intro k x hx
    rw [sget_sset] at hx
    by_cases hkn : nk = k
    · rw [if_pos hkn] at hx
      cases hx
      refine ⟨⟨w.heap.size, 1, 0⟩, #[], 0, by simp [muSet, hkn], rfl, fun _ => (heap_alloc_new w _).trans (by simp [blkObj, entsOf]), by simp, by simp, fun _ hS => Nat.lt_irrefl _ (g.S1 _ hS), fun i hi => absurd hi (Nat.not_lt_zero _), fun i j x v hi => absurd hi (Nat.not_lt_zero _), fun _ => ⟨Nat.one_pos, rfl, rfl, rfl, fun j x v hx => by simp at hx⟩⟩
    · rw [if_neg hkn] at hx
      obtain ⟨pl, c', T', hm', ho⟩ := g.rep.ob k x hx
      exact ⟨pl, c', T', e.mu _ _ hm', ho.ext e (fun hc => hold _ (lt_of_blk (ho.blk hc))) ho.out⟩
  · intro k k' x x' pl pl' hne hx hx' hp hp' hc1 hc2
    rw [sget_sset] at hx hx'
    simp only [muSet] at hp hp'
    by_cases h1 : nk = k
    · have h2 : ¬ nk = k' := fun h => hne (h1.symm.trans h)
      rw [if_neg h2] at hx'
      rw [if_neg (fun h => h2 h.symm)] at hp'
      rw [if_pos h1.symm] at hp
      cases hp
      have := lt hx' hp' hc2
      show w.heap.size ≠ _
      omega
    · rw [if_neg h1] at hx
      rw [if_neg (fun h => h1 h.symm)] at hp
      by_cases h2 : nk = k'
      · rw [if_pos h2.symm] at hp'
        cases hp'
        have := lt hx hp hc1
        show _ ≠ w.heap.size
        omega
      · rw [if_neg h2] at hx'
        rw [if_neg (fun h => h2 h.symm)] at hp'
        exact g.rep.ne k k' x x' pl pl' hne hx hx' hp hp' hc1 hc2
  · intro k x pl hx hp hc
    rw [sget_sset] at hx
    simp only [muSet] at hp
    by_cases h1 : nk = k
    · rw [if_pos h1.symm] at hp
      cases hp
      exact .inr g.fr.size
    · rw [if_neg h1] at hx
      rw [if_neg (fun h => h1 h.symm)] at hp
      exact g.own k x pl hx hp hc
  · simp only [muSet]
    rw [if_neg (by omega)]
    exact g.mu0 k hk'

end Go.Ab

namespace Go.Ab

def AllP : List Prop → Prop
  | [] => True
  | p :: ps => p ∧ AllP ps

theorem AllP.app {a b : List Prop} (h : AllP (a ++ b)) : AllP a ∧ AllP b := by
  induction a with
  | nil => exact ⟨trivial, h⟩
  | cons p ps ih => exact ⟨⟨h.1, (ih h.2).1⟩, (ih h.2).2⟩

def AV.strip : AV → AV × List Prop
  | .when b x => (x.strip.1, (b = true) :: x.strip.2)
  | x => (x, [])

theorem RepX.strip {w : World} {S : Nat → Prop} {μ : Mu} {v : Value} {x : AV} (h : RepX w S μ v x) : AllP x.strip.2 → RepX w S μ v x.strip.1 := by
  induction h with
  | when h1 _ ih => exact fun hp => ih hp.1 hp.2
  | atom v => exact fun _ => .atom v
  | agg h1 h2 _ => exact fun _ => .agg h1 h2
  | tup h1 h2 _ => exact fun _ => .tup h1 h2
  | sl b off sz f h1 h2 h3 h4 h5 _ => exact fun _ => .sl b off sz f h1 h2 h3 h4 h5
  | rp b o f h1 h2 h3 _ => exact fun _ => .rp b o f h1 h2 h3
  | op pl h => exact fun _ => .op pl h
  | os pl h h1 h2 h3 => exact fun _ => .os pl h h1 h2 h3
  | fn h1 h2 h3 h4 _ _ => exact fun _ => .fn h1 h2 h3 h4
  | mp pl h => exact fun _ => .mp pl h
  | bn b h => exact fun _ => .bn b h
  | pt h1 h2 _ => exact fun _ => .pt h1 h2
  | nil => exact fun _ => .nil
  | unk => exact fun _ => .unk

/-- The value takes one cell. -/
def AV.one : AV → Bool
  | .atom v => match v with
    | .agg _ | .tuple _ => false
    | _ => true
  | .sl _ _ | .rp _ _ | .op _ _ _ | .os _ _ _ | .fn _ _ _ | .mp _ | .bn _ | .pt _ _ | .nil => true
  | _ => false

theorem RepX.oneCell {w : World} {S : Nat → Prop} {μ : Mu} {v : Value} {x : AV} (h : RepX w S μ v x) (hx : x.one = true) : v.oneCell' = true := by
  cases h with
  | atom => cases v <;> simp_all [AV.one, Value.oneCell']
  | pt h1 h2 =>
    rename_i b cs
    cases b with
    | false => rw [h2 rfl]; rfl
    | true => have := h1 rfl; cases this; rfl
  | _ => first | rfl | (simp [AV.one] at hx; done)

def AV.oneL : List AV → Bool
  | [] => true
  | c :: cs => c.one && AV.oneL cs
theorem oneL_get {cs : List AV} (h : AV.oneL cs = true) {j : Nat} {c : AV} (hc : cs[j]? = some c) : c.one = true := by
  induction cs generalizing j with
  | nil => simp at hc
  | cons x xs ih =>
    simp only [AV.oneL, Bool.and_eq_true] at h
    cases j with
    | zero => simp at hc; exact hc ▸ h.1
    | succ j => exact ih h.2 (by simpa using hc)

/-- The cells of a value. -/
def AV.cells : AV → Option (List AV)
  | .agg cs => some cs
  | .atom v => match v with
    | .agg _ | .tuple _ => none
    | v => some [.atom v]
  | .sl n g => some [.sl n g]
  | .rp c o => some [.rp c o]
  | .op k i j => some [.op k i j]
  | .os k o n => some [.os k o n]
  | .fn f a b => some [.fn f a b]
  | .mp k => some [.mp k]
  | .bn n => some [.bn n]
  | .pt b cs => some [.pt b cs]
  | .nil => some [.nil]
  | _ => none

theorem cells_one {v : Value} (h : v.oneCell' = true) : v.cells = #[v] := by
  cases v <;> simp_all [Value.oneCell', Value.cells]

theorem RepX.cells {w : World} {S : Nat → Prop} {μ : Mu} {v : Value} {x : AV} (h : RepX w S μ v x) {cs : List AV} (hc : x.cells = some cs) :
    v.cells.size = cs.length ∧ ∀ (j : Nat) (c : AV) (u : Value), cs[j]? = some c → v.cells[j]? = some u → RepX w S μ u c := by
  have one : ∀ {x : AV}, RepX w S μ v x → x.one = true → cs = [x] → v.cells.size = cs.length ∧ ∀ (j : Nat) (c : AV) (u : Value), cs[j]? = some c → v.cells[j]? = some u → RepX w S μ u c := by
    intro x h h1 h2
    rw [cells_one (h.oneCell h1), h2]
    refine ⟨rfl, ?_⟩
    intro j c u hj hu
    cases j with
    | zero => simp at hj hu; exact hj ▸ hu ▸ h
    | succ j => simp at hj
  cases x with
  | agg l =>
    cases hc
    cases h with
    | agg h1 h2 => exact ⟨h1, fun j c u hj hu => h2 j c u hj hu⟩
  | atom u =>
    have hu : (AV.atom u).one = true := by cases u <;> simp_all [AV.cells, AV.one]
    exact one h hu (by cases u <;> simp_all [AV.cells])
  | sl => exact one h rfl (by simpa [AV.cells] using hc.symm)
  | rp => exact one h rfl (by simpa [AV.cells] using hc.symm)
  | op => exact one h rfl (by simpa [AV.cells] using hc.symm)
  | os => exact one h rfl (by simpa [AV.cells] using hc.symm)
  | fn => exact one h rfl (by simpa [AV.cells] using hc.symm)
  | mp => exact one h rfl (by simpa [AV.cells] using hc.symm)
  | bn => exact one h rfl (by simpa [AV.cells] using hc.symm)
  | pt => exact one h rfl (by simpa [AV.cells] using hc.symm)
  | nil => exact one h rfl (by simpa [AV.cells] using hc.symm)
  | _ => simp [AV.cells] at hc

/-- A value of the text. -/
def ofConst1 : Value → AV
  | .slice none 0 0 => .nil
  | .func f vs ws => if vs.size = 0 ∧ ws.size = 0 then .fn f [] [] else .atom (.func f vs ws)
  | v => .atom v
def ofConst : Value → AV
  | .agg vs => .agg (vs.toList.map ofConst1)
  | .tuple vs => .tup (vs.toList.map ofConst1)
  | v => ofConst1 v

theorem rep_const1 (w : World) (S : Nat → Prop) (μ : Mu) (v : Value) : RepX w S μ v (ofConst1 v) := by
  unfold ofConst1
  split
  · exact .nil
  · split
    · rename_i h
      exact .fn (by simpa using h.1) (by simpa using h.2) (fun j c v hc => by simp at hc) (fun j c v hc => by simp at hc)
    · exact .atom _
  · exact .atom _
theorem rep_const (w : World) (S : Nat → Prop) (μ : Mu) (v : Value) : RepX w S μ v (ofConst v) := by
  have f : ∀ (vs : Array Value) (j : Nat) (c : AV) (u : Value), (vs.toList.map ofConst1)[j]? = some c → vs[j]? = some u → RepX w S μ u c := by
    intro vs j c u hc hu
    have hu' : vs.toList[j]? = some u := by simpa using hu
    rw [List.getElem?_map, hu'] at hc
    simp at hc
    exact hc ▸ rep_const1 w S μ u
  unfold ofConst
  split
  · exact .agg (by simp) (f _)
  · exact .tup (by simp) (f _)
  · exact rep_const1 w S μ _

/-! ### Types -/
def tSz (P : Program) (t : TypeId) : Option Nat := (P.info? t).map (·.size)
def tBytes (P : Program) (t : TypeId) : Option Nat := (P.info? t).map (·.bytes)
def tZero (P : Program) (t : TypeId) : Option Value := (P.info? t).bind (·.zero)

theorem run_sizeOf' {P : Program} {t n : Nat} (h : tSz P t = some n) (w : World) : (sizeOf t).run P w = .ok n w := by
  unfold tSz at h
  cases hi : P.info? t with
  | none => simp [hi] at h
  | some i => simp [hi] at h; simp [sizeOf, typeInfo, hi, h]
theorem run_zero' {P : Program} {t : Nat} {z : Value} (h : tZero P t = some z) (w : World) : (zeroValue t).run P w = .ok z w := by
  unfold tZero at h
  cases hi : P.info? t with
  | none => simp [hi] at h
  | some i => simp [hi] at h; simp [zeroValue, typeInfo, hi, h]
theorem info_of {P : Program} {t n b : Nat} {z : Value} (h : tSz P t = some n) (hb : tBytes P t = some b) (hz : tZero P t = some z) :
    ∃ i, P.info? t = some i ∧ i.size = n ∧ i.bytes = b ∧ i.zero = some z := by
  unfold tSz at h; unfold tBytes at hb; unfold tZero at hz
  cases hi : P.info? t with
  | none => simp [hi] at h
  | some i => simp [hi] at h hb hz; exact ⟨i, rfl, h, hb, hz⟩

/-! ### Numbers, comparisons -/
def evInt (op : BinOp) (k : IntKind) (a b : Int) : Option (List Prop × AV) :=
  match op with
  | .add => some ([], .atom (.int k (k.wrap (a + b))))
  | .sub => some ([], .atom (.int k (k.wrap (a - b))))
  | .mul => some ([], .atom (.int k (k.wrap (a * b))))
  | .quo => some ([b ≠ 0], .atom (.int k (k.wrap (a.tdiv b))))
  | .rem => some ([b ≠ 0], .atom (.int k (a.tmod b)))
  | .and => some ([], .atom (.int k (k.wrap (BitVec.ofInt k.bits a &&& BitVec.ofInt k.bits b).toNat)))
  | .or => some ([], .atom (.int k (k.wrap (BitVec.ofInt k.bits a ||| BitVec.ofInt k.bits b).toNat)))
  | .xor => some ([], .atom (.int k (k.wrap (BitVec.ofInt k.bits a ^^^ BitVec.ofInt k.bits b).toNat)))
  | .eql => some ([], .atom (.bool (a == b)))
  | .neq => some ([], .atom (.bool (a != b)))
  | .lss => some ([], .atom (.bool (decide (a < b))))
  | .leq => some ([], .atom (.bool (decide (a ≤ b))))
  | .gtr => some ([], .atom (.bool (decide (a > b))))
  | .geq => some ([], .atom (.bool (decide (a ≥ b))))
  | _ => none
def evShift (op : BinOp) (k : IntKind) (a b : Int) : Option (List Prop × AV) :=
  match op with
  | .shl => some ([0 ≤ b], .atom (.int k (k.wrap (a * 2 ^ (min b.toNat k.bits)))))
  | .shr => some ([0 ≤ b], .atom (.int k (a.fdiv (2 ^ (min b.toNat k.bits)))))
  | _ => none
def streq (a b : ByteArray) : Bool := a.toList == b.toList
def evStr (op : BinOp) (a b : ByteArray) : Option (List Prop × AV) :=
  match op with
  | .eql => some ([], .atom (.bool (streq a b)))
  | .neq => some ([], .atom (.bool (!streq a b)))
  | .lss => some ([], .atom (.bool (Op.bytesLess a.toList b.toList)))
  | .leq => some ([], .atom (.bool (Op.bytesLess a.toList b.toList || streq a b)))
  | .gtr => some ([], .atom (.bool (!(Op.bytesLess a.toList b.toList || streq a b))))
  | .geq => some ([], .atom (.bool (!Op.bytesLess a.toList b.toList)))
  | .add => some ([((a.size + b.size : Nat) : Int) ≤ IntKind.i64.max], .atom (.string (a ++ b)))
  | _ => none

def cellPart (P : Program) (t : TypeId) (cs : List AV) (off : Nat) : Option AV :=
  match P.underlying t, tSz P t with
  | some d, some n => match d.isRow with
    | true => some (.agg ((cs.drop off).take n))
    | false => cs[off]?
  | _, _ => none

theorem sat_stuck_part {P : Program} {w : World} {S : Nat → Prop} {μ : Mu} {vs : Array Value} {cs : List AV} (hs : vs.size = cs.length)
    (h : ∀ (j : Nat) (c : AV) (v : Value), cs[j]? = some c → vs[j]? = some v → RepX w S μ v c) {t off : Nat} {x : AV} (hx : cellPart P t cs off = some x)
    (hle : ∀ n, tSz P t = some n → off + n ≤ cs.length) :
    ∃ v, (part t vs off).run P w = .ok v w ∧ RepX w S μ v x := by
  unfold cellPart at hx
  cases hu : P.underlying t with
  | none => simp [hu] at hx
  | some d =>
    cases hn : tSz P t with
    | none => simp [hu, hn] at hx
    | some n =>
      have hle' := hle n hn
      cases hd : d.isRow with
      | true =>
        simp [hu, hn, hd] at hx
        have hagg : (isAgg t).run P w = .ok true w := by
          unfold isAgg
          rw [Sem.run_bind, run_underlying hu w]
          cases d <;> simp_all
        refine ⟨.agg (vs.extract off (off + n)), by simp [part, hagg, run_sizeOf' hn], ?_⟩
        rw [← hx]
        refine .agg (by simp; omega) ?_
        intro j c v hc hv
        have hj : j < n := by
          have : j < ((cs.drop off).take n).length := (List.getElem?_eq_some_iff.1 hc).1
          simp at this; omega
        rw [List.getElem?_take, if_pos hj, List.getElem?_drop] at hc
        have hv' : vs[off + j]? = some v := by
          rw [Array.getElem?_extract] at hv
          split at hv
          · exact hv
          · cases hv
        exact h _ _ _ hc hv'
      | false =>
        simp [hu, hn, hd] at hx
        have hagg : (isAgg t).run P w = .ok false w := by
          unfold isAgg
          rw [Sem.run_bind, run_underlying hu w]
          cases d <;> simp_all
        have hlt : off < vs.size := by rw [hs]; exact (List.getElem?_eq_some_iff.1 hx).1
        refine ⟨vs[off], by simp [part, hagg, Array.getElem?_eq_getElem hlt], ?_⟩
        exact h off x _ hx (Array.getElem?_eq_getElem hlt)


mutual
/-- '==' of two values of a type whose parts are numbers, texts and bools. -/
def evEq (P : Program) : Nat → TypeId → AV → AV → Option Bool
  | 0, _, _, _ => none
  | d + 1, t, x, y =>
    match P.underlying t with
    | some .bool => match x, y with
      | .atom (.bool a), .atom (.bool b) => some (a == b)
      | _, _ => none
    | some (.int _) => match x, y with
      | .atom (.int k a), .atom (.int k' b) => match decide (k = k') with
        | true => some (a == b)
        | false => none
      | _, _ => none
    | some .string => match x, y with
      | .atom (.string a), .atom (.string b) => some (streq a b)
      | _, _ => none
    | some (.struct fs) => match x, y with
      | .agg xs, .agg ys => match P.stoodInHeld t with
        | false => evEqF P d xs ys fs.toList
        | true => none
      | _, _ => none
    | some (.array n e) => match x, y, tSz P e with
      | .agg xs, .agg ys, some m => evEqA P d e m xs ys 0 n
      | _, _, _ => none
    | _ => none
def evEqF (P : Program) : Nat → List AV → List AV → List Field → Option Bool
  | _, _, _, [] => some true
  | 0, _, _, _ => none
  | d + 1, xs, ys, f :: fs =>
    match decide (f.name = "_"), tSz P f.type with
    | false, some n => match Nat.ble (f.offset + n) xs.length && Nat.ble (f.offset + n) ys.length, cellPart P f.type xs f.offset, cellPart P f.type ys f.offset with
      | true, some a, some b => match evEq P d f.type a b, evEqF P d xs ys fs with
        | some p, some q => some (p && q)
        | _, _ => none
      | _, _, _ => none
    | _, _ => none
def evEqA (P : Program) : Nat → TypeId → Nat → List AV → List AV → Nat → Nat → Option Bool
  | _, _, _, _, _, _, 0 => some true
  | 0, _, _, _, _, _, _ => none
  | d + 1, e, m, xs, ys, i, n + 1 =>
    match Nat.ble (i * m + m) xs.length && Nat.ble (i * m + m) ys.length, cellPart P e xs (i * m), cellPart P e ys (i * m) with
    | true, some a, some b => match evEq P d e a b, evEqA P d e m xs ys (i + 1) n with
      | some p, some q => some (p && q)
      | _, _ => none
    | _, _, _ => none
end

end Go.Ab

namespace Go.Ab

theorem rep_int {w : World} {S : Nat → Prop} {μ : Mu} {v u : Value} (h : RepX w S μ v (.atom u)) : v = u := by cases h; rfl
theorem rep_agg {w : World} {S : Nat → Prop} {μ : Mu} {v : Value} {cs : List AV} (h : RepX w S μ v (.agg cs)) :
    ∃ vs : Array Value, v = .agg vs ∧ vs.size = cs.length ∧ ∀ (j : Nat) (c : AV) (u : Value), cs[j]? = some c → vs[j]? = some u → RepX w S μ u c := by
  cases h with
  | agg h1 h2 => exact ⟨_, rfl, h1, h2⟩

section
variable {P : Program} {w : World} {S : Nat → Prop} {μ : Mu}

theorem fieldsOf_of {t : TypeId} {fs : Array Field} (h : P.underlying t = some (.struct fs)) : P.fieldsOf t = fs := by
  simp [Program.fieldsOf, h]

theorem ev_eq : ∀ d : Nat,
    (∀ D t x y v u b, d ≤ D → RepX w S μ v x → RepX w S μ u y → evEq P d t x y = some b → (Op.equalIn D t v u).run P w = .ok b w) ∧
    (∀ D (vs us : Array Value) xs ys fs b, d ≤ D → vs.size = xs.length → (∀ (j : Nat) c z, xs[j]? = some c → vs[j]? = some z → RepX w S μ z c) → us.size = ys.length →
      (∀ (j : Nat) c z, ys[j]? = some c → us[j]? = some z → RepX w S μ z c) → evEqF P d xs ys fs = some b → (Op.eqFields D vs us fs).run P w = .ok b w) ∧
    (∀ D (vs us : Array Value) e m xs ys i n b, d ≤ D → tSz P e = some m → vs.size = xs.length → (∀ (j : Nat) c z, xs[j]? = some c → vs[j]? = some z → RepX w S μ z c) → us.size = ys.length →
      (∀ (j : Nat) c z, ys[j]? = some c → us[j]? = some z → RepX w S μ z c) → evEqA P d e m xs ys i n = some b →
      (forIn (m := Sem) (List.range' i n) ((none, ()) : Option Bool × Unit) fun i _ => do
            let p ← part e vs (i * m)
            let q ← part e us (i * m)
            let r ← Op.equalIn D e p q
            if (!r) = true then pure (ForInStep.done (some false, ())) else pure (ForInStep.yield (none, ()))).run P w = .ok (if b then none else some false, ()) w) := by
  intro d
  induction d with
  | zero =>
    refine ⟨fun D t x y v u b _ _ _ h => by simp [evEq] at h, ?_, ?_⟩
    · intro D vs us xs ys fs b _ _ _ _ _ h
      cases fs with
      | nil => simp [evEqF] at h; subst h; simp [Op.eqFields]
      | cons f fs => simp [evEqF] at h
    · intro D vs us e m xs ys i n b _ _ _ _ _ _ h
      cases n with
      | zero => simp [evEqA] at h; subst h; simp
      | succ n => simp [evEqA] at h
  | succ d ih =>
    obtain ⟨ih1, ih2, ih3⟩ := ih
    refine ⟨?_, ?_, ?_⟩
    · intro D t x y v u b hD hx hy h
      obtain ⟨D, rfl⟩ : ∃ D', D = D' + 1 := ⟨D - 1, by omega⟩
      simp only [evEq] at h
      split at h
      · rename_i hu
        split at h
        · cases hx; cases hy
          simp at h; subst h
          simp [Op.equalIn, run_underlying hu]
        · cases h
      · rename_i hu
        split at h
        · rename_i k a k' b'
          cases hx; cases hy
          by_cases hk : k = k'
          · simp [hk] at h; subst h
            simp [Op.equalIn, run_underlying hu, hk]
          · simp [hk] at h
        · cases h
      · rename_i hu
        split at h
        · cases hx; cases hy
          simp at h; subst h
          rw [run_equalIn_string w D t _ _ hu]; rfl
        · cases h
      · rename_i fs hu
        split at h
        · split at h
          · rename_i hst
            obtain ⟨vs, rfl, hv1, hv2⟩ := rep_agg hx
            obtain ⟨us, rfl, hu1, hu2⟩ := rep_agg hy
            have hf := fieldsOf_of hu
            rw [run_equalIn_struct w D t vs us (hf ▸ hu) hst, hf]
            exact ih2 D vs us _ _ _ b (by omega) hv1 hv2 hu1 hu2 h
          · cases h
        · cases h
      · rename_i n e hu
        split at h
        · rename_i m hm
          obtain ⟨vs, rfl, hv1, hv2⟩ := rep_agg hx
          obtain ⟨us, rfl, hu1, hu2⟩ := rep_agg hy
          simp only [Op.equalIn, Sem.run_bind, run_underlying hu, Result.andThen_ok, run_sizeOf' hm]
          rw [Std.Legacy.Range.forIn_eq_forIn_range']
          simp only [Std.Legacy.Range.size, Nat.sub_zero, Nat.add_sub_cancel, Nat.div_one]
          rw [ih3 D vs us e m _ _ 0 n b (by omega) hm hv1 hv2 hu1 hu2 h]
          cases b <;> simp
        · cases h
      · cases h
    · intro D vs us xs ys fs b hD hv1 hv2 hu1 hu2 h
      cases fs with
      | nil => simp [evEqF] at h; subst h; simp [Op.eqFields]
      | cons f fs =>
        simp only [evEqF] at h
        split at h
        · rename_i n hname hn
          split at h
          · rename_i a c hle ha hc
            split at h
            · rename_i p q hp hq
              simp only [Bool.and_eq_true, Nat.ble_eq] at hle
              have hle1 : ∀ n', tSz P f.type = some n' → f.offset + n' ≤ xs.length := fun n' h' => by rw [hn] at h'; cases h'; exact hle.1
              have hle2 : ∀ n', tSz P f.type = some n' → f.offset + n' ≤ ys.length := fun n' h' => by rw [hn] at h'; cases h'; exact hle.2
              obtain ⟨v1, r1, x1⟩ := sat_stuck_part hv1 hv2 ha hle1
              obtain ⟨v2, r2, x2⟩ := sat_stuck_part hu1 hu2 hc hle2
              have e1 := ih1 D f.type a c v1 v2 p (by omega) x1 x2 hp
              have e2 := ih2 D vs us xs ys fs q (by omega) hv1 hv2 hu1 hu2 hq
              have hne : f.name ≠ "_" := of_decide_eq_false hname
              simp at h; subst h
              simp only [Op.eqFields, if_pos hne, Sem.run_bind, r1, r2, e1, Result.andThen_ok]
              cases p
              · simp
              · simp [e2]
            · cases h
          · cases h
        · cases h
    · intro D vs us e m xs ys i n b hD hm hv1 hv2 hu1 hu2 h
      cases n with
      | zero => simp [evEqA] at h; subst h; simp
      | succ n =>
        simp only [evEqA] at h
        split at h
        · rename_i a c hle ha hc
          split at h
          · rename_i p q hp hq
            simp only [Bool.and_eq_true, Nat.ble_eq] at hle
            have hle1 : ∀ n', tSz P e = some n' → i * m + n' ≤ xs.length := fun n' h' => by rw [hm] at h'; cases h'; exact hle.1
            have hle2 : ∀ n', tSz P e = some n' → i * m + n' ≤ ys.length := fun n' h' => by rw [hm] at h'; cases h'; exact hle.2
            obtain ⟨v1, r1, x1⟩ := sat_stuck_part hv1 hv2 ha hle1
            obtain ⟨v2, r2, x2⟩ := sat_stuck_part hu1 hu2 hc hle2
            have e1 := ih1 D e a c v1 v2 p (by omega) x1 x2 hp
            have e2 := ih3 D vs us e m xs ys (i + 1) n q (by omega) hm hv1 hv2 hu1 hu2 hq
            simp at h; subst h
            rw [List.range'_succ, List.forIn_cons]
            simp only [Sem.run_bind, r1, r2, e1, Result.andThen_ok]
            cases p
            · simp
            · simpa using e2
          · cases h
        · cases h

/-- A comparison with nil. -/
def nilB (o : BinOp) (q : Bool) : Option AV :=
  match o with
  | .eql => some (.atom (.bool q))
  | .neq => some (.atom (.bool (!q)))
  | _ => none
def isNilP : AV → Bool
  | .atom v => match v with
    | .pointer none => true
    | _ => false
  | _ => false
def evNil (P : Program) (o : BinOp) (t : TypeId) (x y : AV) : Option AV :=
  match P.underlying t, y with
  | some (.slice _), .nil => match x with
    | .nil => nilB o true
    | .sl n _ | .os _ _ n => match o with
      | .eql => some (.bn n)
      | _ => none
    | _ => none
  | some (.pointer _), y => match isNilP y with
    | true => match x with
      | .atom v => match v with
        | .pointer none => nilB o true
        | _ => none
      | .rp _ _ | .op _ _ _ => nilB o false
      | .pt b _ => nilB o (!b)
      | _ => none
    | false => none
  | _, _ => none
theorem eqGuard_other (op : BinOp) (t : TypeId) (x y : Operand) (a b : Value) (h1 : a ≠ .nilIface) (h2 : ∀ c, a ≠ .agg c) : (eqGuard op t x y a b).run P w = .ok () w := by
  unfold eqGuard
  cases op <;> simp <;> (cases a <;> simp_all)
theorem run_eqS {o : BinOp} {t : TypeId} {a b : Option Addr} {l c l' c' : Nat} {q : Bool} (h : (Op.equal t (.slice a l c) (.slice b l' c')).run P w = .ok q w) {r : AV} (hr : nilB o q = some r) : ∃ z, (binOp o t (.slice a l c) (.slice b l' c')).run P w = .ok z w ∧ RepX w S μ z r := by
  cases o <;> simp only [nilB, Option.some.injEq, reduceCtorEq] at hr <;> subst hr
  · exact ⟨.bool q, by simp only [binOp, Sem.run_bind, h]; rfl, .atom _⟩
  · exact ⟨.bool (!q), by simp only [binOp, Sem.run_bind, h]; rfl, .atom _⟩
theorem run_eqP {o : BinOp} {t : TypeId} {a : Option Addr} {q : Bool} (h : (Op.equal t (.pointer a) (.pointer none)).run P w = .ok q w) {r : AV} (hr : nilB o q = some r) : ∃ z, (binOp o t (.pointer a) (.pointer none)).run P w = .ok z w ∧ RepX w S μ z r := by
  cases o <;> simp only [nilB, Option.some.injEq, reduceCtorEq] at hr <;> subst hr
  · exact ⟨.bool q, by simp only [binOp, Sem.run_bind, h]; rfl, .atom _⟩
  · exact ⟨.bool (!q), by simp only [binOp, Sem.run_bind, h]; rfl, .atom _⟩
theorem ev_nil {op : BinOp} {t : TypeId} {x y : AV} {xo yo : Operand} {v u : Value} (hx : RepX w S μ v x) (hy : RepX w S μ u y) {r : AV} (h : evNil P op t x y = some r) :
    ∃ z, (do eqGuard op t xo yo v u; binOp op t v u : Sem Value).run P w = .ok z w ∧ RepX w S μ z r := by
  have gd : ∀ (v u : Value), v ≠ .nilIface → (∀ c, v ≠ .agg c) → (∃ z, (binOp op t v u).run P w = .ok z w ∧ RepX w S μ z r) → ∃ z, (do eqGuard op t xo yo v u; binOp op t v u : Sem Value).run P w = .ok z w ∧ RepX w S μ z r := by
    intro v u h1 h2 h3
    have hg := eqGuard_other (P := P) (w := w) op t xo yo v u h1 h2
    simpa only [Sem.run_bind, hg, Result.andThen_ok] using h3
  unfold evNil at h
  split at h
  · rename_i e ht
    cases hy
    have sl : ∀ (a : Option Addr) (l c : Nat), (Op.equal t (.slice a l c) (.slice none 0 0)).run P w = .ok a.isNone w := by
      intro a l c
      unfold Op.equal Op.maxDepth Op.equalIn
      rw [Sem.run_bind, run_underlying ht]
      cases a <;> rfl
    split at h
    · cases hx
      exact gd _ _ (by simp) (by simp) (run_eqS (sl none 0 0) h)
    · split at h
      · cases h
        cases hx with
        | sl b off sz f h1 h2 h3 h4 h5 =>
          rename_i a cap
          refine gd _ _ (by simp) (by simp) ⟨.bool a.isNone, ?_, .bn _ fun hn => ?_⟩
          · simp only [binOp, Sem.run_bind, sl]; rfl
          · refine Nat.eq_zero_of_not_pos fun h0 => ?_
            rw [(h1 h0).1] at hn; cases hn
      · cases h
    · split at h
      · cases h
        cases hx with
        | os pl hm h1 h2 h3 =>
          rename_i cap a
          refine gd _ _ (by simp) (by simp) ⟨.bool a.isNone, ?_, .bn _ fun hn => ?_⟩
          · simp only [binOp, Sem.run_bind, sl]; rfl
          · refine Nat.eq_zero_of_not_pos fun h0 => ?_
            rw [h1 (by omega)] at hn; cases hn
      · cases h
    · cases h
  · rename_i e ht
    split at h
    · rename_i hy0
      have hu : u = .pointer none := by
        unfold isNilP at hy0
        split at hy0
        · split at hy0
          · exact rep_int hy
          · cases hy0
        · cases hy0
      subst hu
      have pt : ∀ (a : Option Addr), (Op.equal t (.pointer a) (.pointer none)).run P w = .ok a.isNone w := by
        intro a
        unfold Op.equal Op.maxDepth Op.equalIn
        rw [Sem.run_bind, run_underlying ht]
        cases a <;> rfl
      split at h
      · split at h
        · have := rep_int hx; subst this
          exact gd _ _ (by simp) (by simp) (run_eqP (pt none) h)
        · cases h
      · cases hx
        exact gd _ _ (by simp) (by simp) (run_eqP (pt (some _)) h)
      · cases hx
        exact gd _ _ (by simp) (by simp) (run_eqP (pt (some _)) h)
      · rename_i b cs
        cases hx with
        | pt h1 h2 =>
          cases b with
          | true =>
            have := h1 rfl
            cases this
            exact gd _ _ (by simp) (by simp) (run_eqP (pt (some _)) h)
          | false =>
            rw [h2 rfl]
            exact gd _ _ (by simp) (by simp) (run_eqP (pt none) h)
      · cases h
    · cases h
  · cases h

/-- The operators. -/
def evBin (P : Program) (op : BinOp) (t : TypeId) (x y : AV) : Option (List Prop × AV) :=
  match x, y with
  | .atom (.int k a), .atom (.int k' b) => match op with
    | .shl => evShift .shl k a b
    | .shr => evShift .shr k a b
    | op => match decide (k = k') with
      | true => evInt op k a b
      | false => none
  | .atom (.string a), .atom (.string b) => evStr op a b
  | .atom (.bool _), .atom (.bool _) => match op with
    | .eql => (evEq P 1 t x y).map fun b => ([], .atom (.bool b))
    | .neq => (evEq P 1 t x y).map fun b => ([], .atom (.bool (!b)))
    | _ => none
  | .agg _, .agg _ => match P.eqGuardType P.depth t with
    | false => match op with
      | .eql => (evEq P 60 t x y).map fun b => ([], .atom (.bool b))
      | .neq => (evEq P 60 t x y).map fun b => ([], .atom (.bool (!b)))
      | _ => none
    | true => none
  | x, y => (evNil P op t x y).map fun v => ([], v)

theorem ev_bin {op : BinOp} {t : TypeId} {x y : AV} {xo yo : Operand} {v u : Value} (hx : RepX w S μ v x) (hy : RepX w S μ u y) {ps : List Prop} {r : AV} (h : evBin P op t x y = some (ps, r)) (hp : AllP ps) :
    ∃ z, (do eqGuard op t xo yo v u; binOp op t v u : Sem Value).run P w = .ok z w ∧ RepX w S μ z r := by
  unfold evBin at h
  split at h
  · rename_i k a k' b
    have := rep_int hx; subst this
    have := rep_int hy; subst this
    have hg := eqGuard_other (P := P) (w := w) op t xo yo (.int k a) (.int k' b) (by simp) (by simp)
    simp only [Sem.run_bind, hg, Result.andThen_ok]
    have sh : ∀ o, (o = .shl ∨ o = .shr) → evShift o k a b = some (ps, r) → ∃ z, (binOp o t (.int k a) (.int k' b)).run P w = .ok z w ∧ RepX w S μ z r := by
      intro o ho h
      rcases ho with rfl | rfl <;> simp only [evShift, Option.some.injEq, Prod.mk.injEq] at h <;> obtain ⟨rfl, rfl⟩ := h <;>
        (have h0 : ¬ b < 0 := by have := hp.1; omega) <;> exact ⟨_, by simp [binOp, Op.shift, h0], .atom _⟩
    split at h
    · exact sh .shl (.inl rfl) h
    · exact sh .shr (.inr rfl) h
    · rename_i n1 n2
      split at h
      · rename_i hk
        have hk := of_decide_eq_true hk
        subst hk
        cases op <;> simp only [evInt, Option.some.injEq, Prod.mk.injEq, reduceCtorEq] at h <;>
          first
            | exact absurd rfl n1
            | exact absurd rfl n2
            | (obtain ⟨rfl, rfl⟩ := h
               exact ⟨_, by
                  first
                    | (simp [binOp, Op.intArith]; done)
                    | (have hb : ¬ b = 0 := hp.1
                       simp [binOp, Op.intDiv, hb]; done)
                    | (simp [binOp, Op.intBits]; done)
                    | (simp [binOp, Op.intCmp]; done), .atom _⟩)
      · cases h
  · rename_i a b
    have := rep_int hx; subst this
    have := rep_int hy; subst this
    have hg := eqGuard_other (P := P) (w := w) op t xo yo (.string a) (.string b) (by simp) (by simp)
    simp only [Sem.run_bind, hg, Result.andThen_ok]
    cases op <;> simp only [evStr, Option.some.injEq, Prod.mk.injEq, reduceCtorEq] at h <;> obtain ⟨rfl, rfl⟩ := h
    · have h0 : ¬ ((a.size + b.size : Nat) : Int) > IntKind.i64.max := by have := hp.1; omega
      exact ⟨_, by simp only [binOp, Op.stringOp, if_neg h0]; rfl, .atom _⟩
    all_goals exact ⟨_, by simp only [binOp, Op.stringOp]; rfl, .atom _⟩
  · rename_i a b
    have := rep_int hx; subst this
    have := rep_int hy; subst this
    have hg := eqGuard_other (P := P) (w := w) op t xo yo (.bool a) (.bool b) (by simp) (by simp)
    simp only [Sem.run_bind, hg, Result.andThen_ok]
    split at h
    · simp only [Option.map_eq_some_iff, Prod.mk.injEq] at h
      obtain ⟨q, hq, rfl, rfl⟩ := h
      have := (ev_eq (w := w) (S := S) (μ := μ) 1).1 10000 t _ _ _ _ q (by omega) hx hy hq
      exact ⟨_, by simp only [binOp, Op.equal, Op.maxDepth, Sem.run_bind, this]; rfl, .atom _⟩
    · simp only [Option.map_eq_some_iff, Prod.mk.injEq] at h
      obtain ⟨q, hq, rfl, rfl⟩ := h
      have := (ev_eq (w := w) (S := S) (μ := μ) 1).1 10000 t _ _ _ _ q (by omega) hx hy hq
      exact ⟨_, by simp only [binOp, Op.equal, Op.maxDepth, Sem.run_bind, this]; rfl, .atom _⟩
    · cases h
  · split at h
    · rename_i hgt
      obtain ⟨vs, rfl, hv1, hv2⟩ := rep_agg hx
      obtain ⟨us, rfl, hu1, hu2⟩ := rep_agg hy
      have hg := run_eqGuard_agg (P := P) w op t xo yo vs us hgt
      simp only [Sem.run_bind, hg, Result.andThen_ok]
      split at h
      · simp only [Option.map_eq_some_iff, Prod.mk.injEq] at h
        obtain ⟨q, hq, rfl, rfl⟩ := h
        have := (ev_eq (w := w) (S := S) (μ := μ) 60).1 10000 t _ _ _ _ q (by omega) hx hy hq
        exact ⟨_, by rw [run_eql_struct, this]; rfl, .atom _⟩
      · simp only [Option.map_eq_some_iff, Prod.mk.injEq] at h
        obtain ⟨q, hq, rfl, rfl⟩ := h
        have := (ev_eq (w := w) (S := S) (μ := μ) 60).1 10000 t _ _ _ _ q (by omega) hx hy hq
        exact ⟨_, by rw [run_neq_struct, this]; rfl, .atom _⟩
      · cases h
    · cases h
  · simp only [Option.map_eq_some_iff, Prod.mk.injEq] at h
    obtain ⟨q, hq, rfl, rfl⟩ := h
    exact ev_nil hx hy hq

def evUn (op : UnOp) (x : AV) : Option AV :=
  match op, x with
  | .neg, .atom (.int k n) => some (.atom (.int k (k.wrap (0 - n))))
  | .not, .atom (.bool b) => some (.atom (.bool (!b)))
  | _, _ => none
theorem ev_un {op : UnOp} {x : AV} {v : Value} (hx : RepX w S μ v x) {r : AV} (h : evUn op x = some r) : ∃ z, (Op.unary op v).run P w = .ok z w ∧ RepX w S μ z r := by
  unfold evUn at h
  split at h <;> cases h <;> (have := rep_int hx; subst this)
  · exact ⟨_, by simp [Op.unary, Op.intArith], .atom _⟩
  · exact ⟨_, by simp [Op.unary], .atom _⟩

def evConv (P : Program) (src dst : TypeId) (x : AV) : Option AV :=
  match P.underlying src, P.underlying dst, x with
  | some _, some (.int k), .atom (.int _ n) => some (.atom (.int k (k.wrap n)))
  | some _, some .string, .atom (.string s) => some (.atom (.string s))
  | _, _, _ => none
theorem ev_conv {src dst : TypeId} {x : AV} {v : Value} (hx : RepX w S μ v x) {r : AV} (h : evConv P src dst x = some r) : ∃ z, (convert src dst v).run P w = .ok z w ∧ RepX w S μ z r := by
  unfold evConv at h
  split at h
  · rename_i h1 h2
    cases h; have := rep_int hx; subst this
    exact ⟨_, by simp [convert, run_underlying h1, run_underlying h2, Conv.intToInt], .atom _⟩
  · rename_i h1 h2
    cases h; have := rep_int hx; subst this
    exact ⟨_, by simp [convert, run_underlying h1, run_underlying h2], .atom _⟩
  · cases h

end
end Go.Ab

namespace Go.Ab

abbrev Upd := List (Nat × Option Ob)

/-- An operation that ends in a value: what it does to the state. -/
def Step (P : Program) (E : Env) (nk : Nat) (σ : Sto) (S : Nat → Prop) (μ : Mu) (w : World) (s : Sem Value) (val : AV) (upd : Upd) : Prop :=
  ∃ v w' S' μ', s.run P w = .ok v w' ∧ Ext w S μ w' S' μ' ∧ Good E (supd σ upd) S' μ' w' ∧ (∀ k, k ≠ nk → μ k = none → μ' k = none) ∧ RepX w' S' μ' v val

/-- A value's cells and its abstract cells. -/
def RL (w : World) (S : Nat → Prop) (μ : Mu) (vs : Array Value) (cs : List AV) : Prop :=
  vs.size = cs.length ∧ ∀ (j : Nat) (c : AV) (v : Value), cs[j]? = some c → vs[j]? = some v → RepX w S μ v c

section
variable {P : Program} {E : Env} {nk : Nat} {σ : Sto} {S : Nat → Prop} {μ : Mu} {w : World}

theorem Step.pure (g : Good E σ S μ w) {s : Sem Value} {v : Value} {val : AV} (h : s.run P w = .ok v w) (hr : RepX w S μ v val) : Step P E nk σ S μ w s val [] :=
  ⟨v, w, S, μ, h, Ext.refl w S μ, g, fun _ _ h => h, hr⟩

theorem RL.mk' {vs : Array Value} {cs : List AV} (h : RL w S μ vs cs) : RepX w S μ (.agg vs) (.agg cs) := .agg h.1 h.2
theorem RL.pr {vs : Array Value} {cs : List AV} (h : RL w S μ vs cs) {j : Nat} {c : AV} {v : Value} (hc : cs[j]? = some c) (hv : vs[j]? = some v) :
    RepX w S (if AV.pureL cs then noMu else μ) v c := by
  split
  · rename_i hp
    exact (h.2 j c v hc hv).pure (pureL_get hp hc) noMu
  · exact h.2 j c v hc hv

theorem muSet_ne {k n : Nat} (pl : Place) (h : n ≠ k) : muSet μ k pl n = μ n := by simp [muSet, h]

/-- A new variable that holds the cells. -/
theorem Step.newOb (g : Good E σ S μ w) (hk : μ nk = none) (hm : E.m0 ≤ nk) {s : Sem Value} {vs : Array Value} {T : TypeId} {cs : List AV}
    (h : s.run P w = .ok (.pointer (some ⟨w.heap.size, 0, none⟩)) (w.alloc (.cells vs T))) (hl : RL w S μ vs cs) (hz : 1 ≤ cs.length) :
    Step P E nk σ S μ w s (.op nk 0 0) [(nk, some ⟨true, cs.length, 1, AV.pureL cs, fun _ => cs⟩)] := by
  have ga := g.alloc hk hm vs T ⟨true, cs.length, 1, AV.pureL cs, fun _ => cs⟩ 1 (by simp [hl.1]) (Nat.le_refl _) (fun _ _ => rfl) (fun i j x v hi hx hv => by
    have : i = 0 := by simp at hi; exact hi
    subst this
    exact hl.pr hx (by simpa using hv)) (by show cs.length ≠ 0; omega)
  refine ⟨_, _, _, _, h, ga.1, ga.2, fun k hk' hn => by rw [muSet_ne _ hk']; exact hn, ?_⟩
  have := RepX.op (w := w.alloc (.cells vs T)) (S := S) (k := nk) (i := 0) (j := 0) (μ := muSet μ nk ⟨w.heap.size, 1, cs.length⟩) ⟨w.heap.size, 1, cs.length⟩ (by simp [muSet])
  simpa using this

def evAlloc (P : Program) (nk : Nat) (T : TypeId) : Option (AV × Upd) :=
  match tZero P T with
  | some z => match Nat.ble 1 (z.cells.toList.map ofConst1).length with
    | true => some (.op nk 0 0, [(nk, some ⟨true, (z.cells.toList.map ofConst1).length, 1, AV.pureL (z.cells.toList.map ofConst1), fun _ => z.cells.toList.map ofConst1⟩)])
    | false => none
  | none => none
theorem rl_const (vs : Array Value) : RL w S μ vs (vs.toList.map ofConst1) :=
  ⟨by simp, fun j c v hc hv => by
    have hu' : vs.toList[j]? = some v := by simpa using hv
    rw [List.getElem?_map, hu'] at hc
    simp at hc
    exact hc ▸ rep_const1 w S μ v⟩
theorem ev_alloc (g : Good E σ S μ w) (hk : μ nk = none) (hm : E.m0 ≤ nk) {T : TypeId} {val : AV} {upd : Upd} (h : evAlloc P nk T = some (val, upd)) :
    Step P E nk σ S μ w (Instr.alloc T true (.tuple #[])) val upd := by
  unfold evAlloc at h
  split at h
  · rename_i z hz
    split at h
    · rename_i hb
      cases h
      exact Step.newOb g hk hm (vs := z.cells) (T := T) (by simp [Instr.alloc, run_zero' hz, newVar, newRow]) (rl_const _) (Nat.le_of_ble_eq_true hb)
    · cases h
  · cases h

def evBox (nk : Nat) (x : AV) : Option (AV × Upd) :=
  match x.cells with
  | some cs => match Nat.ble 1 cs.length with
    | true => some (.op nk 0 0, [(nk, some ⟨true, cs.length, 1, AV.pureL cs, fun _ => cs⟩)])
    | false => none
  | none => none
theorem ev_box (g : Good E σ S μ w) (hk : μ nk = none) (hm : E.m0 ≤ nk) {T : TypeId} {x : AV} {v : Value} (hx : RepX w S μ v x) {val : AV} {upd : Upd} (h : evBox nk x = some (val, upd)) :
    Step P E nk σ S μ w (Instr.box T v) val upd := by
  unfold evBox at h
  split at h
  · rename_i cs hc
    split at h
    · rename_i hb
      cases h
      exact Step.newOb g hk hm (vs := v.cells) (T := T) (by simp [Instr.box, newVar, newRow]) (hx.cells hc) (Nat.le_of_ble_eq_true hb)
    · cases h
  · cases h

/-! ### Aggregates -/
def splice (cs : List AV) (off : Nat) (ns : List AV) : List AV := cs.take off ++ (ns ++ cs.drop (off + ns.length))

theorem splice_get (cs : List AV) (off : Nat) (ns : List AV) (h : off + ns.length ≤ cs.length) (m : Nat) :
    (splice cs off ns)[m]? = if off ≤ m ∧ m < off + ns.length then ns[m - off]? else cs[m]? := by
  have h1 : (cs.take off).length = off := by simp; omega
  unfold splice
  by_cases hm : m < off
  · rw [List.getElem?_append_left (by omega), List.getElem?_take, if_pos hm, if_neg (by omega)]
  · rw [List.getElem?_append_right (by omega), h1]
    by_cases hm2 : m < off + ns.length
    · rw [List.getElem?_append_left (by omega), if_pos (by omega)]
    · rw [List.getElem?_append_right (by omega), List.getElem?_drop, if_neg (by omega)]
      congr 1; omega
theorem splice_length (cs : List AV) (off : Nat) (ns : List AV) (h : off + ns.length ≤ cs.length) : (splice cs off ns).length = cs.length := by
  simp [splice]; omega

theorem foldl_set (off : Nat) : ∀ (us : List Value) (s : Nat) (vs : Array Value),
    ((us.zipIdx s).foldl (fun cs x => cs.setIfInBounds (off + x.2) x.1) vs).size = vs.size ∧
    ∀ m, ((us.zipIdx s).foldl (fun cs x => cs.setIfInBounds (off + x.2) x.1) vs)[m]? = if off + s ≤ m ∧ m < off + s + us.length ∧ m < vs.size then us[m - (off + s)]? else vs[m]?
  | [], s, vs => ⟨rfl, fun m => by simp; intro h1 h2; omega⟩
  | u :: us, s, vs => by
    obtain ⟨h1, h2⟩ := foldl_set off us (s + 1) (vs.setIfInBounds (off + s) u)
    simp only [List.zipIdx_cons, List.foldl_cons]
    refine ⟨by rw [h1]; simp, fun m => ?_⟩
    rw [h2 m]
    simp only [Array.size_setIfInBounds, List.length_cons]
    by_cases hm : m < vs.size
    · by_cases h3 : off + s = m
      · subst h3
        rw [if_neg (by omega), if_pos (by omega)]
        simp [Array.getElem?_setIfInBounds_self_of_lt hm]
      · by_cases h4 : off + (s + 1) ≤ m ∧ m < off + (s + 1) + us.length
        · rw [if_pos ⟨h4.1, h4.2, hm⟩, if_pos (by omega)]
          rw [show m - (off + s) = (m - (off + (s + 1))) + 1 by omega]
          simp
        · rw [if_neg (by omega), if_neg (by omega), Array.getElem?_setIfInBounds_ne (by omega)]
    · rw [if_neg (by omega), if_neg (by omega)]
      simp [Array.getElem?_eq_none (Nat.le_of_not_lt hm), Array.getElem?_setIfInBounds]
      intro _; omega

theorem RL.splice {vs us : Array Value} {cs ns : List AV} (h : RL w S μ vs cs) (hu : RL w S μ us ns) {off : Nat} (hle : off + ns.length ≤ cs.length) :
    RL w S μ (us.zipIdx.foldl (fun cs (c, j) => cs.setIfInBounds (off + j) c) vs) (splice cs off ns) := by
  have f := foldl_set off us.toList 0 vs
  have e : us.zipIdx.foldl (fun cs (c, j) => cs.setIfInBounds (off + j) c) vs = (us.toList.zipIdx 0).foldl (fun cs x => cs.setIfInBounds (off + x.2) x.1) vs := by
    rw [← Array.foldl_toList]
    simp
  rw [e]
  refine ⟨by rw [f.1, h.1, splice_length _ _ _ hle], ?_⟩
  intro j c v hc hv
  rw [f.2 j] at hv
  rw [splice_get _ _ _ hle] at hc
  have hl := hu.1
  have hs := h.1
  by_cases hj : off ≤ j ∧ j < off + ns.length
  · rw [if_pos hj] at hc
    rw [if_pos (by simp; omega)] at hv
    exact hu.2 (j - off) c v hc (by simpa using hv)
  · rw [if_neg hj] at hc
    rw [if_neg (by simp; omega)] at hv
    exact h.2 j c v hc hv

def fillA (place : Nat → Option (Nat × Nat)) (cells : List AV) : List (Nat × AV) → Option (List AV)
  | [] => some cells
  | (i, x) :: rest =>
    match place i, x.cells with
    | some (off, size), some ns => match Nat.beq ns.length size && Nat.ble (off + ns.length) cells.length with
      | true => fillA place (splice cells off ns) rest
      | false => none
    | _, _ => none

theorem fill_rep (place : Nat → Option (Nat × Nat)) : ∀ (parts : List (Nat × AV)) (vparts : List (Nat × Value)) (vs : Array Value) (cs out : List AV),
    vparts.map (·.1) = parts.map (·.1) → (∀ (j : Nat) x y, parts[j]? = some x → vparts[j]? = some y → RepX w S μ y.2 x.2) → RL w S μ vs cs → fillA place cs parts = some out →
    ∃ us, Instr.fill place vs vparts = some us ∧ RL w S μ us out
  | [], vparts, vs, cs, out, hi, _, h, hf => by
    simp at hi; subst hi
    simp [fillA] at hf; subst hf
    exact ⟨vs, rfl, h⟩
  | (i, x) :: rest, vparts, vs, cs, out, hi, hr, h, hf => by
    obtain ⟨⟨i', v⟩, vrest, rfl⟩ : ∃ a b, vparts = a :: b := by
      cases vparts with
      | nil => simp at hi
      | cons a b => exact ⟨a, b, rfl⟩
    simp at hi
    obtain ⟨rfl, hi⟩ := hi
    have hv : RepX w S μ v x := hr 0 (i', x) (i', v) rfl rfl
    simp only [fillA] at hf
    split at hf
    · rename_i off size ns hp hc
      split at hf
      · rename_i hb
        simp only [Bool.and_eq_true, Nat.ble_eq] at hb
        have hb1 := Nat.eq_of_beq_eq_true hb.1
        have hcl := hv.cells hc
        obtain ⟨us, h1, h2⟩ := fill_rep place rest vrest _ _ out hi (fun j x y hx hy => hr (j + 1) x y (by simpa using hx) (by simpa using hy)) (h.splice ⟨hcl.1, hcl.2⟩ hb.2) hf
        refine ⟨us, ?_, h2⟩
        have c1 : ¬ v.cells.size ≠ size := by rw [hcl.1]; omega
        have c2 : ¬ off + v.cells.size > vs.size := by rw [hcl.1, h.1]; omega
        simp only [Instr.fill, hp]
        rw [if_neg (by simp only [Bool.or_eq_true, decide_eq_true_eq, not_or]; exact ⟨c1, c2⟩)]
        exact h1
      · cases hf
    · cases hf

def evBuild (P : Program) (t : TypeId) (parts : List (Nat × AV)) : Option AV :=
  match tZero P t, P.underlying t with
  | some z, some (.struct fs) => match fs.toList.mapM fun f => (tSz P f.type).map fun n => (f.offset, n) with
    | some places => (fillA (places[·]?) (z.cells.toList.map ofConst1) parts).map .agg
    | none => none
  | some z, some (.array _ e) => match tSz P e with
    | some n => (fillA (fun i => some (i * n, n)) (z.cells.toList.map ofConst1) parts).map .agg
    | none => none
  | _, _ => none

theorem ev_build {t : TypeId} {parts : List (Nat × AV)} {vparts : Array (Nat × Value)} (hi : vparts.toList.map (·.1) = parts.map (·.1))
    (hr : ∀ (j : Nat) x y, parts[j]? = some x → vparts.toList[j]? = some y → RepX w S μ y.2 x.2) {r : AV} (h : evBuild P t parts = some r) :
    ∃ v, (Instr.build t vparts).run P w = .ok v w ∧ RepX w S μ v r := by
  unfold evBuild at h
  split at h
  · rename_i z fs hz hu
    split at h
    · rename_i places hp
      simp only [Option.map_eq_some_iff] at h
      obtain ⟨out, ho, rfl⟩ := h
      obtain ⟨us, h1, h2⟩ := fill_rep (w := w) (S := S) (μ := μ) _ parts vparts.toList z.cells _ out hi hr (rl_const _) ho
      refine ⟨.agg us, run_build w t vparts us ?_, h2.mk'⟩
      have hz' := hz
      unfold tZero at hz'
      cases hi : P.info? t with
      | none => simp [hi] at hz'
      | some i =>
        simp [hi] at hz'
        unfold Program.built
        have hp' : fs.toList.mapM (fun f => (P.info? f.type).map fun i => (f.offset, i.size)) = some places := by
          rw [← hp]; congr 1; funext f; simp [tSz, Function.comp_def]
        simp [hi, hu, hz', hp', h1]
    · cases h
  · rename_i z n e hz hu
    split at h
    · rename_i n' hn
      simp only [Option.map_eq_some_iff] at h
      obtain ⟨out, ho, rfl⟩ := h
      obtain ⟨us, h1, h2⟩ := fill_rep (w := w) (S := S) (μ := μ) _ parts vparts.toList z.cells _ out hi hr (rl_const _) ho
      refine ⟨.agg us, run_build w t vparts us ?_, h2.mk'⟩
      have hz' := hz
      unfold tZero at hz'
      unfold tSz at hn
      cases hi : P.info? t with
      | none => simp [hi] at hz'
      | some i =>
        simp [hi] at hz'
        cases he : P.info? e with
        | none => simp [he] at hn
        | some ie =>
          simp [he] at hn
          subst hn
          unfold Program.built
          simp [hi, hu, hz', he, h1]
    · cases h
  · cases h

end
end Go.Ab

namespace Go.Ab
section
variable {P : Program} {E : Env} {nk : Nat} {σ : Sto} {S : Nat → Prop} {μ : Mu} {w : World}

/-- A new slice. -/
theorem Step.newSl (g : Good E σ S μ w) (hk : μ nk = none) (hm : E.m0 ≤ nk) {s : Sem Value} {vs : Array Value} {T : TypeId} {len cap sz : Nat} {pr : Bool} {get : Nat → List AV}
    (h : s.run P w = .ok (.slice (some ⟨w.heap.size, 0, none⟩) len cap) (w.alloc (.cells vs T))) (hcap : cap * sz ≤ vs.size) (hlen : len ≤ cap)
    (hels : ∀ i, i < len → (get i).length = sz)
    (hrep : ∀ i j x v, i < len → (get i)[j]? = some x → vs[i * sz + j]? = some v → RepX w S (if pr then noMu else μ) v x) (hsz0 : sz ≠ 0) :
    Step P E nk σ S μ w s (.os nk 0 len) [(nk, some ⟨false, sz, len, pr, get⟩)] := by
  have ga := g.alloc hk hm vs T ⟨false, sz, len, pr, get⟩ cap hcap hlen hels hrep hsz0
  refine ⟨_, _, _, _, h, ga.1, ga.2, fun k hk' hn => by rw [muSet_ne _ hk']; exact hn, ?_⟩
  exact RepX.os ⟨w.heap.size, cap, sz⟩ (by simp [muSet]) (by simp) hlen (by simp)

def sliceElem (P : Program) (t : TypeId) : Option TypeId :=
  match P.underlying t with
  | some (.slice e) => some e
  | _ => none
theorem sliceElem_eq {t e : TypeId} (h : sliceElem P t = some e) : P.underlying t = some (.slice e) := by
  unfold sliceElem at h
  split at h
  · cases h; assumption
  · cases h

/-- Cells as rows of n. -/
def rows (n : Nat) : Nat → List AV → List (List AV)
  | 0, _ => []
  | k + 1, cs => cs.take n :: rows n k (cs.drop n)
theorem rows_get (n : Nat) : ∀ (k : Nat) (cs : List AV) (i : Nat), i < k → (rows n k cs)[i]? = some ((cs.drop (i * n)).take n)
  | 0, _, i, h => by omega
  | k + 1, cs, 0, _ => by simp [rows]
  | k + 1, cs, i + 1, h => by
    simp only [rows, List.getElem?_cons_succ]
    rw [rows_get n k (cs.drop n) i (by omega), List.drop_drop]
    congr 3
    rw [Nat.add_mul]; omega
theorem rows_getD (n k : Nat) (cs : List AV) (i : Nat) (h : i < k) : (rows n k cs).getD i [] = (cs.drop (i * n)).take n := by
  rw [List.getD_eq_getElem?_getD, rows_get n k cs i h]; rfl

/-- The zero of a slice's cells. -/
def zeros (z : List AV) : Nat → List AV
  | 0 => []
  | k + 1 => z ++ zeros z k

theorem zeros_length (z : List AV) : ∀ k, (zeros z k).length = k * z.length
  | 0 => by simp [zeros]
  | k + 1 => by simp [zeros, zeros_length z k, Nat.add_mul]; omega
theorem zeros_get (z : List AV) (hz : z.length ≠ 0) : ∀ (k j : Nat), j < k * z.length → (zeros z k)[j]? = z[j % z.length]?
  | 0, j, h => by simp at h
  | k + 1, j, h => by
    simp only [zeros]
    by_cases hj : j < z.length
    · rw [List.getElem?_append_left hj, Nat.mod_eq_of_lt hj]
    · rw [List.getElem?_append_right (by omega), zeros_get z hz k (j - z.length) (by rw [Nat.add_mul] at h; omega)]
      congr 1
      conv => rhs; rw [show j = (j - z.length) + z.length by omega]
      simp

theorem rl_zeros {z : Value} {n : Nat} (hz : z.cells.size = n) (hn : n ≠ 0) (k : Nat) (c : Array Value) (hc : c = (Array.range (k * n)).map (z.cells[· % z.cells.size]!)) :
    RL w S μ c (zeros (z.cells.toList.map ofConst1) k) := by
  subst hc
  have hl : (z.cells.toList.map ofConst1).length = n := by simp [hz]
  refine ⟨by simp [zeros_length, hz], ?_⟩
  intro j x v hx hv
  have hj : j < k * n := by
    have := (Array.getElem?_eq_some_iff.1 hv).1
    simpa using this
  rw [zeros_get _ (by omega) k j (by rw [hl]; exact hj), hl] at hx
  have hlt : j % n < z.cells.size := by rw [hz]; exact Nat.mod_lt _ (by omega)
  have hv' : v = z.cells[j % n] := by
    simp only [Array.getElem?_map] at hv
    rw [Array.getElem?_range, if_pos hj] at hv
    simp at hv
    rw [← hv, hz]
    simp [getElem!_pos, hlt]
  refine (rl_const (w := w) (S := S) (μ := μ) z.cells).2 (j % n) x v hx ?_
  rw [hv']
  exact Array.getElem?_eq_getElem hlt

def evBuildSlice (P : Program) (nk : Nat) (t : TypeId) (len : Nat) (parts : List (Nat × AV)) : Option (AV × Upd) :=
  match sliceElem P t with
  | some e => match tSz P e, tBytes P e, tZero P e with
    | some n, some _, some z => match Nat.ble 1 (len * n) && Nat.ble (len * n) 16777216 && Nat.beq z.cells.size n with
      | true => match fillA (fun i => some (i * n, n)) (zeros (z.cells.toList.map ofConst1) len) parts with
        | some cs => some (.os nk 0 len, [(nk, some ⟨false, n, len, AV.pureL cs, fun i => (rows n len cs).getD i []⟩)])
        | none => none
      | false => match Nat.beq len 0 && Nat.ble 1 n with
        | true => some (.os nk 0 0, [(nk, some ⟨false, n, 0, true, fun _ => []⟩)])
        | false => none
    | _, _, _ => none
  | none => none

theorem run_buildSlice0 {t e : TypeId} {n : Nat} (he : P.underlying t = some (.slice e)) (hn : tSz P e = some n) (w : World) :
    (Instr.buildSlice t 0 #[]).run P w = .ok (.slice (some ⟨w.heap.size, 0, none⟩) 0 0) (w.alloc (.cells #[] e)) := by
  simp [Instr.buildSlice, run_underlying he, run_sizeOf' hn, Instr.fill, newRow, Array.range_zero']

theorem ev_buildSlice (g : Good E σ S μ w) (hk : μ nk = none) (hm : E.m0 ≤ nk) {t : TypeId} {len : Nat} {parts : List (Nat × AV)} {vparts : Array (Nat × Value)} (hi : vparts.toList.map (·.1) = parts.map (·.1))
    (hr : ∀ (j : Nat) x y, parts[j]? = some x → vparts.toList[j]? = some y → RepX w S μ y.2 x.2) {val : AV} {upd : Upd} (h : evBuildSlice P nk t len parts = some (val, upd)) (hp0 : len = 0 → parts = []) :
    Step P E nk σ S μ w (Instr.buildSlice t len vparts) val upd := by
  unfold evBuildSlice at h
  split at h
  · rename_i e he
    have he := sliceElem_eq he
    split at h
    · rename_i n b z hn hb hz
      split at h
      · rename_i hbb
        simp only [Bool.and_eq_true, Nat.ble_eq] at hbb
        have hzs := Nat.eq_of_beq_eq_true hbb.2
        split at h
        · rename_i cs hcs
          cases h
          have hn0 : n ≠ 0 := by rintro rfl; simp at hbb
          have hl0 := rl_zeros (w := w) (S := S) (μ := μ) hzs hn0 len _ rfl
          obtain ⟨us, h1, h2⟩ := fill_rep (w := w) (S := S) (μ := μ) _ parts vparts.toList _ _ cs hi hr hl0 hcs
          obtain ⟨ie, hie, hsz, hby, hze⟩ := info_of hn hb hz
          subst hsz
          have hrun := run_buildSlice w t e len vparts us ie z he hie hze (by omega) (by omega) h1
          have hlen : us.size = len * ie.size := by
            have := h2.1
            have hf : ∀ (parts : List (Nat × AV)) (cs out : List AV), fillA (fun i => some (i * ie.size, ie.size)) cs parts = some out → out.length = cs.length := by
              intro parts
              induction parts with
              | nil => intro cs out h; simp [fillA] at h; rw [h]
              | cons p ps ih =>
                intro cs out h
                simp only [fillA] at h
                split at h
                · split at h
                  · rename_i ho
                    simp only [Bool.and_eq_true, Nat.ble_eq] at ho
                    rw [ih _ _ h, splice_length _ _ _ ho.2]
                  · cases h
                · cases h
            rw [this, hf _ _ _ hcs, zeros_length]; simp [hzs]
          refine Step.newSl g hk hm hrun (by rw [hlen]; exact Nat.le_refl _) (Nat.le_refl _) ?_ ?_ hn0
          · intro i hi
            rw [rows_getD _ _ _ _ hi]
            have := h2.1
            have : (i + 1) * ie.size ≤ len * ie.size := Nat.mul_le_mul_right _ hi
            rw [Nat.add_mul] at this
            simp; omega
          · intro i j x v hi hx hv
            rw [rows_getD _ _ _ _ hi, List.getElem?_take] at hx
            split at hx
            · rw [List.getElem?_drop] at hx
              exact h2.pr hx hv
            · cases hx
        · cases h
      · split at h
        · rename_i hl0
          cases h
          simp only [Bool.and_eq_true, Nat.ble_eq] at hl0
          obtain ⟨hl0, hn1⟩ := hl0
          have := Nat.eq_of_beq_eq_true hl0
          subst this
          have hp0 := hp0 rfl
          subst hp0
          have : vparts = #[] := by
            have : vparts.toList = [] := by simpa using hi
            exact Array.toList_eq_nil_iff.1 this
          subst this
          exact Step.newSl g hk hm (run_buildSlice0 he hn w) (by simp) (Nat.le_refl _) (fun i hi => absurd hi (Nat.not_lt_zero _)) (fun i j x v hi => absurd hi (Nat.not_lt_zero _)) (by omega)
        · cases h
    · cases h
  · cases h

/-- make([]T, l, c). -/
def evMake (P : Program) (nk : Nat) (t : TypeId) (l c : AV) : Option (List Prop × AV × Upd) :=
  match sliceElem P t, l, c with
  | some e, .atom (.int _ l), .atom (.int _ c) => match tSz P e, tBytes P e, tZero P e with
    | some n, some b, some z => match Nat.ble 1 n && Nat.beq z.cells.size n with
      | true => some ([0 ≤ l, l ≤ c, (b : Int) * c ≤ 281474976710656, c ≤ 9223372036854775807], .os nk 0 l.toNat,
          [(nk, some ⟨false, n, l.toNat, AV.pureL (z.cells.toList.map ofConst1), fun _ => z.cells.toList.map ofConst1⟩)])
      | false => none
    | _, _, _ => none
  | _, _, _ => none

theorem ev_make (g : Good E σ S μ w) (hk : μ nk = none) (hm : E.m0 ≤ nk) {t : TypeId} {l c : AV} {vl vc : Value} (hl : RepX w S μ vl l) (hc : RepX w S μ vc c)
    {ps : List Prop} {val : AV} {upd : Upd} (h : evMake P nk t l c = some (ps, val, upd)) (hp : AllP ps) :
    Step P E nk σ S μ w (Instr.makeSlice t vl vc) val upd := by
  unfold evMake at h
  split at h
  · rename_i e k l k' c he
    have he := sliceElem_eq he
    have := rep_int hl; subst this
    have := rep_int hc; subst this
    split at h
    · rename_i n b z hn hb hz
      split at h
      · rename_i hbb
        cases h
        simp only [Bool.and_eq_true, Nat.ble_eq] at hbb
        have hzs := Nat.eq_of_beq_eq_true hbb.2
        obtain ⟨h1, h2, h3, h4, _⟩ := hp
        obtain ⟨ie, hie, hsz, hby, hze⟩ := info_of hn hb hz
        subst hsz hby
        have hrun := run_make (P := P) w t e ie z he hie hze k k' l c h1 h2 h3 h4
        refine Step.newSl g hk hm hrun (by rw [size_madeCells]; exact Nat.le_refl _) (by omega) (fun _ _ => by simp [hzs]) ?_ (by omega)
        intro i j x v hi hx hv
        have hj : j < ie.size := by
          have := (List.getElem?_eq_some_iff.1 hx).1
          simpa [hzs] using this
        have hv' : z.cells[j]? = some v := by
          unfold madeCells at hv
          simp only [Array.getElem?_map] at hv
          have hlt : i * ie.size + j < c.toNat * ie.size := by
            have : (i + 1) * ie.size ≤ c.toNat * ie.size := Nat.mul_le_mul_right _ (by omega)
            rw [Nat.add_mul] at this
            omega
          rw [Array.getElem?_range, if_pos hlt] at hv
          simp only [Option.map_some, Option.some.injEq] at hv
          rw [hzs, Nat.mul_comm i, Nat.mul_add_mod, Nat.mod_eq_of_lt hj] at hv
          have hjz : j < z.cells.size := by omega
          rw [Array.getElem?_eq_getElem hjz]
          rw [getElem!_pos z.cells j hjz] at hv
          exact congrArg some hv
        exact (rl_const (w := w) (S := S) (μ := μ) z.cells).pr hx hv'
      · cases h
    · cases h
  · cases h

/-! ### Loads -/
def ldv (agg : Bool) (n : Nat) (cs : List AV) (j : Nat) : Option AV :=
  match Nat.ble (j + n) cs.length with
  | true => match agg with
    | true => some (.agg ((cs.drop j).take n))
    | false => cs[j]?
  | false => none

theorem run_ldv {T : TypeId} {d : TypeDesc} {n : Nat} (hu : P.underlying T = some d) (hn : tSz P T = some n) {cs : List AV} {j : Nat} {x : AV} (h : ldv d.isRow n cs j = some x) (b o : Nat)
    (f : Nat → Value) (hc : ∀ i, i < cs.length → w.cell? ⟨b, o + i, none⟩ = some (f i)) (hr : ∀ (i : Nat) c, cs[i]? = some c → RepX w S μ (f i) c) :
    ∃ v, (Instr.loadAt T (.pointer (some ⟨b, o + j, none⟩))).run P w = .ok v w ∧ RepX w S μ v x := by
  unfold ldv at h
  split at h
  · rename_i hle
    simp only [Nat.ble_eq] at hle
    cases hd : d.isRow with
    | true =>
      simp [hd] at h
      have hl : ((List.range n).map fun i => f (j + i)).length = n := by simp
      refine ⟨.agg ((List.range n).map fun i => f (j + i)).toArray, run_loadAt_mid w b (o + j) T _ d ?_ hu hd (by simpa [tSz] using hn), ?_⟩
      · intro i v hv
        have hi : i < n := by
          have := (List.getElem?_eq_some_iff.1 hv).1
          simpa using this
        rw [List.getElem?_map, List.getElem?_range hi] at hv
        simp at hv
        rw [Nat.add_assoc, hc (j + i) (by omega), hv]
      · rw [← h]
        refine .agg (by simp; omega) ?_
        intro i c v hc' hv
        rw [List.getElem?_take] at hc'
        split at hc'
        · rename_i hi
          rw [List.getElem?_drop] at hc'
          simp [List.getElem?_range hi] at hv
          rw [← hv]
          exact hr _ c hc'
        · cases hc'
    | false =>
      simp [hd] at h
      have hj : j < cs.length := (List.getElem?_eq_some_iff.1 h).1
      have hagg : (isAgg T).run P w = .ok false w := by
        unfold isAgg
        rw [Sem.run_bind, run_underlying hu w]
        cases d <;> simp_all
      refine ⟨f j, ?_, hr j x h⟩
      simp [Instr.loadAt, Instr.sureAddr, loadVar, hagg, hc j hj]
  · cases h

def evLoad (P : Program) (σ : Sto) (T : TypeId) (a : AV) : Option (List Prop × AV × List Nat) :=
  match P.underlying T, tSz P T with
  | some d, some n => match a with
    | .op k i j => match sget σ k with
      | some o => (ldv d.isRow n (o.get i) j).map fun x => ([i < o.len], x, [k])
      | none => none
    | .rp cs j => (ldv d.isRow n cs j).map fun x => ([], x, [])
    | _ => none
  | _, _ => none

theorem cell_of_obrep {o : Ob} {pl : Place} {c : Array Value} {T : TypeId} (h : ObRep w S μ o pl c T) {i j : Nat} (hi : i < o.len) (hj : j < o.sz) :
    ∃ v, c[i * o.sz + j]? = some v ∧ w.cell? ⟨pl.blk, i * o.sz + j, none⟩ = some v := by
  have hlt : i * o.sz + j < c.size := by
    have h1 : (i + 1) * o.sz ≤ pl.cap * o.sz := Nat.mul_le_mul_right _ (by have := h.len; omega)
    have := h.cap
    rw [Nat.add_mul] at h1
    omega
  exact ⟨c[i * o.sz + j], Array.getElem?_eq_getElem hlt, by rw [cell_of_row w _ _ _ _ _ ((h.blk (by have := h.len; omega)).trans (by rw [blkObj_row (by omega)]))]; exact Array.getElem?_eq_getElem hlt⟩

theorem noMu_mono {v : Value} {x : AV} {pr : Bool} (h : RepX w S (if pr then noMu else μ) v x) : RepX w S μ v x := by
  refine h.mono (fun _ h => h) (fun _ _ => rfl) ?_
  cases pr
  · exact fun _ _ h => h
  · exact fun _ _ h => by cases h

theorem ev_load (g : Good E σ S μ w) {T : TypeId} {a : AV} {va : Value} (ha : RepX w S μ va a) {ps : List Prop} {x : AV} {rd : List Nat} (h : evLoad P σ T a = some (ps, x, rd)) (hp : AllP ps) :
    ∃ v, (Instr.loadAt T va).run P w = .ok v w ∧ RepX w S μ v x := by
  unfold evLoad at h
  split at h
  · rename_i d n hu hn
    split at h
    · rename_i k i j
      split at h
      · rename_i o ho
        simp only [Option.map_eq_some_iff, Prod.mk.injEq] at h
        obtain ⟨y, hy, rfl, rfl, rfl⟩ := h
        obtain ⟨pl, c, T', hm, hob⟩ := g.rep.ob k o ho
        have hi := hp.1
        cases ha with
        | op pl' hm' =>
          rw [hm] at hm'; cases hm'
          rw [hob.sz]
          have hlen := hob.els i hi
          refine run_ldv hu hn hy pl.blk (i * o.sz) (fun j => (c[i * o.sz + j]?).getD undef) ?_ ?_
          · intro j hj
            obtain ⟨v, h1, h2⟩ := cell_of_obrep hob hi (hlen ▸ hj)
            rw [h2, h1]; rfl
          · intro j cc hcc
            obtain ⟨v, h1, h2⟩ := cell_of_obrep hob hi (hlen ▸ (List.getElem?_eq_some_iff.1 hcc).1)
            rw [h1]
            exact noMu_mono (hob.rep i j cc v hi hcc h1)
      · cases h
    · rename_i cs j
      simp only [Option.map_eq_some_iff, Prod.mk.injEq] at h
      obtain ⟨y, hy, rfl, rfl, rfl⟩ := h
      cases ha with
      | rp b o f h1 h2 h3 =>
        exact run_ldv hu hn hy b o f h2 (fun i c hc => (h3 i c hc).mono (fun _ h => h) (fun _ _ => rfl) (fun _ _ h => by cases h))
    · cases h
  · cases h

end
end Go.Ab

namespace Go.Ab
/-- A slice that begins at an offset. -/
def addz : Nat → Nat → Nat
  | 0, n => n
  | m + 1, n => m + 1 + n
theorem addz_eq (m n : Nat) : addz m n = m + n := by cases m <;> simp [addz]

section
variable {P : Program} {E : Env} {nk : Nat} {σ : Sto} {S : Nat → Prop} {μ : Mu} {w : World}

def Ob.put (o : Ob) (i : Nat) (cs : List AV) (pr : Bool) : Ob :=
  match o.var with
  | true => { o with pr := o.pr && pr, get := fun _ => cs }
  | false => { o with pr := o.pr && pr, get := fun m => if m = i then cs else o.get m }

def evStore (P : Program) (σ : Sto) (T : TypeId) (a x : AV) : Option (List Prop × Upd × List Nat) :=
  match a, x.cells, tSz P T with
  | .op k i j, some ns, some n => match sget σ k with
    | some o => match Nat.beq ns.length n && AV.oneL ns && Nat.ble (j + n) o.sz && (!o.var || Nat.beq o.len 1) && Nat.ble 1 o.sz with
      | true => some ([i < o.len], [(k, some (o.put i (splice (o.get i) j ns) (AV.pureL ns)))], [k])
      | false => none
    | none => none
  | _, _, _ => none

theorem ev_store (g : Good E σ S μ w) {T : TypeId} {a x : AV} {va vx : Value} (ha : RepX w S μ va a) (hx : RepX w S μ vx x) {ps : List Prop} {upd : Upd} {rd : List Nat}
    (h : evStore P σ T a x = some (ps, upd, rd)) (hp : AllP ps) :
    ∃ w', (Instr.storeAt T va vx).run P w = .ok () w' ∧ Ext w S μ w' S μ ∧ Good E (supd σ upd) S μ w' := by
  unfold evStore at h
  split at h
  · rename_i k i j ns n hns hn
    split at h
    · rename_i o ho
      split at h
      · rename_i hb
        simp only [Option.some.injEq, Prod.mk.injEq] at h
        obtain ⟨rfl, rfl, rfl⟩ := h
        simp only [Bool.and_eq_true, Nat.ble_eq] at hb
        obtain ⟨⟨⟨⟨hb1, hb2⟩, hb3⟩, hb4⟩, hb5⟩ := hb
        have hb1 := Nat.eq_of_beq_eq_true hb1
        have hi : i < o.len := hp.1
        obtain ⟨pl, c, T', hm, hob⟩ := g.rep.ob k o ho
        cases ha with
        | op pl' hm' =>
          rw [hm] at hm'; cases hm'
          have hcap : 0 < pl.cap := by have := hob.len; omega
          have hrow : i * o.sz + o.sz ≤ c.size := by
            have h1 : (i + 1) * o.sz ≤ pl.cap * o.sz := Nat.mul_le_mul_right _ (by have := hob.len; omega)
            have := hob.cap
            rw [Nat.add_mul] at h1
            omega
          obtain ⟨hcs, hcr⟩ := hx.cells hns
          have hone : ∀ v ∈ vx.cells.toList, v.oneCell' = true := by
            intro v hv
            obtain ⟨q, hq⟩ := List.getElem?_of_mem hv
            have hlt : q < ns.length := by
              have := (List.getElem?_eq_some_iff.1 hq).1
              simp at this; omega
            exact (hcr q _ v (List.getElem?_eq_getElem hlt) (by simpa using hq)).oneCell (oneL_get hb2 (List.getElem?_eq_getElem hlt))
          have hst := run_storeCells_at P pl.blk (i * pl.sz + j) T' vx.cells.toList 0 c w ((hob.blk hcap).trans (by rw [blkObj_row (by omega)])) (by rw [hob.sz]; simp; omega) hone
          simp only [Nat.add_zero] at hst
          generalize hc' : (c.toList.take (i * pl.sz + j) ++ vx.cells.toList ++ c.toList.drop (i * pl.sz + j + vx.cells.toList.length)).toArray = c' at hst
          have hlen' : (c.toList.take (i * pl.sz + j)).length = i * o.sz + j := by rw [hob.sz]; simp; omega
          have hvl : vx.cells.toList.length = n := by simp; omega
          have hsz' : c'.size = c.size := by
            rw [← hc']
            simp only [List.size_toArray, List.length_append, List.length_drop, hvl, hob.sz]
            simp; omega
          have hget : ∀ m, c'[m]? = if i * o.sz + j ≤ m ∧ m < i * o.sz + j + n then vx.cells[m - (i * o.sz + j)]? else c[m]? := by
            intro m
            rw [← hc']
            simp only [List.getElem?_toArray, List.append_assoc]
            by_cases h1 : m < i * o.sz + j
            · rw [List.getElem?_append_left (by omega), List.getElem?_take, if_pos (by rw [hob.sz]; omega), if_neg (by omega)]
              simp
            · rw [List.getElem?_append_right (by omega), hlen']
              by_cases h2 : m < i * o.sz + j + n
              · rw [List.getElem?_append_left (by omega), if_pos (by omega)]
                simp
              · rw [List.getElem?_append_right (by omega), if_neg (by omega), List.getElem?_drop, hvl, hob.sz]
                simp only [Array.getElem?_toList]
                congr 1; omega
          have hgl := hob.els i hi
          have hsp : ∀ (o' : Ob), o'.sz = o.sz → o'.len = o.len → o'.pr = (o.pr && AV.pureL ns) → (o'.get i = splice (o.get i) j ns) → (∀ m, m < o.len → m ≠ i → o'.get m = o.get m) →
              Ext w S μ (w.setRow pl.blk c') S μ ∧ Good E (sset σ k o') S μ (w.setRow pl.blk c') := by
            intro o' e1 e2 e3 e4 e5
            refine g.write ho hm hcap hob (by omega) o' c' e1 hsz' (by rw [e2]; exact hob.len) ?_ ?_
            · intro m hm
              rw [e2] at hm
              by_cases hmi : m = i
              · subst hmi
                rw [e4, splice_length _ _ _ (by omega), hgl, e1]
              · rw [e5 m hm hmi, hob.els m hm, e1]
            · intro m q y v hm hy hv
              rw [e2] at hm
              rw [e1, hget] at hv
              rw [e3]
              have hq : q < o.sz := by
                have := (List.getElem?_eq_some_iff.1 hy).1
                by_cases hmi : m = i
                · subst hmi; rw [e4, splice_length _ _ _ (by omega), hgl] at this; exact this
                · rw [e5 m hm hmi, hob.els m hm] at this; exact this
              have hold : (o.get m)[q]? = some y → c[m * o.sz + q]? = some v → RepX w S (if (o.pr && AV.pureL ns) = true then noMu else μ) v y := by
                intro hy hv
                have := hob.rep m q y v hm hy hv
                cases hpr : o.pr
                · simpa [hpr] using this
                · rw [hpr] at this
                  split
                  · exact this
                  · exact noMu_mono this
              by_cases hmi : m = i
              · subst hmi
                rw [e4, splice_get _ _ _ (by omega)] at hy
                by_cases hjq : j ≤ q ∧ q < j + n
                · rw [if_pos (by omega)] at hy hv
                  have hv' : vx.cells[q - j]? = some v := by rw [← hv]; congr 1; omega
                  have := hcr (q - j) y v hy hv'
                  split
                  · rename_i hpp
                    simp only [Bool.and_eq_true] at hpp
                    exact this.pure (pureL_get hpp.2 hy) noMu
                  · exact this
                · rw [if_neg (by omega)] at hy hv
                  exact hold hy hv
              · rw [e5 m hm hmi] at hy
                have hne : ¬ (i * o.sz + j ≤ m * o.sz + q ∧ m * o.sz + q < i * o.sz + j + n) := by
                  rintro ⟨h1, h2⟩
                  rcases Nat.lt_or_gt_of_ne hmi with h3 | h3
                  · have : (m + 1) * o.sz ≤ i * o.sz := Nat.mul_le_mul_right _ h3
                    rw [Nat.add_mul] at this; omega
                  · have : (i + 1) * o.sz ≤ m * o.sz := Nat.mul_le_mul_right _ h3
                    rw [Nat.add_mul] at this; omega
                rw [if_neg hne] at hv
                exact hold hy hv
          refine ⟨w.setRow pl.blk c', ?_, ?_⟩
          · simp only [Instr.storeAt, Instr.sureAddr, Sem.run_bind, Sem.run_pure, Result.andThen_ok, storeVar, run_sizeOf' hn]
            rw [Sem.run_ite, if_neg (by omega)]
            exact hst
          · show Ext _ _ _ _ _ _ ∧ Good E (sset σ k _) S μ _
            refine hsp _ ?_ ?_ ?_ ?_ ?_
            · unfold Ob.put; split <;> rfl
            · unfold Ob.put; split <;> rfl
            · unfold Ob.put; split <;> rfl
            · unfold Ob.put; split <;> simp
            · intro m hm hmi
              unfold Ob.put
              split
              · rename_i hvar
                simp only [hvar, Bool.not_true, Bool.false_or] at hb4
                have := Nat.eq_of_beq_eq_true hb4
                omega
              · simp [hmi]
      · cases h
    · cases h
  · cases h

/-! ### Addresses -/
def evFieldAddr (P : Program) (T : TypeId) (x : AV) (f : Nat) : Option AV :=
  match P.underlying T with
  | some (.struct fs) => match fs[f]? with
    | some fl => match tSz P fl.type with
      | some (_ + 1) => match x with
        | .op k i j => some (.op k i (j + fl.offset))
        | .rp cs j => some (.rp cs (j + fl.offset))
        | _ => none
      | _ => none
    | none => none
  | _ => none
theorem ev_fieldAddr {T : TypeId} {x : AV} {f : Nat} {v : Value} (hx : RepX w S μ v x) {r : AV} (h : evFieldAddr P T x f = some r) :
    ∃ u, (Instr.fieldAt T v f).run P w = .ok u w ∧ RepX w S μ u r := by
  unfold evFieldAddr at h
  split at h
  · rename_i fs hu
    split at h
    · rename_i fl hf
      split at h
      · rename_i n hn
        split at h
        · cases h
          cases hx with
          | op pl hm =>
            rename_i k i j
            refine ⟨.pointer (some ⟨pl.blk, i * pl.sz + (j + fl.offset), none⟩), ?_, .op pl hm⟩
            simp [Instr.fieldAt, run_underlying hu, hf, Instr.sureAddr, fieldPlace, run_sizeOf' hn, Addr.add_mid, Nat.add_assoc]
        · cases h
          cases hx with
          | rp b o f' h1 h2 h3 =>
            rename_i cs j
            refine ⟨.pointer (some ⟨b, o + (j + fl.offset), none⟩), ?_, .rp b o f' h1 h2 h3⟩
            simp [Instr.fieldAt, run_underlying hu, hf, Instr.sureAddr, fieldPlace, run_sizeOf' hn, Addr.add_mid, Nat.add_assoc]
        · cases h
      · cases h
    · cases h
  · cases h

def evField (P : Program) (T : TypeId) (x : AV) (f : Nat) : Option AV :=
  match P.underlying T, x with
  | some (.struct fs), .agg cs => match fs[f]? with
    | some fl => match tSz P fl.type with
      | some n => match Nat.ble (fl.offset + n) cs.length with
        | true => cellPart P fl.type cs fl.offset
        | false => none
      | none => none
    | none => none
  | _, _ => none
theorem ev_field {T : TypeId} {x : AV} {f : Nat} {v : Value} (hx : RepX w S μ v x) {r : AV} (h : evField P T x f = some r) :
    ∃ u, (Instr.field T v f).run P w = .ok u w ∧ RepX w S μ u r := by
  unfold evField at h
  split at h
  · rename_i fs cs hu
    split at h
    · rename_i fl hf
      split at h
      · rename_i n hn
        split at h
        · rename_i hle
          simp only [Nat.ble_eq] at hle
          obtain ⟨vs, rfl, hv1, hv2⟩ := rep_agg hx
          obtain ⟨u, r1, r2⟩ := sat_stuck_part hv1 hv2 h (fun n' h' => by rw [hn] at h'; cases h'; exact hle)
          exact ⟨u, by simp [Instr.field, run_underlying hu, hf, asAgg, r1], r2⟩
        · cases h
      · cases h
    · cases h
  · cases h

def evIndexAddr (P : Program) (σ : Sto) (T : TypeId) (x ix : AV) : Option (List Prop × AV × List Nat) :=
  match P.underlying T, ix with
  | some (.slice e), .atom (.int _ n) => match tSz P e with
    | some sz => match x with
      | .os k off len => match sget σ k with
        | some o => match Nat.beq o.sz sz with
          | true => some ([0 ≤ n ∧ n < len], .op k (addz off n.toNat) 0, [k])
          | false => none
        | none => none
      | .sl len get => match Nat.beq (get n.toNat).length sz with
        | true => some ([0 ≤ n ∧ n < len], .rp (get n.toNat) 0, [])
        | false => none
      | _ => none
    | none => none
  | some (.array len e), .atom (.int _ n) => match tSz P e with
    | some sz => match x with
      | .op k i j => some ([0 ≤ n ∧ n < len], .op k i (j + n.toNat * sz), [])
      | .rp cs j => some ([0 ≤ n ∧ n < len], .rp cs (j + n.toNat * sz), [])
      | _ => none
    | none => none
  | _, _ => none

theorem ev_indexAddr (g : Good E σ S μ w) {T : TypeId} {x ix : AV} {v vi : Value} (hx : RepX w S μ v x) (hi : RepX w S μ vi ix) {ps : List Prop} {r : AV} {rd : List Nat}
    (h : evIndexAddr P σ T x ix = some (ps, r, rd)) (hp : AllP ps) :
    ∃ u, (Instr.indexAt T v vi).run P w = .ok u w ∧ RepX w S μ u r := by
  unfold evIndexAddr at h
  split at h
  · rename_i e kk n hu
    have := rep_int hi; subst this
    split at h
    · rename_i sz hsz
      split at h
      · rename_i k off len
        split at h
        · rename_i o ho
          split at h
          · rename_i hb
            have hb := Nat.eq_of_beq_eq_true hb
            simp only [Option.some.injEq, Prod.mk.injEq] at h
            obtain ⟨rfl, rfl, rfl⟩ := h
            obtain ⟨pl, c, T', hm, hob⟩ := g.rep.ob k o ho
            have hn := hp.1
            cases hx with
            | os pl' hm' h1 h2 h3 =>
              rename_i cap a
              rw [hm] at hm'; cases hm'
              have ha := h1 (by omega)
              subst ha
              refine ⟨.pointer (some ⟨pl.blk, addz off n.toNat * pl.sz + 0, none⟩), ?_, .op pl hm⟩
              simp only [Instr.indexAt, asIntOf, run_underlying hu, Sem.run_bind, Sem.run_pure, Result.andThen_ok]
              rw [Sem.run_ite, if_pos hn]
              simp only [Sem.run_bind, run_sizeOf' hsz, Result.andThen_ok, Sem.run_pure, Addr.add_mid]
              rw [addz_eq, hob.sz, hb, Nat.add_mul]
              rfl
          · cases h
        · cases h
      · rename_i len get
        split at h
        · rename_i hb
          have hb := Nat.eq_of_beq_eq_true hb
          simp only [Option.some.injEq, Prod.mk.injEq] at h
          obtain ⟨rfl, rfl, rfl⟩ := h
          have hn := hp.1
          cases hx with
          | sl b off sz' f h1 h2 h3 h4 _ =>
            rename_i cap a
            have hi' : n.toNat < len := by omega
            obtain ⟨ha, hS⟩ := h1 (by omega)
            subst ha
            have hss : sz' = sz := by rw [← h2 n.toNat hi', hb]
            subst hss
            refine ⟨.pointer (some ⟨b, (off + n.toNat * sz') + 0, none⟩), ?_, .rp b (off + n.toNat * sz') (f n.toNat) hS ?_ ?_⟩
            · simp only [Instr.indexAt, asIntOf, run_underlying hu, Sem.run_bind, Sem.run_pure, Result.andThen_ok]
              rw [Sem.run_ite, if_pos hn]
              simp only [Sem.run_bind, run_sizeOf' hsz, Result.andThen_ok, Sem.run_pure, Addr.add_mid]
              rfl
            · intro j hj; exact h3 n.toNat j hi' (by omega)
            · intro j c hc; exact h4 n.toNat j c hi' hc
        · cases h
      · cases h
    · cases h
  · rename_i len e kk n hu
    have := rep_int hi; subst this
    split at h
    · rename_i sz hsz
      split at h
      · rename_i k i j
        simp only [Option.some.injEq, Prod.mk.injEq] at h
        obtain ⟨rfl, rfl, rfl⟩ := h
        have hn := hp.1
        cases hx with
        | op pl hm =>
          refine ⟨.pointer (some ⟨pl.blk, i * pl.sz + (j + n.toNat * sz), none⟩), ?_, .op pl hm⟩
          simp only [Instr.indexAt, Instr.sureAddr, asIntOf, run_underlying hu, Sem.run_bind, Sem.run_pure, Result.andThen_ok]
          rw [Sem.run_ite, if_pos hn]
          simp only [Sem.run_bind, run_sizeOf' hsz, Result.andThen_ok, Sem.run_pure, Addr.add_mid, Nat.add_assoc]
      · rename_i cs j
        simp only [Option.some.injEq, Prod.mk.injEq] at h
        obtain ⟨rfl, rfl, rfl⟩ := h
        have hn := hp.1
        cases hx with
        | rp b o f h1 h2 h3 =>
          refine ⟨.pointer (some ⟨b, o + (j + n.toNat * sz), none⟩), ?_, .rp b o f h1 h2 h3⟩
          simp only [Instr.indexAt, Instr.sureAddr, asIntOf, run_underlying hu, Sem.run_bind, Sem.run_pure, Result.andThen_ok]
          rw [Sem.run_ite, if_pos hn]
          simp only [Sem.run_bind, run_sizeOf' hsz, Result.andThen_ok, Sem.run_pure, Addr.add_mid, Nat.add_assoc]
      · cases h
    · cases h
  · cases h

def byteAt (s : ByteArray) (i : Nat) : Int := ((s[i]?).getD 0).toNat
def evIndex (P : Program) (T : TypeId) (x ix : AV) : Option (List Prop × AV) :=
  match P.underlying T, x, ix with
  | some .string, .atom (.string s), .atom (.int _ n) => some ([0 ≤ n ∧ n < s.size], .atom (.int .u8 (byteAt s n.toNat)))
  | _, _, _ => none
theorem ev_index {T : TypeId} {x ix : AV} {v vi : Value} (hx : RepX w S μ v x) (hi : RepX w S μ vi ix) {ps : List Prop} {r : AV} (h : evIndex P T x ix = some (ps, r)) (hp : AllP ps) :
    ∃ u, (Instr.index T v vi).run P w = .ok u w ∧ RepX w S μ u r := by
  unfold evIndex at h
  split at h
  · rename_i s kk n hu
    simp only [Option.some.injEq, Prod.mk.injEq] at h
    obtain ⟨rfl, rfl⟩ := h
    have := rep_int hi; subst this
    have := rep_int hx; subst this
    have hn := hp.1
    have hlt : n.toNat < s.size := by omega
    refine ⟨_, ?_, .atom _⟩
    simp only [Instr.index, asIntOf, run_underlying hu, Sem.run_bind, Sem.run_pure, Result.andThen_ok]
    rw [if_pos hn.1]
    simp [byteAt, hlt]
  · cases h

/-! ### Parts of slices and texts -/
def bound (len : Nat) : Option AV → Option Nat
  | none => some len
  | some (.atom (.int _ n)) => some n.toNat
  | _ => none
def boundP : Option AV → List Prop
  | some (.atom (.int _ n)) => [0 ≤ n]
  | _ => []
def evSlice (P : Program) (σ : Sto) (T : TypeId) (x : AV) (lo hi : Option AV) : Option (List Prop × AV × List Nat) :=
  match P.underlying T, x with
  | some .string, .atom (.string s) => match bound 0 lo, bound s.size hi with
    | some l, some h => some ((l ≤ h ∧ h ≤ s.size) :: (boundP lo ++ boundP hi), .atom (.string (s.extract l h)), [])
    | _, _ => none
  | some (.slice e), x => match tSz P e with
    | some sz => match x with
      | .os k off len => match bound 0 lo, bound len hi, sget σ k with
        | some l, some h, some o => match Nat.beq o.sz sz with
          | true => some ((l ≤ h ∧ h ≤ len) :: (boundP lo ++ boundP hi), .os k (addz off l) (h - l), [k])
          | false => none
        | _, _, _ => none
      | .sl len get => match bound 0 lo, bound len hi with
        | some l, some h => match Nat.beq (get l).length sz with
          | true => some ((l ≤ h ∧ h ≤ len) :: (boundP lo ++ boundP hi), .sl (h - l) fun i => get (addz l i), [])
          | false => none
        | _, _ => none
      | _ => none
    | none => none
  | _, _ => none

theorem ints_bound {lo : Option AV} {vlo : Option Value} (hv : (vlo = none ↔ lo = none) ∧ ∀ a b, lo = some a → vlo = some b → RepX w S μ b a) {len l : Nat} (h : bound len lo = some l) :
    (lo = none ∧ vlo = none ∧ l = len) ∨ ∃ k n, vlo = some (.int k n) ∧ lo = some (.atom (.int k n)) ∧ l = n.toNat := by
  unfold bound at h
  split at h
  · left; cases h; exact ⟨rfl, hv.1.2 rfl, rfl⟩
  · rename_i k n
    right
    cases vlo with
    | none => have := hv.1.1 rfl; cases this
    | some b =>
      have := rep_int (hv.2 _ b rfl rfl)
      subst this
      cases h
      exact ⟨k, n, rfl, rfl, rfl⟩
  · cases h

theorem run_bounds (isSlice : Bool) {len cap l h : Nat} {lo hi : Option AV} {vlo vhi : Option Value} (hlo : (vlo = none ↔ lo = none) ∧ ∀ a b, lo = some a → vlo = some b → RepX w S μ b a)
    (hhi : (vhi = none ↔ hi = none) ∧ ∀ a b, hi = some a → vhi = some b → RepX w S μ b a) (hl : bound 0 lo = some l) (hh : bound len hi = some h) (hle : l ≤ h) (hcap : h ≤ cap) (hp : AllP (boundP lo ++ boundP hi)) :
    (Instr.sliceBounds isSlice len cap vlo vhi none).run P w = .ok (l, h, cap) w := by
  obtain ⟨p1, p2⟩ := AllP.app hp
  rcases ints_bound hlo hl with ⟨e1, e2, e3⟩ | ⟨k1, n1, e1, e2, e3⟩
  · subst e1 e2 e3
    rcases ints_bound hhi hh with ⟨f1, f2, f3⟩ | ⟨k2, n2, f1, f2, f3⟩
    · subst f1 f2 f3
      simp [Instr.sliceBounds]
    · subst f1 f2 f3
      have := p2.1
      have h2 : 0 ≤ n2 ∧ n2 ≤ cap := by omega
      simp [Instr.sliceBounds, Instr.sliceBound, asIntOf, h2]
  · subst e1 e2 e3
    have := p1.1
    rcases ints_bound hhi hh with ⟨f1, f2, f3⟩ | ⟨k2, n2, f1, f2, f3⟩
    · subst f1 f2 f3
      have h2 : 0 ≤ n1 ∧ n1 ≤ h := by omega
      simp [Instr.sliceBounds, Instr.sliceBound, asIntOf, h2]
    · subst f1 f2 f3
      have := p2.1
      have h2 : 0 ≤ n2 ∧ n2 ≤ cap := by omega
      have h3 : 0 ≤ n1 ∧ n1 ≤ (n2.toNat : Int) := by omega
      simp only [Instr.sliceBounds, Instr.sliceBound, asIntOf, Sem.run_bind, Sem.run_pure, Result.andThen_ok, Sem.run_ite, if_pos h2, if_pos h3]

theorem ev_slice (g : Good E σ S μ w) {T : TypeId} {x : AV} {v : Value} (hx : RepX w S μ v x) {lo hi : Option AV} {vlo vhi : Option Value}
    (hlo : (vlo = none ↔ lo = none) ∧ ∀ a b, lo = some a → vlo = some b → RepX w S μ b a)
    (hhi : (vhi = none ↔ hi = none) ∧ ∀ a b, hi = some a → vhi = some b → RepX w S μ b a) {ps : List Prop} {r : AV} {rd : List Nat} (h : evSlice P σ T x lo hi = some (ps, r, rd)) (hp : AllP ps) :
    ∃ u, (Instr.sliceAt T v vlo vhi none).run P w = .ok u w ∧ RepX w S μ u r := by
  unfold evSlice at h
  split at h
  · rename_i s hu
    have := rep_int hx; subst this
    split at h
    · rename_i l hh hl hh'
      simp only [Option.some.injEq, Prod.mk.injEq] at h
      obtain ⟨rfl, rfl, rfl⟩ := h
      obtain ⟨⟨p1, p2⟩, p3⟩ := hp
      have hb := run_bounds (P := P) (w := w) false (cap := s.size) hlo hhi hl hh' p1 p2 p3
      refine ⟨_, ?_, .atom _⟩
      simp [Instr.sliceAt, Instr.slice, run_underlying hu, hb]
    · cases h
  · rename_i e hu
    split at h
    · rename_i sz hsz
      split at h
      · rename_i k off len
        split at h
        · rename_i l hh o hl hh' ho
          split at h
          · rename_i hb
            have hb := Nat.eq_of_beq_eq_true hb
            simp only [Option.some.injEq, Prod.mk.injEq] at h
            obtain ⟨rfl, rfl, rfl⟩ := h
            obtain ⟨⟨p1, p2⟩, p3⟩ := hp
            obtain ⟨pl, c, T', hm, hob⟩ := g.rep.ob k o ho
            cases hx with
            | os pl' hm' h1 h2 h3 =>
              rename_i cap a
              rw [hm] at hm'; cases hm'
              have hbd := run_bounds (P := P) (w := w) true (cap := cap) hlo hhi hl hh' p1 (by omega) p3
              refine ⟨.slice (if cap = l then a else a.map (·.add (l * sz))) (hh - l) (cap - l), ?_, ?_⟩
              · simp [Instr.sliceAt, Instr.slice, run_underlying hu, hbd, run_sizeOf' hsz]
              · refine .os pl hm ?_ (by omega) (by rw [addz_eq]; omega)
                intro hc
                have := h1 (by omega)
                subst this
                rw [if_neg (by omega)]
                simp only [Option.map_some, Addr.add_mid]
                rw [addz_eq, hob.sz, hb, Nat.add_mul]
          · cases h
        · cases h
      · rename_i len get
        split at h
        · rename_i l hh hl hh'
          split at h
          · rename_i hb
            have hb := Nat.eq_of_beq_eq_true hb
            simp only [Option.some.injEq, Prod.mk.injEq] at h
            obtain ⟨rfl, rfl, rfl⟩ := h
            obtain ⟨⟨p1, p2⟩, p3⟩ := hp
            cases hx with
            | sl b off sz' f h1 h2 h3 h4 h5 =>
              rename_i a cap
              have hbd := run_bounds (P := P) (w := w) true (cap := cap) hlo hhi hl hh' p1 (by omega) p3
              have hss : l < hh → sz' = sz := fun hlt => by rw [← h2 l (by omega), hb]
              refine ⟨.slice (if cap = l then a else a.map (·.add (l * sz))) (hh - l) (cap - l), ?_, ?_⟩
              · simp [Instr.sliceAt, Instr.slice, run_underlying hu, hbd, run_sizeOf' hsz]
              · refine .sl b (off + l * sz) sz' (fun i j => f (addz l i) j) ?_ (fun i hi => h2 _ (by rw [addz_eq]; omega)) ?_ (fun i j c hi hc => h4 _ _ _ (by rw [addz_eq]; omega) hc) (by omega)
                · intro hc
                  obtain ⟨ha, hS⟩ := h1 (by omega)
                  subst ha
                  rw [if_neg (by omega)]
                  simp only [Option.map_some, Addr.add_mid]
                  exact ⟨trivial, hS⟩
                · intro i j hi hj
                  have := h3 (addz l i) j (by rw [addz_eq]; omega) hj
                  rw [addz_eq] at this ⊢
                  rw [← this, ← hss (by omega), Nat.add_mul]
                  congr 2; omega
          · cases h
        · cases h
      · cases h
    · cases h
  · cases h

end
end Go.Ab

namespace Go.Ab
section
variable {P : Program} {E : Env} {nk : Nat} {σ : Sto} {S : Nat → Prop} {μ : Mu} {w : World}

def evLen (P : Program) (T : TypeId) (x : AV) : Option AV :=
  match P.underlying T with
  | some .string => match x with
    | .atom (.string s) => some (.atom (.int .i64 s.size))
    | _ => none
  | some (.array n _) => some (.atom (.int .i64 n))
  | some (.slice _) => match x with
    | .os _ _ n => some (.atom (.int .i64 n))
    | .sl n _ => some (.atom (.int .i64 n))
    | .nil => some (.atom (.int .i64 0))
    | _ => none
  | _ => none
theorem ev_len {T : TypeId} {x : AV} {v : Value} (hx : RepX w S μ v x) {r : AV} (h : evLen P T x = some r) (ty : TypeId) :
    ∃ u, (Builtin.len_ #[T] ty #[v]).run P w = .ok u w ∧ RepX w S μ u r := by
  unfold evLen at h
  split at h
  · rename_i hu
    split at h
    · cases h
      have := rep_int hx; subst this
      exact ⟨_, by simp [Builtin.len_, run_underlying hu, goInt], .atom _⟩
    · cases h
  · rename_i n e hu
    cases h
    exact ⟨_, by simp [Builtin.len_, run_underlying hu, goInt], .atom _⟩
  · rename_i e hu
    split at h
    · cases h
      cases hx with
      | os pl hm h1 h2 h3 => exact ⟨_, by simp [Builtin.len_, run_underlying hu, goInt], .atom _⟩
    · cases h
      cases hx with
      | sl b off sz f h1 h2 h3 h4 h5 => exact ⟨_, by simp [Builtin.len_, run_underlying hu, goInt], .atom _⟩
    · cases h
      cases hx
      exact ⟨_, by simp [Builtin.len_, run_underlying hu, goInt], .atom _⟩
    · cases h
  · cases h

/-- What an append reads. -/
def srcOf (σ : Sto) (sz : Nat) (x : AV) : Option (Nat × (Nat → List AV) × Bool × List Prop × List Nat) :=
  match x with
  | .nil => some (0, fun _ => [], true, [], [])
  | .sl n g => match Nat.beq (g 0).length sz with
    | true => some (n, g, true, [∀ i, i < n → AV.oneL (g i) = true], [])
    | false => none
  | .os k off n => match sget σ k with
    | some o => match Nat.beq o.sz sz with
      | true => some (n, (fun i => o.get (addz off i)), o.pr, [off + n ≤ o.len, ∀ i, i < n → AV.oneL (o.get (addz off i)) = true], [k])
      | false => none
    | none => none
  | _ => none

theorem oneN {n : Nat} {g : Nat → List AV} (h : (List.range n).all (fun i => AV.oneL (g i)) = true) : ∀ i, i < n → AV.oneL (g i) = true :=
  fun i hi => List.all_eq_true.1 h i (List.mem_range.2 hi)

structure Src (P : Program) (w : World) (S : Nat → Prop) (μ : Mu) (sz : Nat) (v : Value) (n : Nat) (g : Nat → List AV) (pr : Bool) (news : List Value) : Prop where
  len : ∀ w' : World, (Builtin.lenOf v).run P w' = .ok n w'
  cells : ∀ w' : World, w'.heap = w.heap → (Builtin.firstCells sz n v).run P w' = .ok news.toArray w'
  size : news.length = n * sz
  one : ∀ u ∈ news, u.oneCell' = true
  els : ∀ i, i < n → (g i).length = sz
  rep : ∀ i j x u, i < n → (g i)[j]? = some x → news[i * sz + j]? = some u → RepX w S (if pr then noMu else μ) u x

theorem mul_split {n sz q : Nat} (h : q < n * sz) : q / sz < n ∧ q % sz < sz ∧ q = q / sz * sz + q % sz := by
  have h0 : 0 < sz := by
    rcases Nat.eq_zero_or_pos sz with h1 | h1
    · subst h1; simp at h
    · exact h1
  refine ⟨Nat.div_lt_of_lt_mul (by rw [Nat.mul_comm]; exact h), Nat.mod_lt _ h0, ?_⟩
  rw [Nat.mul_comm]; exact (Nat.div_add_mod q sz).symm

/-- A run of cells as a source. -/
theorem Src.mk' {sz n : Nat} {g : Nat → List AV} {pr : Bool} {b o len cap : Nat} (f : Nat → Nat → Value) (hl : n = len)
    (hc : ∀ i j, i < n → j < sz → w.cell? ⟨b, o + i * sz + j, none⟩ = some (f i j)) (h1 : ∀ i, i < n → AV.oneL (g i) = true) (hels : ∀ i, i < n → (g i).length = sz)
    (hr : ∀ i j x, i < n → (g i)[j]? = some x → RepX w S (if pr then noMu else μ) (f i j) x) :
    ∃ news, Src P w S μ sz (.slice (some ⟨b, o, none⟩) len cap) n g pr news := by
  subst hl
  refine ⟨(List.range (n * sz)).map fun q => f (q / sz) (q % sz), ?_⟩
  have hget : ∀ q u, ((List.range (n * sz)).map fun q => f (q / sz) (q % sz))[q]? = some u → q < n * sz ∧ u = f (q / sz) (q % sz) := by
    intro q u hq
    have hlt : q < n * sz := by
      have := (List.getElem?_eq_some_iff.1 hq).1
      simpa using this
    simp [List.getElem?_range hlt] at hq
    exact ⟨hlt, hq.symm⟩
  refine ⟨fun w' => by simp [Builtin.lenOf], fun w' hw => ?_, by simp, ?_, hels, ?_⟩
  · have hcell : ∀ a, w'.cell? a = w.cell? a := fun a => by simp [World.cell?, hw]
    refine run_firstCells_some w' sz n ⟨b, o, none⟩ n cap _ (by simp) ?_
    intro q u hq
    obtain ⟨hlt, rfl⟩ := hget q u hq
    obtain ⟨h2, h3, h4⟩ := mul_split hlt
    rw [hcell, Addr.add_mid]
    have := hc _ _ h2 h3
    rw [Nat.add_assoc, ← h4] at this
    exact this
  · intro u hu
    obtain ⟨q, hq⟩ := List.getElem?_of_mem hu
    obtain ⟨hlt, rfl⟩ := hget q u hq
    obtain ⟨h2, h3, h4⟩ := mul_split hlt
    have hx : (g (q / sz))[q % sz]? = some ((g (q / sz))[q % sz]'(by rw [hels _ h2]; exact h3)) := List.getElem?_eq_getElem _
    exact (hr _ _ _ h2 hx).oneCell (oneL_get (h1 _ h2) hx)
  · intro i j x u hi hx hu
    obtain ⟨hlt, rfl⟩ := hget _ u hu
    have hj : j < sz := by
      have := (List.getElem?_eq_some_iff.1 hx).1
      rwa [hels i hi] at this
    have e1 : (i * sz + j) / sz = i := by
      rw [Nat.mul_comm, Nat.mul_add_div (by omega), Nat.div_eq_of_lt hj]; omega
    have e2 : (i * sz + j) % sz = j := by
      rw [Nat.mul_comm, Nat.mul_add_mod, Nat.mod_eq_of_lt hj]
    rw [e1, e2]
    exact hr i j x hi hx

theorem Src.empty {sz : Nat} {g : Nat → List AV} {pr : Bool} {a : Option Addr} {cap : Nat} : Src P w S μ sz (.slice a 0 cap) 0 g pr [] := by
  refine ⟨fun w' => by simp [Builtin.lenOf], fun w' _ => ?_, by simp, by simp, fun i h => absurd h (by omega), fun i j x u h => absurd h (by omega)⟩
  cases a with
  | none => simp [Builtin.firstCells]
  | some a => simp [Builtin.firstCells, loadCells, loadCellsFrom]

theorem ev_src (g : Good E σ S μ w) {sz : Nat} {x : AV} {v : Value} (hx : RepX w S μ v x) {n : Nat} {gt : Nat → List AV} {pr : Bool} {ps : List Prop} {rd : List Nat}
    (h : srcOf σ sz x = some (n, gt, pr, ps, rd)) (hp : AllP ps) : ∃ news, Src P w S μ sz v n gt pr news := by
  unfold srcOf at h
  split at h
  · simp only [Option.some.injEq, Prod.mk.injEq] at h
    obtain ⟨rfl, rfl, rfl, rfl, rfl⟩ := h
    cases hx
    exact ⟨[], Src.empty⟩
  · rename_i n' g'
    split at h
    · rename_i hb
      have hb := Nat.eq_of_beq_eq_true hb
      simp only [Option.some.injEq, Prod.mk.injEq] at h
      obtain ⟨rfl, rfl, rfl, rfl, rfl⟩ := h
      cases hx with
      | sl b off sz' f h1 h2 h3 h4 h5 =>
        rcases Nat.eq_zero_or_pos n' with h0 | h0
        · subst h0; exact ⟨[], Src.empty⟩
        · obtain ⟨ha, _⟩ := h1 h0
          subst ha
          have hs : sz' = sz := by rw [← h2 0 h0, hb]
          subst hs
          exact Src.mk' f rfl h3 hp.1 h2 (fun i j x hi hx => h4 i j x hi hx)
    · cases h
  · rename_i k off n'
    split at h
    · rename_i o ho
      split at h
      · rename_i hb
        have hb := Nat.eq_of_beq_eq_true hb
        simp only [Option.some.injEq, Prod.mk.injEq] at h
        obtain ⟨rfl, hg, rfl, rfl, rfl⟩ := h
        have hgt : gt = fun i => o.get (off + i) := by
          rw [← hg]; funext i; rw [addz_eq]
        subst hgt
        obtain ⟨hle, hone, _⟩ := hp
        simp only [addz_eq] at hone
        obtain ⟨pl, c, T', hm, hob⟩ := g.rep.ob k o ho
        subst hb
        cases hx with
        | os pl' hm' h1 h2 h3 =>
          rename_i cap a
          rw [hm] at hm'; cases hm'
          rcases Nat.eq_zero_or_pos n' with h0 | h0
          · subst h0; exact ⟨[], Src.empty⟩
          · have ha := h1 (by omega)
            subst ha
            refine Src.mk' (fun i j => (c[(off + i) * o.sz + j]?).getD undef) rfl ?_ hone (fun i hi => hob.els _ (by omega)) ?_
            · intro i j hi hj
              obtain ⟨v, q1, q2⟩ := cell_of_obrep hob (i := off + i) (by omega) hj
              rw [q1, hob.sz, ← Nat.add_mul, q2]; rfl
            · intro i j x hi hx
              obtain ⟨v, q1, q2⟩ := cell_of_obrep hob (i := off + i) (by omega) (by have := (List.getElem?_eq_some_iff.1 hx).1; rwa [hob.els _ (by omega)] at this)
              rw [q1]
              exact hob.rep _ j x v (by omega) hx q1
      · cases h
    · cases h
  · cases h

def evAppend (P : Program) (nk : Nat) (σ : Sto) (t : TypeId) (s x : AV) : Option (List Prop × AV × List Nat × Upd) :=
  match sliceElem P t with
  | some e => match tSz P e, tBytes P e, tZero P e with
    | some sz, some b, some z => match Nat.ble 1 sz && Nat.ble 1 b && Nat.beq z.cells.size sz, srcOf σ sz x with
      | true, some (n, g, pr, ps, rd) => match s with
        | .nil => some ((n * b ≤ 140737488355328) :: ps, .os nk 0 n, rd, [(nk, some ⟨false, sz, n, pr, g⟩)])
        | .os k 0 len => match sget σ k with
          | some o => match Nat.beq o.sz sz with
            | true => some ((len = o.len) :: ((len + n) * b ≤ 140737488355328) :: ps, .os nk 0 (len + n), k :: rd,
                [(k, none), (nk, some ⟨false, sz, len + n, o.pr && pr, fun m => if m < len then o.get m else g (m - len)⟩)])
            | false => none
          | none => none
        | _ => none
      | _, _ => none
    | _, _, _ => none
  | none => none

theorem run_app_in0 {t ty e : TypeId} {i : TypeInfo} (ht : P.underlying t = some (.slice e)) (hi : P.info? e = some i) {sLen sCap n : Nat} {vx : Value} {news : List Value}
    (hl : ∀ w' : World, (Builtin.lenOf vx).run P w' = .ok n w') (hc : ∀ w' : World, w'.heap = w.heap → (Builtin.firstCells i.size n vx).run P w' = .ok news.toArray w') (hle : sLen + n ≤ sCap) :
    (Builtin.append_ #[t, t] ty #[.slice none sLen sCap, vx]).run P w = .ok (.slice none (sLen + n) sCap) w := by
  simp [Builtin.append_, run_underlying ht, sizeOf, typeInfo, hi, hl, hle, hc w rfl]

theorem run_app_in {t ty e : TypeId} {i : TypeInfo} (ht : P.underlying t = some (.slice e)) (hi : P.info? e = some i) {g sLen sCap n : Nat} {cur : Array Value} {T : TypeId} (hg : w.heap[g]? = some (.cells cur T (0, 0))) {vx : Value} {news : List Value}
    (hl : ∀ w' : World, (Builtin.lenOf vx).run P w' = .ok n w') (hc : ∀ w' : World, w'.heap = w.heap → (Builtin.firstCells i.size n vx).run P w' = .ok news.toArray w') (h1 : ∀ u ∈ news, u.oneCell' = true)
    (hle : sLen + n ≤ sCap) (hfit : sLen * i.size + news.length ≤ cur.size) :
    (Builtin.append_ #[t, t] ty #[.slice (some ⟨g, 0, none⟩) sLen sCap, vx]).run P w =
      .ok (.slice (some ⟨g, 0, none⟩) (sLen + n) sCap) (w.setRow g (cur.toList.take (sLen * i.size) ++ news ++ cur.toList.drop (sLen * i.size + news.length)).toArray) := by
  have hst := run_storeCells_at P g (sLen * i.size) T news 0 cur w hg (by simpa using hfit) h1
  simp only [Nat.add_zero] at hst
  simp [Builtin.append_, run_underlying ht, sizeOf, typeInfo, hi, hl, hle, hc w rfl, Addr.add_lit, hst]

theorem run_app_grow {t ty e : TypeId} {i : TypeInfo} {z : Value} (ht : P.underlying t = some (.slice e)) (hi : P.info? e = some i) (hz : i.zero = some z) {base : Option Addr} {sLen sCap n : Nat} {vx : Value} {olds news : List Value}
    (ho : ∀ w' : World, w'.heap = w.heap → (Builtin.firstCells i.size sLen (.slice base sLen sCap)).run P w' = .ok olds.toArray w')
    (hl : ∀ w' : World, (Builtin.lenOf vx).run P w' = .ok n w') (hc : ∀ w' : World, w'.heap = w.heap → (Builtin.firstCells i.size n vx).run P w' = .ok news.toArray w')
    (hg : sCap < sLen + n) (hb : 1 ≤ i.bytes) (hfit : (sLen + n) * i.bytes ≤ 140737488355328) :
    (Builtin.append_ #[t, t] ty #[.slice base sLen sCap, vx]).run P w =
      .ok (.slice (some ⟨w.heap.size, 0, none⟩) (sLen + n) (grownCap w (sLen + n) sCap e))
        (w.drew.alloc (.cells (olds.toArray ++ news.toArray ++ Builtin.zeroCells z.cells (grownCap w (sLen + n) sCap e - (sLen + n))) e)) := by
  have hn : ¬ (sLen + n ≤ sCap) := by omega
  have hbb : (sLen + n) * 1 ≤ (sLen + n) * i.bytes := Nat.mul_le_mul_left _ hb
  have h63' : ¬ (9223372036854775807 < ((sLen : Int) + (n : Int))) := by omega
  have h48 := growslice_fits hg hfit
  have h48' : ¬ (281474976710656 < Builtin.nextslicecap (sLen + n) sCap * i.bytes) := by omega
  have e1 := hc w.drew rfl
  have e2 := ho w.drew rfl
  simp [Builtin.append_, run_underlying ht, sizeOf, typeInfo, zeroValue, hi, hz, hl, hn, h63', h48', Question.forced, e1, e2, newRow, grownCap]
  congr 2
  apply Array.ext'
  simp

theorem grown_ge (w : World) (need old : Nat) (e : TypeId) : need ≤ grownCap w need old e := by simp [grownCap, Question.cut]

/-- The new object of an append that made a new block. -/
theorem Good.grow (g : Good E σ S μ w) (hk : μ nk = none) (hm : E.m0 ≤ nk) {sz n len cap : Nat} {e : TypeId} {olds news : List Value} {rest : Array Value} {pr : Bool} {get : Nat → List AV}
    (ho : olds.length = len * sz) (hn : news.length = n * sz) (hr : rest.size = (cap - (len + n)) * sz) (hle : len + n ≤ cap)
    (hels : ∀ i, i < len + n → (get i).length = sz)
    (hrep : ∀ i j x u, i < len + n → (get i)[j]? = some x → (olds ++ news)[i * sz + j]? = some u → RepX w S (if pr then noMu else μ) u x) (hsz0 : sz ≠ 0) :
    Ext w S μ (w.drew.alloc (.cells (olds.toArray ++ news.toArray ++ rest) e)) S (muSet μ nk ⟨w.heap.size, cap, sz⟩) ∧
    Good E (sset σ nk ⟨false, sz, len + n, pr, get⟩) S (muSet μ nk ⟨w.heap.size, cap, sz⟩) (w.drew.alloc (.cells (olds.toArray ++ news.toArray ++ rest) e)) := by
  have hsz : (olds.toArray ++ news.toArray ++ rest).size = cap * sz := by
    simp only [Array.size_append, List.size_toArray, ho, hn, hr]
    rw [← Nat.add_mul, ← Nat.add_mul]; congr 1; omega
  have ga := g.drew.alloc (nk := nk) hk hm (olds.toArray ++ news.toArray ++ rest) e ⟨false, sz, len + n, pr, get⟩ cap (by rw [hsz]; exact Nat.le_refl _) hle hels ?_ hsz0
  · exact ⟨(Ext.drew w S μ).trans ga.1, ga.2⟩
  · intro i j x v hi hx hv
    have hj : j < sz := by
      have := (List.getElem?_eq_some_iff.1 hx).1
      have e : (get i).length = sz := hels i hi
      exact e ▸ this
    have hlt : i * sz + j < (olds ++ news).length := by
      have h1 : (i + 1) * sz ≤ (len + n) * sz := Nat.mul_le_mul_right _ (show i + 1 ≤ len + n from hi)
      rw [Nat.add_mul, Nat.add_mul] at h1
      simp only [List.length_append, ho, hn]
      omega
    have hv' : (olds ++ news)[i * sz + j]? = some v := by
      rw [show olds.toArray ++ news.toArray ++ rest = (olds ++ news).toArray ++ rest by simp] at hv
      rw [Array.getElem?_append_left (by simpa using hlt)] at hv
      simpa using hv
    have := hrep i j x v hi hx hv'
    exact RepX.mono (w := w) (w' := w.drew) (S' := S) (fun _ h => h) (fun _ _ => rfl) this (fun _ _ h => h)

/-- An object gets another name. -/
theorem Good.move (g : Good E σ S μ w) (hk : μ nk = none) (hm : E.m0 ≤ nk) {k : Nat} {o : Ob} {pl : Place} (ho : sget σ k = some o) (hmk : μ k = some pl) (o' : Ob) {c : Array Value} {T : TypeId} (hob : ObRep w S μ o' pl c T) :
    Ext w S μ w S (muSet μ nk pl) ∧ Good E (sset (sdel σ k) nk o') S (muSet μ nk pl) w := by
  have gd := g.del k
  have hmu : ∀ n pl', μ n = some pl' → muSet μ nk pl n = some pl' := fun n pl' h => by
    unfold muSet
    split
    · rename_i hkn; rw [hkn, hk] at h; cases h
    · exact h
  have ex : Ext w S μ w S (muSet μ nk pl) := ⟨Nat.le_refl _, fun _ h => h, fun _ _ => rfl, hmu⟩
  refine ⟨ex, ⟨g.fr, g.S0, g.S1, g.S2, ⟨?_, ?_⟩, ?_, ?_⟩⟩
  · intro q oq hq
    rw [sget_sset] at hq
    by_cases hqn : nk = q
    · rw [if_pos hqn] at hq; cases hq
      exact ⟨pl, c, T, by simp [muSet, hqn], hob.ext ex (fun _ => rfl) hob.out⟩
    · rw [if_neg hqn] at hq
      obtain ⟨pl2, c2, T2, hm2, hob2⟩ := gd.rep.ob q oq hq
      exact ⟨pl2, c2, T2, hmu _ _ hm2, hob2.ext ex (fun _ => rfl) hob2.out⟩
  · intro q q' oq oq' pl1 pl2 hne hq hq' hpl hpl' c1 c2
    rw [sget_sset] at hq hq'
    simp only [muSet] at hpl hpl'
    by_cases e1 : nk = q
    · rw [if_pos e1.symm] at hpl; cases hpl
      have e2 : ¬ nk = q' := fun h => hne (e1.symm.trans h)
      rw [if_neg e2] at hq'; rw [if_neg (fun h => e2 h.symm)] at hpl'
      rw [sget_sdel] at hq'
      split at hq'
      · cases hq'
      · rename_i e3
        exact g.rep.ne k q' o oq' pl pl2 e3 ho hq' hmk hpl' c1 c2
    · rw [if_neg e1] at hq; rw [if_neg (fun h => e1 h.symm)] at hpl
      rw [sget_sdel] at hq
      split at hq
      · cases hq
      · rename_i e3
        by_cases e2 : nk = q'
        · rw [if_pos e2.symm] at hpl'; cases hpl'
          exact g.rep.ne q k oq o pl1 pl (fun h => e3 h.symm) hq ho hpl hmk c1 c2
        · rw [if_neg e2] at hq'; rw [if_neg (fun h => e2 h.symm)] at hpl'
          rw [sget_sdel] at hq'
          split at hq'
          · cases hq'
          · exact g.rep.ne q q' oq oq' pl1 pl2 hne hq hq' hpl hpl' c1 c2
  · intro q oq plq hq hpl c1
    rw [sget_sset] at hq
    simp only [muSet] at hpl
    by_cases e1 : nk = q
    · rw [if_pos e1.symm] at hpl; cases hpl; exact g.own k o _ ho hmk c1
    · rw [if_neg e1] at hq; rw [if_neg (fun h => e1 h.symm)] at hpl
      exact gd.own q oq plq hq hpl c1
  · intro q hq; rw [muSet_ne _ (by omega)]; exact g.mu0 q hq

theorem Good.congr {σ' : Sto} (g : Good E σ S μ w) (h : ∀ n, sget σ' n = sget σ n) : Good E σ' S μ w :=
  ⟨g.fr, g.S0, g.S1, g.S2, ⟨fun k o hk => g.rep.ob k o (h k ▸ hk), fun k k' o o' pl pl' hne hk hk' => g.rep.ne k k' o o' pl pl' hne (h k ▸ hk) (h k' ▸ hk')⟩,
    fun k o pl hk => g.own k o pl (h k ▸ hk), g.mu0⟩

theorem ev_append (g : Good E σ S μ w) (hk : μ nk = none) (hm : E.m0 ≤ nk) {t ty : TypeId} {s x : AV} {vs vx : Value} (hs : RepX w S μ vs s) (hx : RepX w S μ vx x) {ps : List Prop} {val : AV} {rd : List Nat} {upd : Upd}
    (h : evAppend P nk σ t s x = some (ps, val, rd, upd)) (hp : AllP ps) : Step P E nk σ S μ w (Builtin.append_ #[t, t] ty #[vs, vx]) val upd := by
  unfold evAppend at h
  split at h
  · rename_i e he
    have he := sliceElem_eq he
    split at h
    · rename_i sz b z hsz hb hz
      obtain ⟨ie, hie, rfl, rfl, hze⟩ := info_of hsz hb hz
      split at h
      · rename_i n gt pr ps' rd' hbb hsrc
        simp only [Bool.and_eq_true, Nat.ble_eq] at hbb
        obtain ⟨⟨b1, b2⟩, b3⟩ := hbb
        have b3 := Nat.eq_of_beq_eq_true b3
        split at h
        · simp only [Option.some.injEq, Prod.mk.injEq] at h
          obtain ⟨rfl, rfl, rfl, rfl⟩ := h
          obtain ⟨p1, p2⟩ := hp
          obtain ⟨news, sr⟩ := ev_src (P := P) g hx hsrc p2
          cases hs
          rcases Nat.eq_zero_or_pos n with h0 | h0
          · subst h0
            have hrun := run_app_in0 (P := P) (w := w) (ty := ty) (sLen := 0) (sCap := 0) he hie sr.len sr.cells (by omega)
            have ga : Good E (sset σ nk ⟨false, ie.size, 0, pr, gt⟩) S (muSet μ nk ⟨0, 0, ie.size⟩) w := by
              have hmu : ∀ k pl, μ k = some pl → muSet μ nk ⟨0, 0, ie.size⟩ k = some pl := fun k pl h => by
                unfold muSet
                split
                · rename_i hkn; rw [hkn, hk] at h; cases h
                · exact h
              have ex : Ext w S μ w S (muSet μ nk ⟨0, 0, ie.size⟩) := ⟨Nat.le_refl _, fun _ h => h, fun _ _ => rfl, hmu⟩
              refine ⟨g.fr, g.S0, g.S1, g.S2, ⟨?_, ?_⟩, ?_, ?_⟩
              · intro k o ho
                rw [sget_sset] at ho
                by_cases hkn : nk = k
                · rw [if_pos hkn] at ho; cases ho
                  exact ⟨⟨0, 0, ie.size⟩, #[], 0, by simp [muSet, hkn], rfl, fun h => absurd h (by simp), by simp, by simp, fun h => absurd h (by simp), fun i h => absurd h (by simp), fun i j x v h => absurd h (by simp), fun h => absurd (show ie.size = 0 from h) (by omega)⟩
                · rw [if_neg hkn] at ho
                  obtain ⟨pl, c, T, hm', hob⟩ := g.rep.ob k o ho
                  exact ⟨pl, c, T, hmu _ _ hm', hob.ext ex (fun _ => rfl) hob.out⟩
              · intro k k' o o' pl pl' hne ho ho' hpl hpl' c1 c2
                rw [sget_sset] at ho ho'
                simp only [muSet] at hpl hpl'
                by_cases h1 : nk = k
                · rw [if_pos h1.symm] at hpl; cases hpl; exact absurd c1 (by simp)
                · by_cases h2 : nk = k'
                  · rw [if_pos h2.symm] at hpl'; cases hpl'; exact absurd c2 (by simp)
                  · rw [if_neg h1] at ho; rw [if_neg h2] at ho'
                    rw [if_neg (fun h => h1 h.symm)] at hpl; rw [if_neg (fun h => h2 h.symm)] at hpl'
                    exact g.rep.ne k k' o o' pl pl' hne ho ho' hpl hpl' c1 c2
              · intro k o pl ho hpl c1
                rw [sget_sset] at ho
                simp only [muSet] at hpl
                by_cases h1 : nk = k
                · rw [if_pos h1.symm] at hpl; cases hpl; exact absurd c1 (by simp)
                · rw [if_neg h1] at ho; rw [if_neg (fun h => h1 h.symm)] at hpl
                  exact g.own k o pl ho hpl c1
              · intro k hk'
                rw [muSet_ne _ (by omega)]; exact g.mu0 k hk'
            refine ⟨_, w, S, _, hrun, ⟨Nat.le_refl _, fun _ h => h, fun _ _ => rfl, ?_⟩, ga, fun k hk' hn => by rw [muSet_ne _ hk']; exact hn, ?_⟩
            · intro k pl h
              unfold muSet
              split
              · rename_i hkn; rw [hkn, hk] at h; cases h
              · exact h
            · exact RepX.os ⟨0, 0, ie.size⟩ (by simp [muSet]) (fun h => absurd h (by omega)) (by omega) (by simp)
          · have hrun := run_app_grow (P := P) (w := w) (ty := ty) (base := none) (sLen := 0) (sCap := 0) (olds := []) he hie hze (fun w' _ => by simp [Builtin.firstCells]) sr.len sr.cells (by omega) b2 (by simpa using p1)
            simp only [Nat.zero_add] at hrun
            have hcap := grown_ge w n 0 e
            have gg := g.grow (e := e) hk hm (sz := ie.size) (n := n) (len := 0) (cap := grownCap w n 0 e) (olds := []) (news := news) (rest := Builtin.zeroCells z.cells (grownCap w n 0 e - n)) (pr := pr) (get := gt)
              (by simp) sr.size (by rw [size_zeroCells, b3, Nat.zero_add]) (by omega) (fun i hi => sr.els i (by omega)) (fun i j x u hi hx hu => sr.rep i j x u (by omega) hx (by simpa using hu)) (by omega)
            simp only [Nat.zero_add] at gg
            refine ⟨_, _, S, _, hrun, gg.1, gg.2, fun k hk' hn => by rw [muSet_ne _ hk']; exact hn, ?_⟩
            exact RepX.os ⟨w.heap.size, grownCap w n 0 e, ie.size⟩ (by simp [muSet]) (by simp) hcap (by simp)
        · rename_i k len
          split at h
          · rename_i o ho
            split at h
            · rename_i hos
              have hos := Nat.eq_of_beq_eq_true hos
              simp only [Option.some.injEq, Prod.mk.injEq] at h
              obtain ⟨rfl, rfl, rfl, rfl⟩ := h
              obtain ⟨p0, p1, p2⟩ := hp
              subst p0
              obtain ⟨news, sr⟩ := ev_src (P := P) g hx hsrc p2
              obtain ⟨pl, c, T', hmk, hob⟩ := g.rep.ob k o ho
              have hkn : k ≠ nk := fun h => by rw [h, hk] at hmk; cases hmk
              show Step P E nk σ S μ w _ _ [(k, none), (nk, some ⟨false, ie.size, o.len + n, o.pr && pr, fun m => if m < o.len then o.get m else gt (m - o.len)⟩)]
              have hels : ∀ i, i < o.len + n → ((fun m => if m < o.len then o.get m else gt (m - o.len)) i).length = ie.size := by
                intro i hi
                show (if i < o.len then o.get i else gt (i - o.len)).length = _
                split
                · rw [hob.els i (by assumption), hos]
                · exact sr.els _ (by omega)
              have prw : ∀ {u : Value} {x : AV}, RepX w S (if o.pr then noMu else μ) u x → pr = true ∨ pr = false → RepX w S (if (o.pr && pr) = true then noMu else μ) u x := by
                intro u x hh hp
                rcases hp with hp | hp
                · rw [hp, Bool.and_true]; exact hh
                · rw [hp, Bool.and_false]; exact noMu_mono hh
              have prw2 : ∀ {u : Value} {x : AV}, RepX w S (if pr then noMu else μ) u x → RepX w S (if (o.pr && pr) = true then noMu else μ) u x := by
                intro u x hh
                cases hp : o.pr
                · rw [Bool.false_and]; exact noMu_mono hh
                · rw [Bool.true_and]; exact hh
              have prb : pr = true ∨ pr = false := by cases pr <;> simp
              cases hs with
              | os pl' hm' h1 h2 h3 =>
                rename_i cap a
                rw [hmk] at hm'; cases hm'
                by_cases hroom : o.len + n ≤ cap
                · rcases Nat.eq_zero_or_pos cap with hc0 | hc0
                  · have hn0 : n = 0 := by omega
                    have hl0 : o.len = 0 := by omega
                    subst hn0
                    have hnews : news = [] := List.length_eq_zero_iff.1 (by rw [sr.size]; simp)
                    have hrun : (Builtin.append_ #[t, t] ty #[.slice a o.len cap, vx]).run P w = .ok (.slice a (o.len + 0) cap) w := by
                      subst hc0
                      cases a with
                      | none => exact run_app_in0 (P := P) (w := w) (ty := ty) he hie sr.len sr.cells (by omega)
                      | some a =>
                        have e1 := sr.cells w rfl
                        rw [hnews] at e1
                        simp [Builtin.append_, run_underlying he, sizeOf, typeInfo, hie, sr.len, hl0, e1, storeCells]
                    have gm := g.move hk hm ho hmk ⟨false, ie.size, o.len + 0, o.pr && pr, fun m => if m < o.len then o.get m else gt (m - o.len)⟩ (c := c) (T := T')
                      ⟨hob.sz.trans hos, hos ▸ hob.blk, hos ▸ hob.cap, hob.len, hob.out, hels, fun i j x v hi => absurd hi (by show ¬ i < o.len + 0; omega), fun h => absurd (show ie.size = 0 from h) (by omega)⟩
                    exact ⟨_, w, S, muSet μ nk pl, hrun, gm.1, gm.2, fun k hk' hn => by rw [muSet_ne _ hk']; exact hn, RepX.os pl (by simp [muSet]) h1 (by omega) h3⟩
                  · have ha := h1 hc0
                    simp only [Nat.zero_mul] at ha
                    subst ha
                    have hcp : 0 < pl.cap := by omega
                    have hfit : o.len * ie.size + news.length ≤ c.size := by
                      have e1 : (o.len + n) * ie.size ≤ pl.cap * ie.size := Nat.mul_le_mul_right _ (by omega)
                      have e2 := hob.cap
                      rw [hos] at e2
                      rw [sr.size, ← Nat.add_mul]; omega
                    have hrun := run_app_in (P := P) (w := w) (ty := ty) he hie ((hob.blk hcp).trans (by rw [blkObj_row (by omega)])) sr.len sr.cells sr.one hroom hfit
                    generalize hc' : (c.toList.take (o.len * ie.size) ++ news ++ c.toList.drop (o.len * ie.size + news.length)).toArray = c' at hrun
                    have hlen' : (c.toList.take (o.len * ie.size)).length = o.len * ie.size := by simp; omega
                    have hsz' : c'.size = c.size := by
                      rw [← hc']
                      simp; omega
                    have hget : ∀ m, m < o.len * ie.size + news.length → c'[m]? = if m < o.len * ie.size then c[m]? else news[m - o.len * ie.size]? := by
                      intro m hm
                      rw [← hc']
                      simp only [List.getElem?_toArray]
                      rw [List.getElem?_append_left (by simp; omega)]
                      by_cases h1 : m < o.len * ie.size
                      · rw [List.getElem?_append_left (by omega), List.getElem?_take, if_pos h1, if_pos h1]
                        simp
                      · rw [List.getElem?_append_right (by omega), hlen', if_neg h1]
                    have gw := g.write ho hmk hcp hob (by omega) ⟨false, ie.size, o.len + n, o.pr && pr, fun m => if m < o.len then o.get m else gt (m - o.len)⟩ c' hos.symm hsz' (by show o.len + n ≤ _; omega) hels (by
                      intro i j x v hi hx hv
                      have hi : i < o.len + n := hi
                      have hx : (if i < o.len then o.get i else gt (i - o.len))[j]? = some x := hx
                      have hj : j < ie.size := by
                        have e1 := (List.getElem?_eq_some_iff.1 hx).1
                        have e2 : (if i < o.len then o.get i else gt (i - o.len)).length = ie.size := hels i hi
                        omega
                      have hv : c'[i * ie.size + j]? = some v := hv
                      have hb1 : (i + 1) * ie.size ≤ (o.len + n) * ie.size := Nat.mul_le_mul_right _ hi
                      rw [Nat.add_mul, Nat.add_mul] at hb1
                      rw [hget _ (by rw [sr.size]; omega)] at hv
                      by_cases hio : i < o.len
                      · have hb2 : (i + 1) * ie.size ≤ o.len * ie.size := Nat.mul_le_mul_right _ hio
                        rw [Nat.add_mul] at hb2
                        rw [if_pos (by omega)] at hv
                        rw [if_pos hio] at hx
                        exact prw (hob.rep i j x v hio hx (by rw [hos]; exact hv)) prb
                      · have hb2 : o.len * ie.size ≤ i * ie.size := Nat.mul_le_mul_right _ (by omega)
                        rw [if_neg (by omega)] at hv
                        rw [if_neg hio] at hx
                        refine prw2 (sr.rep (i - o.len) j x v (by omega) hx ?_)
                        rw [← hv, Nat.sub_mul]; congr 1; omega)
                    obtain ⟨gw1, gw2⟩ := gw
                    have hsk : sget (sset σ k ⟨false, ie.size, o.len + n, o.pr && pr, fun m => if m < o.len then o.get m else gt (m - o.len)⟩) k = some ⟨false, ie.size, o.len + n, o.pr && pr, fun m => if m < o.len then o.get m else gt (m - o.len)⟩ := by
                      rw [sget_sset, if_pos rfl]
                    obtain ⟨pl3, c3, T3, hm3, hob3⟩ := gw2.rep.ob k _ hsk
                    rw [hmk] at hm3; cases hm3
                    have gm := gw2.move hk hm hsk hmk _ hob3
                    refine ⟨_, _, S, muSet μ nk pl, hrun, gw1.trans gm.1, gm.2.congr ?_, fun k hk' hn => by rw [muSet_ne _ hk']; exact hn, RepX.os pl (by simp [muSet]) (by simp) hroom h3⟩
                    intro n
                    show sget (sset (sdel σ k) nk _) n = _
                    rw [sget_sset, sget_sset, sget_sdel, sget_sdel, sget_sset]
                    split
                    · rfl
                    · split
                      · rfl
                      · rfl
                · have hg : cap < o.len + n := by omega
                  have holds : ∃ olds : List Value, olds.length = o.len * ie.size ∧ (∀ w' : World, w'.heap = w.heap → (Builtin.firstCells ie.size o.len (.slice a o.len cap)).run P w' = .ok olds.toArray w') ∧
                      (∀ (q : Nat) (u : Value), olds[q]? = some u → c[q]? = some u) := by
                    rcases Nat.eq_zero_or_pos o.len with hl0 | hl0
                    · refine ⟨[], by simp [hl0], fun w' _ => ?_, by simp⟩
                      rw [hl0]
                      cases a with
                      | none => simp [Builtin.firstCells]
                      | some a => simp [Builtin.firstCells, loadCells, loadCellsFrom]
                    · have hcp : 0 < pl.cap := by have := hob.len; omega
                      have ha := h1 (by omega)
                      simp only [Nat.zero_mul] at ha
                      subst ha
                      have hle : o.len * ie.size ≤ c.size := by
                        have e1 : o.len * ie.size ≤ pl.cap * ie.size := Nat.mul_le_mul_right _ hob.len
                        have e2 := hob.cap
                        rw [hos] at e2; omega
                      refine ⟨c.toList.take (o.len * ie.size), by simp; omega, fun w' hw' => ?_, ?_⟩
                      · refine run_firstCells_some w' ie.size o.len _ o.len cap _ (by simp; omega) ?_
                        intro q u hq
                        rw [Addr.add_lit, Nat.zero_add, cell_of_row w' _ _ _ _ _ (by rw [hw']; exact (hob.blk hcp).trans (by rw [blkObj_row (by omega)]))]
                        rw [List.getElem?_take] at hq
                        split at hq
                        · simpa using hq
                        · cases hq
                      · intro q u hq
                        rw [List.getElem?_take] at hq
                        split at hq
                        · simpa using hq
                        · cases hq
                  obtain ⟨olds, hol, hoc, hoo⟩ := holds
                  have hrun := run_app_grow (P := P) (w := w) (ty := ty) he hie hze hoc sr.len sr.cells hg b2 p1
                  have hcap := grown_ge w (o.len + n) cap e
                  have gd := g.del k
                  have gg := gd.grow (e := e) hk hm (sz := ie.size) (n := n) (len := o.len) (cap := grownCap w (o.len + n) cap e) (olds := olds) (news := news)
                    (rest := Builtin.zeroCells z.cells (grownCap w (o.len + n) cap e - (o.len + n))) (pr := o.pr && pr) (get := fun m => if m < o.len then o.get m else gt (m - o.len))
                    hol sr.size (by rw [size_zeroCells, b3]) hcap hels (by
                      intro i j x u hi hx hu
                      have hx : (if i < o.len then o.get i else gt (i - o.len))[j]? = some x := hx
                      have hj : j < ie.size := by
                        have e1 := (List.getElem?_eq_some_iff.1 hx).1
                        have e2 : (if i < o.len then o.get i else gt (i - o.len)).length = ie.size := hels i hi
                        omega
                      by_cases hio : i < o.len
                      · have hb2 : (i + 1) * ie.size ≤ o.len * ie.size := Nat.mul_le_mul_right _ hio
                        rw [Nat.add_mul] at hb2
                        rw [if_pos hio] at hx
                        rw [List.getElem?_append_left (by omega)] at hu
                        exact prw (hob.rep i j x u hio hx (by rw [hos]; exact hoo _ _ hu)) prb
                      · have hb2 : o.len * ie.size ≤ i * ie.size := Nat.mul_le_mul_right _ (by omega)
                        rw [if_neg hio] at hx
                        rw [List.getElem?_append_right (by omega), hol] at hu
                        refine prw2 (sr.rep (i - o.len) j x u (by omega) hx ?_)
                        rw [← hu, Nat.sub_mul]; congr 1; omega) (by omega)
                  refine ⟨_, _, S, _, hrun, gg.1, gg.2, fun k hk' hn => by rw [muSet_ne _ hk']; exact hn, ?_⟩
                  exact RepX.os ⟨w.heap.size, grownCap w (o.len + n) cap e, ie.size⟩ (by simp [muSet]) (by simp) hcap (by simp)
            · cases h
          · cases h
        · cases h
      · cases h
    · cases h
  · cases h

end
end Go.Ab

namespace Go.Ab

def fpOf (σ : Sto) (μ : Mu) (b : Nat) : Prop := ∃ k o pl, sget σ k = some o ∧ μ k = some pl ∧ 0 < pl.cap ∧ pl.blk = b

def envOf (w : World) (S : Nat → Prop) (σ : Sto) (μ : Mu) (m : Nat) : Env := ⟨w, S, fpOf σ μ, μ, m⟩

/-- THE CONTRACT OF A FUNCTION: called with arguments that mean 'args', with the captured objects 0 .. m - 1 as 'σ' has them, it returns a value that means 'res' and leaves the objects as 'σ'' has them; nothing else has changed. -/
def Sound (P : Program) (f : FuncId) (args : List AV) (σ : Sto) (m : Nat) (res : AV) (σ' : Sto) : Prop :=
  ∀ (w : World) (S : Nat → Prop) (μ : Mu) (vs : Array Value), Good (envOf w S σ μ m) σ S μ w → (∀ k, m ≤ k → μ k = none) → RL w S μ vs args →
    Calls P f vs w fun e w' => ∃ v S' μ', e = .returned v ∧ Good (envOf w S σ μ m) σ' S' μ' w' ∧ RepX w' S' μ' v res

/-! ### Names of objects -/
mutual
/-- The objects get other names; one that has none is forgotten. -/
def AV.ren (f : Nat → Option Nat) : AV → AV
  | .op k i j => match f k with
    | some k' => .op k' i j
    | none => .unk
  | .os k off len => match f k with
    | some k' => .os k' off len
    | none => .unk
  | .agg cs => .agg (AV.renL f cs)
  | .tup cs => .tup (AV.renL f cs)
  | .fn g a b => .fn g (AV.renL f a) (AV.renL f b)
  | .when b x => .when b (x.ren f)
  | .mp k => match f k with
    | some k' => .mp k'
    | none => .unk
  | .bn n => .bn n
  | .pt b cs => .pt b cs
  | .atom v => .atom v
  | .sl n g => .sl n g
  | .rp c o => .rp c o
  | .nil => .nil
  | .unk => .unk
def AV.renL (f : Nat → Option Nat) : List AV → List AV
  | [] => []
  | c :: cs => c.ren f :: AV.renL f cs
end
theorem renL_eq (f : Nat → Option Nat) (cs : List AV) : AV.renL f cs = cs.map (·.ren f) := by
  induction cs with
  | nil => rfl
  | cons c cs ih => simp [AV.renL, ih]

theorem RepX.ren {w : World} {S : Nat → Prop} {μ : Mu} {v : Value} {x : AV} (h : RepX w S μ v x) :
    ∀ {μ' : Mu} {f : Nat → Option Nat}, (∀ k k' pl, f k = some k' → μ k = some pl → μ' k' = some pl) → RepX w S μ' v (x.ren f) := by
  induction h with
  | atom v => exact fun _ => .atom v
  | agg h1 h2 ih =>
    intro μ' f hf
    simp only [AV.ren, renL_eq]
    refine .agg (by simp [h1]) fun j c v hc hv => ?_
    rw [List.getElem?_map] at hc
    simp only [Option.map_eq_some_iff] at hc
    obtain ⟨c0, hc0, rfl⟩ := hc
    exact ih j c0 v hc0 hv hf
  | tup h1 h2 ih =>
    intro μ' f hf
    simp only [AV.ren, renL_eq]
    refine .tup (by simp [h1]) fun j c v hc hv => ?_
    rw [List.getElem?_map] at hc
    simp only [Option.map_eq_some_iff] at hc
    obtain ⟨c0, hc0, rfl⟩ := hc
    exact ih j c0 v hc0 hv hf
  | sl b off sz f h1 h2 h3 h4 h5 _ => exact fun _ => .sl b off sz f h1 h2 h3 h4 h5
  | rp b o f h1 h2 h3 _ => exact fun _ => .rp b o f h1 h2 h3
  | @op μ k i j pl h =>
    intro μ' f hf
    simp only [AV.ren]
    split
    · rename_i k' hk'; exact .op pl (hf _ _ _ hk' h)
    · exact .unk
  | @os μ k off len cap a pl h h1 h2 h3 =>
    intro μ' f hf
    simp only [AV.ren]
    split
    · rename_i k' hk'; exact .os pl (hf _ _ _ hk' h) h1 h2 h3
    · exact .unk
  | fn h1 h2 _ _ ih1 ih2 =>
    intro μ' f hf
    simp only [AV.ren, renL_eq]
    refine .fn (by simp [h1]) (by simp [h2]) (fun j c v hc hv => ?_) (fun j c v hc hv => ?_)
    · rw [List.getElem?_map] at hc
      simp only [Option.map_eq_some_iff] at hc
      obtain ⟨c0, hc0, rfl⟩ := hc
      exact ih1 j c0 v hc0 hv hf
    · rw [List.getElem?_map] at hc
      simp only [Option.map_eq_some_iff] at hc
      obtain ⟨c0, hc0, rfl⟩ := hc
      exact ih2 j c0 v hc0 hv hf
  | when _ hu ih => exact fun hf => .when (fun hb => ih hb hf) hu
  | @mp μ k pl h =>
    intro μ' f hf
    simp only [AV.ren]
    split
    · rename_i k' hk'; exact .mp pl (hf _ _ _ hk' h)
    · exact .unk
  | bn b h => exact fun _ => .bn b h
  | pt h1 h2 _ =>
    intro μ' f hf
    exact .pt (fun hb => by have := h1 hb; cases this with
      | rp b o f q1 q2 q3 => exact .rp b o f q1 q2 q3) h2
  | nil => exact fun _ => .nil
  | unk => exact fun _ => .unk

def Ob.ren (f : Nat → Option Nat) (o : Ob) : Ob :=
  match o.pr with
  | true => o
  | false => { o with get := fun i => AV.renL f (o.get i) }

theorem Ob.ren_sz (f : Nat → Option Nat) (o : Ob) : (o.ren f).sz = o.sz := by unfold Ob.ren; split <;> rfl
theorem Ob.ren_len (f : Nat → Option Nat) (o : Ob) : (o.ren f).len = o.len := by unfold Ob.ren; split <;> rfl
theorem Ob.ren_pr (f : Nat → Option Nat) (o : Ob) : (o.ren f).pr = o.pr := by unfold Ob.ren; split <;> rfl

theorem ObRep.ren {w : World} {S : Nat → Prop} {μ μ' : Mu} {o : Ob} {pl : Place} {c : Array Value} {T : TypeId} (h : ObRep w S μ o pl c T) {f : Nat → Option Nat}
    (hf : ∀ k k' pl, f k = some k' → μ k = some pl → μ' k' = some pl) : ObRep w S μ' (o.ren f) pl c T := by
  refine ⟨(Ob.ren_sz f o).symm ▸ h.sz, (Ob.ren_sz f o).symm ▸ h.blk, (Ob.ren_sz f o).symm ▸ h.cap, (Ob.ren_len f o).symm ▸ h.len, h.out, ?_, ?_, fun hz => ?_⟩
  rotate_left 2
  · rw [Ob.ren_sz] at hz
    obtain ⟨h0, h1, h2, h3, h4⟩ := h.mp hz
    have e : o.ren f = o := by unfold Ob.ren; rw [h3]
    rw [e]; exact ⟨h0, h1, h2, h3, h4⟩
  · intro i hi
    rw [Ob.ren_len] at hi
    rw [Ob.ren_sz, ← h.els i hi]
    unfold Ob.ren
    split
    · rfl
    · simp [renL_eq]
  · intro i j x v hi hx hv
    rw [Ob.ren_len] at hi
    rw [Ob.ren_sz] at hv
    rw [Ob.ren_pr]
    unfold Ob.ren at hx
    split at hx
    · rename_i hp
      have := h.rep i j x v hi hx hv
      rw [hp] at this ⊢
      exact this
    · rename_i hp
      simp only [renL_eq, List.getElem?_map, Option.map_eq_some_iff] at hx
      obtain ⟨y, hy, rfl⟩ := hx
      have := h.rep i j y v hi hy hv
      rw [hp] at this ⊢
      exact this.ren hf

def idx : List Nat → Nat → Option Nat
  | [], _ => none
  | a :: r, k => match Nat.beq a k with
    | true => some 0
    | false => (idx r k).map (· + 1)

theorem idx_spec : ∀ (ks : List Nat) (k i : Nat), idx ks k = some i → ks[i]? = some k
  | [], k, i, h => by simp [idx] at h
  | a :: r, k, i, h => by
    simp only [idx] at h
    split at h
    · rename_i hb
      cases h
      simp [Nat.eq_of_beq_eq_true hb]
    · simp only [Option.map_eq_some_iff] at h
      obtain ⟨i', hi', rfl⟩ := h
      simpa using idx_spec r k i' hi'

/-! ### Arguments -/
mutual
/-- An argument as the callee sees it: objects that are handed over get their new names; slices of others are lent. -/
def AV.lend (σ : Sto) (ks : List Nat) : AV → Option (AV × List Nat × List Prop)
  | .op k i j => (idx ks k).map fun n => (.op n i j, [], [])
  | .os k off len => match idx ks k with
    | some n => some (.os n off len, [], [])
    | none => match sget σ k with
      | some o => match o.pr with
        | true => some (.sl len (fun i => o.get (addz off i)), [k], [off + len ≤ o.len])
        | false => none
      | none => none
  | .agg cs => (AV.lendL σ ks cs).map fun (a, b, c) => (.agg a, b, c)
  | .tup cs => (AV.lendL σ ks cs).map fun (a, b, c) => (.tup a, b, c)
  | .fn g x y => match AV.lendL σ ks x, AV.lendL σ ks y with
    | some (a, b, c), some (a', b', c') => some (.fn g a a', b ++ b', c ++ c')
    | _, _ => none
  | .when _ _ => none
  | .mp k => (idx ks k).map fun n => (.mp n, [], [])
  | .bn n => some (.bn n, [], [])
  | .pt b cs => some (.pt b cs, [], [])
  | .atom v => some (.atom v, [], [])
  | .sl n g => some (.sl n g, [], [])
  | .rp c o => some (.rp c o, [], [])
  | .nil => some (.nil, [], [])
  | .unk => some (.unk, [], [])
def AV.lendL (σ : Sto) (ks : List Nat) : List AV → Option (List AV × List Nat × List Prop)
  | [] => some ([], [], [])
  | c :: cs => match c.lend σ ks, AV.lendL σ ks cs with
    | some (a, b, p), some (a', b', p') => some (a :: a', b ++ b', p ++ p')
    | _, _ => none
end

/-- The places of the objects that are handed over. -/
def muOf (μ : Mu) (ks : List Nat) : Mu := fun i => (ks[i]?).bind μ

/-- The blocks of lent objects. -/
def lent (μ : Mu) (bs : List Nat) (b : Nat) : Prop := ∃ k ∈ bs, ∃ pl, μ k = some pl ∧ 0 < pl.cap ∧ pl.blk = b

theorem muOf_idx {μ : Mu} {ks : List Nat} : ∀ k i pl, idx ks k = some i → μ k = some pl → muOf μ ks i = some pl := by
  intro k i pl h hm
  simp [muOf, idx_spec ks k i h, hm]

section
variable {P : Program} {E : Env} {nk : Nat} {σ : Sto} {S : Nat → Prop} {μ : Mu} {w : World}

theorem lend_rep (g : Good E σ S μ w) {ks : List Nat} {v : Value} {x : AV} (h : RepX w S μ v x) : ∀ (S' : Nat → Prop), (∀ b, S b → S' b) → ∀ {y : AV} {bs : List Nat} {ps : List Prop},
    x.lend σ ks = some (y, bs, ps) → AllP ps → (∀ b, lent μ bs b → S' b) → RepX w S' (muOf μ ks) v y := by
  have lists : ∀ {μ : Mu} {vs : Array Value} {cs : List AV} (S' : Nat → Prop),
      (∀ (j : Nat) (c : AV) (v : Value), cs[j]? = some c → vs[j]? = some v → ∀ {y : AV} {bs : List Nat} {ps : List Prop}, c.lend σ ks = some (y, bs, ps) → AllP ps → (∀ b, lent μ bs b → S' b) → RepX w S' (muOf μ ks) v y) →
      ∀ {ys : List AV} {bs : List Nat} {ps : List Prop}, AV.lendL σ ks cs = some (ys, bs, ps) → AllP ps → (∀ b, lent μ bs b → S' b) →
      ys.length = cs.length ∧ ∀ (j : Nat) (c : AV) (v : Value), ys[j]? = some c → vs[j]? = some v → RepX w S' (muOf μ ks) v c := by
    intro μ vs cs S' h
    have gen : ∀ (cs : List AV) (o : Nat), (∀ (j : Nat) (c : AV) (v : Value), cs[j]? = some c → vs[o + j]? = some v → ∀ {y : AV} {bs : List Nat} {ps : List Prop}, c.lend σ ks = some (y, bs, ps) → AllP ps → (∀ b, lent μ bs b → S' b) → RepX w S' (muOf μ ks) v y) →
      ∀ {ys : List AV} {bs : List Nat} {ps : List Prop}, AV.lendL σ ks cs = some (ys, bs, ps) → AllP ps → (∀ b, lent μ bs b → S' b) →
      ys.length = cs.length ∧ ∀ (j : Nat) (c : AV) (v : Value), ys[j]? = some c → vs[o + j]? = some v → RepX w S' (muOf μ ks) v c := by
      intro cs
      induction cs with
      | nil =>
        intro o _ ys bs ps h _ _
        simp [AV.lendL] at h
        obtain ⟨rfl, rfl, rfl⟩ := h
        exact ⟨rfl, fun j c v hc => by simp at hc⟩
      | cons c cs ih =>
        intro o hh ys bs ps h hp hb
        simp only [AV.lendL] at h
        split at h
        · rename_i a b p a' b' p' h1 h2
          simp only [Option.some.injEq, Prod.mk.injEq] at h
          obtain ⟨rfl, rfl, rfl⟩ := h
          obtain ⟨hp1, hp2⟩ := AllP.app hp
          have ih' := ih (o + 1) (fun j c v hc hv => hh (j + 1) c v (by simpa using hc) (by rw [← hv]; congr 1; omega)) h2 hp2 (fun q hq => hb q (by obtain ⟨k, hk, r⟩ := hq; exact ⟨k, by simp [hk], r⟩))
          refine ⟨by simp [ih'.1], ?_⟩
          intro j c' v hc hv
          cases j with
          | zero =>
            simp at hc; subst hc
            exact hh 0 c v (by simp) hv h1 hp1 (fun q hq => hb q (by obtain ⟨k, hk, r⟩ := hq; exact ⟨k, by simp [hk], r⟩))
          | succ j => exact ih'.2 j c' v (by simpa using hc) (by rw [← hv]; congr 1; omega)
        · cases h
    intro ys bs ps h1 h2 h3
    have := gen cs 0 (fun j c v hc hv => h j c v hc (by simpa using hv)) h1 h2 h3
    exact ⟨this.1, fun j c v hc hv => this.2 j c v hc (by simpa using hv)⟩
  intro S' hS
  have h0 := h
  clear h
  have key : ∀ {μ₁ : Mu} {v : Value} {x : AV}, RepX w S μ₁ v x → μ₁ = μ → ∀ {y : AV} {bs : List Nat} {ps : List Prop}, x.lend σ ks = some (y, bs, ps) → AllP ps → (∀ b, lent μ bs b → S' b) → RepX w S' (muOf μ ks) v y := by
    intro μ₁ v x h
    induction h with
    | atom v => intro _ y bs ps h _ _; simp [AV.lend] at h; obtain ⟨rfl, _, _⟩ := h; exact .atom v
    | agg h1 h2 ih =>
      intro e y bs ps h hp hb
      subst e
      simp only [AV.lend, Option.map_eq_some_iff] at h
      obtain ⟨⟨a, b, c⟩, h, e⟩ := h
      simp only [Prod.mk.injEq] at e
      obtain ⟨rfl, rfl, rfl⟩ := e
      obtain ⟨q1, q2⟩ := lists S' (fun j c v hc hv => ih j c v hc hv rfl) h hp hb
      exact .agg (h1.trans q1.symm) q2
    | tup h1 h2 ih =>
      intro e y bs ps h hp hb
      subst e
      simp only [AV.lend, Option.map_eq_some_iff] at h
      obtain ⟨⟨a, b, c⟩, h, e⟩ := h
      simp only [Prod.mk.injEq] at e
      obtain ⟨rfl, rfl, rfl⟩ := e
      obtain ⟨q1, q2⟩ := lists S' (fun j c v hc hv => ih j c v hc hv rfl) h hp hb
      exact .tup (h1.trans q1.symm) q2
    | @sl μ₁ a len cap get b off sz f h1 h2 h3 h4 h5 _ =>
      intro _ y bs ps h _ _
      simp [AV.lend] at h; obtain ⟨rfl, _, _⟩ := h
      have := (RepX.sl (μ := muOf μ ks) b off sz f h1 h2 h3 h4 h5)
      exact this.mono hS (fun _ _ => rfl) (fun _ _ h => h)
    | @rp μ₁ cs off b o f h1 h2 h3 _ =>
      intro _ y bs ps h _ _
      simp [AV.lend] at h; obtain ⟨rfl, _, _⟩ := h
      have := (RepX.rp (μ := muOf μ ks) (off := off) b o f h1 h2 h3)
      exact this.mono hS (fun _ _ => rfl) (fun _ _ h => h)
    | @op μ₁ k i j pl hm =>
      intro e y bs ps h _ _
      subst e
      simp only [AV.lend, Option.map_eq_some_iff, Prod.mk.injEq] at h
      obtain ⟨n, hn, rfl, _, _⟩ := h
      exact .op pl (muOf_idx _ _ _ hn hm)
    | @os μ₁ k off len cap a pl hm h1 h2 h3 =>
      intro e y bs ps h hp hb
      subst e
      simp only [AV.lend] at h
      split at h
      · rename_i n hn
        simp at h; obtain ⟨rfl, _, _⟩ := h
        exact .os pl (muOf_idx _ _ _ hn hm) h1 h2 h3
      · split at h
        · rename_i o ho
          split at h
          · rename_i hpr
            simp only [Option.some.injEq, Prod.mk.injEq] at h
            obtain ⟨hy, rfl, rfl⟩ := h
            have hle := hp.1
            obtain ⟨pl', c, T, hm', hob⟩ := g.rep.ob k o ho
            rw [hm] at hm'; cases hm'
            have hgt : y = .sl len fun i => o.get (off + i) := by
              rw [← hy]
              simp only [addz_eq]
            rw [hgt]
            refine .sl pl.blk (off * pl.sz) o.sz (fun i j => (c[(off + i) * o.sz + j]?).getD undef) ?_ (fun i hi => hob.els _ (by omega)) ?_ ?_ h2
            · intro hl
              exact ⟨h1 (by omega), hb _ ⟨k, by simp, pl, hm, by omega, rfl⟩⟩
            · intro i j hi hj
              obtain ⟨v, q1, q2⟩ := cell_of_obrep hob (i := off + i) (by omega) hj
              rw [q1, hob.sz, ← Nat.add_mul, q2]; rfl
            · intro i j c' hi hc'
              obtain ⟨v, q1, q2⟩ := cell_of_obrep hob (i := off + i) (by omega) (by have := (List.getElem?_eq_some_iff.1 hc').1; rwa [hob.els _ (by omega)] at this)
              rw [q1]
              have := hob.rep _ j c' v (by omega) hc' q1
              rw [hpr] at this
              exact RepX.mono (S := S) (S' := S') hS (fun _ _ => rfl) this (fun _ _ h => h)
          · cases h
        · cases h
    | fn h1 h2 _ _ ih1 ih2 =>
      intro e y bs ps h hp hb
      subst e
      simp only [AV.lend] at h
      split at h
      · rename_i a b c a' b' c' e1 e2
        simp only [Option.some.injEq, Prod.mk.injEq] at h
        obtain ⟨rfl, rfl, rfl⟩ := h
        obtain ⟨hp1, hp2⟩ := AllP.app hp
        obtain ⟨q1, q2⟩ := lists S' (fun j c v hc hv => ih1 j c v hc hv rfl) e1 hp1 (fun q hq => hb q (by obtain ⟨k, hk, r⟩ := hq; exact ⟨k, by simp [hk], r⟩))
        obtain ⟨r1, r2⟩ := lists S' (fun j c v hc hv => ih2 j c v hc hv rfl) e2 hp2 (fun q hq => hb q (by obtain ⟨k, hk, r⟩ := hq; exact ⟨k, by simp [hk], r⟩))
        exact .fn (h1.trans q1.symm) (h2.trans r1.symm) q2 r2
      · cases h
    | when => intro _ y bs ps h; simp [AV.lend] at h
    | @mp μ₁ k pl hm =>
      intro e y bs ps h _ _
      subst e
      simp only [AV.lend, Option.map_eq_some_iff, Prod.mk.injEq] at h
      obtain ⟨n, hn, rfl, _, _⟩ := h
      exact .mp pl (muOf_idx _ _ _ hn hm)
    | bn b hb => intro _ y bs ps h _ _; simp [AV.lend] at h; obtain ⟨rfl, _, _⟩ := h; exact .bn b hb
    | pt h1 h2 _ =>
      intro _ y bs ps h _ _
      simp [AV.lend] at h; obtain ⟨rfl, _, _⟩ := h
      refine .pt (fun hb => ?_) h2
      have := h1 hb
      cases this with
      | rp b o f q1 q2 q3 =>
        have := (RepX.rp (μ := muOf μ ks) (off := 0) b o f q1 q2 q3)
        exact this.mono hS (fun _ _ => rfl) (fun _ _ h => h)
    | nil => intro _ y bs ps h _ _; simp [AV.lend] at h; obtain ⟨rfl, _, _⟩ := h; exact .nil
    | unk => intro _ y bs ps h _ _; simp [AV.lend] at h; obtain ⟨rfl, _, _⟩ := h; exact .unk
  intro y bs ps h1 h2 h3
  exact key h0 rfl h1 h2 h3

end
end Go.Ab

namespace Go.Ab

/-- What a call is said to give: which objects are handed over, whether they stay as they are, the result, the objects afterwards; 'dec': what is said of a guard: 1, it holds; 2, it does not; 0, nothing; 'frz': whether objects that are lent are stable behind the call. -/
structure YC where
  l : Nat
  as : List AV
  k : Nat
  o : Ob
  o' : Ob
structure Orc where
  ks : List Nat
  same : Bool
  res : AV
  sto : Sto
  dec : Nat
  frz : Bool
  y : Option YC
def orcY : Option Orc → Option YC
  | none => none
  | some o => o.y
def decO : Option Orc → Nat
  | none => 0
  | some o => o.dec
def resO : Option Orc → AV
  | none => .unk
  | some o => o.res

structure R where
  obl : List Prop
  val : AV
  rds : List Nat
  upd : Upd

def callable (P : Program) (g : FuncId) : Bool :=
  match P.funcs[g]? with
  | some fn => fn.body.isSome && !(fn.name == "runtime.NumGoroutine")
  | none => false

def canon (σ : Sto) (ks : List Nat) : Nat → List Nat → Option Sto
  | _, [] => some []
  | i, k :: r => match sget σ k, canon σ ks (i + 1) r with
    | some o, some t => some ((i, o.ren (idx ks)) :: t)
    | _, _ => none

/-- The names of the callee, read by the caller: the objects that were handed over, then up to sixteen new ones. -/
def back (ks : List Nat) (nk n : Nat) : Option Nat :=
  match ks[n]? with
  | some k => some k
  | none => match Nat.blt n (ks.length + 16) with
    | true => some (nk + (n - ks.length))
    | false => none
def backU (ks : List Nat) (nk : Nat) (σ' : Sto) : Nat → List Nat → Upd
  | _, [] => []
  | i, k :: r => (k, (sget σ' i).map (Ob.ren (back ks nk))) :: backU ks nk σ' (i + 1) r
/-- The new objects that a call gives. -/
def newU (ks : List Nat) (nk : Nat) : Sto → Upd
  | [] => []
  | (n, o) :: r => match Nat.ble ks.length n with
    | true => (nk + (n - ks.length), some (o.ren (back ks nk))) :: newU ks nk r
    | false => newU ks nk r

def nodupB : List Nat → Bool
  | [] => true
  | k :: r => (idx r k).isNone && nodupB r

def ltKeys (n : Nat) : Sto → Bool
  | [] => true
  | (k, _) :: r => Nat.blt k n && ltKeys n r

/-- The contents name no memory. -/
def Ob.flat (o : Ob) : Bool := o.var && Nat.beq o.len 1 && Nat.ble 1 o.sz && AV.flatL (o.get 0)
mutual
/-- No memory is named that nobody writes. -/
def AV.noS : AV → Bool
  | .atom _ | .op _ _ _ | .os _ _ _ | .mp _ | .bn _ | .nil => true
  | .agg cs | .tup cs => AV.noSL cs
  | .fn _ a b => AV.noSL a && AV.noSL b
  | _ => false
def AV.noSL : List AV → Bool
  | [] => true
  | c :: cs => c.noS && AV.noSL cs
end
theorem noSL_get {cs : List AV} (h : AV.noSL cs = true) {j : Nat} {c : AV} (hc : cs[j]? = some c) : c.noS = true := by
  induction cs generalizing j with
  | nil => simp at hc
  | cons x xs ih =>
    simp only [AV.noSL, Bool.and_eq_true] at h
    cases j with
    | zero => simp at hc; exact hc ▸ h.1
    | succ j => exact ih h.2 (by simpa using hc)
theorem RepX.noS {w : World} {S : Nat → Prop} {μ : Mu} {v : Value} {x : AV} (h : RepX w S μ v x) : x.noS = true → ∀ w' S', RepX w' S' μ v x := by
  induction h with
  | atom v => exact fun _ _ _ => .atom v
  | agg h1 _ ih => exact fun hp w' S' => .agg h1 fun j c v hc hv => ih j c v hc hv (noSL_get (by simpa [AV.noS] using hp) hc) w' S'
  | tup h1 _ ih => exact fun hp w' S' => .tup h1 fun j c v hc hv => ih j c v hc hv (noSL_get (by simpa [AV.noS] using hp) hc) w' S'
  | op pl h => exact fun _ _ _ => .op pl h
  | os pl h h1 h2 h3 => exact fun _ _ _ => .os pl h h1 h2 h3
  | fn h1 h2 _ _ ih1 ih2 =>
    intro hp w' S'
    simp only [AV.noS, Bool.and_eq_true] at hp
    exact .fn h1 h2 (fun j c v hc hv => ih1 j c v hc hv (noSL_get hp.1 hc) w' S') (fun j c v hc hv => ih2 j c v hc hv (noSL_get hp.2 hc) w' S')
  | mp pl h => exact fun _ _ _ => .mp pl h
  | bn b h => exact fun _ _ _ => .bn b h
  | nil => exact fun _ _ _ => .nil
  | sl => exact fun hp => by simp [AV.noS] at hp
  | rp => exact fun hp => by simp [AV.noS] at hp
  | when => exact fun hp => by simp [AV.noS] at hp
  | pt => exact fun hp => by simp [AV.noS] at hp
  | unk => exact fun hp => by simp [AV.noS] at hp
/-- The contents name no memory: what must be known for that. -/
def flatObP (o : Ob) : Option (List Prop) :=
  match o.flat with
  | true => some []
  | false => match o.pr && Nat.ble 1 o.sz with
    | true => some [∀ i, i < o.len → AV.flatL (o.get i) = true]
    | false => none
def flatStoP (lone : Bool) : Sto → Option (List Prop)
  | [] => some []
  | (_, o) :: r => match lone with
    | true => some []
    | false => match flatObP o, flatStoP lone r with
      | some p, some q => some (p ++ q)
      | _, _ => none

mutual
def AV.closed (f : Nat → Option Nat) : AV → Bool
  | .op k _ _ => (f k).isSome
  | .os k _ _ => (f k).isSome
  | .mp k => (f k).isSome
  | .agg cs | .tup cs => AV.closedL f cs
  | .fn _ a b => AV.closedL f a && AV.closedL f b
  | .when _ x => x.closed f
  | _ => true
def AV.closedL (f : Nat → Option Nat) : List AV → Bool
  | [] => true
  | c :: cs => c.closed f && AV.closedL f cs
end
def Ob.closed (f : Nat → Option Nat) (o : Ob) : Bool := o.pr || (o.var && Nat.beq o.len 1 && AV.closedL f (o.get 0))

def sameOb (ks : List Nat) (lone : Bool) (o : Ob) : Option (List Prop) :=
  match o.flat || (lone && o.closed (idx ks)) with
  | true => some []
  | false => match o.pr with
    | true => flatObP o
    | false => none
def sameOk (σ : Sto) (ks : List Nat) (lone : Bool) : List Nat → Option (List Prop)
  | [] => some []
  | k :: r => match sget σ k with
    | some o => match sameOb ks lone o, sameOk σ ks lone r with
      | some p, some q => some (p ++ q)
      | _, _ => none
    | none => none

mutual
theorem ren_back {f g : Nat → Option Nat} (hfg : ∀ k i, f k = some i → g i = some k) : ∀ (x : AV), x.closed f = true → (x.ren f).ren g = x
  | .op k i j, h => by
    obtain ⟨n, hn⟩ := Option.isSome_iff_exists.1 (by simpa [AV.closed] using h)
    simp [AV.ren, hn, hfg k n hn]
  | .os k i j, h => by
    obtain ⟨n, hn⟩ := Option.isSome_iff_exists.1 (by simpa [AV.closed] using h)
    simp [AV.ren, hn, hfg k n hn]
  | .agg cs, h => by simp only [AV.ren]; rw [renL_back hfg cs (by simpa [AV.closed] using h)]
  | .tup cs, h => by simp only [AV.ren]; rw [renL_back hfg cs (by simpa [AV.closed] using h)]
  | .fn q a b, h => by
    simp only [AV.closed, Bool.and_eq_true] at h
    simp only [AV.ren]; rw [renL_back hfg a h.1, renL_back hfg b h.2]
  | .when b x, h => by simp only [AV.ren]; rw [ren_back hfg x (by simpa [AV.closed] using h)]
  | .mp k, h => by
    obtain ⟨n, hn⟩ := Option.isSome_iff_exists.1 (by simpa [AV.closed] using h)
    simp [AV.ren, hn, hfg k n hn]
  | .bn _, _ => rfl
  | .pt _ _, _ => rfl
  | .atom _, _ => rfl
  | .sl _ _, _ => rfl
  | .rp _ _, _ => rfl
  | .nil, _ => rfl
  | .unk, _ => rfl
theorem renL_back {f g : Nat → Option Nat} (hfg : ∀ k i, f k = some i → g i = some k) : ∀ (cs : List AV), AV.closedL f cs = true → AV.renL g (AV.renL f cs) = cs
  | [], _ => rfl
  | c :: cs, h => by
    simp only [AV.closedL, Bool.and_eq_true] at h
    simp only [AV.renL]
    rw [ren_back hfg c h.1, renL_back hfg cs h.2]
end

theorem nodup_spec : ∀ (ks : List Nat), nodupB ks = true → ∀ (i j k : Nat), ks[i]? = some k → ks[j]? = some k → i = j
  | [], _, i, j, k, h, _ => by simp at h
  | a :: r, h, i, j, k, hi, hj => by
    simp only [nodupB, Bool.and_eq_true] at h
    have none : ∀ n : Nat, r[n]? = some a → False := by
      intro n hn
      have : ∀ (l : List Nat) (n : Nat), l[n]? = some a → (idx l a).isSome = true := by
        intro l
        induction l with
        | nil => intro n hn; simp at hn
        | cons b l ih =>
          intro n hn
          simp only [idx]
          cases hb : Nat.beq b a with
          | true => rfl
          | false =>
            cases n with
            | zero => simp at hn; rw [hn] at hb; simp at hb
            | succ n => simpa using ih n (by simpa using hn)
      have := this r n hn
      rw [Option.isNone_iff_eq_none] at h
      rw [h.1] at this
      cases this
    cases i with
    | zero =>
      simp at hi; subst hi
      cases j with
      | zero => rfl
      | succ j => exact (none j (by simpa using hj)).elim
    | succ i =>
      cases j with
      | zero => simp at hj; subst hj; exact (none i (by simpa using hi)).elim
      | succ j => rw [nodup_spec r h.2 i j k (by simpa using hi) (by simpa using hj)]

theorem idx_none : ∀ (ks : List Nat) (k : Nat), idx ks k = none → ∀ i : Nat, ks[i]? ≠ some k
  | [], k, _, i => by simp
  | a :: r, k, h, i => by
    simp only [idx] at h
    split at h
    · cases h
    · rename_i hb
      have h' : idx r k = none := by simpa using h
      cases i with
      | zero => intro e; simp at e; rw [e] at hb; simp at hb
      | succ i => simpa using idx_none r k h' i

theorem canon_get {σ : Sto} {ks : List Nat} : ∀ (l : List Nat) (i : Nat) (σc : Sto), canon σ ks i l = some σc →
    ∀ n, sget σc n = if i ≤ n then ((l[n - i]?).bind (sget σ)).map (Ob.ren (idx ks)) else none
  | [], i, σc, h, n => by simp [canon] at h; subst h; simp [sget]
  | k :: r, i, σc, h, n => by
    simp only [canon] at h
    split at h
    · rename_i o t ho ht
      cases h
      simp only [sget]
      by_cases hin : i = n
      · rw [beq_t hin, if_pos (by omega), hin]; simp [ho]
      · rw [beq_f hin]
        show sget t n = _
        rw [canon_get r (i + 1) t ht n]
        by_cases h1 : i + 1 ≤ n
        · rw [if_pos h1, if_pos (by omega), show n - i = (n - (i + 1)) + 1 by omega]; simp
        · rw [if_neg h1, if_neg (by omega)]
    · cases h
theorem canon_all {σ : Sto} {ks : List Nat} : ∀ (l : List Nat) (i : Nat) (σc : Sto), canon σ ks i l = some σc → ∀ k ∈ l, ∃ o, sget σ k = some o
  | [], i, σc, h, k, hk => by simp at hk
  | a :: r, i, σc, h, k, hk => by
    simp only [canon] at h
    split at h
    · rename_i o t ho ht
      rcases List.mem_cons.1 hk with rfl | hk
      · exact ⟨o, ho⟩
      · exact canon_all r (i + 1) t ht k hk
    · cases h

theorem backU_get {ks : List Nat} {nk : Nat} {σ' : Sto} : ∀ (l : List Nat) (i : Nat) (σ : Sto) (n : Nat), (∀ a b k : Nat, l[a]? = some k → l[b]? = some k → a = b) →
    sget (supd σ (backU ks nk σ' i l)) n = match idx l n with
      | some j => (sget σ' (i + j)).map (Ob.ren (back ks nk))
      | none => sget σ n
  | [], i, σ, n, _ => by simp [backU, supd, idx]
  | k :: r, i, σ, n, hd => by
    have hd' : ∀ a b k : Nat, r[a]? = some k → r[b]? = some k → a = b := fun a b q ha hb => by
      have := hd (a + 1) (b + 1) q (by simpa using ha) (by simpa using hb)
      omega
    have hnk : idx r k = none := by
      cases hq : idx r k with
      | none => rfl
      | some j =>
        have := idx_spec r k j hq
        have := hd 0 (j + 1) k (by simp) (by simpa using this)
        omega
    simp only [backU]
    have step : sget (supd σ ((k, (sget σ' i).map (Ob.ren (back ks nk))) :: backU ks nk σ' (i + 1) r)) n = match idx r n with
        | some j => (sget σ' (i + 1 + j)).map (Ob.ren (back ks nk))
        | none => if k = n then (sget σ' i).map (Ob.ren (back ks nk)) else sget σ n := by
      cases hs : (sget σ' i).map (Ob.ren (back ks nk)) with
      | some o =>
        simp only [supd]
        rw [backU_get r (i + 1) _ n hd', sget_sset]
      | none =>
        simp only [supd]
        rw [backU_get r (i + 1) _ n hd', sget_sdel]
    rw [step]
    simp only [idx]
    by_cases hkn : k = n
    · subst hkn
      rw [hnk, beq_t rfl]
      simp
    · rw [beq_f hkn]
      cases hq : idx r n with
      | none => simp [hkn]
      | some j => simp only [Option.map_some]; rw [show i + 1 + j = i + (j + 1) by omega]

def frzU (z : Bool) (bs : List Nat) : Upd := match z with
  | true => bs.map fun k => (k, none)
  | false => []
theorem frzU_get (z : Bool) : ∀ (bs : List Nat) (σ : Sto) (n : Nat), sget (supd σ (frzU z bs)) n = if z = true ∧ n ∈ bs then none else sget σ n := by
  cases z with
  | false => intro bs σ n; simp [frzU, supd]
  | true =>
    intro bs
    induction bs with
    | nil => intro σ n; simp [frzU, supd]
    | cons k r ih =>
      intro σ n
      have := ih (sdel σ k) n
      simp only [frzU, List.map_cons, supd] at this ⊢
      rw [this, sget_sdel]
      by_cases h : k = n
      · subst h; simp
      · have h' : ¬ n = k := fun e => h e.symm
        simp [h, h']
theorem supd_append : ∀ (u v : Upd) (σ : Sto), supd σ (u ++ v) = supd (supd σ u) v
  | [], v, σ => rfl
  | (k, some o) :: r, v, σ => by simp only [List.cons_append, supd]; exact supd_append r v _
  | (k, none) :: r, v, σ => by simp only [List.cons_append, supd]; exact supd_append r v _

/-- A call; 'ob': what is asked of the function. -/
def evCallG (P : Program) (ob : FuncId → List AV → Sto → Nat → AV → Sto → Prop) (nk : Nat) (σ : Sto) (f : AV) (args : List AV) (orc : Orc) : Option R :=
  match f with
  | .fn (.func g) first cap => match callable P g, AV.lendL σ orc.ks (first ++ (args ++ cap)), canon σ orc.ks 0 orc.ks with
    | true, some (as, bs, ps), some σc => match nodupB orc.ks && (bs.isEmpty || orc.frz || orc.res.noS) with
      | true => match orc.same with
        | true => match sameOk σ orc.ks (bs.isEmpty || orc.frz) orc.ks with
          | some qs => some ⟨ob g as σc orc.ks.length orc.res σc :: (qs ++ ps), orc.res.ren (back orc.ks nk), orc.ks ++ bs, frzU orc.frz bs⟩
          | none => none
        | false => match ltKeys (orc.ks.length + 16) orc.sto && nodupB (orc.sto.map (·.1)), flatStoP (bs.isEmpty || orc.frz) orc.sto with
          | true, some qs => some ⟨ob g as σc orc.ks.length orc.res orc.sto :: (qs ++ ps), orc.res.ren (back orc.ks nk), orc.ks ++ bs, backU orc.ks nk orc.sto 0 orc.ks ++ (newU orc.ks nk orc.sto ++ frzU orc.frz bs)⟩
          | _, _ => none
      | false => none
    | _, _, _ => none
  | _ => none
def evCall (P : Program) (nk : Nat) (σ : Sto) (f : AV) (args : List AV) (orc : Orc) : Option R := evCallG P (Sound P) nk σ f args orc

/-- The new objects of a call: what lies where. -/
theorem newU_out {ks : List Nat} {nk : Nat} : ∀ (τ σ : Sto) (n : Nat), ltKeys (ks.length + 16) τ = true → (n < nk ∨ nk + 16 ≤ n) → sget (supd σ (newU ks nk τ)) n = sget σ n
  | [], σ, n, _, _ => rfl
  | (k, o) :: r, σ, n, hl, hn => by
    simp only [ltKeys, Bool.and_eq_true] at hl
    have hk : k < ks.length + 16 := by
      have := hl.1
      simp only [Nat.blt, Nat.ble_eq] at this
      exact this
    simp only [newU]
    split
    · rename_i hb
      have hb := Nat.le_of_ble_eq_true hb
      simp only [supd]
      rw [newU_out r _ n hl.2 hn, sget_sset, if_neg (by omega)]
    · exact newU_out r σ n hl.2 hn
theorem sget_mem : ∀ (τ : Sto) (n : Nat) (o : Ob), sget τ n = some o → n ∈ τ.map (·.1)
  | [], n, o, h => by simp [sget] at h
  | (k, x) :: r, n, o, h => by
    simp only [sget] at h
    split at h
    · rename_i hb; rw [← Nat.eq_of_beq_eq_true hb]; simp
    · exact List.mem_cons_of_mem _ (sget_mem r n o h)
theorem newU_in {ks : List Nat} {nk : Nat} : ∀ (τ σ : Sto) (j : Nat), nodupB (τ.map (·.1)) = true → sget (supd σ (newU ks nk τ)) (nk + j) = match sget τ (ks.length + j) with
      | some o => some (o.ren (back ks nk))
      | none => sget σ (nk + j)
  | [], σ, j, _ => rfl
  | (k, o) :: r, σ, j, hd => by
    simp only [List.map_cons, nodupB, Bool.and_eq_true, Option.isNone_iff_eq_none] at hd
    simp only [newU, sget]
    by_cases hk : k = ks.length + j
    · subst hk
      rw [beq_t rfl]
      have hno : sget r (ks.length + j) = none := by
        cases hs : sget r (ks.length + j) with
        | none => rfl
        | some x =>
          obtain ⟨i, hi⟩ := List.getElem?_of_mem (sget_mem r _ x hs)
          exact (idx_none _ _ hd.1 i hi).elim
      have hble : Nat.ble ks.length (ks.length + j) = true := Nat.ble_eq_true_of_le (by omega)
      rw [hble]
      simp only [supd]
      rw [newU_in r _ j hd.2, hno]
      simp only
      rw [sget_sset, if_pos (by omega)]
    · rw [beq_f hk]
      split
      · rename_i hb
        have hb := Nat.le_of_ble_eq_true hb
        simp only [supd]
        rw [newU_in r _ j hd.2]
        split
        · rfl
        · rw [sget_sset, if_neg (by omega)]
      · exact newU_in r σ j hd.2

mutual
theorem lend_keys {σ : Sto} {ks : List Nat} : ∀ (x y : AV) (bs : List Nat) (ps : List Prop), x.lend σ ks = some (y, bs, ps) → ∀ k ∈ bs, idx ks k = none ∧ ∃ o, sget σ k = some o
  | .op k i j, y, bs, ps, h => by
    simp only [AV.lend, Option.map_eq_some_iff, Prod.mk.injEq] at h
    obtain ⟨n, hn, _, rfl, _⟩ := h
    simp
  | .os k off len, y, bs, ps, h => by
    simp only [AV.lend] at h
    split at h
    · simp at h; obtain ⟨_, rfl, _⟩ := h; simp
    · rename_i hi
      split at h
      · rename_i o ho
        split at h
        · simp only [Option.some.injEq, Prod.mk.injEq] at h
          obtain ⟨_, rfl, _⟩ := h
          intro q hq
          simp at hq; subst hq
          exact ⟨hi, o, ho⟩
        · cases h
      · cases h
  | .agg cs, y, bs, ps, h => by
    simp only [AV.lend, Option.map_eq_some_iff] at h
    obtain ⟨⟨a, b, c⟩, h, e⟩ := h
    simp only [Prod.mk.injEq] at e
    obtain ⟨rfl, rfl, rfl⟩ := e
    exact lendL_keys cs a b c h
  | .tup cs, y, bs, ps, h => by
    simp only [AV.lend, Option.map_eq_some_iff] at h
    obtain ⟨⟨a, b, c⟩, h, e⟩ := h
    simp only [Prod.mk.injEq] at e
    obtain ⟨rfl, rfl, rfl⟩ := e
    exact lendL_keys cs a b c h
  | .fn g x z, y, bs, ps, h => by
    simp only [AV.lend] at h
    split at h
    · rename_i a b c a' b' c' e1 e2
      simp only [Option.some.injEq, Prod.mk.injEq] at h
      obtain ⟨_, rfl, _⟩ := h
      intro k hk
      rcases List.mem_append.1 hk with hk | hk
      · exact lendL_keys x a b c e1 k hk
      · exact lendL_keys z a' b' c' e2 k hk
    · cases h
  | .when _ _, y, bs, ps, h => by simp [AV.lend] at h
  | .mp k, y, bs, ps, h => by
    simp only [AV.lend, Option.map_eq_some_iff, Prod.mk.injEq] at h
    obtain ⟨n, hn, _, rfl, _⟩ := h
    simp
  | .bn _, y, bs, ps, h => by simp [AV.lend] at h; obtain ⟨_, rfl, _⟩ := h; simp
  | .pt _ _, y, bs, ps, h => by simp [AV.lend] at h; obtain ⟨_, rfl, _⟩ := h; simp
  | .atom _, y, bs, ps, h => by simp [AV.lend] at h; obtain ⟨_, rfl, _⟩ := h; simp
  | .sl _ _, y, bs, ps, h => by simp [AV.lend] at h; obtain ⟨_, rfl, _⟩ := h; simp
  | .rp _ _, y, bs, ps, h => by simp [AV.lend] at h; obtain ⟨_, rfl, _⟩ := h; simp
  | .nil, y, bs, ps, h => by simp [AV.lend] at h; obtain ⟨_, rfl, _⟩ := h; simp
  | .unk, y, bs, ps, h => by simp [AV.lend] at h; obtain ⟨_, rfl, _⟩ := h; simp
theorem lendL_keys {σ : Sto} {ks : List Nat} : ∀ (xs ys : List AV) (bs : List Nat) (ps : List Prop), AV.lendL σ ks xs = some (ys, bs, ps) → ∀ k ∈ bs, idx ks k = none ∧ ∃ o, sget σ k = some o
  | [], ys, bs, ps, h => by simp [AV.lendL] at h; obtain ⟨_, rfl, _⟩ := h; simp
  | c :: cs, ys, bs, ps, h => by
    simp only [AV.lendL] at h
    split at h
    · rename_i a b p a' b' p' e1 e2
      simp only [Option.some.injEq, Prod.mk.injEq] at h
      obtain ⟨_, rfl, _⟩ := h
      intro k hk
      rcases List.mem_append.1 hk with hk | hk
      · exact lend_keys c a b p e1 k hk
      · exact lendL_keys cs a' b' p' e2 k hk
    · cases h
end

end Go.Ab
