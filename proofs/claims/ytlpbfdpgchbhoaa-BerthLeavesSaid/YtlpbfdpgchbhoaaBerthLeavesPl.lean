/- The plain law: the Lean function of the law returns true for every input, and what it needs. No conditions. -/
import Derived.Test.YtlpbfdpgchbhoaaBerthLeavesDen

set_option linter.unusedVariables false
set_option linter.unusedSimpArgs false
namespace Go.Den
open Go.Ab

theorem w64_def (n : Int) : w64 n = if n % 18446744073709551616 ≥ 9223372036854775808 then n % 18446744073709551616 - 18446744073709551616 else n % 18446744073709551616 := by
  have e : w64 n = (if (true && decide (n % 18446744073709551616 ≥ 9223372036854775808)) = true then n % 18446744073709551616 - 18446744073709551616 else n % 18446744073709551616) := rfl
  rw [e]; simp
theorem w64_eq {n : Int} (h1 : -9223372036854775808 ≤ n) (h2 : n ≤ 9223372036854775807) : w64 n = n := by
  rw [w64_def]; split <;> omega
theorem w64_nat {m : Nat} (h : m ≤ 9223372036854775807) : w64 (m : Int) = m := w64_eq (by omega) (by omega)
theorem w64_succ {m : Nat} (h : m < 9223372036854775807) : w64 ((m : Int) + 1) = ((m + 1 : Nat) : Int) := by rw [w64_eq (by omega) (by omega)]; simp

theorem toList_inj {a b : ByteArray} (h : a.toList = b.toList) : a = b := by
  have e : ∀ x : ByteArray, x.toList = x.data.toList := fun x => ByteArray.toList_eq x
  rw [e, e] at h
  cases a; cases b; simp_all [Array.toList_inj]
theorem streq_iff {a b : ByteArray} : streq a b = true ↔ a = b := by
  unfold streq; simp only [beq_iff_eq]
  exact ⟨toList_inj, fun h => h ▸ rfl⟩
theorem streq_comm (a b : ByteArray) : streq a b = streq b a := by
  rw [Bool.eq_iff_iff, streq_iff, streq_iff]; exact eq_comm

/-- The first answer of a row of questions, from m on, k of them; else z. -/
def scan {R : Type} (f : Nat → Option R) (z : R) : Nat → Nat → R
  | 0, _ => z
  | k + 1, m => match f m with
    | some r => r
    | none => scan f z k (m + 1)

theorem loop_scan {R : Type} {L : Nat → Int → Option R} (f : Nat → Option R) (z : R) {n : Nat}
    (hstep : ∀ fuel m, m < n → L (fuel + 1) (m : Int) = (match f m with | some r => some r | none => L fuel ((m + 1 : Nat) : Int)))
    (hend : ∀ fuel, L (fuel + 1) (n : Int) = some z) : ∀ k m fuel, m + k = n → k < fuel → L fuel (m : Int) = some (scan f z k m)
  | 0, m, fuel, h, hf => by
    obtain ⟨g, rfl⟩ : ∃ g, fuel = g + 1 := ⟨fuel - 1, by omega⟩
    have : m = n := by omega
    subst this; exact hend g
  | k + 1, m, fuel, h, hf => by
    obtain ⟨g, rfl⟩ : ∃ g, fuel = g + 1 := ⟨fuel - 1, by omega⟩
    rw [hstep g m (by omega)]
    unfold scan
    cases hfm : f m with
    | some r => rfl
    | none => exact loop_scan f z hstep hend k (m + 1) g (by omega) (by omega)

theorem loop_scan0 {R : Type} {L : Nat → Int → Option R} (f : Nat → Option R) (z : R) {n fuel : Nat} (hf : n < fuel)
    (hstep : ∀ fuel m, m < n → L (fuel + 1) (m : Int) = (match f m with | some r => some r | none => L fuel ((m + 1 : Nat) : Int)))
    (hend : ∀ fuel, L (fuel + 1) (n : Int) = some z) : L fuel 0 = some (scan f z n 0) :=
  loop_scan f z hstep hend n 0 fuel (by omega) hf

/-- As loop_scan0; at the end all questions have been answered with 'none'. -/
theorem loop_scanA {R : Type} {L : Nat → Int → R} (f : Nat → Option R) (z : R) {n fuel : Nat} (hf : n < fuel)
    (hstep : ∀ fuel m, m < n → (∀ i, i < m → f i = none) → L (fuel + 1) (m : Int) = (match f m with | some r => r | none => L fuel ((m + 1 : Nat) : Int)))
    (hend : (∀ i, i < n → f i = none) → ∀ fuel, L (fuel + 1) (n : Int) = z) : L fuel 0 = scan f z n 0 := by
  have key : ∀ k m fuel, m + k = n → k < fuel → (∀ i, i < m → f i = none) → L fuel (m : Int) = scan f z k m := by
    intro k
    induction k with
    | zero =>
      intro m fuel h hf hn
      obtain ⟨g, rfl⟩ : ∃ g, fuel = g + 1 := ⟨fuel - 1, by omega⟩
      have : m = n := by omega
      subst this; exact hend hn g
    | succ k ih =>
      intro m fuel h hf hn
      obtain ⟨g, rfl⟩ : ∃ g, fuel = g + 1 := ⟨fuel - 1, by omega⟩
      rw [hstep g m (by omega) hn]
      unfold scan
      cases hfm : f m with
      | some r => rfl
      | none =>
        refine ih (m + 1) g (by omega) (by omega) fun i hi => ?_
        by_cases him : i = m
        · subst him; exact hfm
        · exact hn i (by omega)
  exact key n 0 fuel (by omega) hf (fun i hi => absurd hi (Nat.not_lt_zero _))
theorem scan_map {R S : Type} (g : R → S) {f : Nat → Option R} {z : R} : ∀ (k m : Nat), scan (fun i => (f i).map g) (g z) k m = g (scan f z k m)
  | 0, _ => rfl
  | k + 1, m => by
    unfold scan
    cases f m with
    | some r => rfl
    | none => exact scan_map g k (m + 1)
theorem loop_scan0A {R : Type} {L : Nat → Int → Option R} (f : Nat → Option R) (z : R) {n fuel : Nat} (hf : n < fuel)
    (hstep : ∀ fuel m, m < n → (∀ i, i < m → f i = none) → L (fuel + 1) (m : Int) = (match f m with | some r => some r | none => L fuel ((m + 1 : Nat) : Int)))
    (hend : (∀ i, i < n → f i = none) → ∀ fuel, L (fuel + 1) (n : Int) = some z) : L fuel 0 = some (scan f z n 0) := by
  rw [← scan_map some]
  refine loop_scanA (fun i => (f i).map some) (some z) hf (fun g m hm hn => ?_) (fun hn => hend fun i hi => ?_)
  · have hn' : ∀ i, i < m → f i = none := fun i hi => by have := hn i hi; simpa using this
    rw [hstep g m hm hn']
    cases f m <;> rfl
  · have := hn i hi; simpa using this
theorem scan_congr {R : Type} {f g : Nat → Option R} {z : R} : ∀ (k m : Nat), (∀ i, m ≤ i → i < m + k → f i = g i) → scan f z k m = scan g z k m
  | 0, _, _ => rfl
  | k + 1, m, h => by
    unfold scan
    rw [h m (by omega) (by omega)]
    cases g m with
    | some r => rfl
    | none => exact scan_congr k (m + 1) fun i hi hi2 => h i (by omega) (by omega)

theorem scan_all {R : Type} {f : Nat → Option R} {z : R} : ∀ (k m : Nat), (∀ i, m ≤ i → i < m + k → f i = none) → scan f z k m = z
  | 0, _, _ => rfl
  | k + 1, m, h => by
    unfold scan
    rw [h m (by omega) (by omega)]
    exact scan_all k (m + 1) fun i hi hi2 => h i (by omega) (by omega)

theorem scan_inv {R : Type} {f : Nat → Option R} {z : R} : ∀ (k m : Nat), (∃ i r, m ≤ i ∧ i < m + k ∧ f i = some r ∧ (∀ j, m ≤ j → j < i → f j = none) ∧ scan f z k m = r) ∨ ((∀ i, m ≤ i → i < m + k → f i = none) ∧ scan f z k m = z)
  | 0, m => .inr ⟨fun i h1 h2 => by omega, rfl⟩
  | k + 1, m => by
    cases hm : f m with
    | some r => exact .inl ⟨m, r, Nat.le_refl _, by omega, hm, fun j h1 h2 => by omega, by unfold scan; rw [hm]⟩
    | none =>
      have e : scan f z (k + 1) m = scan f z k (m + 1) := by rw [scan, hm]
      rcases scan_inv (f := f) (z := z) k (m + 1) with ⟨i, r, h1, h2, h3, h4, h5⟩ | ⟨h1, h2⟩
      · refine .inl ⟨i, r, by omega, by omega, h3, fun j hj1 hj2 => ?_, e.trans h5⟩
        by_cases hj : j = m
        · subst hj; exact hm
        · exact h4 j (by omega) hj2
      · refine .inr ⟨fun i hi1 hi2 => ?_, e.trans h2⟩
        by_cases hj : i = m
        · subst hj; exact hm
        · exact h1 i (by omega) (by omega)

theorem loop_scanR {R : Type} {L : Nat → Int → R} (f : Nat → Option R) (z : R) {n : Nat}
    (hstep : ∀ fuel m, m < n → L (fuel + 1) (m : Int) = (match f m with | some r => r | none => L fuel ((m + 1 : Nat) : Int)))
    (hend : ∀ fuel, L (fuel + 1) (n : Int) = z) : ∀ k m fuel, m + k = n → k < fuel → L fuel (m : Int) = scan f z k m
  | 0, m, fuel, h, hf => by
    obtain ⟨g, rfl⟩ : ∃ g, fuel = g + 1 := ⟨fuel - 1, by omega⟩
    have : m = n := by omega
    subst this; exact hend g
  | k + 1, m, fuel, h, hf => by
    obtain ⟨g, rfl⟩ : ∃ g, fuel = g + 1 := ⟨fuel - 1, by omega⟩
    rw [hstep g m (by omega)]
    unfold scan
    cases hfm : f m with
    | some r => rfl
    | none => exact loop_scanR f z hstep hend k (m + 1) g (by omega) (by omega)
theorem loop_scanR0 {R : Type} {L : Nat → Int → R} (f : Nat → Option R) (z : R) {n fuel : Nat} (hf : n < fuel)
    (hstep : ∀ fuel m, m < n → L (fuel + 1) (m : Int) = (match f m with | some r => r | none => L fuel ((m + 1 : Nat) : Int)))
    (hend : ∀ fuel, L (fuel + 1) (n : Int) = z) : L fuel 0 = scan f z n 0 :=
  loop_scanR f z hstep hend n 0 fuel (by omega) hf
theorem loop_none {R : Type} {L : Nat → Int → R} (z : R) {n fuel : Nat} (hf : n < fuel) (hstep : ∀ fuel m, m < n → L (fuel + 1) (m : Int) = L fuel ((m + 1 : Nat) : Int))
    (hend : ∀ fuel, L (fuel + 1) (n : Int) = z) : L fuel 0 = z :=
  (loop_scanR0 (fun _ => none) z hf (fun g m hm => hstep g m hm) hend).trans (scan_all n 0 fun _ _ _ => rfl)
theorem scan_index {p : Nat → Bool} : ∀ (n m : Nat), decide (scan (fun k => cond (p k) (some (k : Int)) none) (-1) n m ≥ 0) = scan (fun k => cond (p k) (some true) none) false n m
  | 0, m => rfl
  | n + 1, m => by
    unfold scan
    cases p m with
    | true => simp
    | false => exact scan_index n (m + 1)
theorem scan_first {p : Nat → Bool} {i : Nat} (hi : p i = true) : ∀ (k m : Nat), m ≤ i → i < m + k → (scan (fun k => cond (p k) (some (k : Int)) none) (-1) k m != (i : Int)) = scan (fun k => cond (p k) (some true) none) false (i - m) m
  | 0, m, h1, h2 => by omega
  | k + 1, m, h1, h2 => by
    by_cases hm : m = i
    · subst hm
      rw [Nat.sub_self]
      unfold scan
      rw [hi]; simp
    · obtain ⟨j, hj⟩ : ∃ j, i - m = j + 1 := ⟨i - m - 1, by omega⟩
      rw [hj]
      cases hp : p m with
      | true =>
        unfold scan
        simp only [hp, cond_true]
        have : (m : Int) ≠ i := by omega
        simpa using this
      | false =>
        have e1 : scan (fun k => cond (p k) (some (k : Int)) none) (-1) (k + 1) m = scan (fun k => cond (p k) (some (k : Int)) none) (-1) k (m + 1) := by rw [scan]; simp only [hp, cond_false]
        have e2 : scan (fun k => cond (p k) (some true) none) false (j + 1) m = scan (fun k => cond (p k) (some true) none) false j (m + 1) := by rw [scan]; simp only [hp, cond_false]
        rw [e1, e2, scan_first hi k (m + 1) (by omega) (by omega)]
        congr 1; omega
theorem scan_bool {R : Type} {p : Nat → Bool} {a z : R} : ∀ (n m : Nat), scan (fun k => cond (p k) (some a) none) z n m = cond (scan (fun k => cond (p k) (some true) none) false n m) a z
  | 0, m => rfl
  | n + 1, m => by
    unfold scan
    cases p m with
    | true => rfl
    | false => exact scan_bool n (m + 1)
theorem bind_cond {α β : Type} (q : Bool) (a b : α) (f : α → Option β) : (cond q (some a) (some b)).bind f = f (cond q a b) := by cases q <;> rfl
theorem cond_some {α : Type} (q : Bool) (a b : α) : cond q (some a) (some b) = some (cond q a b) := by cases q <;> rfl
theorem getD_take {α : Type} (l : List α) (m k : Nat) (d : α) (h : k < m) : ((l.take m).drop 0).getD k d = l.getD k d := by
  simp [List.getD, h]
theorem drop_take_one {α : Type} (l : List α) (m : Nat) (d : α) (h : m < l.length) : (l.take (m + 1)).drop m = [l.getD m d] := by
  have e : (l.take (m + 1)).drop m = (l.drop m).take 1 := by rw [List.drop_take]; congr 1; omega
  rw [e, List.drop_eq_getElem_cons h, List.take_succ_cons, List.take_zero]
  simp [List.getD, h]
theorem getD_mem {α : Type} (l : List α) (m : Nat) (d : α) (h : m < l.length) : l.getD m d ∈ l := by
  simp [List.getD, h]
theorem sq_nonneg (x : Int) : 0 ≤ x * x := by
  by_cases h : 0 ≤ x
  · exact Int.mul_nonneg h h
  · have := Int.mul_nonneg (show 0 ≤ -x by omega) (show 0 ≤ -x by omega)
    rwa [Int.neg_mul_neg] at this
theorem sq_le {x M : Int} (h1 : -M ≤ x) (h2 : x ≤ M) : x * x ≤ M * M := by
  by_cases h : 0 ≤ x
  · exact Int.mul_le_mul h2 h2 h (by omega)
  · have := Int.mul_le_mul (show -x ≤ M by omega) (show -x ≤ M by omega) (by omega) (by omega)
    rwa [Int.neg_mul_neg] at this
theorem orI_nat {a b : Nat} (ha : a < 9223372036854775808) (hb : b < 9223372036854775808) : orI .i64 (a : Int) (b : Int) = ((a ||| b : Nat) : Int) := by
  have h : a ||| b < 2 ^ 63 := Nat.or_lt_two_pow (by omega) (by omega)
  have e : (BitVec.ofInt IntKind.i64.bits (a : Int) ||| BitVec.ofInt IntKind.i64.bits (b : Int)).toNat = a ||| b := by
    show (BitVec.ofInt 64 (a : Int) ||| BitVec.ofInt 64 (b : Int)).toNat = _
    rw [BitVec.ofInt_natCast, BitVec.ofInt_natCast, BitVec.toNat_or, BitVec.toNat_ofNat, BitVec.toNat_ofNat, Nat.mod_eq_of_lt (by omega), Nat.mod_eq_of_lt (by omega)]
  unfold orI
  rw [e]
  exact w64_nat (by omega)
theorem shlI_one {k : Nat} (hk : k < 63) : shlI .i64 1 (k : Int) = ((2 ^ k : Nat) : Int) := by
  have h : 2 ^ k < 2 ^ 63 := Nat.pow_lt_pow_right (by omega) hk
  have e : min ((k : Int).toNat) IntKind.i64.bits = k := by
    show min k 64 = k
    omega
  unfold shlI
  rw [e]
  have e2 : (1 : Int) * 2 ^ k = ((2 ^ k : Nat) : Int) := by simp
  rw [e2]
  exact w64_nat (by omega)

theorem toNat_nat (m : Nat) : ((m : Int)).toNat = m := rfl
theorem inb {m n : Nat} (h : m < n) : 0 ≤ (m : Int) ∧ (m : Int) < ((n : Nat) : Int) := ⟨by omega, by omega⟩
theorem dec_lt {m n : Nat} (h : m < n) : decide ((m : Int) < ((n : Nat) : Int)) = true := by simp; omega
theorem dec_nlt {n : Nat} : decide ((n : Int) < ((n : Nat) : Int)) = false := by simp
end Go.Den

namespace Go.Den
open Go.Ab

/-- A name that the document allows, as a loop over its bytes. -/
def nameBad (s : ByteArray) (m : Nat) : Bool :=
  cond (!(cond (cond (decide (byteAt s m ≥ 97)) (decide (byteAt s m ≤ 122)) false) true (cond (decide (byteAt s m ≥ 65)) (decide (byteAt s m ≤ 90)) false))) (cond ((m : Int) == 0) true (!(cond (cond (decide (byteAt s m ≥ 48)) (decide (byteAt s m ≤ 57)) false) true (byteAt s m == 45)))) false
def nameOk (s : ByteArray) : Bool :=
  cond (cond (streq s ByteArray.empty) true (decide (((s.size : Nat) : Int) > 12))) false (scan (fun m => cond (nameBad s m) (some false) none) true s.size 0)

theorem streq_empty (s : ByteArray) : streq s ByteArray.empty = decide (((s.size : Nat) : Int) < 1) := by
  rw [Bool.eq_iff_iff, streq_iff, decide_eq_true_eq]
  constructor
  · rintro rfl; decide
  · intro h
    have : s.size = 0 := by omega
    cases s with | mk d => 
    have : d.size = 0 := this
    simp [Array.size_eq_zero_iff.1 this]; rfl
theorem nameBad_eq (s : ByteArray) (m : Nat) : nameBad s m = cond (!(cond (cond (decide (byteAt s m ≥ 97)) (decide (byteAt s m ≤ 122)) false) true (cond (decide (byteAt s m ≥ 65)) (decide (byteAt s m ≤ 90)) false))) (cond ((m : Int) == 0) true (cond (byteAt s m != 45) (cond (decide (byteAt s m < 48)) true (decide (byteAt s m > 57))) false)) false := by
  unfold nameBad
  generalize byteAt s m = b
  rw [Bool.eq_iff_iff]
  simp [Bool.cond_eq_ite]
  omega
theorem bytesL_at (s : ByteArray) (m : Nat) (h : m < s.size) : (bytesL s).getD m 0 = byteAt s m := by
  have := bytesL_get s m (by rw [← bytesL_len]; exact h)
  simpa [cU] using this
end Go.Den

namespace Go.Den
open Go.Ab

def ins (n lo hi : Int) : Bool := cond (decide (n ≥ lo)) (decide (n ≤ hi)) false
theorem ins_iff {n lo hi : Int} : ins n lo hi = true ↔ lo ≤ n ∧ n ≤ hi := by unfold ins; simp [Bool.cond_eq_ite]
theorem inside_eq (N : Nat) (n lo hi : Int) : g_r06_inside N n lo hi = some (ins n lo hi) := rfl
theorem outside_eq (N : Nat) (n lo hi : Int) : g_berth_outside N n lo hi = some (!ins n lo hi) := by
  unfold g_berth_outside ins
  congr 1
  rw [Bool.eq_iff_iff]; simp [Bool.cond_eq_ite]
theorem named_eq {N : Nat} (hN : 12 < N) (s : ByteArray) : g_berth_named N s = some (nameOk s) := by
  unfold g_berth_named nameOk
  cases h : cond (streq s ByteArray.empty) true (decide (((s.size : Nat) : Int) > 12))
  · have hs : s.size ≤ 12 := by
      cases h2 : streq s ByteArray.empty <;> rw [h2] at h <;> simp at h; omega
    refine loop_scan0 (L := fun fuel => g_berth_named_L1 N s fuel) _ _ (by omega) (fun fuel m hm => ?_) (fun fuel => ?_)
    · simp only [g_berth_named_L1, dec_lt hm, cond_true, if_pos (inb hm), w64_succ (show m < 9223372036854775807 by omega), toNat_nat]
      show cond (nameBad s m) _ _ = _
      cases nameBad s m <;> rfl
    · simp only [g_berth_named_L1, dec_nlt, cond_false]
  · rfl
theorem IsName_eq {N : Nat} (hN : 12 < N) (s : ByteArray) : g_keelblockbase_IsName N s = some (nameOk s) := by
  unfold g_keelblockbase_IsName nameOk
  rw [streq_empty]
  cases h : cond (decide (((s.size : Nat) : Int) < 1)) true (decide (((s.size : Nat) : Int) > 12))
  · have hs : s.size ≤ 12 := by
      cases h2 : decide (((s.size : Nat) : Int) < 1) <;> rw [h2] at h <;> simp at h; omega
    refine loop_scan0 (L := fun fuel => g_keelblockbase_IsName_L1 N s fuel) _ _ (by omega) (fun fuel m hm => ?_) (fun fuel => ?_)
    · simp only [g_keelblockbase_IsName_L1, dec_lt hm, cond_true, if_pos (inb hm), w64_succ (show m < 9223372036854775807 by omega), toNat_nat]
      have e : nameBad s m = cond (!(cond (cond (decide (byteAt s m ≥ 97)) (decide (byteAt s m ≤ 122)) false) true (cond (decide (byteAt s m ≥ 65)) (decide (byteAt s m ≤ 90)) false))) (cond ((m : Int) == 0) true (cond (byteAt s m != 45) (cond (decide (byteAt s m < 48)) true (decide (byteAt s m > 57))) false)) false := by
        unfold nameBad
        generalize byteAt s m = b
        rw [Bool.eq_iff_iff]
        simp [Bool.cond_eq_ite]
        omega
      rw [← e]
      cases nameBad s m <;> rfl
    · simp only [g_keelblockbase_IsName_L1, dec_nlt, cond_false]
  · rfl

end Go.Den

namespace Go.Den
open Go.Ab

/-! ### Dock -/
def dockCode (x : Tapi_Dock) : Int := cond (ins x.f_Length 1 1000000 && ins x.f_Width 1 1000000 && ins x.f_Sill (-1000000) 1000000 && ins x.f_Floor (-1000000) 1000000 && ins x.f_Gap 0 1000000) 0 2

theorem dockCheck_eq (N : Nat) (x : Tapi_Dock) : g_berth_CheckDocks_2 N x = some (dockCode x) := by
  unfold g_berth_CheckDocks_2 dockCode
  simp only [outside_eq, g_berth_ranged]
  generalize ins x.f_Length 1 1000000 = b0, ins x.f_Width 1 1000000 = b1, ins x.f_Sill (-1000000) 1000000 = b2, ins x.f_Floor (-1000000) 1000000 = b3, ins x.f_Gap 0 1000000 = b4
  cases b0 <;> cases b1 <;> cases b2 <;> cases b3 <;> cases b4 <;> rfl
def dupDock (l : List Tapi_Dock) (m : Nat) : Bool := scan (fun k => cond (streq (l.getD k Tapi_Dock.d).f_Name (l.getD m Tapi_Dock.d).f_Name) (some true) none) false m 0
def stepDock (l : List Tapi_Dock) (m : Nat) : Option Int :=
  cond (!nameOk (l.getD m Tapi_Dock.d).f_Name) (some 4) (cond (dupDock l m) (some 5) (cond (dockCode (l.getD m Tapi_Dock.d) != 0) (some (dockCode (l.getD m Tapi_Dock.d))) none))
def docksCode (l : List Tapi_Dock) : Int := cond (decide (((l.length : Nat) : Int) > 4)) 8 (scan (stepDock l) 0 l.length 0)

theorem contains_dock {N : Nat} (l : List Tapi_Dock) (m : Nat) (hm : m < l.length) (hN : l.length < N) (hl : l.length ≤ 4) : g_slices_ContainsFunc_api_Dock_api_Dock N ((l.take m).drop 0) (l.getD m Tapi_Dock.d) = some (dupDock l m) := by
  have hlen : ((l.take m).drop 0).length = m := by simp; omega
  have e : g_slices_IndexFunc_api_Dock_api_Dock N ((l.take m).drop 0) (l.getD m Tapi_Dock.d) = some (scan (fun k => cond (streq (l.getD k Tapi_Dock.d).f_Name (l.getD m Tapi_Dock.d).f_Name) (some (k : Int)) none) (-1) m 0) := by
    unfold g_slices_IndexFunc_api_Dock_api_Dock
    refine loop_scan0 (L := fun fuel => g_slices_IndexFunc_api_Dock_api_Dock_L1 N ((l.take m).drop 0) (l.getD m Tapi_Dock.d) fuel) _ _ (by omega) (fun fuel k hk => ?_) (fun fuel => ?_)
    · simp only [g_slices_IndexFunc_api_Dock_api_Dock_L1, hlen, dec_lt hk, cond_true, if_pos (inb hk), w64_succ (show k < 9223372036854775807 by omega), toNat_nat, getD_take l m k _ hk, g_berth_check_Dock_1, g_berth_CheckDocks_1, Option.bind_some]
      cases streq (l.getD k Tapi_Dock.d).f_Name (l.getD m Tapi_Dock.d).f_Name <;> rfl
    · simp only [g_slices_IndexFunc_api_Dock_api_Dock_L1, hlen, dec_nlt, cond_false]
  unfold g_slices_ContainsFunc_api_Dock_api_Dock
  rw [e, Option.bind_some, scan_index]
  rfl

theorem checkDocks_eq {N : Nat} (hN : 13 < N) (l : List Tapi_Dock) : g_berth_CheckDocks N l = some (docksCode l) := by
  unfold g_berth_CheckDocks g_berth_check_Dock docksCode
  cases h : decide (((l.length : Nat) : Int) > 4)
  · have hl : l.length ≤ 4 := by simp at h; omega
    have e : g_berth_check_Dock_L1 N l N 0 = some (scan (stepDock l) 0 l.length 0) := by
      refine loop_scan0 (L := fun fuel => g_berth_check_Dock_L1 N l fuel) _ _ (by omega) (fun fuel m hm => ?_) (fun fuel => ?_)
      · simp only [g_berth_check_Dock_L1, dec_lt hm, cond_true, if_pos (inb hm), w64_succ (show m < 9223372036854775807 by omega), toNat_nat, g_berth_CheckDocks_1, Option.bind_some, named_eq (show 12 < N by omega), contains_dock l m hm (show l.length < N by omega) hl, dockCheck_eq,
          if_pos (show 0 ≤ m ∧ m ≤ l.length from ⟨Nat.zero_le _, by omega⟩), if_pos (show 0 ≤ (m : Int) from Int.natCast_nonneg _)]
        unfold stepDock
        cases nameOk (l.getD m Tapi_Dock.d).f_Name <;> cases dupDock l m <;> cases (dockCode (l.getD m Tapi_Dock.d) != 0) <;> rfl
      · simp only [g_berth_check_Dock_L1, dec_nlt, cond_false]
    rw [cond_false, cond_false, e]; rfl
  · rfl

theorem dockOf_eq {N : Nat} (l : List Tapi_Dock) (s : ByteArray) (hN : l.length < N) (hl : l.length < 9223372036854775807) : g_r06_DockOf N l s = some (scan (fun k => cond (streq (l.getD k Tapi_Dock.d).f_Name s) (some (k : Int)) none) (-1) l.length 0) := by
  unfold g_r06_DockOf
  refine loop_scan0 (L := fun fuel => g_r06_DockOf_L1 N l s fuel) _ _ hN (fun fuel m hm => ?_) (fun fuel => ?_)
  · simp only [g_r06_DockOf_L1, dec_lt hm, cond_true, if_pos (inb hm), w64_succ (show m < 9223372036854775807 by omega), toNat_nat]
    cases streq (l.getD m Tapi_Dock.d).f_Name s <;> rfl
  · simp only [g_r06_DockOf_L1, dec_nlt, cond_false]

theorem refDocks_eq {N : Nat} (hN : 13 < N) (l : List Tapi_Dock) : g_r06_CheckDocks N l = some (docksCode l) := by
  unfold g_r06_CheckDocks docksCode
  cases h : decide (((l.length : Nat) : Int) > 4)
  · have hl : l.length ≤ 4 := by simp at h; omega
    rw [cond_false, cond_false]
    refine loop_scan0 (L := fun fuel => g_r06_CheckDocks_L1 N l fuel) _ _ (by omega) (fun fuel m hm => ?_) (fun fuel => ?_)
    · have hd : (scan (fun k => cond (streq (l.getD k Tapi_Dock.d).f_Name (l.getD m Tapi_Dock.d).f_Name) (some (k : Int)) none) (-1) l.length 0 != (m : Int)) = dupDock l m :=
        scan_first (p := fun k => streq (l.getD k Tapi_Dock.d).f_Name (l.getD m Tapi_Dock.d).f_Name) (streq_iff.2 rfl) l.length 0 (Nat.zero_le _) (by omega)
      simp only [g_r06_CheckDocks_L1, dec_lt hm, cond_true, if_pos (inb hm), toNat_nat, IsName_eq (show 12 < N by omega), Option.bind_some, dockOf_eq l _ (show l.length < N by omega) (by omega), w64_succ (show m < 9223372036854775807 by omega), hd, if_pos (fun _ => inb hm), inside_eq]
      unfold stepDock
      cases nameOk (l.getD m Tapi_Dock.d).f_Name
      · rfl
      · cases dupDock l m
        · simp only [Bool.not_true, cond_false]
          unfold dockCode
          generalize ins (l.getD m Tapi_Dock.d).f_Length 1 1000000 = b0, ins (l.getD m Tapi_Dock.d).f_Width 1 1000000 = b1, ins (l.getD m Tapi_Dock.d).f_Sill (-1000000) 1000000 = b2, ins (l.getD m Tapi_Dock.d).f_Floor (-1000000) 1000000 = b3, ins (l.getD m Tapi_Dock.d).f_Gap 0 1000000 = b4
          cases b0 <;> cases b1 <;> cases b2 <;> cases b3 <;> cases b4 <;> rfl
        · rfl
    · simp only [g_r06_CheckDocks_L1, dec_nlt, cond_false]
  · rfl


/-! ### Call -/
def callCode (x : Tapi_Call) : Int := cond (ins x.f_Length 1 1000000 && ins x.f_Beam 1 1000000 && ins x.f_Draught 0 1000000 && ins x.f_Under 0 1000000 && ins x.f_Arrive 0 400 && ins x.f_Due 0 400 && ins x.f_Work 1 1000 && ins x.f_Late 0 1000000000) 0 2

theorem callCheck_eq (N : Nat) (x : Tapi_Call) : g_berth_CheckCalls_2 N x = some (callCode x) := by
  unfold g_berth_CheckCalls_2 callCode
  simp only [outside_eq, g_berth_ranged]
  generalize ins x.f_Length 1 1000000 = b0, ins x.f_Beam 1 1000000 = b1, ins x.f_Draught 0 1000000 = b2, ins x.f_Under 0 1000000 = b3, ins x.f_Arrive 0 400 = b4, ins x.f_Due 0 400 = b5, ins x.f_Work 1 1000 = b6, ins x.f_Late 0 1000000000 = b7
  cases b0 <;> cases b1 <;> cases b2 <;> cases b3 <;> cases b4 <;> cases b5 <;> cases b6 <;> cases b7 <;> rfl
def dupCall (l : List Tapi_Call) (m : Nat) : Bool := scan (fun k => cond (streq (l.getD k Tapi_Call.d).f_Name (l.getD m Tapi_Call.d).f_Name) (some true) none) false m 0
def stepCall (l : List Tapi_Call) (m : Nat) : Option Int :=
  cond (!nameOk (l.getD m Tapi_Call.d).f_Name) (some 4) (cond (dupCall l m) (some 5) (cond (callCode (l.getD m Tapi_Call.d) != 0) (some (callCode (l.getD m Tapi_Call.d))) none))
def callsCode (l : List Tapi_Call) : Int := cond (decide (((l.length : Nat) : Int) > 8)) 8 (scan (stepCall l) 0 l.length 0)

theorem contains_call {N : Nat} (l : List Tapi_Call) (m : Nat) (hm : m < l.length) (hN : l.length < N) (hl : l.length ≤ 8) : g_slices_ContainsFunc_api_Call_api_Call N ((l.take m).drop 0) (l.getD m Tapi_Call.d) = some (dupCall l m) := by
  have hlen : ((l.take m).drop 0).length = m := by simp; omega
  have e : g_slices_IndexFunc_api_Call_api_Call N ((l.take m).drop 0) (l.getD m Tapi_Call.d) = some (scan (fun k => cond (streq (l.getD k Tapi_Call.d).f_Name (l.getD m Tapi_Call.d).f_Name) (some (k : Int)) none) (-1) m 0) := by
    unfold g_slices_IndexFunc_api_Call_api_Call
    refine loop_scan0 (L := fun fuel => g_slices_IndexFunc_api_Call_api_Call_L1 N ((l.take m).drop 0) (l.getD m Tapi_Call.d) fuel) _ _ (by omega) (fun fuel k hk => ?_) (fun fuel => ?_)
    · simp only [g_slices_IndexFunc_api_Call_api_Call_L1, hlen, dec_lt hk, cond_true, if_pos (inb hk), w64_succ (show k < 9223372036854775807 by omega), toNat_nat, getD_take l m k _ hk, g_berth_check_Call_1, g_berth_CheckCalls_1, Option.bind_some]
      cases streq (l.getD k Tapi_Call.d).f_Name (l.getD m Tapi_Call.d).f_Name <;> rfl
    · simp only [g_slices_IndexFunc_api_Call_api_Call_L1, hlen, dec_nlt, cond_false]
  unfold g_slices_ContainsFunc_api_Call_api_Call
  rw [e, Option.bind_some, scan_index]
  rfl

theorem checkCalls_eq {N : Nat} (hN : 13 < N) (l : List Tapi_Call) : g_berth_CheckCalls N l = some (callsCode l) := by
  unfold g_berth_CheckCalls g_berth_check_Call callsCode
  cases h : decide (((l.length : Nat) : Int) > 8)
  · have hl : l.length ≤ 8 := by simp at h; omega
    have e : g_berth_check_Call_L1 N l N 0 = some (scan (stepCall l) 0 l.length 0) := by
      refine loop_scan0 (L := fun fuel => g_berth_check_Call_L1 N l fuel) _ _ (by omega) (fun fuel m hm => ?_) (fun fuel => ?_)
      · simp only [g_berth_check_Call_L1, dec_lt hm, cond_true, if_pos (inb hm), w64_succ (show m < 9223372036854775807 by omega), toNat_nat, g_berth_CheckCalls_1, Option.bind_some, named_eq (show 12 < N by omega), contains_call l m hm (show l.length < N by omega) hl, callCheck_eq,
          if_pos (show 0 ≤ m ∧ m ≤ l.length from ⟨Nat.zero_le _, by omega⟩), if_pos (show 0 ≤ (m : Int) from Int.natCast_nonneg _)]
        unfold stepCall
        cases nameOk (l.getD m Tapi_Call.d).f_Name <;> cases dupCall l m <;> cases (callCode (l.getD m Tapi_Call.d) != 0) <;> rfl
      · simp only [g_berth_check_Call_L1, dec_nlt, cond_false]
    rw [cond_false, cond_false, e]; rfl
  · rfl

theorem callOf_eq {N : Nat} (l : List Tapi_Call) (s : ByteArray) (hN : l.length < N) (hl : l.length < 9223372036854775807) : g_r06_CallOf N l s = some (scan (fun k => cond (streq (l.getD k Tapi_Call.d).f_Name s) (some (k : Int)) none) (-1) l.length 0) := by
  unfold g_r06_CallOf
  refine loop_scan0 (L := fun fuel => g_r06_CallOf_L1 N l s fuel) _ _ hN (fun fuel m hm => ?_) (fun fuel => ?_)
  · simp only [g_r06_CallOf_L1, dec_lt hm, cond_true, if_pos (inb hm), w64_succ (show m < 9223372036854775807 by omega), toNat_nat]
    cases streq (l.getD m Tapi_Call.d).f_Name s <;> rfl
  · simp only [g_r06_CallOf_L1, dec_nlt, cond_false]

theorem refCalls_eq {N : Nat} (hN : 13 < N) (l : List Tapi_Call) : g_r06_CheckCalls N l = some (callsCode l) := by
  unfold g_r06_CheckCalls callsCode
  cases h : decide (((l.length : Nat) : Int) > 8)
  · have hl : l.length ≤ 8 := by simp at h; omega
    rw [cond_false, cond_false]
    refine loop_scan0 (L := fun fuel => g_r06_CheckCalls_L1 N l fuel) _ _ (by omega) (fun fuel m hm => ?_) (fun fuel => ?_)
    · have hd : (scan (fun k => cond (streq (l.getD k Tapi_Call.d).f_Name (l.getD m Tapi_Call.d).f_Name) (some (k : Int)) none) (-1) l.length 0 != (m : Int)) = dupCall l m :=
        scan_first (p := fun k => streq (l.getD k Tapi_Call.d).f_Name (l.getD m Tapi_Call.d).f_Name) (streq_iff.2 rfl) l.length 0 (Nat.zero_le _) (by omega)
      simp only [g_r06_CheckCalls_L1, dec_lt hm, cond_true, if_pos (inb hm), toNat_nat, IsName_eq (show 12 < N by omega), Option.bind_some, callOf_eq l _ (show l.length < N by omega) (by omega), w64_succ (show m < 9223372036854775807 by omega), hd, if_pos (fun _ => inb hm), inside_eq]
      unfold stepCall
      cases nameOk (l.getD m Tapi_Call.d).f_Name
      · rfl
      · cases dupCall l m
        · simp only [Bool.not_true, cond_false]
          unfold callCode
          generalize ins (l.getD m Tapi_Call.d).f_Length 1 1000000 = b0, ins (l.getD m Tapi_Call.d).f_Beam 1 1000000 = b1, ins (l.getD m Tapi_Call.d).f_Draught 0 1000000 = b2, ins (l.getD m Tapi_Call.d).f_Under 0 1000000 = b3, ins (l.getD m Tapi_Call.d).f_Arrive 0 400 = b4, ins (l.getD m Tapi_Call.d).f_Due 0 400 = b5, ins (l.getD m Tapi_Call.d).f_Work 1 1000 = b6, ins (l.getD m Tapi_Call.d).f_Late 0 1000000000 = b7
          cases b0 <;> cases b1 <;> cases b2 <;> cases b3 <;> cases b4 <;> cases b5 <;> cases b6 <;> cases b7 <;> rfl
        · rfl
    · simp only [g_r06_CheckCalls_L1, dec_nlt, cond_false]
  · rfl

end Go.Den

namespace Go.Den
open Go.Ab

def cl (c : List Tapi_Call) (k : Nat) : Tapi_Call := c.getD k Tapi_Call.d
def sp (s : List Tapi_Spot) (k : Nat) : Tapi_Spot := s.getD k Tapi_Spot.d
def callIx (c : List Tapi_Call) (s : ByteArray) : Int := scan (fun k => cond (streq (cl c k).f_Name s) (some (k : Int)) none) (-1) c.length 0
def bothCode (d : Tapi_Dock) (c : List Tapi_Call) : Int := cond (docksCode [d] != 0) (docksCode [d]) (callsCode c)
theorem both_eq {N : Nat} (hN : 13 < N) (d : Tapi_Dock) (c : List Tapi_Call) : g_berth_both N d c = some (bothCode d c) := by
  unfold g_berth_both bothCode
  rw [checkDocks_eq hN, Option.bind_some, checkCalls_eq hN]
  cases docksCode [d] != 0 <;> rfl
theorem refBoth_eq {N : Nat} (hN : 13 < N) (d : Tapi_Dock) (c : List Tapi_Call) : g_r06_CheckBoth N d c = some (bothCode d c) := by
  unfold g_r06_CheckBoth bothCode
  rw [refDocks_eq hN, Option.bind_some, refCalls_eq hN]
  cases docksCode [d] != 0 <;> rfl
theorem refCallIx_eq {N : Nat} (c : List Tapi_Call) (s : ByteArray) (hN : c.length < N) (hl : c.length < 1000) : g_r06_CallOf N c s = some (callIx c s) := callOf_eq c s hN (by omega)
theorem called_eq {N : Nat} (c : List Tapi_Call) (s : ByteArray) (hN : c.length < N) (hl : c.length < 1000) : g_berth_called N c s = some (callIx c s) := by
  unfold g_berth_called g_slices_IndexFunc_api_Call_api_Call_v2
  rw [loop_scan0 (L := fun fuel => g_slices_IndexFunc_api_Call_api_Call_v2_L1 N c s fuel) (fun k => cond (streq (cl c k).f_Name s) (some (k : Int)) none) (-1) hN (fun fuel k hk => ?_) (fun fuel => ?_)]
  · rfl
  · simp only [g_slices_IndexFunc_api_Call_api_Call_v2_L1, g_berth_called_1, dec_lt hk, cond_true, if_pos (inb hk), w64_succ (show k < 9223372036854775807 by omega), toNat_nat, Option.bind_some]
    change cond (streq (cl c k).f_Name s) _ _ = _
    cases streq (cl c k).f_Name s <;> rfl
  · simp only [g_slices_IndexFunc_api_Call_api_Call_v2_L1, dec_nlt, cond_false]
theorem callIx_inv (c : List Tapi_Call) (s : ByteArray) : (callIx c s = -1 ∧ ∀ i, i < c.length → (cl c i).f_Name ≠ s) ∨ ∃ i : Nat, i < c.length ∧ callIx c s = (i : Int) ∧ (cl c i).f_Name = s := by
  unfold callIx
  rcases scan_inv (f := fun k => cond (streq (cl c k).f_Name s) (some (k : Int)) none) (z := -1) c.length 0 with ⟨i, r, _, h2, h3, _, h5⟩ | ⟨h1, h2⟩
  · right
    cases hs : streq (cl c i).f_Name s with
    | false => simp only [hs, cond_false] at h3; cases h3
    | true =>
      simp only [hs, cond_true, Option.some.injEq] at h3
      exact ⟨i, by omega, by rw [h5, ← h3], streq_iff.1 hs⟩
  · left
    refine ⟨h2, fun i hi he => ?_⟩
    have := h1 i (Nat.zero_le _) (by omega)
    simp only [streq_iff.2 he, cond_true] at this
    cases this

/-- A box within the dock; two boxes that keep the gap. -/
def withinE (d : Tapi_Dock) (b : Tberth_box) : Bool := cond (cond (cond (decide (b.f_x ≥ d.f_Gap)) (decide (b.f_y ≥ d.f_Gap)) false) (decide ((w64 ((w64 (b.f_x + b.f_w)) + d.f_Gap)) ≤ d.f_Length)) false) (decide ((w64 ((w64 (b.f_y + b.f_h)) + d.f_Gap)) ≤ d.f_Width)) false
def apartE (g : Int) (a b : Tberth_box) : Bool := cond (cond (cond (decide ((w64 ((w64 (a.f_x + a.f_w)) + g)) ≤ b.f_x)) true (decide ((w64 ((w64 (b.f_x + b.f_w)) + g)) ≤ a.f_x))) true (decide ((w64 ((w64 (a.f_y + a.f_h)) + g)) ≤ b.f_y))) true (decide ((w64 ((w64 (b.f_y + b.f_h)) + g)) ≤ a.f_y))
theorem apartE_comm (g : Int) (a b : Tberth_box) : apartE g a b = apartE g b a := by
  unfold apartE
  generalize decide ((w64 ((w64 (a.f_x + a.f_w)) + g)) ≤ b.f_x) = p, decide ((w64 ((w64 (b.f_x + b.f_w)) + g)) ≤ a.f_x) = q, decide ((w64 ((w64 (a.f_y + a.f_h)) + g)) ≤ b.f_y) = r, decide ((w64 ((w64 (b.f_y + b.f_h)) + g)) ≤ a.f_y) = t
  cases p <;> cases q <;> cases r <;> cases t <;> rfl
/-- The box of a spot. -/
def boxS (c : List Tapi_Call) (s : List Tapi_Spot) (i : Nat) : Tberth_box := ⟨(sp s i).f_X, (sp s i).f_Y, (cl c (callIx c (sp s i).f_Call).toNat).f_Length, (cl c (callIx c (sp s i).f_Call).toNat).f_Beam⟩
theorem refWithin_eq (N : Nat) (d : Tapi_Dock) (c : Tapi_Call) (s : Tapi_Spot) : g_r06_within N d c s = some (withinE d ⟨s.f_X, s.f_Y, c.f_Length, c.f_Beam⟩) := rfl
theorem inside6_eq (N : Nat) (d : Tapi_Dock) (b : Tberth_box) : g_berth_inside N d b = some (withinE d b) := rfl
theorem apart6_eq (N : Nat) (a b : Tberth_box) (g : Int) : g_berth_apart N a b g = some (apartE g a b) := rfl
theorem refApart_eq (N : Nat) (d : Tapi_Dock) (a b : Tapi_Call) (s t : Tapi_Spot) : g_r06_apart N d a b s t = some (apartE d.f_Gap ⟨s.f_X, s.f_Y, a.f_Length, a.f_Beam⟩ ⟨t.f_X, t.f_Y, b.f_Length, b.f_Beam⟩) := rfl

def dupS (s : List Tapi_Spot) (i : Nat) : Bool := scan (fun j => cond (streq (sp s j).f_Call (sp s i).f_Call) (some true) none) false i 0
def spotStep (d : Tapi_Dock) (c : List Tapi_Call) (s : List Tapi_Spot) (i : Nat) : Option Int :=
  cond (decide (callIx c (sp s i).f_Call < 0)) (some 6) (cond (dupS s i) (some 5) (cond (!(ins (sp s i).f_X 0 1000000 && ins (sp s i).f_Y 0 1000000)) (some 2) (cond (!withinE d (boxS c s i)) (some 16) none)))
theorem spot_ok {d : Tapi_Dock} {c : List Tapi_Call} {s : List Tapi_Spot} {i : Nat} (h : spotStep d c s i = none) : (0 ≤ callIx c (sp s i).f_Call ∧ callIx c (sp s i).f_Call < ((c.length : Nat) : Int)) ∧ dupS s i = false ∧ (ins (sp s i).f_X 0 1000000 = true ∧ ins (sp s i).f_Y 0 1000000 = true) ∧ withinE d (boxS c s i) = true := by
  unfold spotStep at h
  cases h1 : decide (callIx c (sp s i).f_Call < 0) with
  | true => rw [h1] at h; cases h
  | false =>
    rw [h1, cond_false] at h
    cases h2 : dupS s i with
    | true => rw [h2] at h; cases h
    | false =>
      rw [h2, cond_false] at h
      cases h3 : (ins (sp s i).f_X 0 1000000 && ins (sp s i).f_Y 0 1000000) with
      | false => rw [h3] at h; cases h
      | true =>
        rw [h3, Bool.not_true, cond_false] at h
        cases h4 : withinE d (boxS c s i) with
        | false => rw [h4] at h; cases h
        | true =>
          refine ⟨?_, rfl, by simpa using h3, rfl⟩
          have h1 := of_decide_eq_false h1
          rcases callIx_inv c (sp s i).f_Call with ⟨h, _⟩ | ⟨j, h, hj, _⟩ <;> omega
def pairStep (d : Tapi_Dock) (c : List Tapi_Call) (s : List Tapi_Spot) (i : Nat) : Option Int :=
  cond (scan (fun j => cond (!apartE d.f_Gap (boxS c s i) (boxS c s j)) (some true) none) false i 0) (some 17) none
def planCode (d : Tapi_Dock) (c : List Tapi_Call) (s : List Tapi_Spot) : Int :=
  cond (bothCode d c != 0) (bothCode d c) (cond (((s.length : Nat) : Int) != ((c.length : Nat) : Int)) 11 (scan (spotStep d c s) (scan (pairStep d c s) 0 s.length 0) s.length 0))
theorem both_len {d : Tapi_Dock} {c : List Tapi_Call} (h : bothCode d c = 0) : c.length ≤ 8 := by
  unfold bothCode at h
  cases h1 : (docksCode [d] != 0) with
  | true => rw [h1, cond_true] at h; rw [h] at h1; cases h1
  | false =>
    rw [h1, cond_false] at h
    unfold callsCode at h
    cases h2 : decide (((c.length : Nat) : Int) > 8) with
    | true => rw [h2] at h; cases h
    | false => simp at h2; omega
theorem refPlan_L2 {N : Nat} (hN : 20 < N) (d : Tapi_Dock) {c : List Tapi_Call} (hc : c.length ≤ 8) {s : List Tapi_Spot} (hs : s.length = c.length) {i : Nat} (hi : i < s.length) (h0 : 0 ≤ callIx c (sp s i).f_Call) (K : Int → Option Int) :
    g_r06_CheckPlan_L2 N d c s (i : Int) (callIx c (sp s i).f_Call) K N 0 = match cond (dupS s i) (some 5) (cond (!(ins (sp s i).f_X 0 1000000 && ins (sp s i).f_Y 0 1000000)) (some 2) (cond (!withinE d (boxS c s i)) (some 16) none)) with | some r => some r | none => K ((i + 1 : Nat) : Int) := by
  have hx : 0 ≤ callIx c (sp s i).f_Call ∧ callIx c (sp s i).f_Call < ((c.length : Nat) : Int) := by
    rcases callIx_inv c (sp s i).f_Call with ⟨h, _⟩ | ⟨j, h, hj, _⟩ <;> omega
  rw [loop_scanR0 (L := fun fuel => g_r06_CheckPlan_L2 N d c s (i : Int) (callIx c (sp s i).f_Call) K fuel) (fun j => cond (streq (sp s j).f_Call (sp s i).f_Call) (some (some 5)) none)
    (match cond (!(ins (sp s i).f_X 0 1000000 && ins (sp s i).f_Y 0 1000000)) (some 2) (cond (!withinE d (boxS c s i)) (some 16) none) with | some r => some r | none => K ((i + 1 : Nat) : Int)) (show i < N by omega) (fun fuel j hj => ?_) (fun fuel => ?_)]
  · rw [scan_bool (p := fun j => streq (sp s j).f_Call (sp s i).f_Call)]
    unfold dupS
    cases scan (fun j => cond (streq (sp s j).f_Call (sp s i).f_Call) (some true) none) false i 0 <;> rfl
  · simp only [g_r06_CheckPlan_L2, dec_lt hj, cond_true, if_pos (inb (show j < s.length by omega)), if_pos (inb hi), toNat_nat, w64_succ (show j < 9223372036854775807 by omega)]
    change cond (streq (sp s j).f_Call (sp s i).f_Call) _ _ = _
    cases streq (sp s j).f_Call (sp s i).f_Call <;> rfl
  · rw [g_r06_CheckPlan_L2]
    simp only [dec_nlt, cond_false, if_pos (inb hi), if_pos (fun _ => inb hi), toNat_nat, inside_eq, Option.bind_some, if_pos hx, refWithin_eq, w64_succ (show i < 9223372036854775807 by omega)]
    change ((cond (!(!ins (sp s i).f_X 0 1000000)) (some (ins (sp s i).f_Y 0 1000000)) (some false)).bind fun q => cond (cond (!ins (sp s i).f_X 0 1000000) true (!q)) (some 2) (cond (!withinE d (boxS c s i)) (some 16) (K ((i + 1 : Nat) : Int)))) = _
    cases ins (sp s i).f_X 0 1000000 <;> cases ins (sp s i).f_Y 0 1000000 <;> cases withinE d (boxS c s i) <;> rfl
theorem refPlan_L4 {N : Nat} (hN : 20 < N) (d : Tapi_Dock) {c : List Tapi_Call} (hc : c.length ≤ 8) {s : List Tapi_Spot} (hs : s.length = c.length) (hall : ∀ j, j < s.length → spotStep d c s j = none) {i : Nat} (hi : i < s.length) (K : Int → Option Int) :
    g_r06_CheckPlan_L4 N d c s (i : Int) K N 0 = match pairStep d c s i with | some r => some r | none => K ((i + 1 : Nat) : Int) := by
  rw [loop_scanR0 (L := fun fuel => g_r06_CheckPlan_L4 N d c s (i : Int) K fuel) (fun j => cond (!apartE d.f_Gap (boxS c s i) (boxS c s j)) (some (some 17)) none) (K ((i + 1 : Nat) : Int)) (show i < N by omega) (fun fuel j hj => ?_) (fun fuel => ?_)]
  · rw [scan_bool (p := fun j => !apartE d.f_Gap (boxS c s i) (boxS c s j))]
    unfold pairStep
    cases scan (fun j => cond (!apartE d.f_Gap (boxS c s i) (boxS c s j)) (some true) none) false i 0 <;> rfl
  · have hjs : j < s.length := by omega
    have ri := (spot_ok (hall i hi)).1
    have rj := (spot_ok (hall j hjs)).1
    simp only [g_r06_CheckPlan_L4, dec_lt hj, cond_true, if_pos (inb hjs), if_pos (inb hi), toNat_nat, refCallIx_eq c _ (show c.length < N by omega) (show c.length < 1000 by omega), Option.bind_some, w64_succ (show j < 9223372036854775807 by omega)]
    change (if 0 ≤ callIx c (sp s i).f_Call ∧ callIx c (sp s i).f_Call < ((c.length : Nat) : Int) then (if 0 ≤ callIx c (sp s j).f_Call ∧ callIx c (sp s j).f_Call < ((c.length : Nat) : Int) then _ else none) else none) = _
    rw [if_pos ri, if_pos rj, refApart_eq, Option.bind_some]
    change cond (!apartE d.f_Gap (boxS c s i) (boxS c s j)) _ _ = _
    cases apartE d.f_Gap (boxS c s i) (boxS c s j) <;> rfl
  · simp only [g_r06_CheckPlan_L4, dec_nlt, cond_false, w64_succ (show i < 9223372036854775807 by omega)]
theorem refPlan_eq {N : Nat} (hN : 20 < N) (d : Tapi_Dock) (c : List Tapi_Call) (s : List Tapi_Spot) : g_r06_CheckPlan N d c s = some (planCode d c s) := by
  unfold g_r06_CheckPlan planCode
  rw [refBoth_eq (by omega), Option.bind_some]
  cases hb : bothCode d c != 0 with
  | true => rfl
  | false =>
    have hc := both_len (d := d) (c := c) (by simpa using hb)
    rw [cond_false, cond_false]
    cases hl : ((s.length : Nat) : Int) != ((c.length : Nat) : Int) with
    | true => rfl
    | false =>
      have hs : s.length = c.length := by simp at hl; omega
      rw [cond_false, cond_false]
      refine loop_scan0A (L := fun fuel => g_r06_CheckPlan_L1 N d c s fuel) (spotStep d c s) (scan (pairStep d c s) 0 s.length 0) (show s.length < N by omega) (fun fuel i hi _ => ?_) (fun hall fuel => ?_)
      · simp only [g_r06_CheckPlan_L1, dec_lt hi, cond_true, if_pos (inb hi), toNat_nat, refCallIx_eq c _ (show c.length < N by omega) (show c.length < 1000 by omega), Option.bind_some]
        change cond (decide (callIx c (sp s i).f_Call < 0)) (some 6) (g_r06_CheckPlan_L2 N d c s (i : Int) (callIx c (sp s i).f_Call) (g_r06_CheckPlan_L1 N d c s fuel) N 0) = _
        unfold spotStep
        by_cases h0 : callIx c (sp s i).f_Call < 0
        · rw [decide_eq_true h0]; rfl
        · rw [decide_eq_false h0, cond_false, cond_false, refPlan_L2 hN d hc hs hi (by omega)]
          generalize cond (dupS s i) (some (5 : Int)) (cond (!(ins (sp s i).f_X 0 1000000 && ins (sp s i).f_Y 0 1000000)) (some 2) (cond (!withinE d (boxS c s i)) (some 16) none)) = z
          cases z <;> rfl
      · rw [g_r06_CheckPlan_L1]
        simp only [dec_nlt, cond_false]
        refine loop_scan0 (L := fun fuel => g_r06_CheckPlan_L3 N d c s fuel) _ _ (show s.length < N by omega) (fun fuel i hi => ?_) (fun fuel => ?_)
        · simp only [g_r06_CheckPlan_L3, dec_lt hi, cond_true]
          refine (refPlan_L4 hN d hc hs (fun j hj => hall j hj) hi _).trans ?_
          cases pairStep d c s i <;> rfl
        · simp only [g_r06_CheckPlan_L3, dec_nlt, cond_false]
end Go.Den

namespace Go.Den
open Go.Ab

def bx (o : List Tberth_box) (r : Nat) : Tberth_box := o.getD r Tberth_box.d
def ixn (c : List Tapi_Call) (s : List Tapi_Spot) (i : Nat) : Nat := (callIx c (sp s i).f_Call).toNat
theorem scan_ex {p : Nat → Bool} (n : Nat) : scan (fun j => cond (p j) (some true) none) false n 0 = true ↔ ∃ j, j < n ∧ p j = true := by
  rcases scan_inv (f := fun j => cond (p j) (some true) none) (z := false) n 0 with ⟨i, r, h1, h2, h3, h4, h5⟩ | ⟨h1, h2⟩
  · cases hp : p i with
    | false => simp only [hp, cond_false] at h3; cases h3
    | true =>
      simp only [hp, cond_true, Option.some.injEq] at h3
      rw [h5, ← h3]
      exact ⟨fun _ => ⟨i, by omega, hp⟩, fun _ => rfl⟩
  · rw [h2]
    refine ⟨fun h => (by cases h), fun ⟨j, h3, h4⟩ => ?_⟩
    have := h1 j (Nat.zero_le _) (by omega)
    simp only [h4, cond_true] at this; cases this
theorem dup_iff {s : List Tapi_Spot} {i : Nat} : dupS s i = true ↔ ∃ j, j < i ∧ (sp s j).f_Call = (sp s i).f_Call := by
  unfold dupS
  rw [scan_ex (p := fun j => streq (sp s j).f_Call (sp s i).f_Call)]
  constructor
  · rintro ⟨j, h1, h2⟩; exact ⟨j, h1, streq_iff.1 h2⟩
  · rintro ⟨j, h1, h2⟩; exact ⟨j, h1, streq_iff.2 h2⟩
theorem callIx_name {c : List Tapi_Call} {s : ByteArray} (h : 0 ≤ callIx c s) : (callIx c s).toNat < c.length ∧ callIx c s = (((callIx c s).toNat : Nat) : Int) ∧ (cl c (callIx c s).toNat).f_Name = s := by
  rcases callIx_inv c s with ⟨h1, _⟩ | ⟨i, h1, h2, h3⟩
  · omega
  · rw [h2, toNat_nat]; exact ⟨h1, rfl, h3⟩
/-- All pairs apart. -/
def allApart (g : Int) (f : Nat → Tberth_box) (n : Nat) : Prop := ∀ i, i < n → ∀ j, j < i → apartE g (f i) (f j) = true
theorem allApart_sym {g : Int} {f : Nat → Tberth_box} {n : Nat} : allApart g f n ↔ ∀ i j, i < n → j < n → i ≠ j → apartE g (f i) (f j) = true := by
  constructor
  · intro h i j hi hj hne
    by_cases h1 : j < i
    · exact h i hi j h1
    · rw [apartE_comm]; exact h j hj i (by omega)
  · intro h i hi j hj; exact h i j hi (by omega) (by omega)
theorem pair_scan {R : Type} {g : Int} {f : Nat → Tberth_box} {n : Nat} (a z : R) : (allApart g f n ∧ scan (fun i => cond (scan (fun j => cond (!apartE g (f i) (f j)) (some true) none) false i 0) (some a) none) z n 0 = z) ∨ (¬ allApart g f n ∧ scan (fun i => cond (scan (fun j => cond (!apartE g (f i) (f j)) (some true) none) false i 0) (some a) none) z n 0 = a) := by
  rw [scan_bool]
  have h := scan_ex (p := fun i => scan (fun j => cond (!apartE g (f i) (f j)) (some true) none) false i 0) n
  cases hs : scan (fun i => cond (scan (fun j => cond (!apartE g (f i) (f j)) (some true) none) false i 0) (some true) none) false n 0 with
  | true =>
    right
    obtain ⟨i, hi, h2⟩ := h.1 hs
    obtain ⟨j, hj, h3⟩ := (scan_ex (p := fun j => !apartE g (f i) (f j)) i).1 h2
    refine ⟨fun hall => ?_, rfl⟩
    rw [hall i hi j hj] at h3; cases h3
  | false =>
    left
    refine ⟨fun i hi j hj => ?_, rfl⟩
    cases ha : apartE g (f i) (f j) with
    | true => rfl
    | false =>
      have := h.2 ⟨i, hi, (scan_ex (p := fun j => !apartE g (f i) (f j)) i).2 ⟨j, hj, by rw [ha]; rfl⟩⟩
      rw [hs] at this; cases this
structure BI (d : Tapi_Dock) (c : List Tapi_Call) (s : List Tapi_Spot) (x : Nat) (out : List Tberth_box) (seen : List Bool) : Prop where
  ol : out.length = c.length
  sl : seen.length = c.length
  ok : ∀ i, i < x → spotStep d c s i = none
  at_ : ∀ i, i < x → bx out (ixn c s i) = boxS c s i
  sn : ∀ r, r < c.length → (seen.getD r false = true ↔ ∃ i, i < x ∧ ixn c s i = r)
  cnt : seen.count true = x
theorem ix_ok {d : Tapi_Dock} {c : List Tapi_Call} {s : List Tapi_Spot} {i : Nat} (h : spotStep d c s i = none) : ixn c s i < c.length ∧ callIx c (sp s i).f_Call = ((ixn c s i : Nat) : Int) ∧ (cl c (ixn c s i)).f_Name = (sp s i).f_Call :=
  callIx_name (spot_ok h).1.1
theorem ix_inj {d : Tapi_Dock} {c : List Tapi_Call} {s : List Tapi_Spot} {i j : Nat} (hi : spotStep d c s i = none) (hj : spotStep d c s j = none) (h : ixn c s i = ixn c s j) : i = j := by
  have h1 := (ix_ok hi).2.2
  have h2 := (ix_ok hj).2.2
  rw [h] at h1
  have e : (sp s i).f_Call = (sp s j).f_Call := h1.symm.trans h2
  have d1 := (spot_ok hi).2.1
  have d2 := (spot_ok hj).2.1
  rcases Nat.lt_trichotomy i j with h3 | h3 | h3
  · have := dup_iff.2 ⟨i, h3, e⟩; rw [d2] at this; cases this
  · exact h3
  · have := dup_iff.2 ⟨j, h3, e.symm⟩; rw [d1] at this; cases this
/-- The boxes of a right plan. -/
structure Boxed (d : Tapi_Dock) (c : List Tapi_Call) (s : List Tapi_Spot) (out : List Tberth_box) : Prop where
  len : s.length = c.length
  le : c.length ≤ 8
  ol : out.length = c.length
  ok : ∀ i, i < s.length → spotStep d c s i = none
  at_ : ∀ i, i < s.length → bx out (ixn c s i) = boxS c s i
  on : ∀ r, r < c.length → ∃ i, i < s.length ∧ ixn c s i = r
section
variable {d : Tapi_Dock} {c : List Tapi_Call} {s : List Tapi_Spot}
theorem Boxed.apart {out : List Tberth_box} (h : Boxed d c s out) : allApart d.f_Gap (bx out) c.length ↔ allApart d.f_Gap (boxS c s) s.length := by
  rw [allApart_sym, allApart_sym]
  constructor
  · intro ha i j hi hj hne
    rw [← h.at_ i hi, ← h.at_ j hj]
    exact ha _ _ (ix_ok (h.ok i hi)).1 (ix_ok (h.ok j hj)).1 (fun e => hne (ix_inj (h.ok i hi) (h.ok j hj) e))
  · intro ha r t hr ht hne
    obtain ⟨i, hi, rfl⟩ := h.on r hr
    obtain ⟨j, hj, rfl⟩ := h.on t ht
    rw [h.at_ i hi, h.at_ j hj]
    exact ha i j hi hj (fun e => hne (by rw [e]))
theorem BI.full {out : List Tberth_box} {seen : List Bool} (h : BI d c s s.length out seen) (hl : s.length = c.length) (hc : c.length ≤ 8) : Boxed d c s out :=
  ⟨hl, hc, h.ol, h.ok, h.at_, fun r hr => by
    refine (h.sn r hr).1 ?_
    have h1 : seen.count true = seen.length := by rw [h.cnt, h.sl, hl]
    have h2 := List.count_eq_length.1 h1
    have hr' : r < seen.length := by rw [h.sl]; exact hr
    have e : seen.getD r false = seen[r] := by simp [List.getD, hr']
    rw [e]
    exact (h2 _ (List.getElem_mem hr')).symm⟩
theorem boxes_L3 {N : Nat} {out : List Tberth_box} (hN : 100 < N) (ho : out.length ≤ 8) {i : Nat} (hi : i < out.length) (K : Int → Option (List Tberth_box × Int)) :
    g_berth_boxes_L3 N d out (i : Int) K N 0 = match cond (scan (fun j => cond (!apartE d.f_Gap (bx out i) (bx out j)) (some true) none) false i 0) (some (([] : List Tberth_box), (17 : Int))) none with | some r => some r | none => K ((i + 1 : Nat) : Int) := by
  rw [loop_scanR0 (L := fun fuel => g_berth_boxes_L3 N d out (i : Int) K fuel) (fun j => cond (!apartE d.f_Gap (bx out i) (bx out j)) (some (some (([] : List Tberth_box), (17 : Int)))) none) (K ((i + 1 : Nat) : Int)) (show i < N by omega) (fun fuel j hj => ?_) (fun fuel => ?_)]
  · rw [scan_bool (p := fun j => !apartE d.f_Gap (bx out i) (bx out j))]
    cases scan (fun j => cond (!apartE d.f_Gap (bx out i) (bx out j)) (some true) none) false i 0 <;> rfl
  · simp only [g_berth_boxes_L3, toNat_nat, Nat.sub_zero, dec_lt hj, cond_true, if_pos (inb hj), if_pos (show 0 ≤ i ∧ i ≤ out.length from ⟨Nat.zero_le _, by omega⟩), apart6_eq, Option.bind_some, w64_succ (show j < 9223372036854775807 by omega)]
    change cond (!apartE d.f_Gap (bx out i) (bx out j)) _ _ = _
    cases apartE d.f_Gap (bx out i) (bx out j) <;> rfl
  · simp only [g_berth_boxes_L3, toNat_nat, Nat.sub_zero, dec_nlt, cond_false, w64_succ (show i < 9223372036854775807 by omega)]
theorem boxes_L2 {N : Nat} {out : List Tberth_box} (hN : 100 < N) (ho : out.length ≤ 8) : (allApart d.f_Gap (bx out) out.length ∧ g_berth_boxes_L2 N d out N 0 = some (out, 0)) ∨ (¬ allApart d.f_Gap (bx out) out.length ∧ g_berth_boxes_L2 N d out N 0 = some ([], 17)) := by
  have e : g_berth_boxes_L2 N d out N 0 = some (scan (fun i => cond (scan (fun j => cond (!apartE d.f_Gap (bx out i) (bx out j)) (some true) none) false i 0) (some (([] : List Tberth_box), (17 : Int))) none) (out, 0) out.length 0) := by
    refine loop_scan0 (L := fun fuel => g_berth_boxes_L2 N d out fuel) _ _ (show out.length < N by omega) (fun fuel i hi => ?_) (fun fuel => ?_)
    · simp only [g_berth_boxes_L2, toNat_nat, dec_lt hi, cond_true, if_pos (inb hi), if_pos (show 0 ≤ i ∧ i ≤ out.length from ⟨Nat.zero_le _, by omega⟩), if_pos (show (0 : Int) ≤ (i : Int) by omega)]
      refine (boxes_L3 hN ho hi _).trans ?_
      cases cond (scan (fun j => cond (!apartE d.f_Gap (bx out i) (bx out j)) (some true) none) false i 0) (some (([] : List Tberth_box), (17 : Int))) none <;> rfl
    · simp only [g_berth_boxes_L2, dec_nlt, cond_false]
  rw [e]
  rcases pair_scan (g := d.f_Gap) (f := bx out) (n := out.length) (([] : List Tberth_box), (17 : Int)) (out, 0) with ⟨h1, h2⟩ | ⟨h1, h2⟩
  · exact .inl ⟨h1, by rw [h2]⟩
  · exact .inr ⟨h1, by rw [h2]⟩
/-- What the boxes are: those of a right plan, or none and the code. -/
def Answer (d : Tapi_Dock) (c : List Tapi_Call) (s : List Tapi_Spot) (code : Int) (r : List Tberth_box × Int) : Prop := r.2 = code ∧ ((code = 0 ∧ Boxed d c s r.1) ∨ (code ≠ 0 ∧ r.1 = []))
theorem boxes_L1 {N : Nat} (hN : 100 < N) (hl : s.length = c.length) (hc : c.length ≤ 8) : ∀ (k x fuel : Nat) (out : List Tberth_box) (seen : List Bool), x + k = s.length → k < fuel → BI d c s x out seen → ∃ r, g_berth_boxes_L1 N d c s fuel out seen (x : Int) = some r ∧ Answer d c s (scan (spotStep d c s) (scan (pairStep d c s) 0 s.length 0) k x) r
  | 0, x, fuel, out, seen, hx, hf, h => by
    obtain ⟨g, rfl⟩ : ∃ g, fuel = g + 1 := ⟨fuel - 1, by omega⟩
    have hx : x = s.length := by omega
    subst hx
    have hb := h.full hl hc
    rw [g_berth_boxes_L1, dec_nlt, cond_false, scan]
    have hap := hb.apart
    have ho := h.ol
    rcases pair_scan (g := d.f_Gap) (f := boxS c s) (n := s.length) (17 : Int) 0 with ⟨h1, h2⟩ | ⟨h1, h2⟩
    · have e : scan (pairStep d c s) 0 s.length 0 = 0 := h2
      rcases boxes_L2 (N := N) (d := d) (out := out) hN (by omega) with ⟨h3, h4⟩ | ⟨h3, h4⟩
      · exact ⟨_, h4, by rw [e], .inl ⟨e, hb⟩⟩
      · rw [ho] at h3; exact absurd (hap.2 h1) h3
    · have e : scan (pairStep d c s) 0 s.length 0 = 17 := h2
      rcases boxes_L2 (N := N) (d := d) (out := out) hN (by omega) with ⟨h3, h4⟩ | ⟨h3, h4⟩
      · rw [ho] at h3; exact absurd (hap.1 h3) h1
      · exact ⟨_, h4, by rw [e], .inr ⟨by rw [e]; decide, rfl⟩⟩
  | k + 1, x, fuel, out, seen, hx, hf, h => by
    obtain ⟨g, rfl⟩ : ∃ g, fuel = g + 1 := ⟨fuel - 1, by omega⟩
    have hxs : x < s.length := by omega
    rw [g_berth_boxes_L1, dec_lt hxs, cond_true, if_pos (inb hxs), toNat_nat, show s.getD x Tapi_Spot.d = sp s x from rfl, called_eq c _ (show c.length < N by omega) (by omega), Option.bind_some]
    have bad : ∀ code : Int, code ≠ 0 → spotStep d c s x = some code → ∃ r, (some (([] : List Tberth_box), code)) = some r ∧ Answer d c s (scan (spotStep d c s) (scan (pairStep d c s) 0 s.length 0) (k + 1) x) r := fun code h0 e => ⟨_, rfl, by rw [scan, e], .inr ⟨by rw [scan, e]; exact h0, rfl⟩⟩
    by_cases h0 : callIx c (sp s x).f_Call < 0
    · rw [decide_eq_true h0, cond_true]
      exact bad 6 (by decide) (by unfold spotStep; rw [decide_eq_true h0]; rfl)
    · obtain ⟨hr, hI, hname⟩ := callIx_name (c := c) (s := (sp s x).f_Call) (by omega)
      have e0 : spotStep d c s x = cond (dupS s x) (some 5) (cond (!(ins (sp s x).f_X 0 1000000 && ins (sp s x).f_Y 0 1000000)) (some 2) (cond (!withinE d (boxS c s x)) (some 16) none)) := by
        unfold spotStep; rw [decide_eq_false h0]; rfl
      have hixn : (callIx c (sp s x).f_Call).toNat = ixn c s x := rfl
      rw [hixn] at hr hI hname
      have hdup : seen.getD (ixn c s x) false = dupS s x := by
        rw [Bool.eq_iff_iff, h.sn _ hr, dup_iff]
        constructor
        · rintro ⟨j, hj, e⟩
          refine ⟨j, hj, ?_⟩
          have := (ix_ok (h.ok j hj)).2.2
          rw [e] at this; rw [← this, hname]
        · rintro ⟨j, hj, e⟩
          exact ⟨j, hj, by unfold ixn; rw [e]⟩
      rw [decide_eq_false h0, cond_false, hI, toNat_nat, if_pos (inb (by rw [h.sl]; exact hr)), hdup]
      cases hd : dupS s x with
      | true => exact bad 5 (by decide) (by rw [e0, hd]; rfl)
      | false =>
        rw [cond_false, outside_eq, Option.bind_some, outside_eq]
        rw [hd, cond_false] at e0
        cases h1 : ins (sp s x).f_X 0 1000000 with
        | false => exact bad 2 (by decide) (by rw [e0, h1]; rfl)
        | true =>
          cases h2 : ins (sp s x).f_Y 0 1000000 with
          | false => exact bad 2 (by decide) (by rw [e0, h1, h2]; rfl)
          | true =>
            have hro : ixn c s x < out.length := by rw [h.ol]; exact hr
            have hbox : (⟨(sp s x).f_X, (sp s x).f_Y, (c.getD (ixn c s x) Tapi_Call.d).f_Length, (c.getD (ixn c s x) Tapi_Call.d).f_Beam⟩ : Tberth_box) = boxS c s x := rfl
            have hset : (out.set (ixn c s x) (boxS c s x)).getD (ixn c s x) Tberth_box.d = boxS c s x := by simp [List.getD, hro]
            rw [hbox, hset, inside6_eq]
            show ∃ r, ((some false).bind fun routside2 : Bool => cond routside2 (some (([] : List Tberth_box), (2 : Int))) (if 0 ≤ ((ixn c s x : Nat) : Int) ∧ ((ixn c s x : Nat) : Int) < ((c.length : Nat) : Int) then (if 0 ≤ ((ixn c s x : Nat) : Int) ∧ ((ixn c s x : Nat) : Int) < ((out.length : Nat) : Int) then (if 0 ≤ ((ixn c s x : Nat) : Int) ∧ ((ixn c s x : Nat) : Int) < (((out.set (ixn c s x) (boxS c s x)).length : Nat) : Int) then ((some (withinE d (boxS c s x))).bind fun rinside => cond (!rinside) (some (([] : List Tberth_box), (16 : Int))) (g_berth_boxes_L1 N d c s g (out.set (ixn c s x) (boxS c s x)) (seen.set (ixn c s x) true) (w64 ((x : Int) + 1)))) else none) else none) else none)) = some r ∧ _
            rw [Option.bind_some, cond_false, if_pos (inb hr), if_pos (inb hro), if_pos (inb (by rw [List.length_set]; exact hro)), Option.bind_some]
            cases h3 : withinE d (boxS c s x) with
            | false => exact bad 16 (by decide) (by rw [e0, h1, h2, h3]; rfl)
            | true =>
              have e1 : spotStep d c s x = none := by rw [e0, h1, h2, h3]; rfl
              rw [scan, e1, Bool.not_true, cond_false, w64_succ (by omega)]
              have hseen : seen.getD (ixn c s x) false = false := by rw [hdup, hd]
              have hrs : ixn c s x < seen.length := by rw [h.sl]; exact hr
              refine boxes_L1 hN hl hc k (x + 1) g _ _ (by omega) (by omega) ⟨by rw [List.length_set, h.ol], by rw [List.length_set, h.sl], fun i hi => ?_, fun i hi => ?_, fun r hr2 => ?_, ?_⟩
              · by_cases hix : i = x
                · rw [hix]; exact e1
                · exact h.ok i (by omega)
              · by_cases hix : i = x
                · rw [hix]; exact hset
                · have hne : ixn c s i ≠ ixn c s x := fun e => hix (ix_inj (h.ok i (by omega)) e1 e)
                  unfold bx
                  rw [List.getD_eq_getElem?_getD, List.getElem?_set_ne (fun e => hne e.symm), ← List.getD_eq_getElem?_getD]
                  exact h.at_ i (by omega)
              · by_cases hrx : r = ixn c s x
                · subst hrx
                  have : (seen.set (ixn c s x) true).getD (ixn c s x) false = true := by simp [List.getD, hrs]
                  rw [this]
                  exact ⟨fun _ => ⟨x, by omega, rfl⟩, fun _ => rfl⟩
                · rw [List.getD_eq_getElem?_getD, List.getElem?_set_ne (fun e => hrx e.symm), ← List.getD_eq_getElem?_getD, h.sn r hr2]
                  constructor
                  · rintro ⟨i, hi, e⟩; exact ⟨i, by omega, e⟩
                  · rintro ⟨i, hi, e⟩
                    by_cases hix : i = x
                    · rw [hix] at e; exact absurd e.symm hrx
                    · exact ⟨i, by omega, e⟩
              · have e2 : seen[ixn c s x] = false := by
                  have : seen.getD (ixn c s x) false = seen[ixn c s x] := by simp [List.getD, hrs]
                  rw [← this]; exact hseen
                rw [List.count_set hrs, h.cnt, e2]; rfl
theorem boxes_eq {N : Nat} (hN : 100 < N) (d : Tapi_Dock) (c : List Tapi_Call) (s : List Tapi_Spot) : ∃ r, g_berth_boxes N d c s = some r ∧ Answer d c s (planCode d c s) r := by
  unfold g_berth_boxes planCode
  rw [both_eq (by omega), Option.bind_some]
  cases hb : bothCode d c != 0 with
  | true => exact ⟨_, rfl, rfl, .inr ⟨by simpa using hb, rfl⟩⟩
  | false =>
    have hc := both_len (d := d) (c := c) (by simpa using hb)
    rw [cond_false, cond_false]
    cases hl : ((s.length : Nat) : Int) != ((c.length : Nat) : Int) with
    | true => exact ⟨_, rfl, rfl, .inr ⟨(by decide : (11 : Int) ≠ 0), rfl⟩⟩
    | false =>
      have hs : s.length = c.length := by simp at hl; omega
      rw [cond_false, cond_false, if_pos ⟨by omega, by omega, by omega⟩, if_pos ⟨by omega, by omega, by omega⟩]
      refine boxes_L1 hN hs hc s.length 0 N _ _ (by omega) (by omega) ⟨by simp, by simp, fun i hi => by omega, fun i hi => by omega, fun r hr => ?_, ?_⟩
      · constructor
        · intro h; simp [List.getD, hr] at h
        · rintro ⟨i, hi, _⟩; omega
      · simp [List.count_replicate]
end
end Go.Den

namespace Go.Den
open Go.Ab

def blE (d : Tapi_Dock) (a b : Tberth_box) : Bool := cond (cond (decide (a.f_x < b.f_x)) (decide (a.f_y < (w64 ((w64 (b.f_y + b.f_h)) + d.f_Gap)))) false) (decide ((w64 (a.f_y + a.f_h)) > (w64 (b.f_y - d.f_Gap)))) false
theorem blocked_eq (N : Nat) (d : Tapi_Dock) (a b : Tberth_box) : g_berth_blocked N d a b = some (blE d a b) := rfl
theorem blE_self (d : Tapi_Dock) (a : Tberth_box) : blE d a a = false := by
  unfold blE; rw [decide_eq_false (Int.lt_irrefl _)]; rfl
theorem blE_lt {d : Tapi_Dock} {a b : Tberth_box} (h : blE d a b = true) : a.f_x < b.f_x := by
  refine Decidable.byContradiction fun h2 => ?_
  unfold blE at h; rw [decide_eq_false h2] at h; cases h
section
variable {d : Tapi_Dock} {c : List Tapi_Call} {s : List Tapi_Spot} {out : List Tberth_box}
theorem spot_eq {N : Nat} (hN : 100 < N) (h : Boxed d c s out) {i : Nat} (hi : i < s.length) : g_r06_spot N s (cl c (ixn c s i)).f_Name = some (sp s i) := by
  have hlen := h.len
  have hle := h.le
  have hname := (ix_ok (h.ok i hi)).2.2
  rw [hname]
  have e : g_r06_spot N s (sp s i).f_Call = some (scan (fun k => cond (streq (sp s k).f_Call (sp s i).f_Call) (some (sp s k)) none) (⟨ByteArray.empty, 0, 0⟩ : Tapi_Spot) s.length 0) := by
    refine loop_scan0 (L := fun fuel => g_r06_spot_L1 N s (sp s i).f_Call fuel) _ _ (show s.length < N by omega) (fun fuel k hk => ?_) (fun fuel => ?_)
    · simp only [g_r06_spot_L1, dec_lt hk, cond_true, if_pos (inb hk), toNat_nat, w64_succ (show k < 9223372036854775807 by omega)]
      change cond (streq (sp s k).f_Call (sp s i).f_Call) _ _ = _
      cases streq (sp s k).f_Call (sp s i).f_Call <;> rfl
    · simp only [g_r06_spot_L1, dec_nlt, cond_false]
  rw [e]
  rcases scan_inv (f := fun k => cond (streq (sp s k).f_Call (sp s i).f_Call) (some (sp s k)) none) (z := (⟨ByteArray.empty, 0, 0⟩ : Tapi_Spot)) s.length 0 with ⟨k, r, _, h2, h3, _, h5⟩ | ⟨h1, _⟩
  · cases hs : streq (sp s k).f_Call (sp s i).f_Call with
    | false => simp only [hs, cond_false] at h3; cases h3
    | true =>
      simp only [hs, cond_true, Option.some.injEq] at h3
      have hk : k = i := ix_inj (h.ok k (by omega)) (h.ok i hi) (by unfold ixn; rw [streq_iff.1 hs])
      rw [h5, ← h3, hk]
  · have := h1 i (Nat.zero_le _) (by omega)
    simp only [streq_iff.2 rfl, cond_true] at this; cases this
theorem InWay_eq {N : Nat} (hN : 100 < N) (h : Boxed d c s out) {r t : Nat} (hr : r < c.length) (ht : t < c.length) : g_r06_InWay N d (c.getD r Tapi_Call.d) (c.getD t Tapi_Call.d) s = some (blE d (bx out r) (bx out t)) := by
  obtain ⟨i, hi, rfl⟩ := h.on r hr
  obtain ⟨j, hj, rfl⟩ := h.on t ht
  rw [h.at_ i hi, h.at_ j hj]
  unfold g_r06_InWay
  have e1 := spot_eq hN h hi
  have e2 := spot_eq hN h hj
  unfold cl at e1 e2
  rw [e1, Option.bind_some, e2, Option.bind_some]
  rfl
/-! ### Blocks -/
def prC (c : List Tapi_Call) (i j : Nat) : TS__2_string := ⟨(c.getD i Tapi_Call.d).f_Name, (c.getD j Tapi_Call.d).f_Name⟩
def b2 (d : Tapi_Dock) (c : List Tapi_Call) (out : List Tberth_box) (i : Nat) : Nat → Nat → List TS__2_string → List TS__2_string
  | 0, _, a => a
  | k + 1, j, a => b2 d c out i k (j + 1) (cond (blE d (bx out i) (bx out j)) (a ++ [prC c i j]) a)
def b1 (d : Tapi_Dock) (c : List Tapi_Call) (out : List Tberth_box) : Nat → Nat → List TS__2_string → List TS__2_string
  | 0, _, a => a
  | k + 1, i, a => b1 d c out k (i + 1) (b2 d c out i c.length 0 a)
theorem b2_len : ∀ (k i j : Nat) (a : List TS__2_string), (b2 d c out i k j a).length ≤ a.length + k
  | 0, _, _, _ => Nat.le_refl _
  | k + 1, i, j, a => by
    rw [b2]
    have := b2_len k i (j + 1) (cond (blE d (bx out i) (bx out j)) (a ++ [prC c i j]) a)
    revert this
    cases blE d (bx out i) (bx out j) <;> intro this <;> simp at this ⊢ <;> omega
theorem Blocks_L2 {N : Nat} {rb : List Tberth_box × Int} (h : Boxed d c s rb.1) {i : Nat} (hi : i < c.length) (K : List TS__2_string → Int → Option (List TS__2_string × Int)) : ∀ (k j fuel : Nat) (a : List TS__2_string), j + k = c.length → k < fuel → a.length + k ≤ 1000 → g_berth_Blocks_L2 N d c rb (i : Int) K fuel a (j : Int) = K (b2 d c rb.1 i k j a) ((i + 1 : Nat) : Int)
  | 0, j, fuel, a, hj, hf, _ => by
    have ho := h.ol
    have hle := h.le
    obtain ⟨g, rfl⟩ : ∃ g, fuel = g + 1 := ⟨fuel - 1, by omega⟩
    have hj : j = rb.1.length := by omega
    subst hj
    rw [g_berth_Blocks_L2, dec_nlt, cond_false, w64_succ (by omega), b2]
  | k + 1, j, fuel, a, hj, hf, ha => by
    have ho := h.ol
    have hle := h.le
    obtain ⟨g, rfl⟩ : ∃ g, fuel = g + 1 := ⟨fuel - 1, by omega⟩
    have hjl : j < rb.1.length := by omega
    have hjc : j < c.length := by omega
    rw [g_berth_Blocks_L2, dec_lt hjl, cond_true, if_pos (inb hjl), toNat_nat, toNat_nat, blocked_eq, Option.bind_some, b2]
    unfold g_berth_Blocks_J3
    rw [w64_succ (by omega)]
    have e : blE d (rb.1.getD i Tberth_box.d) (rb.1.getD j Tberth_box.d) = blE d (bx rb.1 i) (bx rb.1 j) := rfl
    rw [e]
    cases blE d (bx rb.1 i) (bx rb.1 j) with
    | true =>
      rw [cond_true, cond_true, if_pos (inb hi), if_pos (inb hjc), if_pos (by omega)]
      exact Blocks_L2 h hi K k (j + 1) g _ (by omega) (by omega) (by simp; omega)
    | false =>
      rw [cond_false, cond_false]
      exact Blocks_L2 h hi K k (j + 1) g _ (by omega) (by omega) (by omega)
theorem Blocks_L1 {N : Nat} (hN : 100 < N) {rb : List Tberth_box × Int} (h : Boxed d c s rb.1) : ∀ (k i fuel : Nat) (a : List TS__2_string), i + k = c.length → k < fuel → a.length + k * 8 ≤ 900 → g_berth_Blocks_L1 N d c rb fuel a (i : Int) = some (b1 d c rb.1 k i a, 0)
  | 0, i, fuel, a, hi, hf, _ => by
    have ho := h.ol
    obtain ⟨g, rfl⟩ : ∃ g, fuel = g + 1 := ⟨fuel - 1, by omega⟩
    have hi : i = rb.1.length := by omega
    subst hi
    rw [g_berth_Blocks_L1, dec_nlt, cond_false, b1]
  | k + 1, i, fuel, a, hi, hf, ha => by
    have ho := h.ol
    have hle := h.le
    obtain ⟨g, rfl⟩ : ∃ g, fuel = g + 1 := ⟨fuel - 1, by omega⟩
    have hil : i < rb.1.length := by omega
    have hb := b2_len (d := d) (c := c) (out := rb.1) c.length i 0 a
    rw [g_berth_Blocks_L1, dec_lt hil, cond_true, if_pos (inb hil), b1]
    refine (Blocks_L2 (N := N) h (show i < c.length by omega) (g_berth_Blocks_L1 N d c rb g) c.length 0 N a (by omega) (by omega) (by omega)).trans ?_
    exact Blocks_L1 hN h k (i + 1) g _ (by omega) (by omega) (by omega)
theorem rBlocks_L2 {N : Nat} (hN : 100 < N) (h : Boxed d c s out) {i : Nat} (hi : i < c.length) (K : List TS__2_string → Int → Option (List TS__2_string)) : ∀ (k j fuel : Nat) (a : List TS__2_string), j + k = c.length → k < fuel → a.length + k ≤ 1000 → g_r06_Blocks_L2 N d c s (i : Int) K fuel a (j : Int) = K (b2 d c out i k j a) ((i + 1 : Nat) : Int)
  | 0, j, fuel, a, hj, hf, _ => by
    have hle := h.le
    obtain ⟨g, rfl⟩ : ∃ g, fuel = g + 1 := ⟨fuel - 1, by omega⟩
    have hj : j = c.length := by omega
    subst hj
    rw [g_r06_Blocks_L2, dec_nlt, cond_false, w64_succ (by omega), b2]
  | k + 1, j, fuel, a, hj, hf, ha => by
    have hle := h.le
    obtain ⟨g, rfl⟩ : ∃ g, fuel = g + 1 := ⟨fuel - 1, by omega⟩
    have hjc : j < c.length := by omega
    rw [g_r06_Blocks_L2, dec_lt hjc, cond_true, if_pos (fun _ => inb hi), if_pos (fun _ => inb hjc), toNat_nat, toNat_nat, InWay_eq hN h hi hjc, b2]
    unfold g_r06_Blocks_J3
    rw [w64_succ (by omega)]
    by_cases hij : i = j
    · subst hij
      have e : ((i : Int) != (i : Int)) = false := by simp
      rw [e, blE_self]
      exact rBlocks_L2 hN h hi K k (i + 1) g _ (by omega) (by omega) (by omega)
    · have e : ((i : Int) != (j : Int)) = true := by simp; omega
      rw [e, cond_true, Option.bind_some, cond_true]
      cases blE d (bx out i) (bx out j) with
      | true =>
        rw [cond_true, cond_true, if_pos (inb hi), if_pos (inb hjc), if_pos (by omega)]
        exact rBlocks_L2 hN h hi K k (j + 1) g _ (by omega) (by omega) (by simp; omega)
      | false =>
        rw [cond_false, cond_false]
        exact rBlocks_L2 hN h hi K k (j + 1) g _ (by omega) (by omega) (by omega)
theorem rBlocks_L1 {N : Nat} (hN : 100 < N) (h : Boxed d c s out) : ∀ (k i fuel : Nat) (a : List TS__2_string), i + k = c.length → k < fuel → a.length + k * 8 ≤ 900 → g_r06_Blocks_L1 N d c s fuel a (i : Int) = some (b1 d c out k i a)
  | 0, i, fuel, a, hi, hf, _ => by
    obtain ⟨g, rfl⟩ : ∃ g, fuel = g + 1 := ⟨fuel - 1, by omega⟩
    have hi : i = c.length := by omega
    subst hi
    rw [g_r06_Blocks_L1, dec_nlt, cond_false, b1]
  | k + 1, i, fuel, a, hi, hf, ha => by
    have hle := h.le
    obtain ⟨g, rfl⟩ : ∃ g, fuel = g + 1 := ⟨fuel - 1, by omega⟩
    have hil : i < c.length := by omega
    have hb := b2_len (d := d) (c := c) (out := out) c.length i 0 a
    rw [g_r06_Blocks_L1, dec_lt hil, cond_true, b1]
    refine (rBlocks_L2 hN h hil (g_r06_Blocks_L1 N d c s g) c.length 0 N a (by omega) (by omega) (by omega)).trans ?_
    exact rBlocks_L1 hN h k (i + 1) g _ (by omega) (by omega) (by omega)
/-! ### The order of leaving -/
def ak (d : Tapi_Dock) (out : List Tberth_box) (gone : List Bool) (j : Nat) : Nat → Nat → Bool
  | 0, _ => true
  | k + 1, i => cond (cond (gone.getD i false) true (!blE d (bx out i) (bx out j))) (ak d out gone j k (i + 1)) false
def pk (d : Tapi_Dock) (out : List Tberth_box) (gone : List Bool) (n j : Nat) : Bool := cond (!(gone.getD j false)) (ak d out gone j n 0) false
def pickF (d : Tapi_Dock) (out : List Tberth_box) (gone : List Bool) (n : Nat) : Nat := scan (fun j => cond (pk d out gone n j) (some j) none) 0 n 0
def ordF (d : Tapi_Dock) (c : List Tapi_Call) (out : List Tberth_box) : Nat → List ByteArray → List Bool → List ByteArray
  | 0, o, _ => o
  | k + 1, o, gone => ordF d c out k (o ++ [(c.getD (pickF d out gone c.length) Tapi_Call.d).f_Name]) (gone.set (pickF d out gone c.length) true)
theorem scan_pick {R : Type} {p : Nat → Bool} {g : Nat → R} {z : R} : ∀ (k m : Nat), (∃ j, m ≤ j ∧ j < m + k ∧ p j = true) → scan (fun j => cond (p j) (some (g j)) none) z k m = g (scan (fun j => cond (p j) (some j) none) 0 k m) ∧ scan (fun j => cond (p j) (some j) none) 0 k m < m + k ∧ p (scan (fun j => cond (p j) (some j) none) 0 k m) = true
  | 0, m, ⟨j, h1, h2, _⟩ => by omega
  | k + 1, m, ⟨j, h1, h2, h3⟩ => by
    unfold scan
    cases hp : p m with
    | true => exact ⟨rfl, by show m < m + (k + 1); omega, hp⟩
    | false =>
      have hne : j ≠ m := fun e => by rw [e, hp] at h3; cases h3
      obtain ⟨g1, g2, g3⟩ := scan_pick (p := p) (g := g) (z := z) k (m + 1) ⟨j, by omega, by omega, h3⟩
      exact ⟨g1, by show scan _ 0 k (m + 1) < m + (k + 1); omega, g3⟩
theorem ak_of {gone : List Bool} {j : Nat} : ∀ k i, (∀ t, i ≤ t → t < i + k → gone.getD t false = false → blE d (bx out t) (bx out j) = false) → ak d out gone j k i = true
  | 0, _, _ => rfl
  | k + 1, i, h => by
    rw [ak]
    cases hg : gone.getD i false with
    | true => exact ak_of k (i + 1) fun t h1 h2 => h t (by omega) (by omega)
    | false =>
      rw [cond_false, h i (by omega) (by omega) hg]
      exact ak_of k (i + 1) fun t h1 h2 => h t (by omega) (by omega)
theorem least_free {gone : List Bool} : ∀ m, (∃ r, r < m ∧ gone.getD r false = false) → ∃ j, j < m ∧ gone.getD j false = false ∧ ∀ t, t < m → gone.getD t false = false → (bx out j).f_x ≤ (bx out t).f_x
  | 0, ⟨r, h, _⟩ => by omega
  | m + 1, ⟨r, h, hg⟩ => by
    by_cases hex : ∃ r, r < m ∧ gone.getD r false = false
    · obtain ⟨j, h1, h2, h3⟩ := least_free m hex
      by_cases hm : gone.getD m false = false ∧ (bx out m).f_x < (bx out j).f_x
      · refine ⟨m, by omega, hm.1, fun t ht hg => ?_⟩
        by_cases htm : t = m
        · rw [htm]; exact Int.le_refl _
        · have := h3 t (by omega) hg; omega
      · refine ⟨j, by omega, h2, fun t ht hg => ?_⟩
        by_cases htm : t = m
        · subst htm
          exact Int.not_lt.1 fun hlt => hm ⟨hg, hlt⟩
        · exact h3 t (by omega) hg
    · have hr : r = m := Decidable.byContradiction fun hne => hex ⟨r, by omega, hg⟩
      subst hr
      refine ⟨r, by omega, hg, fun t ht hg2 => ?_⟩
      by_cases htm : t = r
      · rw [htm]; exact Int.le_refl _
      · exact absurd ⟨t, by omega, hg2⟩ hex
theorem some_free {gone : List Bool} {n : Nat} (hl : gone.length = n) (hc : gone.count true < n) : ∃ j, 0 ≤ j ∧ j < 0 + n ∧ pk d out gone n j = true := by
  have hex : ∃ r, r < n ∧ gone.getD r false = false := by
    refine Decidable.byContradiction fun hno => ?_
    have : gone.count true = gone.length := List.count_eq_length.2 fun b hb => by
      obtain ⟨i, hi, rfl⟩ := List.getElem_of_mem hb
      cases hv : gone[i] with
      | true => rfl
      | false => exact absurd ⟨i, by omega, by simp [List.getD, hi, hv]⟩ hno
    omega
  obtain ⟨j, h1, h2, h3⟩ := least_free (out := out) n hex
  refine ⟨j, Nat.zero_le _, by omega, ?_⟩
  unfold pk
  rw [h2, Bool.not_false, cond_true]
  refine ak_of n 0 fun t _ ht hg => ?_
  cases hb : blE d (bx out t) (bx out j) with
  | false => rfl
  | true =>
    have := blE_lt hb
    have := h3 t (by omega) hg
    omega
theorem set_count {gone : List Bool} {j : Nat} (hj : j < gone.length) (hg : gone.getD j false = false) : (gone.set j true).count true = gone.count true + 1 := by
  have e2 : gone[j] = false := by
    have : gone.getD j false = gone[j] := by simp [List.getD, hj]
    rw [← this]; exact hg
  rw [List.count_set hj, e2]; rfl
theorem pk_gone {gone : List Bool} {n j : Nat} (h : pk d out gone n j = true) : gone.getD j false = false := by
  unfold pk at h
  cases hg : gone.getD j false with
  | false => rfl
  | true => rw [hg] at h; cases h
theorem free_L1 {N : Nat} {gone : List Bool} (ho : out.length = gone.length) (hle : out.length ≤ 8) {j : Nat} (hj : j < out.length) : ∀ (k i fuel : Nat), i + k = out.length → k < fuel → g_berth_LeaveOrder_1_L1 N (j : Int) out gone d fuel (i : Int) = some (ak d out gone j k i)
  | 0, i, fuel, hi, hf => by
    obtain ⟨g, rfl⟩ : ∃ g, fuel = g + 1 := ⟨fuel - 1, by omega⟩
    have hi : i = out.length := by omega
    subst hi
    rw [g_berth_LeaveOrder_1_L1, dec_nlt, cond_false, ak]
  | k + 1, i, fuel, hi, hf => by
    obtain ⟨g, rfl⟩ : ∃ g, fuel = g + 1 := ⟨fuel - 1, by omega⟩
    have hil : i < out.length := by omega
    rw [g_berth_LeaveOrder_1_L1, dec_lt hil, cond_true, if_pos (inb hil), if_pos (inb (by omega)), if_pos (fun _ => inb hj), toNat_nat, toNat_nat, blocked_eq, ak, w64_succ (by omega)]
    have e : blE d (out.getD i Tberth_box.d) (out.getD j Tberth_box.d) = blE d (bx out i) (bx out j) := rfl
    rw [e]
    have ih := @free_L1 N gone ho hle j hj k (i + 1) g (by omega) (by omega)
    cases gone.getD i false <;> cases blE d (bx out i) (bx out j) <;> first | exact ih | rfl
theorem Leave_L2 {N : Nat} (hN : 100 < N) {rb : List Tberth_box × Int} (h : Boxed d c s rb.1) {gone : List Bool} (hl : gone.length = c.length) (hc : gone.count true < c.length) {o : List ByteArray} (ho : o.length ≤ 100) (x : Nat) (hx : x ≤ 100) (K : List ByteArray → List Bool → Int → Option (List ByteArray × Int)) :
    g_berth_LeaveOrder_L2 N d c rb o gone (x : Int) K N 0 = K (o ++ [(c.getD (pickF d rb.1 gone c.length) Tapi_Call.d).f_Name]) (gone.set (pickF d rb.1 gone c.length) true) ((x + 1 : Nat) : Int) := by
  have hol := h.ol
  have hle := h.le
  rw [loop_scanR0 (L := fun fuel => g_berth_LeaveOrder_L2 N d c rb o gone (x : Int) K fuel) (fun j => cond (pk d rb.1 gone c.length j) (some (K (o ++ [(c.getD j Tapi_Call.d).f_Name]) (gone.set j true) ((x + 1 : Nat) : Int))) none) (K o gone ((x + 1 : Nat) : Int)) (show c.length < N by omega) (fun fuel j hj => ?_) (fun fuel => ?_)]
  · exact (scan_pick c.length 0 (some_free hl hc)).1
  · have e1 : decide ((j : Int) < ((rb.1.length : Nat) : Int)) = true := dec_lt (by omega)
    have hf := free_L1 (N := N) (d := d) (out := rb.1) (gone := gone) (by omega) (by omega) (j := j) (by omega) rb.1.length 0 N (by omega) (by omega)
    have hf' : g_berth_LeaveOrder_1 N (j : Int) rb.1 gone d = some (ak d rb.1 gone j c.length 0) := by rw [← hol]; exact hf
    rw [g_berth_LeaveOrder_L2, e1, cond_true, if_pos (inb (by omega)), toNat_nat, hf']
    unfold g_berth_LeaveOrder_J3
    rw [w64_succ (by omega), w64_succ (by omega), if_pos (inb hj), if_pos (by omega)]
    unfold pk
    cases gone.getD j false <;> cases ak d rb.1 gone j c.length 0 <;> rfl
  · have e1 : decide ((c.length : Int) < ((rb.1.length : Nat) : Int)) = false := by rw [hol]; exact dec_nlt
    rw [g_berth_LeaveOrder_L2, e1, cond_false]
    unfold g_berth_LeaveOrder_J3
    rw [w64_succ (by omega)]
theorem pick_ok {gone : List Bool} (hl : gone.length = c.length) (hc : gone.count true < c.length) : (gone.set (pickF d out gone c.length) true).count true = gone.count true + 1 := by
  obtain ⟨_, h2, h3⟩ := scan_pick (g := fun j => j) (z := 0) c.length 0 (some_free (d := d) (out := out) hl hc)
  exact set_count (by unfold pickF; omega) (pk_gone h3)
theorem Leave_L1 {N : Nat} (hN : 100 < N) {rb : List Tberth_box × Int} (h : Boxed d c s rb.1) : ∀ (k x fuel : Nat) (o : List ByteArray) (gone : List Bool), x + k = c.length → k < fuel → o.length = x → gone.length = c.length → gone.count true = x → g_berth_LeaveOrder_L1 N d c rb fuel o gone (x : Int) = some (ordF d c rb.1 k o gone, 0)
  | 0, x, fuel, o, gone, hx, hf, _, _, _ => by
    have hol := h.ol
    obtain ⟨g, rfl⟩ : ∃ g, fuel = g + 1 := ⟨fuel - 1, by omega⟩
    have hx : x = rb.1.length := by omega
    subst hx
    rw [g_berth_LeaveOrder_L1, dec_nlt, cond_false, ordF]
  | k + 1, x, fuel, o, gone, hx, hf, ho, hl, hc => by
    have hol := h.ol
    have hle := h.le
    obtain ⟨g, rfl⟩ : ∃ g, fuel = g + 1 := ⟨fuel - 1, by omega⟩
    rw [g_berth_LeaveOrder_L1, dec_lt (by omega), cond_true, Leave_L2 hN h hl (by omega) (by omega) x (by omega), ordF]
    exact Leave_L1 hN h k (x + 1) g _ _ (by omega) (by omega) (by simp; omega) (by rw [List.length_set]; exact hl) (by rw [pick_ok hl (by omega), hc])
theorem rfree_L3 {N : Nat} (hN : 100 < N) (h : Boxed d c s out) {o : List ByteArray} (ho : o.length ≤ 100) {gone : List Bool} (hl : gone.length = c.length) {j : Nat} (hj : j < c.length) (K2 : Int → Option (List ByteArray)) (K1 : List ByteArray → List Bool → Option (List ByteArray)) : ∀ (k i fuel : Nat) (free : Bool), i + k = c.length → k < fuel →
    g_r06_LeaveOrder_L3 N d c s o gone (j : Int) K2 K1 fuel free (i : Int) = cond (cond free (ak d out gone j k i) false) (K1 (o ++ [(c.getD j Tapi_Call.d).f_Name]) (gone.set j true)) (K2 ((j + 1 : Nat) : Int))
  | 0, i, fuel, free, hi, hf => by
    have hle := h.le
    obtain ⟨g, rfl⟩ : ∃ g, fuel = g + 1 := ⟨fuel - 1, by omega⟩
    have hi : i = c.length := by omega
    subst hi
    rw [g_r06_LeaveOrder_L3, dec_nlt, cond_false, ak, if_pos (inb (by omega)), if_pos (inb hj), if_pos (by omega), toNat_nat, w64_succ (by omega)]
    cases free <;> rfl
  | k + 1, i, fuel, free, hi, hf => by
    have hle := h.le
    obtain ⟨g, rfl⟩ : ∃ g, fuel = g + 1 := ⟨fuel - 1, by omega⟩
    have hic : i < c.length := by omega
    have ih := fun f => rfree_L3 hN h ho hl hj K2 K1 k (i + 1) g f (by omega) (by omega)
    rw [g_r06_LeaveOrder_L3, dec_lt hic, cond_true, if_pos (fun _ => inb (by omega)), if_pos (fun _ => inb hic), if_pos (fun _ => inb hj), toNat_nat, toNat_nat, InWay_eq hN h hic hj, ak, w64_succ (by omega)]
    by_cases hij : i = j
    · subst hij
      have e : ((i : Int) == (i : Int)) = true := by simp
      rw [e, blE_self]
      cases free <;> cases gone.getD i false <;> exact ih _
    · have e : ((i : Int) == (j : Int)) = false := by simp; omega
      rw [e]
      cases free <;> cases gone.getD i false <;> cases blE d (bx out i) (bx out j) <;> exact ih _
theorem rLeave_L2 {N : Nat} (hN : 100 < N) (h : Boxed d c s out) {gone : List Bool} (hl : gone.length = c.length) (hc : gone.count true < c.length) {o : List ByteArray} (ho : o.length ≤ 100) (K : List ByteArray → List Bool → Option (List ByteArray)) :
    g_r06_LeaveOrder_L2 N d c s o gone K N 0 = K (o ++ [(c.getD (pickF d out gone c.length) Tapi_Call.d).f_Name]) (gone.set (pickF d out gone c.length) true) := by
  have hle := h.le
  rw [loop_scanR0 (L := fun fuel => g_r06_LeaveOrder_L2 N d c s o gone K fuel) (fun j => cond (pk d out gone c.length j) (some (K (o ++ [(c.getD j Tapi_Call.d).f_Name]) (gone.set j true))) none) (K o gone) (show c.length < N by omega) (fun fuel j hj => ?_) (fun fuel => ?_)]
  · exact (scan_pick c.length 0 (some_free hl hc)).1
  · have e := rfree_L3 (N := N) hN h ho hl hj (g_r06_LeaveOrder_L2 N d c s o gone K fuel) K c.length 0 N (!(gone.getD j false)) (by omega) (by omega)
    rw [g_r06_LeaveOrder_L2, dec_lt hj, cond_true, if_pos (inb (by omega)), toNat_nat]
    refine e.trans ?_
    unfold pk
    cases cond (!(gone.getD j false)) (ak d out gone j c.length 0) false <;> rfl
  · rw [g_r06_LeaveOrder_L2, dec_nlt, cond_false]
theorem rLeave_L1 {N : Nat} (hN : 100 < N) (h : Boxed d c s out) : ∀ (k x fuel : Nat) (o : List ByteArray) (gone : List Bool), x + k = c.length → k < fuel → o.length = x → gone.length = c.length → gone.count true = x → g_r06_LeaveOrder_L1 N d c s fuel o gone = some (ordF d c out k o gone)
  | 0, x, fuel, o, gone, hx, hf, ho, _, _ => by
    obtain ⟨g, rfl⟩ : ∃ g, fuel = g + 1 := ⟨fuel - 1, by omega⟩
    rw [g_r06_LeaveOrder_L1, decide_eq_false (by omega), cond_false, ordF]
  | k + 1, x, fuel, o, gone, hx, hf, ho, hl, hc => by
    have hle := h.le
    obtain ⟨g, rfl⟩ : ∃ g, fuel = g + 1 := ⟨fuel - 1, by omega⟩
    rw [g_r06_LeaveOrder_L1, decide_eq_true (by omega), cond_true, rLeave_L2 hN h hl (by omega) (by omega), ordF]
    exact rLeave_L1 hN h k (x + 1) g _ _ (by omega) (by omega) (by simp; omega) (by rw [List.length_set]; exact hl) (by rw [pick_ok hl (by omega), hc])
end
end Go.Den

namespace Go.Den
open Go.Ab

theorem plansAwake : g_w06_awake 2000 = some true := by decide +kernel
theorem namesAll {N : Nat} (hN : 100 < N) (d : List Tapi_Dock) (c : List Tapi_Call) : ∃ b, g_w06_Names N d c = some b := by
  unfold g_w06_Names
  cases h : cond (decide (((d.length : Nat) : Int) > 6)) true (decide (((c.length : Nat) : Int) > 10))
  · have hl : d.length ≤ 6 ∧ c.length ≤ 10 := by
      cases h2 : decide (((d.length : Nat) : Int) > 6) <;> rw [h2] at h <;> simp at h h2; omega
    have e2 : g_w06_Names_L2 N c N 0 = some (scan (fun m => cond (decide ((((c.getD m Tapi_Call.d).f_Name.size : Nat) : Int) > 40)) (some false) none) true c.length 0) := by
      refine loop_scan0 (L := fun fuel => g_w06_Names_L2 N c fuel) _ _ (by omega) (fun fuel m hm => ?_) (fun fuel => ?_)
      · simp only [g_w06_Names_L2, dec_lt hm, cond_true, if_pos (inb hm), w64_succ (show m < 9223372036854775807 by omega), toNat_nat]
        cases decide ((((c.getD m Tapi_Call.d).f_Name.size : Nat) : Int) > 40) <;> rfl
      · simp only [g_w06_Names_L2, dec_nlt, cond_false]
    refine ⟨scan (fun m => cond (decide ((((d.getD m Tapi_Dock.d).f_Name.size : Nat) : Int) > 40)) (some false) none) (scan (fun m => cond (decide ((((c.getD m Tapi_Call.d).f_Name.size : Nat) : Int) > 40)) (some false) none) true c.length 0) d.length 0, ?_⟩
    rw [cond_false]
    refine loop_scan0 (L := fun fuel => g_w06_Names_L1 N d c fuel) _ _ (by omega) (fun fuel m hm => ?_) (fun fuel => ?_)
    · simp only [g_w06_Names_L1, dec_lt hm, cond_true, if_pos (inb hm), w64_succ (show m < 9223372036854775807 by omega), toNat_nat]
      cases decide ((((d.getD m Tapi_Dock.d).f_Name.size : Nat) : Int) > 40) <;> rfl
    · simp only [g_w06_Names_L1, dec_nlt, cond_false, e2]
  · exact ⟨false, rfl⟩
theorem planShort {N : Nat} (hN : 100 < N) (p : Tkeelblocklaw06_Plan) : ∃ b, g_w06_Plan_short N p = some b := by
  unfold g_w06_Plan_short
  obtain ⟨b, hb⟩ := namesAll hN [p.f_Dock] p.f_Calls
  rw [hb, Option.bind_some]
  by_cases hl : p.f_Spots.length ≤ 12
  · have e : decide (((p.f_Spots.length : Nat) : Int) > 12) = false := decide_eq_false (by omega)
    rw [e]
    cases b with
    | false => exact ⟨_, rfl⟩
    | true =>
      refine ⟨scan (fun m => cond (decide ((((p.f_Spots.getD m Tapi_Spot.d).f_Call.size : Nat) : Int) > 40)) (some false) none) true p.f_Spots.length 0, ?_⟩
      refine loop_scan0 (L := fun fuel => g_w06_Plan_short_L1 N p fuel) _ _ (show p.f_Spots.length < N by omega) (fun fuel m hm => ?_) (fun fuel => ?_)
      · simp only [g_w06_Plan_short_L1, dec_lt hm, cond_true, if_pos (inb hm), w64_succ (show m < 9223372036854775807 by omega), toNat_nat]
        cases decide ((((p.f_Spots.getD m Tapi_Spot.d).f_Call.size : Nat) : Int) > 40) <;> rfl
      · simp only [g_w06_Plan_short_L1, dec_nlt, cond_false]
  · have e : decide (((p.f_Spots.length : Nat) : Int) > 12) = true := decide_eq_true (by omega)
    rw [e]
    cases b <;> exact ⟨_, rfl⟩
theorem pairs_L1 {N : Nat} (a : List TS__2_string) (m : Int) (hl : a.length ≤ 1000) : ∀ (k i fuel : Nat), i + k = a.length → k < fuel → g_w06_BerthPlans_L1 N (a, m) a fuel (i : Int) = some true
  | 0, i, fuel, hi, hf => by
    obtain ⟨g, rfl⟩ : ∃ g, fuel = g + 1 := ⟨fuel - 1, by omega⟩
    have hi : i = a.length := by omega
    subst hi
    rw [g_w06_BerthPlans_L1, dec_nlt, cond_false]
  | k + 1, i, fuel, hi, hf => by
    obtain ⟨g, rfl⟩ : ∃ g, fuel = g + 1 := ⟨fuel - 1, by omega⟩
    have hil : i < a.length := by omega
    rw [g_w06_BerthPlans_L1, dec_lt hil, cond_true, if_pos (inb hil), if_pos (inb hil), streq_iff.2 rfl, streq_iff.2 rfl, w64_succ (by omega)]
    exact pairs_L1 a m hl k (i + 1) g (by omega) (by omega)
theorem texts_L1 {N : Nat} (a : List ByteArray) (hl : a.length ≤ 1000) : ∀ (k i fuel : Nat), i + k = a.length → k < fuel → g_keelblockbase_Texts_L1 N a a fuel (i : Int) = some true
  | 0, i, fuel, hi, hf => by
    obtain ⟨g, rfl⟩ : ∃ g, fuel = g + 1 := ⟨fuel - 1, by omega⟩
    have hi : i = a.length := by omega
    subst hi
    rw [g_keelblockbase_Texts_L1, dec_nlt, cond_false]
  | k + 1, i, fuel, hi, hf => by
    obtain ⟨g, rfl⟩ : ∃ g, fuel = g + 1 := ⟨fuel - 1, by omega⟩
    have hil : i < a.length := by omega
    rw [g_keelblockbase_Texts_L1, dec_lt hil, cond_true, if_pos (inb hil), if_pos (inb hil), streq_iff.2 rfl, w64_succ (by omega)]
    exact texts_L1 a hl k (i + 1) g (by omega) (by omega)
theorem ord_len {d : Tapi_Dock} {c : List Tapi_Call} {out : List Tberth_box} : ∀ (k : Nat) (o : List ByteArray) (gone : List Bool), (ordF d c out k o gone).length = o.length + k
  | 0, _, _ => rfl
  | k + 1, o, gone => by rw [ordF, ord_len]; simp; omega
theorem b1_len {d : Tapi_Dock} {c : List Tapi_Call} {out : List Tberth_box} : ∀ (k i : Nat) (a : List TS__2_string), (b1 d c out k i a).length ≤ a.length + k * c.length
  | 0, _, _ => by rw [b1]; omega
  | k + 1, i, a => by
    rw [b1]
    have h1 := b1_len (d := d) (c := c) (out := out) k (i + 1) (b2 d c out i c.length 0 a)
    have h2 := b2_len (d := d) (c := c) (out := out) c.length i 0 a
    have : (k + 1) * c.length = k * c.length + c.length := Nat.succ_mul _ _
    omega
theorem berthPlans_plain (p : Tkeelblocklaw06_Plan) (_ : Tkeelblocklaw06_Plan.wf p) : ∃ N, g_w06_BerthPlans N p = some true := by
  refine ⟨2000, ?_⟩
  have hN : 100 < 2000 := by decide
  generalize hNN : 2000 = N at hN
  have haw : g_w06_awake N = some true := by rw [← hNN]; exact plansAwake
  unfold g_w06_BerthPlans
  rw [haw, Option.bind_some, Bool.not_true, cond_false]
  obtain ⟨b, hb⟩ := planShort hN p
  rw [hb, Option.bind_some]
  cases b with
  | false => rfl
  | true =>
    obtain ⟨r, hr, h1, h2⟩ := boxes_eq hN p.f_Dock p.f_Calls p.f_Spots
    rw [Bool.not_true, cond_false, refPlan_eq (by omega), Option.bind_some]
    unfold g_berth_Blocks g_berth_LeaveOrder g_berth_CheckPlan
    rw [hr, Option.bind_some, Option.bind_some, Option.bind_some, h1]
    rcases h2 with ⟨h0, hbx⟩ | ⟨h0, hnil⟩
    · have hol := hbx.ol
      have hle := hbx.le
      have hlen := hbx.len
      rw [h0]
      have e1 : g_berth_Blocks_L1 N p.f_Dock p.f_Calls r N [] 0 = some (b1 p.f_Dock p.f_Calls r.1 p.f_Calls.length 0 [], 0) := Blocks_L1 hN hbx p.f_Calls.length 0 N [] (by omega) (by omega) (by simp; omega)
      have e2 : g_r06_Blocks N p.f_Dock p.f_Calls p.f_Spots = some (b1 p.f_Dock p.f_Calls r.1 p.f_Calls.length 0 []) := rBlocks_L1 hN hbx p.f_Calls.length 0 N [] (by omega) (by omega) (by simp; omega)
      have e3 : g_berth_LeaveOrder_L1 N p.f_Dock p.f_Calls r N [] (List.replicate r.1.length false) 0 = some (ordF p.f_Dock p.f_Calls r.1 p.f_Calls.length [] (List.replicate r.1.length false), 0) := Leave_L1 hN hbx p.f_Calls.length 0 N [] _ (by omega) (by omega) rfl (by simp [hol]) (by simp [List.count_replicate])
      have e4 : g_r06_LeaveOrder_L1 N p.f_Dock p.f_Calls p.f_Spots N [] (List.replicate p.f_Calls.length false) = some (ordF p.f_Dock p.f_Calls r.1 p.f_Calls.length [] (List.replicate p.f_Calls.length false)) := rLeave_L1 hN hbx p.f_Calls.length 0 N [] _ (by omega) (by omega) rfl (by simp) (by simp [List.count_replicate])
      unfold g_r06_LeaveOrder
      rw [e1, if_pos ⟨by omega, by omega, by omega⟩, if_pos ⟨by omega, by omega, by omega⟩, e3, e2, e4, hol]
      have hl1 := b1_len (d := p.f_Dock) (c := p.f_Calls) (out := r.1) p.f_Calls.length 0 []
      have hl2 := ord_len (d := p.f_Dock) (c := p.f_Calls) (out := r.1) p.f_Calls.length [] (List.replicate p.f_Calls.length false)
      generalize b1 p.f_Dock p.f_Calls r.1 p.f_Calls.length 0 [] = B at *
      generalize ordF p.f_Dock p.f_Calls r.1 p.f_Calls.length [] (List.replicate p.f_Calls.length false) = O at *
      have hmul : p.f_Calls.length * p.f_Calls.length ≤ 8 * 8 := Nat.mul_le_mul hle hle
      simp only [List.length_nil, Nat.zero_add] at hl1 hl2
      have t1 : g_keelblockbase_Texts N O O = some true := by
        unfold g_keelblockbase_Texts
        have : (((O.length : Nat) : Int) != ((O.length : Nat) : Int)) = false := by simp
        rw [this, cond_false]
        exact texts_L1 O (by omega) O.length 0 N (by omega) (by omega)
      have t2 : g_w06_BerthPlans_L1 N (B, 0) B N 0 = some true := pairs_L1 B 0 (by omega) B.length 0 N (by omega) (by omega)
      have t3 : (((B.length : Nat) : Int) != ((B.length : Nat) : Int)) = false := by simp
      have t4 : ((0 : Int) != 0) = false := by decide
      simp only [t4, cond_false, Option.bind_some, t3, Bool.not_false, cond_true, t1, Bool.not_true, t2]
    · have t4 : (planCode p.f_Dock p.f_Calls p.f_Spots != 0) = true := by simpa using h0
      have t5 : (planCode p.f_Dock p.f_Calls p.f_Spots != planCode p.f_Dock p.f_Calls p.f_Spots) = false := by simp
      simp only [t4, cond_true, Option.bind_some, t5, cond_false]
      rfl
end Go.Den

namespace Go.Den
open Go.Ab

/-! ### Lists of things with distinct names -/
theorem nd_inj {α : Type} {f : α → ByteArray} {l : List α} (h : (l.map f).Nodup) {a b : α} (ha : a ∈ l) (hb : b ∈ l) (e : f a = f b) : a = b := by
  obtain ⟨i, hi, rfl⟩ := List.getElem_of_mem ha
  obtain ⟨j, hj, rfl⟩ := List.getElem_of_mem hb
  have hp := List.pairwise_iff_getElem.1 h
  rcases Nat.lt_trichotomy i j with h1 | h1 | h1
  · have := hp i j (by simpa using hi) (by simpa using hj) h1
    simp only [List.getElem_map] at this; exact absurd e this
  · subst h1; rfl
  · have := hp j i (by simpa using hj) (by simpa using hi) h1
    simp only [List.getElem_map] at this; exact absurd e.symm this
theorem filt_len {α : Type} (f : α → ByteArray) (nm : ByteArray) : ∀ l : List α, (l.map f).Nodup → nm ∈ l.map f → (l.filter (fun x => !streq (f x) nm)).length + 1 = l.length
  | [], _, h => by cases h
  | a :: l, hn, hm => by
    rw [List.map_cons, List.nodup_cons] at hn
    by_cases h : f a = nm
    · have e : l.filter (fun x => !streq (f x) nm) = l := List.filter_eq_self.2 fun x hx => by
        have : f x ≠ nm := fun e => hn.1 (by rw [h, ← e]; exact List.mem_map_of_mem hx)
        cases hs : streq (f x) nm with
        | false => rfl
        | true => exact absurd (streq_iff.1 hs) this
      rw [List.filter_cons_of_neg (by rw [streq_iff.2 h]; decide), e]; rfl
    · have hm' : nm ∈ l.map f := by
        rw [List.map_cons] at hm
        rcases List.mem_cons.1 hm with h2 | h2
        · exact absurd h2.symm h
        · exact h2
      have hs : streq (f a) nm = false := by
        cases hs : streq (f a) nm with
        | false => rfl
        | true => exact absurd (streq_iff.1 hs) h
      have := filt_len f nm l hn.2 hm'
      rw [List.filter_cons_of_pos (by rw [hs]; rfl)]
      simp only [List.length_cons]; omega
theorem scan_z {f : Nat → Option Int} {z : Int} {n : Nat} (hf : ∀ i, f i ≠ some 0) (h : scan f z n 0 = 0) : (∀ i, i < n → f i = none) ∧ z = 0 := by
  rcases scan_inv (f := f) (z := z) n 0 with ⟨i, r, _, _, h3, _, h5⟩ | ⟨h1, h2⟩
  · rw [h5] at h; subst h; exact absurd h3 (hf i)
  · exact ⟨fun i hi => h1 i (Nat.zero_le _) (by omega), by rw [← h2, h]⟩
theorem getD_in {α : Type} {l : List α} {d : α} {i : Nat} (h : i < l.length) : l.getD i d = l[i] := by simp [List.getD, h]
def CallsOk (c : List Tapi_Call) : Prop := c.length ≤ 8 ∧ (∀ y ∈ c, nameOk y.f_Name = true ∧ callCode y = 0) ∧ (c.map Tapi_Call.f_Name).Nodup
theorem dupC_iff {c : List Tapi_Call} {i : Nat} : dupCall c i = true ↔ ∃ j, j < i ∧ (cl c j).f_Name = (cl c i).f_Name := by
  unfold dupCall
  rw [scan_ex (p := fun k => streq (c.getD k Tapi_Call.d).f_Name (c.getD i Tapi_Call.d).f_Name)]
  constructor
  · rintro ⟨j, h1, h2⟩; exact ⟨j, h1, streq_iff.1 h2⟩
  · rintro ⟨j, h1, h2⟩; exact ⟨j, h1, streq_iff.2 h2⟩
theorem callsOk_iff {c : List Tapi_Call} : callsCode c = 0 ↔ CallsOk c := by
  constructor
  · intro h
    unfold callsCode at h
    cases h8 : decide (((c.length : Nat) : Int) > 8) with
    | true => rw [h8] at h; cases h
    | false =>
      rw [h8, cond_false] at h
      have h8 := of_decide_eq_false h8
      have hz := (scan_z (fun i hi => by
        unfold stepCall at hi
        revert hi
        generalize callCode (c.getD i Tapi_Call.d) = z
        have hb : (z != 0) = !decide (z = 0) := by by_cases hz : z = 0 <;> simp [hz]
        rw [hb]
        by_cases hz : z = 0 <;> cases nameOk (c.getD i Tapi_Call.d).f_Name <;> cases dupCall c i <;> simp [hz]) h).1
      have one : ∀ i, i < c.length → nameOk (cl c i).f_Name = true ∧ dupCall c i = false ∧ callCode (cl c i) = 0 := fun i hi => by
        have := hz i hi
        unfold stepCall at this
        unfold cl
        revert this
        generalize callCode (c.getD i Tapi_Call.d) = z
        have hb : (z != 0) = !decide (z = 0) := by by_cases hz : z = 0 <;> simp [hz]
        rw [hb]
        by_cases hz : z = 0 <;> cases nameOk (c.getD i Tapi_Call.d).f_Name <;> cases dupCall c i <;> simp [hz]
      refine ⟨by omega, fun y hy => ?_, List.pairwise_iff_getElem.2 fun i j hi hj hij => ?_⟩
      · obtain ⟨i, hi, rfl⟩ := List.getElem_of_mem hy
        have := one i hi
        unfold cl at this
        rw [getD_in hi] at this
        exact ⟨this.1, this.2.2⟩
      · simp only [List.length_map] at hi hj
        simp only [List.getElem_map]
        intro e
        have := dupC_iff.2 ⟨i, hij, by unfold cl; rw [getD_in hi, getD_in hj]; exact e⟩
        rw [(one j hj).2.1] at this; cases this
  · rintro ⟨h1, h2, h3⟩
    unfold callsCode
    rw [decide_eq_false (by omega), cond_false]
    refine scan_all _ 0 fun i _ hi => ?_
    have hi : i < c.length := by omega
    have hy := h2 c[i] (List.getElem_mem hi)
    have hd : dupCall c i = false := by
      cases hd : dupCall c i with
      | false => rfl
      | true =>
        obtain ⟨j, hj, e⟩ := dupC_iff.1 hd
        have hjl : j < c.length := by omega
        have := List.pairwise_iff_getElem.1 h3 j i (by simpa using hjl) (by simpa using hi) hj
        simp only [List.getElem_map] at this
        unfold cl at e
        rw [getD_in hjl, getD_in hi] at e
        exact absurd e this
    unfold stepCall
    rw [hd, getD_in hi, hy.1, hy.2]; rfl
/-! ### Right plans, without places in lists -/
def boxOf (x : Tapi_Spot) (y : Tapi_Call) : Tberth_box := ⟨x.f_X, x.f_Y, y.f_Length, y.f_Beam⟩
structure Pl (d : Tapi_Dock) (c : List Tapi_Call) (s : List Tapi_Spot) : Prop where
  dk : docksCode [d] = 0
  cc : CallsOk c
  len : s.length = c.length
  nd : (s.map Tapi_Spot.f_Call).Nodup
  spt : ∀ x ∈ s, ∃ y ∈ c, y.f_Name = x.f_Call ∧ ins x.f_X 0 1000000 = true ∧ ins x.f_Y 0 1000000 = true ∧ withinE d (boxOf x y) = true
  ap : ∀ x ∈ s, ∀ x' ∈ s, x.f_Call ≠ x'.f_Call → ∀ y ∈ c, ∀ y' ∈ c, y.f_Name = x.f_Call → y'.f_Name = x'.f_Call → apartE d.f_Gap (boxOf x y) (boxOf x' y') = true
section
variable {d : Tapi_Dock} {c : List Tapi_Call} {s : List Tapi_Spot}
theorem spotStep_nz (i : Nat) : spotStep d c s i ≠ some 0 := by
  unfold spotStep
  cases decide (callIx c (sp s i).f_Call < 0) <;> cases dupS s i <;> cases (ins (sp s i).f_X 0 1000000 && ins (sp s i).f_Y 0 1000000) <;> cases withinE d (boxS c s i) <;> decide
theorem pairStep_nz (i : Nat) : pairStep d c s i ≠ some 0 := by
  unfold pairStep
  cases scan (fun j => cond (!apartE d.f_Gap (boxS c s i) (boxS c s j)) (some true) none) false i 0 <;> decide
theorem mem_sp {i : Nat} (hi : i < s.length) : sp s i ∈ s := by unfold sp; rw [getD_in hi]; exact List.getElem_mem hi
theorem mem_cl {i : Nat} (hi : i < c.length) : cl c i ∈ c := by unfold cl; rw [getD_in hi]; exact List.getElem_mem hi
theorem sp_of {x : Tapi_Spot} (h : x ∈ s) : ∃ i, i < s.length ∧ sp s i = x := by
  obtain ⟨i, hi, rfl⟩ := List.getElem_of_mem h
  exact ⟨i, hi, by unfold sp; rw [getD_in hi]⟩
theorem cl_of {y : Tapi_Call} (h : y ∈ c) : ∃ i, i < c.length ∧ cl c i = y := by
  obtain ⟨i, hi, rfl⟩ := List.getElem_of_mem h
  exact ⟨i, hi, by unfold cl; rw [getD_in hi]⟩
theorem callIx_of (hc : CallsOk c) {y : Tapi_Call} (hy : y ∈ c) : 0 ≤ callIx c y.f_Name ∧ cl c (callIx c y.f_Name).toNat = y := by
  rcases callIx_inv c y.f_Name with ⟨_, h2⟩ | ⟨i, h1, h2, h3⟩
  · obtain ⟨i, hi, e⟩ := cl_of hy
    exact absurd (by rw [e]) (h2 i hi)
  · rw [h2, toNat_nat]
    exact ⟨by omega, nd_inj hc.2.2 (mem_cl h1) hy h3⟩
theorem Pl.of (h : planCode d c s = 0) : Pl d c s := by
  unfold planCode at h
  cases hb : bothCode d c != 0 with
  | true => rw [hb, cond_true] at h; rw [h] at hb; cases hb
  | false =>
    rw [hb, cond_false] at h
    have hb : bothCode d c = 0 := by simpa using hb
    cases hl : ((s.length : Nat) : Int) != ((c.length : Nat) : Int) with
    | true => rw [hl] at h; cases h
    | false =>
      rw [hl, cond_false] at h
      have hs : s.length = c.length := by simp at hl; omega
      obtain ⟨hst, hz⟩ := scan_z spotStep_nz h
      have hpa := (scan_z pairStep_nz hz).1
      have hdc : docksCode [d] = 0 ∧ callsCode c = 0 := by
        unfold bothCode at hb
        cases h1 : (docksCode [d] != 0) with
        | true => rw [h1, cond_true] at hb; rw [hb] at h1; cases h1
        | false => rw [h1, cond_false] at hb; exact ⟨by simpa using h1, hb⟩
      have hc := callsOk_iff.1 hdc.2
      have ixx : ∀ i, i < s.length → ∀ y ∈ c, y.f_Name = (sp s i).f_Call → boxS c s i = boxOf (sp s i) y := fun i hi y hy e => by
        have := (callIx_of hc hy).2
        rw [e] at this
        unfold boxS boxOf; rw [this]
      refine ⟨hdc.1, hc, hs, List.pairwise_iff_getElem.2 fun i j hi hj hij => ?_, fun x hx => ?_, fun x hx x' hx' hne y hy y' hy' e e' => ?_⟩
      · simp only [List.length_map] at hi hj
        simp only [List.getElem_map]
        intro e
        have := dup_iff.2 ⟨i, hij, by unfold sp; rw [getD_in hi, getD_in hj]; exact e⟩
        rw [(spot_ok (hst j hj)).2.1] at this; cases this
      · obtain ⟨i, hi, rfl⟩ := sp_of hx
        have hok := spot_ok (hst i hi)
        have hix := ix_ok (hst i hi)
        refine ⟨cl c (ixn c s i), mem_cl hix.1, hix.2.2, hok.2.2.1.1, hok.2.2.1.2, ?_⟩
        rw [← ixx i hi _ (mem_cl hix.1) hix.2.2]
        exact hok.2.2.2
      · obtain ⟨i, hi, rfl⟩ := sp_of hx
        obtain ⟨j, hj, rfl⟩ := sp_of hx'
        rw [← ixx i hi y hy e, ← ixx j hj y' hy' e']
        have hall : allApart d.f_Gap (boxS c s) s.length := fun i hi j hj => by
          have := hpa i hi
          unfold pairStep at this
          cases ha : apartE d.f_Gap (boxS c s i) (boxS c s j) with
          | true => rfl
          | false =>
            rw [(scan_ex (p := fun j => !apartE d.f_Gap (boxS c s i) (boxS c s j)) i).2 ⟨j, hj, by rw [ha]; rfl⟩] at this
            cases this
        exact allApart_sym.1 hall i j hi hj (fun e => hne (by rw [e]))
theorem Pl.code (h : Pl d c s) : planCode d c s = 0 := by
  have hc := h.cc
  unfold planCode bothCode
  rw [h.dk, callsOk_iff.2 hc]
  have e1 : (((s.length : Nat) : Int) != ((c.length : Nat) : Int)) = false := by rw [h.len]; simp
  have ixx : ∀ i, i < s.length → ∃ y ∈ c, y.f_Name = (sp s i).f_Call ∧ boxS c s i = boxOf (sp s i) y ∧ 0 ≤ callIx c (sp s i).f_Call ∧ ins (sp s i).f_X 0 1000000 = true ∧ ins (sp s i).f_Y 0 1000000 = true ∧ withinE d (boxOf (sp s i) y) = true := fun i hi => by
    obtain ⟨y, hy, e, h1, h2, h3⟩ := h.spt _ (mem_sp hi)
    obtain ⟨k1, k2⟩ := callIx_of hc hy
    rw [e] at k1 k2
    exact ⟨y, hy, e, by unfold boxS boxOf; rw [k2], k1, h1, h2, h3⟩
  have hnd : ∀ i j, i < j → j < s.length → (sp s i).f_Call ≠ (sp s j).f_Call := fun i j hij hj => by
    have hi : i < s.length := by omega
    have := List.pairwise_iff_getElem.1 h.nd i j (by simpa using hi) (by simpa using hj) hij
    simp only [List.getElem_map] at this
    unfold sp; rw [getD_in hi, getD_in hj]; exact this
  have h1 : scan (pairStep d c s) 0 s.length 0 = 0 := scan_all _ 0 fun i _ hi => by
    have hi : i < s.length := by omega
    unfold pairStep
    cases hs : scan (fun j => cond (!apartE d.f_Gap (boxS c s i) (boxS c s j)) (some true) none) false i 0 with
    | false => rfl
    | true =>
      obtain ⟨j, hj, ha⟩ := (scan_ex (p := fun j => !apartE d.f_Gap (boxS c s i) (boxS c s j)) i).1 hs
      obtain ⟨y, hy, e, hb, _⟩ := ixx i hi
      obtain ⟨y', hy', e', hb', _⟩ := ixx j (by omega)
      rw [hb, hb', h.ap _ (mem_sp hi) _ (mem_sp (by omega)) (fun e => hnd j i hj hi e.symm) y hy y' hy' e e'] at ha
      cases ha
  have h2 : scan (spotStep d c s) (scan (pairStep d c s) 0 s.length 0) s.length 0 = 0 := by
    rw [h1]
    refine scan_all _ 0 fun i _ hi => ?_
    have hi : i < s.length := by omega
    obtain ⟨y, hy, e, hb, k1, k2, k3, k4⟩ := ixx i hi
    have hd : dupS s i = false := by
      cases hd : dupS s i with
      | false => rfl
      | true =>
        obtain ⟨j, hj, e⟩ := dup_iff.1 hd
        exact absurd e (hnd j i hj hi)
    unfold spotStep
    rw [hb, decide_eq_false (by omega), hd, k2, k3, k4]; rfl
  rw [e1, h2]; rfl
theorem ne_of_streq {a b : ByteArray} (h : (!streq a b) = true) : a ≠ b := fun e => by rw [streq_iff.2 e] at h; cases h
theorem streq_ne {a b : ByteArray} (h : a ≠ b) : (!streq a b) = true := by
  cases hs : streq a b with
  | false => rfl
  | true => exact absurd (streq_iff.1 hs) h
theorem Pl.boxed {N : Nat} (hN : 100 < N) (h : Pl d c s) : ∃ r, g_berth_boxes N d c s = some r ∧ r.2 = 0 ∧ Boxed d c s r.1 := by
  obtain ⟨r, h1, h2, h3⟩ := boxes_eq hN d c s
  rw [h.code] at h2 h3
  rcases h3 with ⟨_, h3⟩ | ⟨h3, _⟩
  · exact ⟨r, h1, h2, h3⟩
  · exact absurd rfl h3
theorem Pl.box {out : List Tberth_box} (h : Pl d c s) (hb : Boxed d c s out) {r : Nat} (hr : r < c.length) {x : Tapi_Spot} {y : Tapi_Call} (hx : x ∈ s) (hy : y ∈ c) (e1 : x.f_Call = y.f_Name) (e2 : y.f_Name = (cl c r).f_Name) : bx out r = boxOf x y := by
  obtain ⟨i, hi, rfl⟩ := hb.on r hr
  have hn := (ix_ok (hb.ok i hi)).2.2
  have hx' : x = sp s i := nd_inj h.nd hx (mem_sp hi) (by rw [e1, e2, hn])
  have hy' : y = cl c (ixn c s i) := nd_inj h.cc.2.2 hy (mem_cl hr) e2
  rw [hb.at_ i hi, hx', hy']; rfl
theorem Pl.drop (h : Pl d c s) {nm : ByteArray} (hm : nm ∈ c.map Tapi_Call.f_Name) : Pl d (c.filter fun y => !streq y.f_Name nm) (s.filter fun x => !streq x.f_Call nm) := by
  have hms : nm ∈ s.map Tapi_Spot.f_Call := by
    obtain ⟨r, _, _, hb⟩ := h.boxed (N := 200) (by decide)
    obtain ⟨y, hy, e⟩ := List.mem_map.1 hm
    obtain ⟨k, hk, e2⟩ := cl_of hy
    obtain ⟨i, hi, e3⟩ := hb.on k hk
    have hn := (ix_ok (hb.ok i hi)).2.2
    rw [e3, e2, e] at hn
    rw [hn]; exact List.mem_map_of_mem (mem_sp hi)
  have l1 := filt_len Tapi_Call.f_Name nm c h.cc.2.2 hm
  have l2 := filt_len Tapi_Spot.f_Call nm s h.nd hms
  have hlen := h.len
  refine ⟨h.dk, ⟨by have := h.cc.1; omega, fun y hy => h.cc.2.1 y (List.mem_filter.1 hy).1, h.cc.2.2.sublist ((List.filter_sublist).map _)⟩, by omega, h.nd.sublist ((List.filter_sublist).map _), fun x hx => ?_, fun x hx x' hx' hne y hy y' hy' => h.ap x (List.mem_filter.1 hx).1 x' (List.mem_filter.1 hx').1 hne y (List.mem_filter.1 hy).1 y' (List.mem_filter.1 hy').1⟩
  obtain ⟨hx1, hx2⟩ := List.mem_filter.1 hx
  obtain ⟨y, hy, e, h3⟩ := h.spt x hx1
  exact ⟨y, List.mem_filter.2 ⟨hy, by rw [e]; exact hx2⟩, e, h3⟩
/-! ### The rounds of the law -/
def keepC (G : List ByteArray) (y : Tapi_Call) : Bool := G.all fun g => !streq y.f_Name g
def keepS (G : List ByteArray) (x : Tapi_Spot) : Bool := G.all fun g => !streq x.f_Call g
theorem keepC_mem {G : List ByteArray} {y : Tapi_Call} : keepC G y = true ↔ y.f_Name ∉ G := by
  unfold keepC
  rw [List.all_eq_true]
  constructor
  · intro h hm; exact ne_of_streq (h _ hm) rfl
  · intro h g hg; exact streq_ne fun e => h (e ▸ hg)
theorem filterC_step (G : List ByteArray) (nm : ByteArray) (c : List Tapi_Call) : (c.filter (keepC G)).filter (fun y => !streq y.f_Name nm) = c.filter (keepC (G ++ [nm])) := by
  rw [List.filter_filter]
  congr 1
  funext y
  unfold keepC
  rw [List.all_append]
  simp [Bool.and_comm]
theorem filterS_step (G : List ByteArray) (nm : ByteArray) (s : List Tapi_Spot) : (s.filter (keepS G)).filter (fun x => !streq x.f_Call nm) = s.filter (keepS (G ++ [nm])) := by
  rw [List.filter_filter]
  congr 1
  funext y
  unfold keepS
  rw [List.all_append]
  simp [Bool.and_comm]
/-- What the order of leaving promises. -/
structure Turn (d : Tapi_Dock) (c : List Tapi_Call) (out : List Tberth_box) (G : List ByteArray) (nm : ByteArray) : Prop where
  ex : ∃ r, r < c.length ∧ (cl c r).f_Name = nm ∧ nm ∉ G ∧ ∀ t, t < c.length → (cl c t).f_Name ∉ G → blE d (bx out t) (bx out r) = false
theorem ak_spec {out : List Tberth_box} {gone : List Bool} {j : Nat} : ∀ k i, ak d out gone j k i = true → ∀ t, i ≤ t → t < i + k → gone.getD t false = false → blE d (bx out t) (bx out j) = false
  | 0, _, _, t, h1, h2, _ => by omega
  | k + 1, i, h, t, h1, h2, h3 => by
    rw [ak] at h
    by_cases hti : t = i
    · subst hti
      rw [h3, cond_false] at h
      cases hb : blE d (bx out t) (bx out j) with
      | false => rfl
      | true => rw [hb] at h; cases h
    · refine ak_spec k (i + 1) ?_ t (by omega) (by omega) h3
      revert h
      cases gone.getD i false <;> cases blE d (bx out i) (bx out j) <;> simp
theorem ord_spec {out : List Tberth_box} (hc : CallsOk c) : ∀ (k : Nat) (o : List ByteArray) (gone : List Bool), o.length + k = c.length → gone.length = c.length → gone.count true = o.length → (∀ r, r < c.length → (gone.getD r false = true ↔ (cl c r).f_Name ∈ o)) →
    (ordF d c out k o gone).take o.length = o ∧ ∀ i, o.length ≤ i → i < c.length → Turn d c out ((ordF d c out k o gone).take i) ((ordF d c out k o gone).getD i ByteArray.empty)
  | 0, o, gone, hk, _, _, _ => ⟨List.take_length, fun i h1 h2 => by omega⟩
  | k + 1, o, gone, hk, hl, hcnt, hg => by
    rw [ordF]
    obtain ⟨_, p1, p2⟩ := scan_pick (g := fun j => j) (z := 0) c.length 0 (some_free (d := d) (out := out) hl (by omega))
    have p1 : pickF d out gone c.length < c.length := by unfold pickF; omega
    have p2 : pk d out gone c.length (pickF d out gone c.length) = true := p2
    have hcn := pick_ok (d := d) (c := c) (out := out) hl (by omega)
    generalize pickF d out gone c.length = j at *
    have hgj := pk_gone p2
    have hnj : (cl c j).f_Name ∉ o := fun hm => by rw [(hg j p1).2 hm] at hgj; cases hgj
    have hak : ak d out gone j c.length 0 = true := by
      unfold pk at p2
      rw [hgj, Bool.not_false, cond_true] at p2; exact p2
    have ih := ord_spec (out := out) hc k (o ++ [(c.getD j Tapi_Call.d).f_Name]) (gone.set j true) (by simp; omega) (by rw [List.length_set]; exact hl) (by rw [hcn, hcnt]; simp) (fun r hr => by
      have hrl : r < gone.length := by omega
      by_cases hrj : r = j
      · subst hrj
        have : (gone.set r true).getD r false = true := by simp [List.getD, hrl]
        rw [this]
        exact ⟨fun _ => by simp [cl], fun _ => rfl⟩
      · rw [List.getD_eq_getElem?_getD, List.getElem?_set_ne (fun e => hrj e.symm), ← List.getD_eq_getElem?_getD, hg r hr, List.mem_append]
        constructor
        · exact .inl
        · rintro (h | h)
          · exact h
          · have e : (cl c r).f_Name = (cl c j).f_Name := List.mem_singleton.1 h
            have e2 : cl c r = cl c j := nd_inj hc.2.2 (mem_cl hr) (mem_cl p1) e
            have hp := List.pairwise_iff_getElem.1 hc.2.2
            have : r = j := by
              rcases Nat.lt_trichotomy r j with h1 | h1 | h1
              · have := hp r j (by simpa using hr) (by simpa using p1) h1
                simp only [List.getElem_map] at this
                unfold cl at e; rw [getD_in hr, getD_in p1] at e; exact absurd e this
              · exact h1
              · have := hp j r (by simpa using p1) (by simpa using hr) h1
                simp only [List.getElem_map] at this
                unfold cl at e; rw [getD_in hr, getD_in p1] at e; exact absurd e.symm this
            exact absurd this hrj)
    generalize ordF d c out k (o ++ [(c.getD j Tapi_Call.d).f_Name]) (gone.set j true) = L at ih ⊢
    obtain ⟨t1, t2⟩ := ih
    have hlo : (o ++ [(c.getD j Tapi_Call.d).f_Name]).length = o.length + 1 := by simp
    rw [hlo] at t1 t2
    have t3 : L.take o.length = o := by
      have := congrArg (List.take o.length) t1
      rw [List.take_take, Nat.min_eq_left (by omega), List.take_left] at this
      exact this
    refine ⟨t3, fun i h1 h2 => ?_⟩
    by_cases hi : i = o.length
    · subst hi
      have hLi : L.getD o.length ByteArray.empty = (cl c j).f_Name := by
        have := congrArg (fun l => l.getD o.length ByteArray.empty) t1
        simp only [List.getD_eq_getElem?_getD, List.getElem?_take_of_lt (show o.length < o.length + 1 by omega)] at this
        rw [List.getD_eq_getElem?_getD, this, List.getElem?_append_right (Nat.le_refl _)]
        simp [cl]
      rw [hLi, t3]
      refine ⟨j, p1, rfl, hnj, fun t ht htn => ak_spec c.length 0 hak t (Nat.zero_le _) (by omega) ?_⟩
      cases hgt : gone.getD t false with
      | false => rfl
      | true => exact absurd ((hg t ht).1 hgt) htn
    · exact t2 i (by omega) h2
theorem b2_mem {out : List Tberth_box} {x : TS__2_string} (i : Nat) : ∀ (k j : Nat) (a : List TS__2_string), x ∈ b2 d c out i k j a → x ∈ a ∨ ∃ t, j ≤ t ∧ t < j + k ∧ blE d (bx out i) (bx out t) = true ∧ x = prC c i t
  | 0, _, _, h => .inl h
  | k + 1, j, a, h => by
    rw [b2] at h
    rcases b2_mem i k (j + 1) _ h with h1 | ⟨t, h1, h2, h3⟩
    · cases hb : blE d (bx out i) (bx out j) with
      | false => rw [hb] at h1; exact .inl h1
      | true =>
        rw [hb, cond_true] at h1
        rcases List.mem_append.1 h1 with h1 | h1
        · exact .inl h1
        · exact .inr ⟨j, by omega, by omega, hb, List.mem_singleton.1 h1⟩
    · exact .inr ⟨t, by omega, by omega, h3⟩
theorem b1_mem {out : List Tberth_box} {x : TS__2_string} : ∀ (k i : Nat) (a : List TS__2_string), x ∈ b1 d c out k i a → x ∈ a ∨ ∃ r t, i ≤ r ∧ r < i + k ∧ t < c.length ∧ blE d (bx out r) (bx out t) = true ∧ x = prC c r t
  | 0, _, _, h => .inl h
  | k + 1, i, a, h => by
    rw [b1] at h
    rcases b1_mem k (i + 1) _ h with h1 | ⟨r, t, h1, h2, h3⟩
    · rcases b2_mem i c.length 0 a h1 with h1 | ⟨t, h1, h2, h3⟩
      · exact .inl h1
      · exact .inr ⟨i, t, by omega, by omega, by omega, h3⟩
    · exact .inr ⟨r, t, by omega, by omega, h3⟩
end
section
variable {p : Tkeelblocklaw06_Plan} {N : Nat} {O : List ByteArray} {m : Int} {i : Nat}
theorem take_filter {α : Type} (f : α → Bool) (l : List α) (dd : α) {j : Nat} (h : j < l.length) : (l.take (j + 1)).filter f = (l.take j).filter f ++ cond (f (l.getD j dd)) [l.getD j dd] [] := by
  rw [List.take_add_one, List.filter_append, List.getElem?_eq_getElem h, getD_in h]
  show _ ++ List.filter f [l[j]] = _
  cases hs : f l[j] with
  | true => rw [List.filter_cons_of_pos hs]; rfl
  | false => rw [List.filter_cons_of_neg (by rw [hs]; decide)]; rfl
theorem leaves_L5 (hi : i < O.length) {spots : List Tapi_Spot} (hl : spots.length ≤ 1000) (c4 : List Tapi_Call) (K : List Tapi_Call → List Tapi_Spot → Int → Option Bool) (hi2 : i ≤ 1000) : ∀ (k j fuel : Nat), j + k = spots.length → k < fuel →
    g_w06_BerthLeaves_L5 N p (O, m) spots (i : Int) c4 K fuel ((spots.take j).filter fun x => !streq x.f_Call (O.getD i ByteArray.empty)) (j : Int) = K c4 (spots.filter fun x => !streq x.f_Call (O.getD i ByteArray.empty)) ((i + 1 : Nat) : Int)
  | 0, j, fuel, hj, hf => by
    obtain ⟨g, rfl⟩ : ∃ g, fuel = g + 1 := ⟨fuel - 1, by omega⟩
    have hj : j = spots.length := by omega
    subst hj
    rw [g_w06_BerthLeaves_L5, dec_nlt, cond_false, List.take_length, w64_succ (by omega)]
  | k + 1, j, fuel, hj, hf => by
    obtain ⟨g, rfl⟩ : ∃ g, fuel = g + 1 := ⟨fuel - 1, by omega⟩
    have hjl : j < spots.length := by omega
    have hle := List.length_filter_le (fun x : Tapi_Spot => !streq x.f_Call (O.getD i ByteArray.empty)) (spots.take j)
    rw [List.length_take] at hle
    have ih := leaves_L5 hi hl c4 K hi2 k (j + 1) g (by omega) (by omega)
    have e : (spots.take (j + 1)).filter (fun x => !streq x.f_Call (O.getD i ByteArray.empty)) = (spots.take j).filter (fun x => !streq x.f_Call (O.getD i ByteArray.empty)) ++ cond (!streq (spots.getD j Tapi_Spot.d).f_Call (O.getD i ByteArray.empty)) [spots.getD j Tapi_Spot.d] [] := take_filter _ _ _ hjl
    rw [e] at ih
    rw [g_w06_BerthLeaves_L5, dec_lt hjl, cond_true, if_pos (inb hjl), if_pos (inb hi), toNat_nat, toNat_nat]
    unfold g_w06_BerthLeaves_J6
    rw [w64_succ (by omega), if_pos (by omega)]
    cases hs : (!streq (spots.getD j Tapi_Spot.d).f_Call (O.getD i ByteArray.empty)) with
    | true => rw [hs] at ih; exact ih
    | false => rw [hs, cond_false, List.append_nil] at ih; exact ih
theorem leaves_L3 (hN : 100 < N) (hi : i < O.length) {calls : List Tapi_Call} {spots : List Tapi_Spot} (hl : calls.length ≤ 8) (hl2 : spots.length ≤ 8) (K : List Tapi_Call → List Tapi_Spot → Int → Option Bool) (hi2 : i ≤ 1000) : ∀ (k j fuel : Nat), j + k = calls.length → k < fuel →
    g_w06_BerthLeaves_L3 N p (O, m) calls spots (i : Int) K fuel ((calls.take j).filter fun x => !streq x.f_Name (O.getD i ByteArray.empty)) (j : Int) = K (calls.filter fun x => !streq x.f_Name (O.getD i ByteArray.empty)) (spots.filter fun x => !streq x.f_Call (O.getD i ByteArray.empty)) ((i + 1 : Nat) : Int)
  | 0, j, fuel, hj, hf => by
    obtain ⟨g, rfl⟩ : ∃ g, fuel = g + 1 := ⟨fuel - 1, by omega⟩
    have hj : j = calls.length := by omega
    subst hj
    rw [g_w06_BerthLeaves_L3, dec_nlt, cond_false, List.take_length]
    exact leaves_L5 hi (by omega) _ K hi2 spots.length 0 N (by omega) (by omega)
  | k + 1, j, fuel, hj, hf => by
    obtain ⟨g, rfl⟩ : ∃ g, fuel = g + 1 := ⟨fuel - 1, by omega⟩
    have hjl : j < calls.length := by omega
    have hle := List.length_filter_le (fun x : Tapi_Call => !streq x.f_Name (O.getD i ByteArray.empty)) (calls.take j)
    rw [List.length_take] at hle
    have ih := leaves_L3 hN hi hl hl2 K hi2 k (j + 1) g (by omega) (by omega)
    have e : (calls.take (j + 1)).filter (fun x => !streq x.f_Name (O.getD i ByteArray.empty)) = (calls.take j).filter (fun x => !streq x.f_Name (O.getD i ByteArray.empty)) ++ cond (!streq (calls.getD j Tapi_Call.d).f_Name (O.getD i ByteArray.empty)) [calls.getD j Tapi_Call.d] [] := take_filter _ _ _ hjl
    rw [e] at ih
    rw [g_w06_BerthLeaves_L3, dec_lt hjl, cond_true, if_pos (inb hjl), if_pos (inb hi), toNat_nat, toNat_nat]
    unfold g_w06_BerthLeaves_J4
    rw [w64_succ (by omega), if_pos (by omega)]
    cases hs : (!streq (calls.getD j Tapi_Call.d).f_Name (O.getD i ByteArray.empty)) with
    | true => rw [hs] at ih; exact ih
    | false => rw [hs, cond_false, List.append_nil] at ih; exact ih
theorem leaves_L2 (hi : i < O.length) {calls : List Tapi_Call} {spots : List Tapi_Spot} {B : List TS__2_string} (hl : B.length ≤ 1000) (hB : ∀ x ∈ B, x.e1 ≠ O.getD i ByteArray.empty) (K : List Tapi_Call → List Tapi_Spot → Int → Option Bool) : ∀ (k j fuel : Nat), j + k = B.length → k < fuel →
    g_w06_BerthLeaves_L2 N p (O, m) calls spots (i : Int) (B, 0) K fuel (j : Int) = g_w06_BerthLeaves_L3 N p (O, m) calls spots (i : Int) K N [] 0
  | 0, j, fuel, hj, hf => by
    obtain ⟨g, rfl⟩ : ∃ g, fuel = g + 1 := ⟨fuel - 1, by omega⟩
    have hj : j = B.length := by omega
    subst hj
    rw [g_w06_BerthLeaves_L2, dec_nlt, cond_false]
  | k + 1, j, fuel, hj, hf => by
    obtain ⟨g, rfl⟩ : ∃ g, fuel = g + 1 := ⟨fuel - 1, by omega⟩
    have hjl : j < B.length := by omega
    have hne : streq (B.getD j TS__2_string.d).e1 (O.getD i ByteArray.empty) = false := by
      rw [getD_in hjl]
      have := streq_ne (hB _ (List.getElem_mem hjl))
      simpa using this
    rw [g_w06_BerthLeaves_L2, dec_lt hjl, cond_true, if_pos (inb hjl), if_pos (inb hi), toNat_nat, toNat_nat, hne, cond_false, w64_succ (by omega)]
    exact leaves_L2 hi hl hB K k (j + 1) g (by omega) (by omega)
theorem leaves_L1 (hN : 100 < N) {c : List Tapi_Call} {s : List Tapi_Spot} {out : List Tberth_box} (h0 : Pl p.f_Dock c s) (hbx : Boxed p.f_Dock c s out) (hO : O.length = c.length) (hT : ∀ i, i < c.length → Turn p.f_Dock c out (O.take i) (O.getD i ByteArray.empty)) : ∀ (k i fuel : Nat), i + k = c.length → k < fuel → Pl p.f_Dock (c.filter (keepC (O.take i))) (s.filter (keepS (O.take i))) →
    g_w06_BerthLeaves_L1 N p (O, m) fuel (c.filter (keepC (O.take i))) (s.filter (keepS (O.take i))) (i : Int) = some true
  | 0, i, fuel, hi, hf, h => by
    obtain ⟨g, rfl⟩ : ∃ g, fuel = g + 1 := ⟨fuel - 1, by omega⟩
    have hi : i = O.length := by omega
    subst hi
    obtain ⟨r, h1, h2, _⟩ := h.boxed hN
    rw [g_w06_BerthLeaves_L1, dec_nlt, cond_false]
    unfold g_berth_CheckPlan
    rw [h1, Option.bind_some, Option.bind_some, h2]; rfl
  | k + 1, i, fuel, hi, hf, h => by
    obtain ⟨g, rfl⟩ : ∃ g, fuel = g + 1 := ⟨fuel - 1, by omega⟩
    have hiO : i < O.length := by omega
    have hle := hbx.le
    obtain ⟨r, hr, hnm, hnG, hfree⟩ := (hT i (by omega)).ex
    have hymem : cl c r ∈ c.filter (keepC (O.take i)) := List.mem_filter.2 ⟨mem_cl hr, keepC_mem.2 (by rw [hnm]; exact hnG)⟩
    obtain ⟨rb, hb1, hb2, hb3⟩ := h.boxed hN
    have hlen' := h.cc.1
    have hslen' : (s.filter (keepS (O.take i))).length ≤ 8 := by rw [h.len]; exact hlen'
    have e1 : g_berth_Blocks_L1 N p.f_Dock (c.filter (keepC (O.take i))) rb N [] 0 = some (b1 p.f_Dock (c.filter (keepC (O.take i))) rb.1 (c.filter (keepC (O.take i))).length 0 [], 0) := Blocks_L1 hN hb3 _ 0 N [] (by omega) (by omega) (by simp; omega)
    have eB : g_berth_Blocks N p.f_Dock (c.filter (keepC (O.take i))) (s.filter (keepS (O.take i))) = some (b1 p.f_Dock (c.filter (keepC (O.take i))) rb.1 (c.filter (keepC (O.take i))).length 0 [], 0) := by
      unfold g_berth_Blocks
      rw [hb1, Option.bind_some, hb2]; exact e1
    have hcall : g_r06_CallOf N (c.filter (keepC (O.take i))) (O.getD i ByteArray.empty) = some (callIx (c.filter (keepC (O.take i))) (O.getD i ByteArray.empty)) := refCallIx_eq _ _ (by omega) (by omega)
    have hix : 0 ≤ callIx (c.filter (keepC (O.take i))) (O.getD i ByteArray.empty) := by
      have := (callIx_of h.cc hymem).1
      rwa [hnm] at this
    have hBm : ∀ x ∈ b1 p.f_Dock (c.filter (keepC (O.take i))) rb.1 (c.filter (keepC (O.take i))).length 0 [], x.e1 ≠ O.getD i ByteArray.empty := fun x hx e => by
      rcases b1_mem _ 0 [] hx with hx | ⟨r', t', _, hr', ht', hbl, rfl⟩
      · cases hx
      · have hr'' : r' < (c.filter (keepC (O.take i))).length := by omega
        have boxes : ∀ q, q < (c.filter (keepC (O.take i))).length → ∃ q0, q0 < c.length ∧ (cl c q0).f_Name = (cl (c.filter (keepC (O.take i))) q).f_Name ∧ (cl c q0).f_Name ∉ O.take i ∧ bx rb.1 q = bx out q0 := fun q hq => by
          have hm := mem_cl hq
          obtain ⟨hm1, hm2⟩ := List.mem_filter.1 hm
          obtain ⟨q0, hq0, eq0⟩ := cl_of hm1
          obtain ⟨j, hj, ej⟩ := hb3.on q hq
          have hnj := (ix_ok (hb3.ok j hj)).2.2
          rw [ej] at hnj
          have hxs := mem_sp hj
          refine ⟨q0, hq0, by rw [eq0], by rw [eq0]; exact keepC_mem.1 hm2, ?_⟩
          rw [h.box hb3 hq hxs hm hnj.symm rfl, h0.box hbx hq0 (List.mem_filter.1 hxs).1 hm1 hnj.symm (by rw [eq0])]
        obtain ⟨r0, hr0, en1, en2, eb⟩ := boxes r' hr''
        obtain ⟨t0, ht0, en3, en4, eb2⟩ := boxes t' ht'
        have et : (cl c t0).f_Name = O.getD i ByteArray.empty := en3.trans e
        have hbt : bx out t0 = bx out r := by
          have e3 : (cl c t0).f_Name = (cl c r).f_Name := et.trans hnm.symm
          have e4 : cl c t0 = cl c r := nd_inj h0.cc.2.2 (mem_cl ht0) (mem_cl hr) e3
          obtain ⟨j, hj, ej⟩ := hbx.on r hr
          have hnj := (ix_ok (hbx.ok j hj)).2.2
          rw [ej] at hnj
          rw [h0.box hbx ht0 (mem_sp hj) (mem_cl hr) hnj.symm (by rw [e4]), h0.box hbx hr (mem_sp hj) (mem_cl hr) hnj.symm rfl]
        rw [eb, eb2, hbt, hfree r0 hr0 en2] at hbl
        cases hbl
    have hBl := b1_len (d := p.f_Dock) (c := c.filter (keepC (O.take i))) (out := rb.1) (c.filter (keepC (O.take i))).length 0 []
    have hmul : (c.filter (keepC (O.take i))).length * (c.filter (keepC (O.take i))).length ≤ 8 * 8 := Nat.mul_le_mul hlen' hlen'
    simp only [List.length_nil, Nat.zero_add] at hBl
    rw [g_w06_BerthLeaves_L1, dec_lt hiO, cond_true, eB, Option.bind_some]
    generalize b1 p.f_Dock (c.filter (keepC (O.take i))) rb.1 (c.filter (keepC (O.take i))).length 0 [] = B at *
    have t4 : ((0 : Int) != 0) = false := by decide
    simp only [t4, Bool.not_false, cond_true, cond_false, if_pos (fun _ : True => inb hiO), toNat_nat, hcall, Option.bind_some, decide_eq_false (show ¬ callIx (c.filter (keepC (O.take i))) (O.getD i ByteArray.empty) < 0 by omega)]
    refine (leaves_L2 hiO (by omega) hBm (g_w06_BerthLeaves_L1 N p (O, m) g) B.length 0 N (by omega) (by omega)).trans ?_
    refine (leaves_L3 hN hiO hlen' hslen' (g_w06_BerthLeaves_L1 N p (O, m) g) (by omega) _ 0 N (Nat.zero_add _) (by omega)).trans ?_
    have htk : O.take (i + 1) = O.take i ++ [O.getD i ByteArray.empty] := by rw [List.take_add_one, List.getElem?_eq_getElem hiO, getD_in hiO]; rfl
    have hd := h.drop (nm := O.getD i ByteArray.empty) (by rw [← hnm]; exact List.mem_map_of_mem hymem)
    rw [filterC_step, filterS_step, ← htk] at hd ⊢
    exact leaves_L1 hN h0 hbx hO hT k (i + 1) g (by omega) (by omega) hd
end
theorem berthLeaves_plain (p : Tkeelblocklaw06_Plan) (_ : Tkeelblocklaw06_Plan.wf p) : ∃ N, g_w06_BerthLeaves N p = some true := by
  refine ⟨2000, ?_⟩
  have hN : 100 < 2000 := by decide
  generalize hNN : 2000 = N at hN
  have haw : g_w06_awake N = some true := by rw [← hNN]; exact plansAwake
  unfold g_w06_BerthLeaves
  rw [haw, Option.bind_some, Bool.not_true, cond_false]
  obtain ⟨b, hb⟩ := planShort hN p
  rw [hb, Option.bind_some]
  cases b with
  | false => rfl
  | true =>
    obtain ⟨r, hr, h1, h2⟩ := boxes_eq hN p.f_Dock p.f_Calls p.f_Spots
    have eC : g_berth_CheckPlan N p.f_Dock p.f_Calls p.f_Spots = some (planCode p.f_Dock p.f_Calls p.f_Spots) := by
      unfold g_berth_CheckPlan
      rw [hr, Option.bind_some, h1]
    rw [Bool.not_true, Bool.not_false, cond_true, eC, Option.bind_some]
    rcases h2 with ⟨h0, hbx⟩ | ⟨h0, _⟩
    · have hpl := Pl.of h0
      have hol := hbx.ol
      have hle := hbx.le
      have e3 : g_berth_LeaveOrder_L1 N p.f_Dock p.f_Calls r N [] (List.replicate r.1.length false) 0 = some (ordF p.f_Dock p.f_Calls r.1 p.f_Calls.length [] (List.replicate r.1.length false), 0) := Leave_L1 hN hbx p.f_Calls.length 0 N [] _ (by omega) (by omega) rfl (by simp [hol]) (by simp [List.count_replicate])
      have eL : g_berth_LeaveOrder N p.f_Dock p.f_Calls p.f_Spots = some (ordF p.f_Dock p.f_Calls r.1 p.f_Calls.length [] (List.replicate r.1.length false), 0) := by
        unfold g_berth_LeaveOrder
        rw [hr, Option.bind_some, h1, h0, if_pos ⟨by omega, by omega, by omega⟩]; exact e3
      have hspec := (ord_spec (d := p.f_Dock) (out := r.1) hpl.cc p.f_Calls.length [] (List.replicate r.1.length false) (by simp) (by simp [hol]) (by simp [List.count_replicate]) (fun q hq => by
        constructor
        · intro hg; rw [hol] at hg; simp [List.getD, hq] at hg
        · intro hg; cases hg)).2
      have hlenO := ord_len (d := p.f_Dock) (c := p.f_Calls) (out := r.1) p.f_Calls.length [] (List.replicate r.1.length false)
      rw [eL, h0]
      generalize ordF p.f_Dock p.f_Calls r.1 p.f_Calls.length [] (List.replicate r.1.length false) = O at *
      simp only [List.length_nil, Nat.zero_add] at hlenO
      have t5 : (((O.length : Nat) : Int) != ((p.f_Calls.length : Nat) : Int)) = false := by rw [hlenO]; simp
      have t4 : ((0 : Int) != 0) = false := by decide
      have fin := leaves_L1 (p := p) (m := 0) hN hpl hbx hlenO (fun i hi => hspec i (Nat.zero_le _) hi) p.f_Calls.length 0 N (Nat.zero_add _) (by omega) (by
        have e1 : p.f_Calls.filter (keepC (O.take 0)) = p.f_Calls := List.filter_eq_self.2 fun _ _ => rfl
        have e2 : p.f_Spots.filter (keepS (O.take 0)) = p.f_Spots := List.filter_eq_self.2 fun _ _ => rfl
        rw [e1, e2]; exact hpl)
      have e1 : p.f_Calls.filter (keepC (O.take 0)) = p.f_Calls := List.filter_eq_self.2 fun _ _ => rfl
      have e2 : p.f_Spots.filter (keepS (O.take 0)) = p.f_Spots := List.filter_eq_self.2 fun _ _ => rfl
      rw [e1, e2] at fin
      simp only [t4, cond_false, Option.bind_some, t5]
      exact fin
    · have t4 : (planCode p.f_Dock p.f_Calls p.f_Spots != 0) = true := by simpa using h0
      rw [t4]; rfl
end Go.Den
