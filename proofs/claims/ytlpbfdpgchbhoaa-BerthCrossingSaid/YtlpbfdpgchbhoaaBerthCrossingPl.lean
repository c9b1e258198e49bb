/- The plain law: the Lean function of the law returns true for every input, and what it needs. No conditions. -/
import Derived.Test.YtlpbfdpgchbhoaaBerthCrossingDen

set_option linter.unusedVariables false
set_option linter.unusedSimpArgs false
namespace Go.Den
open Go.Ab

theorem w64_def (n : Int) : w64 n = if n % 18446744073709551616 ≥ 9223372036854775808 then n % 18446744073709551616 - 18446744073709551616 else n % 18446744073709551616 := by
  have e : w64 n = (if (true && decide (n % 18446744073709551616 ≥ 9223372036854775808)) = true then n % 18446744073709551616 - 18446744073709551616 else n % 18446744073709551616) := rfl
  rw [e]; simp
theorem w64_eq {n : Int} (h1 : -9223372036854775808 ≤ n) (h2 : n ≤ 9223372036854775807) : w64 n = n := by
  rw [w64_def]; split <;> omega
theorem w64_nat {m : Nat} (h : m ≤ 9223372036854775807) : w64 (m : Int) = m := w64_eq (by omega) (by omega)
theorem w64_succ {m : Nat} (h : m < 9223372036854775807) : w64 ((m : Int) + 1) = ((m + 1 : Nat) : Int) := by rw [w64_eq (by omega) (by omega)]; simp

theorem toList_inj {a b : ByteArray} (h : a.toList = b.toList) : a = b := by
  have e : ∀ x : ByteArray, x.toList = x.data.toList := fun x => ByteArray.toList_eq x
  rw [e, e] at h
  cases a; cases b; simp_all [Array.toList_inj]
theorem streq_iff {a b : ByteArray} : streq a b = true ↔ a = b := by
  unfold streq; simp only [beq_iff_eq]
  exact ⟨toList_inj, fun h => h ▸ rfl⟩
theorem streq_comm (a b : ByteArray) : streq a b = streq b a := by
  rw [Bool.eq_iff_iff, streq_iff, streq_iff]; exact eq_comm

/-- The first answer of a row of questions, from m on, k of them; else z. -/
def scan {R : Type} (f : Nat → Option R) (z : R) : Nat → Nat → R
  | 0, _ => z
  | k + 1, m => match f m with
    | some r => r
    | none => scan f z k (m + 1)

theorem loop_scan {R : Type} {L : Nat → Int → Option R} (f : Nat → Option R) (z : R) {n : Nat}
    (hstep : ∀ fuel m, m < n → L (fuel + 1) (m : Int) = (match f m with | some r => some r | none => L fuel ((m + 1 : Nat) : Int)))
    (hend : ∀ fuel, L (fuel + 1) (n : Int) = some z) : ∀ k m fuel, m + k = n → k < fuel → L fuel (m : Int) = some (scan f z k m)
  | 0, m, fuel, h, hf => by
    obtain ⟨g, rfl⟩ : ∃ g, fuel = g + 1 := ⟨fuel - 1, by omega⟩
    have : m = n := by omega
    subst this; exact hend g
  | k + 1, m, fuel, h, hf => by
    obtain ⟨g, rfl⟩ : ∃ g, fuel = g + 1 := ⟨fuel - 1, by omega⟩
    rw [hstep g m (by omega)]
    unfold scan
    cases hfm : f m with
    | some r => rfl
    | none => exact loop_scan f z hstep hend k (m + 1) g (by omega) (by omega)

theorem loop_scan0 {R : Type} {L : Nat → Int → Option R} (f : Nat → Option R) (z : R) {n fuel : Nat} (hf : n < fuel)
    (hstep : ∀ fuel m, m < n → L (fuel + 1) (m : Int) = (match f m with | some r => some r | none => L fuel ((m + 1 : Nat) : Int)))
    (hend : ∀ fuel, L (fuel + 1) (n : Int) = some z) : L fuel 0 = some (scan f z n 0) :=
  loop_scan f z hstep hend n 0 fuel (by omega) hf

/-- As loop_scan0; at the end all questions have been answered with 'none'. -/
theorem loop_scanA {R : Type} {L : Nat → Int → R} (f : Nat → Option R) (z : R) {n fuel : Nat} (hf : n < fuel)
    (hstep : ∀ fuel m, m < n → (∀ i, i < m → f i = none) → L (fuel + 1) (m : Int) = (match f m with | some r => r | none => L fuel ((m + 1 : Nat) : Int)))
    (hend : (∀ i, i < n → f i = none) → ∀ fuel, L (fuel + 1) (n : Int) = z) : L fuel 0 = scan f z n 0 := by
  have key : ∀ k m fuel, m + k = n → k < fuel → (∀ i, i < m → f i = none) → L fuel (m : Int) = scan f z k m := by
    intro k
    induction k with
    | zero =>
      intro m fuel h hf hn
      obtain ⟨g, rfl⟩ : ∃ g, fuel = g + 1 := ⟨fuel - 1, by omega⟩
      have : m = n := by omega
      subst this; exact hend hn g
    | succ k ih =>
      intro m fuel h hf hn
      obtain ⟨g, rfl⟩ : ∃ g, fuel = g + 1 := ⟨fuel - 1, by omega⟩
      rw [hstep g m (by omega) hn]
      unfold scan
      cases hfm : f m with
      | some r => rfl
      | none =>
        refine ih (m + 1) g (by omega) (by omega) fun i hi => ?_
        by_cases him : i = m
        · subst him; exact hfm
        · exact hn i (by omega)
  exact key n 0 fuel (by omega) hf (fun i hi => absurd hi (Nat.not_lt_zero _))
theorem scan_map {R S : Type} (g : R → S) {f : Nat → Option R} {z : R} : ∀ (k m : Nat), scan (fun i => (f i).map g) (g z) k m = g (scan f z k m)
  | 0, _ => rfl
  | k + 1, m => by
    unfold scan
    cases f m with
    | some r => rfl
    | none => exact scan_map g k (m + 1)
theorem loop_scan0A {R : Type} {L : Nat → Int → Option R} (f : Nat → Option R) (z : R) {n fuel : Nat} (hf : n < fuel)
    (hstep : ∀ fuel m, m < n → (∀ i, i < m → f i = none) → L (fuel + 1) (m : Int) = (match f m with | some r => some r | none => L fuel ((m + 1 : Nat) : Int)))
    (hend : (∀ i, i < n → f i = none) → ∀ fuel, L (fuel + 1) (n : Int) = some z) : L fuel 0 = some (scan f z n 0) := by
  rw [← scan_map some]
  refine loop_scanA (fun i => (f i).map some) (some z) hf (fun g m hm hn => ?_) (fun hn => hend fun i hi => ?_)
  · have hn' : ∀ i, i < m → f i = none := fun i hi => by have := hn i hi; simpa using this
    rw [hstep g m hm hn']
    cases f m <;> rfl
  · have := hn i hi; simpa using this
theorem scan_congr {R : Type} {f g : Nat → Option R} {z : R} : ∀ (k m : Nat), (∀ i, m ≤ i → i < m + k → f i = g i) → scan f z k m = scan g z k m
  | 0, _, _ => rfl
  | k + 1, m, h => by
    unfold scan
    rw [h m (by omega) (by omega)]
    cases g m with
    | some r => rfl
    | none => exact scan_congr k (m + 1) fun i hi hi2 => h i (by omega) (by omega)

theorem scan_all {R : Type} {f : Nat → Option R} {z : R} : ∀ (k m : Nat), (∀ i, m ≤ i → i < m + k → f i = none) → scan f z k m = z
  | 0, _, _ => rfl
  | k + 1, m, h => by
    unfold scan
    rw [h m (by omega) (by omega)]
    exact scan_all k (m + 1) fun i hi hi2 => h i (by omega) (by omega)

theorem scan_inv {R : Type} {f : Nat → Option R} {z : R} : ∀ (k m : Nat), (∃ i r, m ≤ i ∧ i < m + k ∧ f i = some r ∧ (∀ j, m ≤ j → j < i → f j = none) ∧ scan f z k m = r) ∨ ((∀ i, m ≤ i → i < m + k → f i = none) ∧ scan f z k m = z)
  | 0, m => .inr ⟨fun i h1 h2 => by omega, rfl⟩
  | k + 1, m => by
    cases hm : f m with
    | some r => exact .inl ⟨m, r, Nat.le_refl _, by omega, hm, fun j h1 h2 => by omega, by unfold scan; rw [hm]⟩
    | none =>
      have e : scan f z (k + 1) m = scan f z k (m + 1) := by rw [scan, hm]
      rcases scan_inv (f := f) (z := z) k (m + 1) with ⟨i, r, h1, h2, h3, h4, h5⟩ | ⟨h1, h2⟩
      · refine .inl ⟨i, r, by omega, by omega, h3, fun j hj1 hj2 => ?_, e.trans h5⟩
        by_cases hj : j = m
        · subst hj; exact hm
        · exact h4 j (by omega) hj2
      · refine .inr ⟨fun i hi1 hi2 => ?_, e.trans h2⟩
        by_cases hj : i = m
        · subst hj; exact hm
        · exact h1 i (by omega) (by omega)

theorem loop_scanR {R : Type} {L : Nat → Int → R} (f : Nat → Option R) (z : R) {n : Nat}
    (hstep : ∀ fuel m, m < n → L (fuel + 1) (m : Int) = (match f m with | some r => r | none => L fuel ((m + 1 : Nat) : Int)))
    (hend : ∀ fuel, L (fuel + 1) (n : Int) = z) : ∀ k m fuel, m + k = n → k < fuel → L fuel (m : Int) = scan f z k m
  | 0, m, fuel, h, hf => by
    obtain ⟨g, rfl⟩ : ∃ g, fuel = g + 1 := ⟨fuel - 1, by omega⟩
    have : m = n := by omega
    subst this; exact hend g
  | k + 1, m, fuel, h, hf => by
    obtain ⟨g, rfl⟩ : ∃ g, fuel = g + 1 := ⟨fuel - 1, by omega⟩
    rw [hstep g m (by omega)]
    unfold scan
    cases hfm : f m with
    | some r => rfl
    | none => exact loop_scanR f z hstep hend k (m + 1) g (by omega) (by omega)
theorem loop_scanR0 {R : Type} {L : Nat → Int → R} (f : Nat → Option R) (z : R) {n fuel : Nat} (hf : n < fuel)
    (hstep : ∀ fuel m, m < n → L (fuel + 1) (m : Int) = (match f m with | some r => r | none => L fuel ((m + 1 : Nat) : Int)))
    (hend : ∀ fuel, L (fuel + 1) (n : Int) = z) : L fuel 0 = scan f z n 0 :=
  loop_scanR f z hstep hend n 0 fuel (by omega) hf
theorem loop_none {R : Type} {L : Nat → Int → R} (z : R) {n fuel : Nat} (hf : n < fuel) (hstep : ∀ fuel m, m < n → L (fuel + 1) (m : Int) = L fuel ((m + 1 : Nat) : Int))
    (hend : ∀ fuel, L (fuel + 1) (n : Int) = z) : L fuel 0 = z :=
  (loop_scanR0 (fun _ => none) z hf (fun g m hm => hstep g m hm) hend).trans (scan_all n 0 fun _ _ _ => rfl)
theorem scan_index {p : Nat → Bool} : ∀ (n m : Nat), decide (scan (fun k => cond (p k) (some (k : Int)) none) (-1) n m ≥ 0) = scan (fun k => cond (p k) (some true) none) false n m
  | 0, m => rfl
  | n + 1, m => by
    unfold scan
    cases p m with
    | true => simp
    | false => exact scan_index n (m + 1)
theorem scan_first {p : Nat → Bool} {i : Nat} (hi : p i = true) : ∀ (k m : Nat), m ≤ i → i < m + k → (scan (fun k => cond (p k) (some (k : Int)) none) (-1) k m != (i : Int)) = scan (fun k => cond (p k) (some true) none) false (i - m) m
  | 0, m, h1, h2 => by omega
  | k + 1, m, h1, h2 => by
    by_cases hm : m = i
    · subst hm
      rw [Nat.sub_self]
      unfold scan
      rw [hi]; simp
    · obtain ⟨j, hj⟩ : ∃ j, i - m = j + 1 := ⟨i - m - 1, by omega⟩
      rw [hj]
      cases hp : p m with
      | true =>
        unfold scan
        simp only [hp, cond_true]
        have : (m : Int) ≠ i := by omega
        simpa using this
      | false =>
        have e1 : scan (fun k => cond (p k) (some (k : Int)) none) (-1) (k + 1) m = scan (fun k => cond (p k) (some (k : Int)) none) (-1) k (m + 1) := by rw [scan]; simp only [hp, cond_false]
        have e2 : scan (fun k => cond (p k) (some true) none) false (j + 1) m = scan (fun k => cond (p k) (some true) none) false j (m + 1) := by rw [scan]; simp only [hp, cond_false]
        rw [e1, e2, scan_first hi k (m + 1) (by omega) (by omega)]
        congr 1; omega
theorem scan_bool {R : Type} {p : Nat → Bool} {a z : R} : ∀ (n m : Nat), scan (fun k => cond (p k) (some a) none) z n m = cond (scan (fun k => cond (p k) (some true) none) false n m) a z
  | 0, m => rfl
  | n + 1, m => by
    unfold scan
    cases p m with
    | true => rfl
    | false => exact scan_bool n (m + 1)
theorem bind_cond {α β : Type} (q : Bool) (a b : α) (f : α → Option β) : (cond q (some a) (some b)).bind f = f (cond q a b) := by cases q <;> rfl
theorem cond_some {α : Type} (q : Bool) (a b : α) : cond q (some a) (some b) = some (cond q a b) := by cases q <;> rfl
theorem getD_take {α : Type} (l : List α) (m k : Nat) (d : α) (h : k < m) : ((l.take m).drop 0).getD k d = l.getD k d := by
  simp [List.getD, h]
theorem drop_take_one {α : Type} (l : List α) (m : Nat) (d : α) (h : m < l.length) : (l.take (m + 1)).drop m = [l.getD m d] := by
  have e : (l.take (m + 1)).drop m = (l.drop m).take 1 := by rw [List.drop_take]; congr 1; omega
  rw [e, List.drop_eq_getElem_cons h, List.take_succ_cons, List.take_zero]
  simp [List.getD, h]
theorem getD_mem {α : Type} (l : List α) (m : Nat) (d : α) (h : m < l.length) : l.getD m d ∈ l := by
  simp [List.getD, h]
theorem sq_nonneg (x : Int) : 0 ≤ x * x := by
  by_cases h : 0 ≤ x
  · exact Int.mul_nonneg h h
  · have := Int.mul_nonneg (show 0 ≤ -x by omega) (show 0 ≤ -x by omega)
    rwa [Int.neg_mul_neg] at this
theorem sq_le {x M : Int} (h1 : -M ≤ x) (h2 : x ≤ M) : x * x ≤ M * M := by
  by_cases h : 0 ≤ x
  · exact Int.mul_le_mul h2 h2 h (by omega)
  · have := Int.mul_le_mul (show -x ≤ M by omega) (show -x ≤ M by omega) (by omega) (by omega)
    rwa [Int.neg_mul_neg] at this
theorem orI_nat {a b : Nat} (ha : a < 9223372036854775808) (hb : b < 9223372036854775808) : orI .i64 (a : Int) (b : Int) = ((a ||| b : Nat) : Int) := by
  have h : a ||| b < 2 ^ 63 := Nat.or_lt_two_pow (by omega) (by omega)
  have e : (BitVec.ofInt IntKind.i64.bits (a : Int) ||| BitVec.ofInt IntKind.i64.bits (b : Int)).toNat = a ||| b := by
    show (BitVec.ofInt 64 (a : Int) ||| BitVec.ofInt 64 (b : Int)).toNat = _
    rw [BitVec.ofInt_natCast, BitVec.ofInt_natCast, BitVec.toNat_or, BitVec.toNat_ofNat, BitVec.toNat_ofNat, Nat.mod_eq_of_lt (by omega), Nat.mod_eq_of_lt (by omega)]
  unfold orI
  rw [e]
  exact w64_nat (by omega)
theorem shlI_one {k : Nat} (hk : k < 63) : shlI .i64 1 (k : Int) = ((2 ^ k : Nat) : Int) := by
  have h : 2 ^ k < 2 ^ 63 := Nat.pow_lt_pow_right (by omega) hk
  have e : min ((k : Int).toNat) IntKind.i64.bits = k := by
    show min k 64 = k
    omega
  unfold shlI
  rw [e]
  have e2 : (1 : Int) * 2 ^ k = ((2 ^ k : Nat) : Int) := by simp
  rw [e2]
  exact w64_nat (by omega)

theorem toNat_nat (m : Nat) : ((m : Int)).toNat = m := rfl
theorem inb {m n : Nat} (h : m < n) : 0 ≤ (m : Int) ∧ (m : Int) < ((n : Nat) : Int) := ⟨by omega, by omega⟩
theorem dec_lt {m n : Nat} (h : m < n) : decide ((m : Int) < ((n : Nat) : Int)) = true := by simp; omega
theorem dec_nlt {n : Nat} : decide ((n : Int) < ((n : Nat) : Int)) = false := by simp
end Go.Den

namespace Go.Den
open Go.Ab

/-- A name that the document allows, as a loop over its bytes. -/
def nameBad (s : ByteArray) (m : Nat) : Bool :=
  cond (!(cond (cond (decide (byteAt s m ≥ 97)) (decide (byteAt s m ≤ 122)) false) true (cond (decide (byteAt s m ≥ 65)) (decide (byteAt s m ≤ 90)) false))) (cond ((m : Int) == 0) true (!(cond (cond (decide (byteAt s m ≥ 48)) (decide (byteAt s m ≤ 57)) false) true (byteAt s m == 45)))) false
def nameOk (s : ByteArray) : Bool :=
  cond (cond (streq s ByteArray.empty) true (decide (((s.size : Nat) : Int) > 12))) false (scan (fun m => cond (nameBad s m) (some false) none) true s.size 0)

theorem streq_empty (s : ByteArray) : streq s ByteArray.empty = decide (((s.size : Nat) : Int) < 1) := by
  rw [Bool.eq_iff_iff, streq_iff, decide_eq_true_eq]
  constructor
  · rintro rfl; decide
  · intro h
    have : s.size = 0 := by omega
    cases s with | mk d => 
    have : d.size = 0 := this
    simp [Array.size_eq_zero_iff.1 this]; rfl
theorem nameBad_eq (s : ByteArray) (m : Nat) : nameBad s m = cond (!(cond (cond (decide (byteAt s m ≥ 97)) (decide (byteAt s m ≤ 122)) false) true (cond (decide (byteAt s m ≥ 65)) (decide (byteAt s m ≤ 90)) false))) (cond ((m : Int) == 0) true (cond (byteAt s m != 45) (cond (decide (byteAt s m < 48)) true (decide (byteAt s m > 57))) false)) false := by
  unfold nameBad
  generalize byteAt s m = b
  rw [Bool.eq_iff_iff]
  simp [Bool.cond_eq_ite]
  omega
theorem bytesL_at (s : ByteArray) (m : Nat) (h : m < s.size) : (bytesL s).getD m 0 = byteAt s m := by
  have := bytesL_get s m (by rw [← bytesL_len]; exact h)
  simpa [cU] using this
end Go.Den

namespace Go.Den
open Go.Ab

def ins (n lo hi : Int) : Bool := cond (decide (n ≥ lo)) (decide (n ≤ hi)) false
theorem ins_iff {n lo hi : Int} : ins n lo hi = true ↔ lo ≤ n ∧ n ≤ hi := by unfold ins; simp [Bool.cond_eq_ite]
theorem inside_eq (N : Nat) (n lo hi : Int) : g_keelblockref06_inside N n lo hi = some (ins n lo hi) := rfl
theorem outside_eq (N : Nat) (n lo hi : Int) : g_berth_outside N n lo hi = some (!ins n lo hi) := by
  unfold g_berth_outside ins
  congr 1
  rw [Bool.eq_iff_iff]; simp [Bool.cond_eq_ite]
theorem named_eq {N : Nat} (hN : 12 < N) (s : ByteArray) : g_berth_named N s = some (nameOk s) := by
  unfold g_berth_named nameOk
  cases h : cond (streq s ByteArray.empty) true (decide (((s.size : Nat) : Int) > 12))
  · have hs : s.size ≤ 12 := by
      cases h2 : streq s ByteArray.empty <;> rw [h2] at h <;> simp at h; omega
    refine loop_scan0 (L := fun fuel => g_berth_named_L1 N s fuel) _ _ (by omega) (fun fuel m hm => ?_) (fun fuel => ?_)
    · simp only [g_berth_named_L1, dec_lt hm, cond_true, if_pos (inb hm), w64_succ (show m < 9223372036854775807 by omega), toNat_nat]
      show cond (nameBad s m) _ _ = _
      cases nameBad s m <;> rfl
    · simp only [g_berth_named_L1, dec_nlt, cond_false]
  · rfl
theorem IsName_eq {N : Nat} (hN : 12 < N) (s : ByteArray) : g_keelblockbase_IsName N s = some (nameOk s) := by
  unfold g_keelblockbase_IsName nameOk
  rw [streq_empty]
  cases h : cond (decide (((s.size : Nat) : Int) < 1)) true (decide (((s.size : Nat) : Int) > 12))
  · have hs : s.size ≤ 12 := by
      cases h2 : decide (((s.size : Nat) : Int) < 1) <;> rw [h2] at h <;> simp at h; omega
    refine loop_scan0 (L := fun fuel => g_keelblockbase_IsName_L1 N s fuel) _ _ (by omega) (fun fuel m hm => ?_) (fun fuel => ?_)
    · simp only [g_keelblockbase_IsName_L1, dec_lt hm, cond_true, if_pos (inb hm), w64_succ (show m < 9223372036854775807 by omega), toNat_nat]
      have e : nameBad s m = cond (!(cond (cond (decide (byteAt s m ≥ 97)) (decide (byteAt s m ≤ 122)) false) true (cond (decide (byteAt s m ≥ 65)) (decide (byteAt s m ≤ 90)) false))) (cond ((m : Int) == 0) true (cond (byteAt s m != 45) (cond (decide (byteAt s m < 48)) true (decide (byteAt s m > 57))) false)) false := by
        unfold nameBad
        generalize byteAt s m = b
        rw [Bool.eq_iff_iff]
        simp [Bool.cond_eq_ite]
        omega
      rw [← e]
      cases nameBad s m <;> rfl
    · simp only [g_keelblockbase_IsName_L1, dec_nlt, cond_false]
  · rfl

end Go.Den

namespace Go.Den
open Go.Ab

theorem ins_to {f t : Int} (h : ins f (-1000000) 1000000 = true) : ins t f 1000000 = (ins t (-1000000) 1000000 && !(decide (t < f))) := by
  rw [ins_iff] at h
  rw [Bool.eq_iff_iff]; simp [ins_iff]; omega

/-! ### Crane -/
def craneCode (x : Tapi_Crane) : Int := cond (ins x.f_Rail 0 10 && ins x.f_From (-1000000) 1000000 && ins x.f_To (-1000000) 1000000 && !(decide (x.f_To < x.f_From)) && ins x.f_Reach 0 1000000 && ins x.f_Mass 0 1000000000) 0 2

theorem craneCheck_eq (N : Nat) (x : Tapi_Crane) : g_berth_CheckCranes_2 N x = some (craneCode x) := by
  unfold g_berth_CheckCranes_2 craneCode
  simp only [outside_eq, g_berth_ranged]
  generalize decide (x.f_To < x.f_From) = bl, ins x.f_Rail 0 10 = b0, ins x.f_From (-1000000) 1000000 = b1, ins x.f_To (-1000000) 1000000 = b2, ins x.f_Reach 0 1000000 = b3, ins x.f_Mass 0 1000000000 = b4
  cases b0 <;> cases b1 <;> cases b2 <;> cases bl <;> cases b3 <;> cases b4 <;> rfl
def dupCrane (l : List Tapi_Crane) (m : Nat) : Bool := scan (fun k => cond (streq (l.getD k Tapi_Crane.d).f_Name (l.getD m Tapi_Crane.d).f_Name) (some true) none) false m 0
def stepCrane (l : List Tapi_Crane) (m : Nat) : Option Int :=
  cond (!nameOk (l.getD m Tapi_Crane.d).f_Name) (some 4) (cond (dupCrane l m) (some 5) (cond (craneCode (l.getD m Tapi_Crane.d) != 0) (some (craneCode (l.getD m Tapi_Crane.d))) none))
def cranesCode (l : List Tapi_Crane) : Int := cond (decide (((l.length : Nat) : Int) > 4)) 8 (scan (stepCrane l) 0 l.length 0)

theorem contains_crane {N : Nat} (l : List Tapi_Crane) (m : Nat) (hm : m < l.length) (hN : l.length < N) (hl : l.length ≤ 4) : g_slices_ContainsFunc_api_Crane_api_Crane N ((l.take m).drop 0) (l.getD m Tapi_Crane.d) = some (dupCrane l m) := by
  have hlen : ((l.take m).drop 0).length = m := by simp; omega
  have e : g_slices_IndexFunc_api_Crane_api_Crane N ((l.take m).drop 0) (l.getD m Tapi_Crane.d) = some (scan (fun k => cond (streq (l.getD k Tapi_Crane.d).f_Name (l.getD m Tapi_Crane.d).f_Name) (some (k : Int)) none) (-1) m 0) := by
    unfold g_slices_IndexFunc_api_Crane_api_Crane
    refine loop_scan0 (L := fun fuel => g_slices_IndexFunc_api_Crane_api_Crane_L1 N ((l.take m).drop 0) (l.getD m Tapi_Crane.d) fuel) _ _ (by omega) (fun fuel k hk => ?_) (fun fuel => ?_)
    · simp only [g_slices_IndexFunc_api_Crane_api_Crane_L1, hlen, dec_lt hk, cond_true, if_pos (inb hk), w64_succ (show k < 9223372036854775807 by omega), toNat_nat, getD_take l m k _ hk, g_berth_check_Crane_1, g_berth_CheckCranes_1, Option.bind_some]
      cases streq (l.getD k Tapi_Crane.d).f_Name (l.getD m Tapi_Crane.d).f_Name <;> rfl
    · simp only [g_slices_IndexFunc_api_Crane_api_Crane_L1, hlen, dec_nlt, cond_false]
  unfold g_slices_ContainsFunc_api_Crane_api_Crane
  rw [e, Option.bind_some, scan_index]
  rfl

theorem checkCranes_eq {N : Nat} (hN : 13 < N) (l : List Tapi_Crane) : g_berth_CheckCranes N l = some (cranesCode l) := by
  unfold g_berth_CheckCranes g_berth_check_Crane cranesCode
  cases h : decide (((l.length : Nat) : Int) > 4)
  · have hl : l.length ≤ 4 := by simp at h; omega
    have e : g_berth_check_Crane_L1 N l N 0 = some (scan (stepCrane l) 0 l.length 0) := by
      refine loop_scan0 (L := fun fuel => g_berth_check_Crane_L1 N l fuel) _ _ (by omega) (fun fuel m hm => ?_) (fun fuel => ?_)
      · simp only [g_berth_check_Crane_L1, dec_lt hm, cond_true, if_pos (inb hm), w64_succ (show m < 9223372036854775807 by omega), toNat_nat, g_berth_CheckCranes_1, Option.bind_some, named_eq (show 12 < N by omega), contains_crane l m hm (show l.length < N by omega) hl, craneCheck_eq,
          if_pos (show 0 ≤ m ∧ m ≤ l.length from ⟨Nat.zero_le _, by omega⟩), if_pos (show 0 ≤ (m : Int) from Int.natCast_nonneg _)]
        unfold stepCrane
        cases nameOk (l.getD m Tapi_Crane.d).f_Name <;> cases dupCrane l m <;> cases (craneCode (l.getD m Tapi_Crane.d) != 0) <;> rfl
      · simp only [g_berth_check_Crane_L1, dec_nlt, cond_false]
    rw [cond_false, cond_false, e]; rfl
  · rfl

theorem craneOf_eq {N : Nat} (l : List Tapi_Crane) (s : ByteArray) (hN : l.length < N) (hl : l.length < 9223372036854775807) : g_keelblockref06_CraneOf N l s = some (scan (fun k => cond (streq (l.getD k Tapi_Crane.d).f_Name s) (some (k : Int)) none) (-1) l.length 0) := by
  unfold g_keelblockref06_CraneOf
  refine loop_scan0 (L := fun fuel => g_keelblockref06_CraneOf_L1 N l s fuel) _ _ hN (fun fuel m hm => ?_) (fun fuel => ?_)
  · simp only [g_keelblockref06_CraneOf_L1, dec_lt hm, cond_true, if_pos (inb hm), w64_succ (show m < 9223372036854775807 by omega), toNat_nat]
    cases streq (l.getD m Tapi_Crane.d).f_Name s <;> rfl
  · simp only [g_keelblockref06_CraneOf_L1, dec_nlt, cond_false]

theorem refCranes_eq {N : Nat} (hN : 13 < N) (l : List Tapi_Crane) : g_keelblockref06_CheckCranes N l = some (cranesCode l) := by
  unfold g_keelblockref06_CheckCranes cranesCode
  cases h : decide (((l.length : Nat) : Int) > 4)
  · have hl : l.length ≤ 4 := by simp at h; omega
    rw [cond_false, cond_false]
    refine loop_scan0 (L := fun fuel => g_keelblockref06_CheckCranes_L1 N l fuel) _ _ (by omega) (fun fuel m hm => ?_) (fun fuel => ?_)
    · have hd : (scan (fun k => cond (streq (l.getD k Tapi_Crane.d).f_Name (l.getD m Tapi_Crane.d).f_Name) (some (k : Int)) none) (-1) l.length 0 != (m : Int)) = dupCrane l m :=
        scan_first (p := fun k => streq (l.getD k Tapi_Crane.d).f_Name (l.getD m Tapi_Crane.d).f_Name) (streq_iff.2 rfl) l.length 0 (Nat.zero_le _) (by omega)
      simp only [g_keelblockref06_CheckCranes_L1, dec_lt hm, cond_true, if_pos (inb hm), toNat_nat, IsName_eq (show 12 < N by omega), Option.bind_some, craneOf_eq l _ (show l.length < N by omega) (by omega), w64_succ (show m < 9223372036854775807 by omega), hd, if_pos (fun _ => inb hm), inside_eq]
      unfold stepCrane
      cases nameOk (l.getD m Tapi_Crane.d).f_Name
      · rfl
      · cases dupCrane l m
        · simp only [Bool.not_true, cond_false]
          unfold craneCode
          have eT : ∀ q : Bool, q = ins (l.getD m Tapi_Crane.d).f_From (-1000000) 1000000 → q = true → ins (l.getD m Tapi_Crane.d).f_To (l.getD m Tapi_Crane.d).f_From 1000000 = (ins (l.getD m Tapi_Crane.d).f_To (-1000000) 1000000 && !(decide ((l.getD m Tapi_Crane.d).f_To < (l.getD m Tapi_Crane.d).f_From))) := by
            intro q h1 h2
            rw [h1] at h2
            exact ins_to h2
          generalize hb1 : ins (l.getD m Tapi_Crane.d).f_From (-1000000) 1000000 = b1
          have eT := eT b1 hb1.symm
          generalize ins (l.getD m Tapi_Crane.d).f_To (l.getD m Tapi_Crane.d).f_From 1000000 = bt at eT ⊢
          generalize ins (l.getD m Tapi_Crane.d).f_Rail 0 10 = b0, ins (l.getD m Tapi_Crane.d).f_To (-1000000) 1000000 = b2, decide ((l.getD m Tapi_Crane.d).f_To < (l.getD m Tapi_Crane.d).f_From) = bl, ins (l.getD m Tapi_Crane.d).f_Reach 0 1000000 = b3, ins (l.getD m Tapi_Crane.d).f_Mass 0 1000000000 = b4 at eT ⊢
          cases b1
          · cases b0 <;> rfl
          · have eT := eT rfl
            subst eT
            cases b0 <;> cases b2 <;> cases bl <;> cases b3 <;> cases b4 <;> rfl
        · rfl
    · simp only [g_keelblockref06_CheckCranes_L1, dec_nlt, cond_false]
  · rfl

/-! ### Lift -/
def liftCode (x : Tapi_Lift) : Int := cond (ins x.f_X (-1000000) 1000000 && ins x.f_Out 0 1000000 && ins x.f_Mass 0 1000000000 && ins x.f_Start 0 1000000 && ins x.f_End 0 1000000) (cond (decide (x.f_End ≤ x.f_Start)) 10 0) 2

theorem liftCheck_eq (N : Nat) (x : Tapi_Lift) : g_berth_CheckLifts_2 N x = some (liftCode x) := by
  unfold g_berth_CheckLifts_2 liftCode
  simp only [outside_eq, g_berth_ranged]
  generalize decide (x.f_End ≤ x.f_Start) = bl, ins x.f_X (-1000000) 1000000 = b0, ins x.f_Out 0 1000000 = b1, ins x.f_Mass 0 1000000000 = b2, ins x.f_Start 0 1000000 = b3, ins x.f_End 0 1000000 = b4
  cases bl <;> cases b0 <;> cases b1 <;> cases b2 <;> cases b3 <;> cases b4 <;> rfl
def dupLift (l : List Tapi_Lift) (m : Nat) : Bool := scan (fun k => cond (streq (l.getD k Tapi_Lift.d).f_Name (l.getD m Tapi_Lift.d).f_Name) (some true) none) false m 0
def stepLift (l : List Tapi_Lift) (m : Nat) : Option Int :=
  cond (!nameOk (l.getD m Tapi_Lift.d).f_Name) (some 4) (cond (dupLift l m) (some 5) (cond (liftCode (l.getD m Tapi_Lift.d) != 0) (some (liftCode (l.getD m Tapi_Lift.d))) none))
def liftsCode (l : List Tapi_Lift) : Int := cond (decide (((l.length : Nat) : Int) > 8)) 8 (scan (stepLift l) 0 l.length 0)

theorem contains_lift {N : Nat} (l : List Tapi_Lift) (m : Nat) (hm : m < l.length) (hN : l.length < N) (hl : l.length ≤ 8) : g_slices_ContainsFunc_api_Lift_api_Lift N ((l.take m).drop 0) (l.getD m Tapi_Lift.d) = some (dupLift l m) := by
  have hlen : ((l.take m).drop 0).length = m := by simp; omega
  have e : g_slices_IndexFunc_api_Lift_api_Lift N ((l.take m).drop 0) (l.getD m Tapi_Lift.d) = some (scan (fun k => cond (streq (l.getD k Tapi_Lift.d).f_Name (l.getD m Tapi_Lift.d).f_Name) (some (k : Int)) none) (-1) m 0) := by
    unfold g_slices_IndexFunc_api_Lift_api_Lift
    refine loop_scan0 (L := fun fuel => g_slices_IndexFunc_api_Lift_api_Lift_L1 N ((l.take m).drop 0) (l.getD m Tapi_Lift.d) fuel) _ _ (by omega) (fun fuel k hk => ?_) (fun fuel => ?_)
    · simp only [g_slices_IndexFunc_api_Lift_api_Lift_L1, hlen, dec_lt hk, cond_true, if_pos (inb hk), w64_succ (show k < 9223372036854775807 by omega), toNat_nat, getD_take l m k _ hk, g_berth_check_Lift_1, g_berth_CheckLifts_1, Option.bind_some]
      cases streq (l.getD k Tapi_Lift.d).f_Name (l.getD m Tapi_Lift.d).f_Name <;> rfl
    · simp only [g_slices_IndexFunc_api_Lift_api_Lift_L1, hlen, dec_nlt, cond_false]
  unfold g_slices_ContainsFunc_api_Lift_api_Lift
  rw [e, Option.bind_some, scan_index]
  rfl

theorem checkLifts_eq {N : Nat} (hN : 13 < N) (l : List Tapi_Lift) : g_berth_CheckLifts N l = some (liftsCode l) := by
  unfold g_berth_CheckLifts g_berth_check_Lift liftsCode
  cases h : decide (((l.length : Nat) : Int) > 8)
  · have hl : l.length ≤ 8 := by simp at h; omega
    have e : g_berth_check_Lift_L1 N l N 0 = some (scan (stepLift l) 0 l.length 0) := by
      refine loop_scan0 (L := fun fuel => g_berth_check_Lift_L1 N l fuel) _ _ (by omega) (fun fuel m hm => ?_) (fun fuel => ?_)
      · simp only [g_berth_check_Lift_L1, dec_lt hm, cond_true, if_pos (inb hm), w64_succ (show m < 9223372036854775807 by omega), toNat_nat, g_berth_CheckLifts_1, Option.bind_some, named_eq (show 12 < N by omega), contains_lift l m hm (show l.length < N by omega) hl, liftCheck_eq,
          if_pos (show 0 ≤ m ∧ m ≤ l.length from ⟨Nat.zero_le _, by omega⟩), if_pos (show 0 ≤ (m : Int) from Int.natCast_nonneg _)]
        unfold stepLift
        cases nameOk (l.getD m Tapi_Lift.d).f_Name <;> cases dupLift l m <;> cases (liftCode (l.getD m Tapi_Lift.d) != 0) <;> rfl
      · simp only [g_berth_check_Lift_L1, dec_nlt, cond_false]
    rw [cond_false, cond_false, e]; rfl
  · rfl

theorem refLifts_eq {N : Nat} (hN : 13 < N) (l : List Tapi_Lift) : g_keelblockref06_CheckLifts N l = some (liftsCode l) := by
  unfold g_keelblockref06_CheckLifts liftsCode
  cases h : decide (((l.length : Nat) : Int) > 8)
  · have hl : l.length ≤ 8 := by simp at h; omega
    rw [cond_false, cond_false]
    refine loop_scan0 (L := fun fuel => g_keelblockref06_CheckLifts_L1 N l fuel) _ _ (by omega) (fun fuel m hm => ?_) (fun fuel => ?_)
    · simp only [g_keelblockref06_CheckLifts_L1, dec_lt hm, cond_true, if_pos (inb hm), toNat_nat, IsName_eq (show 12 < N by omega), Option.bind_some]
      unfold stepLift
      cases nameOk (l.getD m Tapi_Lift.d).f_Name
      · rfl
      · simp only [Bool.not_true, cond_false]
        have e : g_keelblockref06_CheckLifts_L2 N l (m : Int) (g_keelblockref06_CheckLifts_L1 N l fuel) N 0 = scan (fun k => cond (streq (l.getD k Tapi_Lift.d).f_Name (l.getD m Tapi_Lift.d).f_Name) (some (some 5)) none) (cond (liftCode (l.getD m Tapi_Lift.d) != 0) (some (liftCode (l.getD m Tapi_Lift.d))) (g_keelblockref06_CheckLifts_L1 N l fuel ((m + 1 : Nat) : Int))) m 0 := by
          refine loop_scanR0 (L := fun f => g_keelblockref06_CheckLifts_L2 N l (m : Int) (g_keelblockref06_CheckLifts_L1 N l fuel) f) _ _ (by omega) (fun f k hk => ?_) (fun f => ?_)
          · have hk2 : k < l.length := by omega
            simp only [g_keelblockref06_CheckLifts_L2, dec_lt hk, cond_true, if_pos (inb hk2), toNat_nat, w64_succ (show k < 9223372036854775807 by omega)]
            cases streq (l.getD k Tapi_Lift.d).f_Name (l.getD m Tapi_Lift.d).f_Name <;> rfl
          · simp only [g_keelblockref06_CheckLifts_L2, dec_nlt, cond_false, toNat_nat, inside_eq, w64_succ (show m < 9223372036854775807 by omega)]
            unfold liftCode
            generalize decide ((l.getD m Tapi_Lift.d).f_End ≤ (l.getD m Tapi_Lift.d).f_Start) = bl, ins (l.getD m Tapi_Lift.d).f_X (-1000000) 1000000 = b0, ins (l.getD m Tapi_Lift.d).f_Out 0 1000000 = b1, ins (l.getD m Tapi_Lift.d).f_Mass 0 1000000000 = b2, ins (l.getD m Tapi_Lift.d).f_Start 0 1000000 = b3, ins (l.getD m Tapi_Lift.d).f_End 0 1000000 = b4
            cases bl <;> cases b0 <;> cases b1 <;> cases b2 <;> cases b3 <;> cases b4 <;> rfl
        rw [e, scan_bool]
        unfold dupLift
        cases scan (fun k => cond (streq (l.getD k Tapi_Lift.d).f_Name (l.getD m Tapi_Lift.d).f_Name) (some true) none) false m 0
        · simp only [cond_false]
          cases liftCode (l.getD m Tapi_Lift.d) != 0 <;> rfl
        · rfl
    · simp only [g_keelblockref06_CheckLifts_L1, dec_nlt, cond_false]
  · rfl
end Go.Den

namespace Go.Den
open Go.Ab

def cr (c : List Tapi_Crane) (i : Int) : Tapi_Crane := c.getD i.toNat Tapi_Crane.d
def ableB (c : Tapi_Crane) (l : Tapi_Lift) : Bool := ins l.f_X c.f_From c.f_To && decide (l.f_Out ≤ c.f_Reach) && decide (l.f_Mass ≤ c.f_Mass)
def aheadB (c : List Tapi_Crane) (i k : Int) : Bool := (cr c i).f_Rail == (cr c k).f_Rail && (decide ((cr c i).f_From < (cr c k).f_From) || ((cr c i).f_From == (cr c k).f_From && decide (i < k)))
def clashB (c : List Tapi_Crane) (a b : Tapi_Lift) (i k : Int) : Bool :=
  !(decide (a.f_Start ≥ b.f_End) || decide (b.f_Start ≥ a.f_End)) && (i == k || (aheadB c i k && decide (a.f_X ≥ b.f_X)) || (aheadB c k i && decide (b.f_X ≥ a.f_X)))

theorem able_eq (N : Nat) (c : Tapi_Crane) (l : Tapi_Lift) : g_berth_able N c l = some (ableB c l) := by
  unfold g_berth_able ableB
  rw [outside_eq, Option.bind_some]
  cases ins l.f_X c.f_From c.f_To <;> simp [Bool.cond_eq_ite] <;> rfl
theorem refAble_eq (N : Nat) (c : Tapi_Crane) (l : Tapi_Lift) : g_keelblockref06_Able N c l = some (ableB c l) := by
  unfold g_keelblockref06_Able ableB ins
  simp [Bool.cond_eq_ite, Bool.and_assoc]
theorem ahead_eq (N : Nat) (c : List Tapi_Crane) {i k : Int} (hi : 0 ≤ i ∧ i < (c.length : Int)) (hk : 0 ≤ k ∧ k < (c.length : Int)) : g_keelblockref06_Ahead N c i k = some (aheadB c i k) := by
  unfold g_keelblockref06_Ahead aheadB cr
  simp only [if_pos hi, if_pos hk, if_pos (fun _ => hi), if_pos (fun _ => hk)]
  congr 1
  generalize ((c.getD i.toNat Tapi_Crane.d).f_Rail == (c.getD k.toNat Tapi_Crane.d).f_Rail) = b1, decide ((c.getD i.toNat Tapi_Crane.d).f_From < (c.getD k.toNat Tapi_Crane.d).f_From) = b2, ((c.getD i.toNat Tapi_Crane.d).f_From == (c.getD k.toNat Tapi_Crane.d).f_From) = b3
  cases b1 <;> cases b2 <;> cases b3 <;> rfl
theorem refClash_eq (N : Nat) (c : List Tapi_Crane) (a b : Tapi_Lift) {i k : Int} (hi : 0 ≤ i ∧ i < (c.length : Int)) (hk : 0 ≤ k ∧ k < (c.length : Int)) : g_keelblockref06_clash N c a b i k = some (clashB c a b i k) := by
  unfold g_keelblockref06_clash clashB
  rw [ahead_eq N c hi hk, ahead_eq N c hk hi]
  generalize decide (a.f_Start ≥ b.f_End) = b1, decide (b.f_Start ≥ a.f_End) = b2, (i == k) = b3, aheadB c i k = b4, aheadB c k i = b5, decide (a.f_X ≥ b.f_X) = b6, decide (b.f_X ≥ a.f_X) = b7
  cases b1 <;> cases b2 <;> cases b3 <;> cases b4 <;> cases b5 <;> cases b6 <;> cases b7 <;> rfl
theorem clash_eq (N : Nat) (c : List Tapi_Crane) (a b : Tapi_Lift) {i k : Int} (hi : 0 ≤ i ∧ i < (c.length : Int)) (hk : 0 ≤ k ∧ k < (c.length : Int)) : g_berth_clash N c a b i k = some (clashB c a b i k) := by
  unfold g_berth_clash clashB aheadB cr
  simp only [if_pos hi, if_pos hk, if_pos (fun _ => hi), if_pos (fun _ => hk)]
  generalize decide (a.f_Start ≥ b.f_End) = b1, decide (b.f_Start ≥ a.f_End) = b2, decide (a.f_X ≥ b.f_X) = b6, decide (b.f_X ≥ a.f_X) = b7
  generalize (c.getD i.toNat Tapi_Crane.d).f_Rail = r1, (c.getD k.toNat Tapi_Crane.d).f_Rail = r2, (c.getD i.toNat Tapi_Crane.d).f_From = f1, (c.getD k.toNat Tapi_Crane.d).f_From = f2
  cases b1 <;> cases b2 <;> try rfl
  by_cases h : i = k
  · subst h; simp
  · have h1 : (i == k) = false := by simpa using h
    rw [h1]
    by_cases hr : r1 = r2
    · subst hr
      rcases Int.lt_trichotomy f1 f2 with hf | hf | hf
      · have e1 : decide (f2 < f1) = false := decide_eq_false (by omega)
        have e2 : (f2 == f1) = false := by simp; omega
        have e3 : (f1 == f2) = false := by simp; omega
        rw [decide_eq_true hf, e1, e2, e3]
        cases b6 <;> cases b7 <;> simp
      · subst hf
        rcases Int.lt_trichotomy i k with hl | hl | hl
        · rw [decide_eq_true hl, decide_eq_false (show ¬ k < i by omega)]
          cases b6 <;> cases b7 <;> simp
        · exact absurd hl h
        · rw [decide_eq_true hl, decide_eq_false (show ¬ i < k by omega)]
          cases b6 <;> cases b7 <;> simp
      · have e1 : decide (f1 < f2) = false := decide_eq_false (by omega)
        have e2 : (f2 == f1) = false := by simp; omega
        have e3 : (f1 == f2) = false := by simp; omega
        rw [decide_eq_true hf, e1, e2, e3]
        cases b6 <;> cases b7 <;> simp
    · have e1 : (r1 == r2) = false := by simpa using hr
      have e2 : (r2 == r1) = false := by simpa using fun h => hr h.symm
      have e3 : (r1 != r2) = true := by simpa using hr
      rw [e1, e2, e3]; simp

/-- Whether the crane k can make the lift behind those of p, which the cranes of p make. -/
def badB (c : List Tapi_Crane) (l : List Tapi_Lift) (p : List Int) (k : Int) : Bool :=
  scan (fun j => cond (clashB c (l.getD p.length Tapi_Lift.d) (l.getD j Tapi_Lift.d) k (p.getD j 0)) (some true) none) false p.length 0
def goodB (c : List Tapi_Crane) (l : List Tapi_Lift) (p : List Int) (k : Int) : Bool := ableB (cr c k) (l.getD p.length Tapi_Lift.d) && !badB c l p k
def find (c : List Tapi_Crane) (l : List Tapi_Lift) : Nat → List Int → Option (List Int)
  | 0, p => some p
  | n + 1, p => scan (fun k => cond (goodB c l p (k : Int)) ((find c l n (p ++ [(k : Int)])).map some) none) none c.length 0

def PlacesOk (c : List Tapi_Crane) (p : List Int) : Prop := ∀ j, j < p.length → 0 ≤ p.getD j 0 ∧ p.getD j 0 < (c.length : Int)
theorem PlacesOk.snoc {c : List Tapi_Crane} {p : List Int} (h : PlacesOk c p) {k : Nat} (hk : k < c.length) : PlacesOk c (p ++ [(k : Int)]) := by
  intro j hj
  rw [List.length_append, List.length_singleton] at hj
  by_cases hjl : j < p.length
  · have := h j hjl
    simpa [List.getD_eq_getElem?_getD, List.getElem?_append_left hjl] using this
  · have : j = p.length := by omega
    subst this
    simp [List.getD_eq_getElem?_getD]; omega
theorem find_ok {c : List Tapi_Crane} {l : List Tapi_Lift} : ∀ (n : Nat) (p r : List Int), PlacesOk c p → find c l n p = some r → PlacesOk c r ∧ r.length = p.length + n
  | 0, p, r, h, e => by simp only [find, Option.some.injEq] at e; subst e; exact ⟨h, rfl⟩
  | n + 1, p, r, h, e => by
    rw [find] at e
    rcases scan_inv (f := fun k => cond (goodB c l p (k : Int)) ((find c l n (p ++ [(k : Int)])).map some) none) (z := none) c.length 0 with ⟨i, q, h1, h2, h3, h4, h5⟩ | ⟨h1, h2⟩
    · rw [e] at h5
      subst h5
      cases hg : goodB c l p (i : Int) <;> rw [hg] at h3
      · cases h3
      · simp only [cond_true, Option.map_eq_some_iff, Option.some.injEq] at h3
        obtain ⟨a, ha, rfl⟩ := h3
        obtain ⟨q1, q2⟩ := find_ok n _ _ (h.snoc (by omega)) ha
        exact ⟨q1, by rw [q2]; simp; omega⟩
    · rw [e] at h2; cases h2

theorem inR {m n : Nat} (h : m < n) : 0 ≤ (m : Int) ∧ (m : Int) < (n : Int) := ⟨by omega, by omega⟩

def outR : Option (List Int) → List Int × Bool
  | some r => (r, true)
  | none => ([], false)
theorem hoisted_eq {N : Nat} {c : List Tapi_Crane} {l : List Tapi_Lift} (hN : 13 < N) (hc : c.length ≤ 4) (hl : l.length ≤ 8) : ∀ (n fuel : Nat) (p : List Int), p.length + n = l.length → n < fuel → PlacesOk c p →
    g_keelblockref06_hoisted N fuel c l p = some (outR (find c l n p))
  | 0, fuel, p, h, hf, _ => by
    obtain ⟨f, rfl⟩ : ∃ f, fuel = f + 1 := ⟨fuel - 1, by omega⟩
    have e : (((p.length : Nat) : Int) == ((l.length : Nat) : Int)) = true := by simp; omega
    simp only [g_keelblockref06_hoisted, e, cond_true, find, outR]
  | n + 1, fuel, p, h, hf, hp => by
    obtain ⟨f, rfl⟩ : ∃ f, fuel = f + 1 := ⟨fuel - 1, by omega⟩
    have e : (((p.length : Nat) : Int) == ((l.length : Nat) : Int)) = false := by simp; omega
    simp only [g_keelblockref06_hoisted, e, cond_false, find]
    have hpl : p.length < l.length := by omega
    have step : ∀ (k : Nat), k < c.length → ∀ K : Int → Option (List Int × Bool), g_keelblockref06_hoisted_L2 N c l p (k : Int) (g_keelblockref06_hoisted N f) K N (ableB (cr c (k : Int)) (l.getD p.length Tapi_Lift.d)) 0 =
        (match (cond (goodB c l p (k : Int)) ((find c l n (p ++ [(k : Int)])).map some) none : Option (Option (List Int))) with | some r => some (outR r) | none => K ((k + 1 : Nat) : Int)) := by
      intro k hk K
      -- the loop over the lifts before
      have key : ∀ (d j fuel : Nat) (good : Bool), j + d = p.length → d < fuel → g_keelblockref06_hoisted_L2 N c l p (k : Int) (g_keelblockref06_hoisted N f) K fuel good (j : Int) =
          (match (cond (good && !(scan (fun j => cond (clashB c (l.getD p.length Tapi_Lift.d) (l.getD j Tapi_Lift.d) (k : Int) (p.getD j 0)) (some true) none) false d j)) ((find c l n (p ++ [(k : Int)])).map some) none : Option (Option (List Int))) with
            | some r => some (outR r) | none => K ((k + 1 : Nat) : Int)) := by
        intro d
        induction d with
        | zero =>
          intro j fuel good hj hfu
          obtain ⟨g, rfl⟩ : ∃ g, fuel = g + 1 := ⟨fuel - 1, by omega⟩
          have : j = p.length := by omega
          subst this
          simp only [g_keelblockref06_hoisted_L2, dec_nlt, cond_false, scan, Bool.not_false, Bool.and_true, g_keelblockref06_hoisted_J3, w64_succ (show k < 9223372036854775807 by omega)]
          cases good
          · rfl
          · simp only [Bool.not_true, cond_false, cond_true]
            rw [if_pos (by omega), if_pos (by omega), List.nil_append, hoisted_eq hN hc hl n f (p ++ [(k : Int)]) (by simp; omega) (by omega) (hp.snoc hk)]
            cases find c l n (p ++ [(k : Int)]) <;> rfl
        | succ d ih =>
          intro j fuel good hj hfu
          obtain ⟨g, rfl⟩ : ∃ g, fuel = g + 1 := ⟨fuel - 1, by omega⟩
          have hjl : j < p.length := by omega
          cases good
          · simp only [g_keelblockref06_hoisted_L2, dec_lt hjl, cond_true, cond_false, g_keelblockref06_hoisted_J3, w64_succ (show k < 9223372036854775807 by omega), Bool.not_false, Bool.false_and]
          · simp only [g_keelblockref06_hoisted_L2, dec_lt hjl, cond_true, if_pos (inR hpl), if_pos (inR (show j < l.length by omega)), if_pos (inR hjl), toNat_nat, refClash_eq N c _ _ (inR hk) (hp j hjl), Option.bind_some, w64_succ (show j < 9223372036854775807 by omega)]
            rw [ih (j + 1) g _ (by omega) (by omega), scan]
            cases clashB c (l.getD p.length Tapi_Lift.d) (l.getD j Tapi_Lift.d) (k : Int) (p.getD j 0) <;> rfl
      rw [show (0 : Int) = ((0 : Nat) : Int) from rfl, key p.length 0 N _ (by omega) (by omega)]
      rfl
    have key : ∀ (d k fuel : Nat), k + d = c.length → d < fuel → g_keelblockref06_hoisted_L1 N c l p (g_keelblockref06_hoisted N f) fuel (k : Int) =
        some (outR (scan (fun k => cond (goodB c l p (k : Int)) ((find c l n (p ++ [(k : Int)])).map some) none) none d k)) := by
      intro d
      induction d with
      | zero =>
        intro k fuel hk hfu
        obtain ⟨g, rfl⟩ : ∃ g, fuel = g + 1 := ⟨fuel - 1, by omega⟩
        have : k = c.length := by omega
        subst this
        simp only [g_keelblockref06_hoisted_L1, dec_nlt, cond_false, scan, outR]
      | succ d ih =>
        intro k fuel hk hfu
        obtain ⟨g, rfl⟩ : ∃ g, fuel = g + 1 := ⟨fuel - 1, by omega⟩
        have hkc : k < c.length := by omega
        simp only [g_keelblockref06_hoisted_L1, dec_lt hkc, cond_true, if_pos (inR hkc), if_pos (inR hpl), refAble_eq, Option.bind_some]
        have := step k hkc (g_keelblockref06_hoisted_L1 N c l p (g_keelblockref06_hoisted N f) g)
        unfold cr at this
        rw [this, scan]
        generalize (cond (goodB c l p (k : Int)) ((find c l n (p ++ [(k : Int)])).map some) none : Option (Option (List Int))) = q
        cases q
        · exact ih (k + 1) g (by omega) (by omega)
        · rfl
    rw [show (0 : Int) = ((0 : Nat) : Int) from rfl]
    exact key c.length 0 N (by omega) (by omega)

theorem take_set {α : Type} (l : List α) (i : Nat) (x : α) (h : i < l.length) : (l.set i x).take (i + 1) = l.take i ++ [x] := by
  apply List.ext_getElem?
  intro m
  rcases Nat.lt_trichotomy m i with hm | hm | hm
  · rw [List.getElem?_take, if_pos (by omega), List.getElem?_append_left (by simp; omega), List.getElem?_take, if_pos hm, List.getElem?_set_ne (by omega)]
  · subst hm
    rw [List.getElem?_take, if_pos (by omega), List.getElem?_set_self h, List.getElem?_append_right (by simp; omega)]
    simp [Nat.min_eq_left (Nat.le_of_lt h)]
  · rw [List.getElem?_take, if_neg (by omega), List.getElem?_eq_none (by simp; omega)]

theorem give_eq {N : Nat} {c : List Tapi_Crane} {l : List Tapi_Lift} (hN : 13 < N) (hc : c.length ≤ 4) (hl : l.length ≤ 8) : ∀ (n fuel : Nat) (p pl : List Int), p.length + n = l.length → n < fuel → PlacesOk c p → pl.length = l.length → pl.take p.length = p →
    ∃ pl', pl'.length = l.length ∧ pl'.take p.length = p ∧ g_berth_Hoists_1 N fuel (p.length : Int) l c pl = some (match find c l n p with | some r => (true, r) | none => (false, pl'))
  | 0, fuel, p, pl, h, hf, _, hpl, htk => by
    obtain ⟨f, rfl⟩ : ∃ f, fuel = f + 1 := ⟨fuel - 1, by omega⟩
    have e : (((p.length : Nat) : Int) == ((l.length : Nat) : Int)) = true := by simp; omega
    have hpp : pl = p := by rw [← htk, List.take_of_length_le (by omega)]
    exact ⟨pl, hpl, htk, by simp only [g_berth_Hoists_1, e, cond_true, find, hpp]⟩
  | n + 1, fuel, p, pl, h, hf, hp, hpl, htk => by
    obtain ⟨f, rfl⟩ : ∃ f, fuel = f + 1 := ⟨fuel - 1, by omega⟩
    have e : (((p.length : Nat) : Int) == ((l.length : Nat) : Int)) = false := by simp; omega
    simp only [g_berth_Hoists_1, e, cond_false, find]
    have hpl' : p.length < l.length := by omega
    have key : ∀ (d k fuel : Nat) (pl : List Int), k + d = c.length → d < fuel → pl.length = l.length → pl.take p.length = p →
        ∃ pl', pl'.length = l.length ∧ pl'.take p.length = p ∧ g_berth_Hoists_1_L1 N (p.length : Int) l c (g_berth_Hoists_1 N f) fuel pl (k : Int) =
        some (match scan (fun k => cond (goodB c l p (k : Int)) ((find c l n (p ++ [(k : Int)])).map some) none) none d k with | some r => (true, r) | none => (false, pl')) := by
      intro d
      induction d with
      | zero =>
        intro k fuel pl hk hfu hpl htk
        obtain ⟨g, rfl⟩ : ∃ g, fuel = g + 1 := ⟨fuel - 1, by omega⟩
        have : k = c.length := by omega
        subst this
        exact ⟨pl, hpl, htk, by simp only [g_berth_Hoists_1_L1, dec_nlt, cond_false, scan]⟩
      | succ d ih =>
        intro k fuel pl hk hfu hpl htk
        obtain ⟨g, rfl⟩ : ∃ g, fuel = g + 1 := ⟨fuel - 1, by omega⟩
        have hkc : k < c.length := by omega
        have hget : ∀ j, j < p.length → pl.getD j 0 = p.getD j 0 := fun j hj => by
          rw [← htk]; simp [List.getD_eq_getElem?_getD, List.getElem?_take, hj]
        simp only [g_berth_Hoists_1_L1, dec_lt hkc, cond_true, if_pos (inR hkc), if_pos (inR hpl'), able_eq, Option.bind_some, toNat_nat]
        rw [scan]
        have hab : ableB (c.getD k Tapi_Crane.d) (l.getD p.length Tapi_Lift.d) = ableB (cr c (k : Int)) (l.getD p.length Tapi_Lift.d) := rfl
        rw [hab]
        cases ha : ableB (cr c (k : Int)) (l.getD p.length Tapi_Lift.d)
        · obtain ⟨pl', q1, q2, q3⟩ := ih (k + 1) g pl (by omega) (by omega) hpl htk
          refine ⟨pl', q1, q2, ?_⟩
          have hg : goodB c l p (k : Int) = false := by unfold goodB; rw [ha]; rfl
          rw [hg]
          simp only [Bool.not_false, cond_true, cond_false, g_berth_Hoists_1_J2, w64_succ (show k < 9223372036854775807 by omega), q3]
        · have hg : goodB c l p (k : Int) = !badB c l p (k : Int) := by unfold goodB; rw [ha]; rfl
          rw [hg]
          simp only [Bool.not_true, cond_false]
          have hL3 : g_berth_Hoists_1_L3 N (p.length : Int) l c pl (k : Int) (g_berth_Hoists_1 N f) (g_berth_Hoists_1_L1 N (p.length : Int) l c (g_berth_Hoists_1 N f) g) N 0 =
              scan (fun j => cond (clashB c (l.getD p.length Tapi_Lift.d) (l.getD j Tapi_Lift.d) (k : Int) (p.getD j 0)) (some (g_berth_Hoists_1_L1 N (p.length : Int) l c (g_berth_Hoists_1 N f) g pl ((k + 1 : Nat) : Int))) none)
                ((g_berth_Hoists_1 N f ((p.length + 1 : Nat) : Int) l c (pl.set p.length (k : Int))).bind fun r => cond r.1 (some (true, r.2)) (g_berth_Hoists_1_L1 N (p.length : Int) l c (g_berth_Hoists_1 N f) g r.2 ((k + 1 : Nat) : Int))) p.length 0 := by
            refine loop_scanR0 (L := fun q => g_berth_Hoists_1_L3 N (p.length : Int) l c pl (k : Int) (g_berth_Hoists_1 N f) (g_berth_Hoists_1_L1 N (p.length : Int) l c (g_berth_Hoists_1 N f) g) q) _ _ (by omega) (fun q j hj => ?_) (fun q => ?_)
            · simp only [g_berth_Hoists_1_L3, dec_lt hj, cond_true, if_pos (inR hpl'), if_pos (inR (show j < l.length by omega)), if_pos (inR (show j < pl.length by omega)), toNat_nat, hget j hj, clash_eq N c _ _ (inR hkc) (hp j hj), Option.bind_some, w64_succ (show j < 9223372036854775807 by omega), g_berth_Hoists_1_J2, w64_succ (show k < 9223372036854775807 by omega)]
              cases clashB c (l.getD p.length Tapi_Lift.d) (l.getD j Tapi_Lift.d) (k : Int) (p.getD j 0) <;> rfl
            · simp only [g_berth_Hoists_1_L3, dec_nlt, cond_false, if_pos (inR (show p.length < pl.length by omega)), toNat_nat, w64_succ (show p.length < 9223372036854775807 by omega), g_berth_Hoists_1_J2, w64_succ (show k < 9223372036854775807 by omega)]
          rw [hL3, scan_bool]
          unfold badB
          cases scan (fun j => cond (clashB c (l.getD p.length Tapi_Lift.d) (l.getD j Tapi_Lift.d) (k : Int) (p.getD j 0)) (some true) none) false p.length 0
          · simp only [cond_false, Bool.not_false, cond_true]
            have hlen1 : (p ++ [(k : Int)]).length = p.length + 1 := by simp
            obtain ⟨pl', q1, q2, q3⟩ := give_eq hN hc hl n f (p ++ [(k : Int)]) (pl.set p.length (k : Int)) (by rw [hlen1]; omega) (by omega) (hp.snoc hkc) (by simp [hpl]) (by rw [hlen1, take_set _ _ _ (by omega), htk])
            rw [hlen1] at q2 q3
            rw [q3]
            cases hfd : find c l n (p ++ [(k : Int)])
            · simp only [Option.map_none, Option.bind_some, cond_false]
              refine ih (k + 1) g pl' (by omega) (by omega) q1 ?_
              have := congrArg (List.take p.length) q2
              rw [List.take_take, Nat.min_eq_left (by omega)] at this
              rw [this]; simp
            · exact ⟨pl, hpl, htk, rfl⟩
          · simp only [cond_true, Bool.not_true, cond_false]
            exact ih (k + 1) g pl (by omega) (by omega) hpl htk
    rw [show (0 : Int) = ((0 : Nat) : Int) from rfl]
    exact key c.length 0 N pl (by omega) (by omega) hpl htk
end Go.Den

namespace Go.Den
open Go.Ab

def craneOf (c : List Tapi_Crane) (s : ByteArray) : Int := scan (fun k => cond (streq (c.getD k Tapi_Crane.d).f_Name s) (some (k : Int)) none) (-1) c.length 0
theorem scan_idx_bd {p : Nat → Bool} : ∀ (n m : Nat), scan (fun k => cond (p k) (some (k : Int)) none) (-1) n m = -1 ∨ ((m : Int) ≤ scan (fun k => cond (p k) (some (k : Int)) none) (-1) n m ∧ scan (fun k => cond (p k) (some (k : Int)) none) (-1) n m < ((m + n : Nat) : Int))
  | 0, m => .inl rfl
  | n + 1, m => by
    rw [scan]
    cases p m
    · rcases scan_idx_bd (p := p) n (m + 1) with h | h
      · exact .inl h
      · exact .inr ⟨by simp only [cond_false]; omega, by simp only [cond_false]; omega⟩
    · exact .inr ⟨by simp, by simp; omega⟩
theorem craneOf_bd {c : List Tapi_Crane} {s : ByteArray} (h : ¬ craneOf c s < 0) : 0 ≤ craneOf c s ∧ craneOf c s < (c.length : Int) := by
  have := scan_idx_bd (p := fun k => streq (c.getD k Tapi_Crane.d).f_Name s) c.length 0
  unfold craneOf at h ⊢
  omega
theorem indexCrane_eq {N : Nat} (c : List Tapi_Crane) (s : ByteArray) (hN : c.length < N) (hl : c.length < 9223372036854775807) : g_slices_IndexFunc_api_Crane_api_Crane_v2 N c s = some (craneOf c s) := by
  unfold g_slices_IndexFunc_api_Crane_api_Crane_v2
  refine loop_scan0 (L := fun fuel => g_slices_IndexFunc_api_Crane_api_Crane_v2_L1 N c s fuel) _ _ hN (fun fuel m hm => ?_) (fun fuel => ?_)
  · simp only [g_slices_IndexFunc_api_Crane_api_Crane_v2_L1, dec_lt hm, cond_true, if_pos (inb hm), w64_succ (show m < 9223372036854775807 by omega), toNat_nat, g_berth_CheckHoists_1, Option.bind_some]
    cases streq (c.getD m Tapi_Crane.d).f_Name s <;> rfl
  · simp only [g_slices_IndexFunc_api_Crane_api_Crane_v2_L1, dec_nlt, cond_false]

/-- What is wrong with the crane that makes the lift m. -/
def byStep (c : List Tapi_Crane) (l : List Tapi_Lift) (by_ : List ByteArray) (m : Nat) : Option Int :=
  cond (decide (craneOf c (by_.getD m ByteArray.empty) < 0)) (some 6) (cond (!ableB (cr c (craneOf c (by_.getD m ByteArray.empty))) (l.getD m Tapi_Lift.d)) (some 16) none)
def pairStep (c : List Tapi_Crane) (l : List Tapi_Lift) (by_ : List ByteArray) (m : Nat) : Option Int :=
  cond (scan (fun j => cond (clashB c (l.getD m Tapi_Lift.d) (l.getD j Tapi_Lift.d) (craneOf c (by_.getD m ByteArray.empty)) (craneOf c (by_.getD j ByteArray.empty))) (some true) none) false m 0) (some 17) none
def byCode (c : List Tapi_Crane) (l : List Tapi_Lift) (by_ : List ByteArray) : Int :=
  scan (byStep c l by_) (scan (pairStep c l by_) 0 l.length 0) l.length 0
def hoistsCode (c : List Tapi_Crane) (l : List Tapi_Lift) (by_ : List ByteArray) : Int :=
  cond (cranesCode c != 0) (cranesCode c) (cond (liftsCode l != 0) (liftsCode l) (cond (((by_.length : Nat) : Int) != ((l.length : Nat) : Int)) 11 (byCode c l by_)))

theorem cranes_len {c : List Tapi_Crane} (h : cranesCode c = 0) : c.length ≤ 4 := by
  unfold cranesCode at h
  cases hd : decide (((c.length : Nat) : Int) > 4) <;> rw [hd] at h
  · simp at hd; omega
  · cases h
theorem lifts_len {l : List Tapi_Lift} (h : liftsCode l = 0) : l.length ≤ 8 := by
  unfold liftsCode at h
  cases hd : decide (((l.length : Nat) : Int) > 8) <;> rw [hd] at h
  · simp at hd; omega
  · cases h

theorem refCheckHoists_eq {N : Nat} (hN : 13 < N) (c : List Tapi_Crane) (l : List Tapi_Lift) (by_ : List ByteArray) : g_keelblockref06_CheckHoists N c l by_ = some (hoistsCode c l by_) := by
  unfold g_keelblockref06_CheckHoists hoistsCode
  rw [refCranes_eq hN, refLifts_eq hN]
  simp only [Option.bind_some]
  cases h1 : cranesCode c != 0 <;> try rfl
  cases h2 : liftsCode l != 0 <;> try rfl
  cases h3 : ((by_.length : Nat) : Int) != ((l.length : Nat) : Int) <;> try rfl
  have hc : c.length ≤ 4 := cranes_len (by simpa using h1)
  have hl : l.length ≤ 8 := lifts_len (by simpa using h2)
  have hb : by_.length = l.length := by simp at h3; omega
  have hof : ∀ s, g_keelblockref06_CraneOf N c s = some (craneOf c s) := fun s => craneOf_eq c s (by omega) (by omega)
  simp only [cond_false]
  have hbd0 : ∀ m, byStep c l by_ m = none → 0 ≤ craneOf c (by_.getD m ByteArray.empty) ∧ craneOf c (by_.getD m ByteArray.empty) < (c.length : Int) := fun m hm => by
    unfold byStep at hm
    refine craneOf_bd fun hlt => ?_
    rw [decide_eq_true hlt] at hm; cases hm
  refine loop_scan0A (L := fun fuel => g_keelblockref06_CheckHoists_L1 N c l by_ fuel) _ _ (by omega) (fun fuel m hm _ => ?_) (fun hall fuel => ?_)
  · simp only [g_keelblockref06_CheckHoists_L1, dec_lt hm, cond_true, if_pos (inR (show m < by_.length by omega)), hof, Option.bind_some, toNat_nat, w64_succ (show m < 9223372036854775807 by omega)]
    unfold byStep
    by_cases hlt : craneOf c (by_.getD m ByteArray.empty) < 0
    · simp only [decide_eq_true hlt, cond_true]
    · simp only [decide_eq_false hlt, cond_false, if_pos (craneOf_bd hlt), if_pos (inR hm), refAble_eq, Option.bind_some]
      unfold cr
      cases ableB (c.getD (craneOf c (by_.getD m ByteArray.empty)).toNat Tapi_Crane.d) (l.getD m Tapi_Lift.d) <;> rfl
  · have hbd : ∀ m, m < l.length → 0 ≤ craneOf c (by_.getD m ByteArray.empty) ∧ craneOf c (by_.getD m ByteArray.empty) < (c.length : Int) := fun m hm => hbd0 m (hall m hm)
    simp only [g_keelblockref06_CheckHoists_L1, dec_nlt, cond_false]
    refine loop_scan0 (L := fun fuel => g_keelblockref06_CheckHoists_L2 N c l by_ fuel) _ _ (by omega) (fun fuel m hm => ?_) (fun fuel => ?_)
    · simp only [g_keelblockref06_CheckHoists_L2, dec_lt hm, cond_true]
      have e3 : g_keelblockref06_CheckHoists_L3 N c l by_ (m : Int) (g_keelblockref06_CheckHoists_L2 N c l by_ fuel) N 0 =
          scan (fun j => cond (clashB c (l.getD m Tapi_Lift.d) (l.getD j Tapi_Lift.d) (craneOf c (by_.getD m ByteArray.empty)) (craneOf c (by_.getD j ByteArray.empty))) (some (some 17)) none) (g_keelblockref06_CheckHoists_L2 N c l by_ fuel ((m + 1 : Nat) : Int)) m 0 := by
        refine loop_scanR0 (L := fun q => g_keelblockref06_CheckHoists_L3 N c l by_ (m : Int) (g_keelblockref06_CheckHoists_L2 N c l by_ fuel) q) _ _ (by omega) (fun q j hj => ?_) (fun q => ?_)
        · simp only [g_keelblockref06_CheckHoists_L3, dec_lt hj, cond_true, if_pos (inR hm), if_pos (inR (show j < l.length by omega)), if_pos (inR (show m < by_.length by omega)), if_pos (inR (show j < by_.length by omega)), toNat_nat, hof, Option.bind_some, refClash_eq N c _ _ (hbd m hm) (hbd j (by omega)), w64_succ (show j < 9223372036854775807 by omega)]
          cases clashB c (l.getD m Tapi_Lift.d) (l.getD j Tapi_Lift.d) (craneOf c (by_.getD m ByteArray.empty)) (craneOf c (by_.getD j ByteArray.empty)) <;> rfl
        · simp only [g_keelblockref06_CheckHoists_L3, dec_nlt, cond_false, w64_succ (show m < 9223372036854775807 by omega)]
      rw [e3, scan_bool]
      unfold pairStep
      cases scan (fun j => cond (clashB c (l.getD m Tapi_Lift.d) (l.getD j Tapi_Lift.d) (craneOf c (by_.getD m ByteArray.empty)) (craneOf c (by_.getD j ByteArray.empty))) (some true) none) false m 0 <;> rfl
    · simp only [g_keelblockref06_CheckHoists_L2, dec_nlt, cond_false]

theorem checkHoists_eq {N : Nat} (hN : 13 < N) (c : List Tapi_Crane) (l : List Tapi_Lift) (by_ : List ByteArray) : g_berth_CheckHoists N c l by_ = some (hoistsCode c l by_) := by
  unfold g_berth_CheckHoists hoistsCode
  rw [checkCranes_eq hN, checkLifts_eq hN]
  simp only [Option.bind_some]
  cases h1 : cranesCode c != 0 <;> try rfl
  cases h2 : liftsCode l != 0 <;> try rfl
  cases h3 : ((by_.length : Nat) : Int) != ((l.length : Nat) : Int) <;> try rfl
  have hc : c.length ≤ 4 := cranes_len (by simpa using h1)
  have hl : l.length ≤ 8 := lifts_len (by simpa using h2)
  have hb : by_.length = l.length := by simp at h3; omega
  have hof : ∀ s, g_slices_IndexFunc_api_Crane_api_Crane_v2 N c s = some (craneOf c s) := fun s => indexCrane_eq c s (by omega) (by omega)
  simp only [cond_false]
  have hbd0 : ∀ m, byStep c l by_ m = none → 0 ≤ craneOf c (by_.getD m ByteArray.empty) ∧ craneOf c (by_.getD m ByteArray.empty) < (c.length : Int) := fun m hm => by
    unfold byStep at hm
    refine craneOf_bd fun hlt => ?_
    rw [decide_eq_true hlt] at hm; cases hm
  -- the places that are kept
  have key : ∀ (d m fuel : Nat) (pl : List Int), m + d = l.length → d < fuel → (∀ i, i < m → byStep c l by_ i = none) → pl.length = m → (∀ j, j < m → pl.getD j 0 = craneOf c (by_.getD j ByteArray.empty)) →
      g_berth_CheckHoists_L1 N c l by_ fuel pl (m : Int) = some (scan (byStep c l by_) (scan (pairStep c l by_) 0 l.length 0) d m) := by
    intro d
    induction d with
    | zero =>
      intro m fuel pl hm hf hall hpl hget
      obtain ⟨g, rfl⟩ : ∃ g, fuel = g + 1 := ⟨fuel - 1, by omega⟩
      have : m = l.length := by omega
      subst this
      have hbd : ∀ m, m < l.length → 0 ≤ craneOf c (by_.getD m ByteArray.empty) ∧ craneOf c (by_.getD m ByteArray.empty) < (c.length : Int) := fun m hm => hbd0 m (hall m hm)
      have hd : decide (((l.length : Nat) : Int) < ((by_.length : Nat) : Int)) = false := by rw [hb]; exact dec_nlt
      simp only [g_berth_CheckHoists_L1, hd, cond_false, scan]
      refine loop_scan0 (L := fun fuel => g_berth_CheckHoists_L2 N c l pl fuel) _ _ (by omega) (fun fuel m hm => ?_) (fun fuel => ?_)
      · simp only [g_berth_CheckHoists_L2, dec_lt hm, cond_true]
        have e3 : g_berth_CheckHoists_L3 N c l pl (m : Int) (g_berth_CheckHoists_L2 N c l pl fuel) N 0 =
            scan (fun j => cond (clashB c (l.getD m Tapi_Lift.d) (l.getD j Tapi_Lift.d) (craneOf c (by_.getD m ByteArray.empty)) (craneOf c (by_.getD j ByteArray.empty))) (some (some 17)) none) (g_berth_CheckHoists_L2 N c l pl fuel ((m + 1 : Nat) : Int)) m 0 := by
          refine loop_scanR0 (L := fun q => g_berth_CheckHoists_L3 N c l pl (m : Int) (g_berth_CheckHoists_L2 N c l pl fuel) q) _ _ (by omega) (fun q j hj => ?_) (fun q => ?_)
          · simp only [g_berth_CheckHoists_L3, dec_lt hj, cond_true, if_pos (inR hm), if_pos (inR (show j < l.length by omega)), if_pos (inR (show m < pl.length by omega)), if_pos (inR (show j < pl.length by omega)), toNat_nat, hget m hm, hget j (by omega), clash_eq N c _ _ (hbd m hm) (hbd j (by omega)), Option.bind_some, w64_succ (show j < 9223372036854775807 by omega)]
            cases clashB c (l.getD m Tapi_Lift.d) (l.getD j Tapi_Lift.d) (craneOf c (by_.getD m ByteArray.empty)) (craneOf c (by_.getD j ByteArray.empty)) <;> rfl
          · simp only [g_berth_CheckHoists_L3, dec_nlt, cond_false, w64_succ (show m < 9223372036854775807 by omega)]
        rw [e3, scan_bool]
        unfold pairStep
        cases scan (fun j => cond (clashB c (l.getD m Tapi_Lift.d) (l.getD j Tapi_Lift.d) (craneOf c (by_.getD m ByteArray.empty)) (craneOf c (by_.getD j ByteArray.empty))) (some true) none) false m 0 <;> rfl
      · simp only [g_berth_CheckHoists_L2, dec_nlt, cond_false]
    | succ d ih =>
      intro m fuel pl hm hf hall hpl hget
      obtain ⟨g, rfl⟩ : ∃ g, fuel = g + 1 := ⟨fuel - 1, by omega⟩
      have hml : m < l.length := by omega
      simp only [g_berth_CheckHoists_L1, dec_lt (show m < by_.length by omega), cond_true, if_pos (inR (show m < by_.length by omega)), hof, Option.bind_some, toNat_nat, w64_succ (show m < 9223372036854775807 by omega)]
      rw [scan]
      cases hs : byStep c l by_ m
      · have hs0 := hs
        have hb2 := hbd0 m hs
        unfold byStep at hs
        rw [decide_eq_false (show ¬ craneOf c (by_.getD m ByteArray.empty) < 0 by omega)] at hs ⊢
        simp only [cond_false, if_pos hb2, if_pos (inR hml), able_eq, Option.bind_some] at hs ⊢
        unfold cr at hs
        cases ha : ableB (c.getD (craneOf c (by_.getD m ByteArray.empty)).toNat Tapi_Crane.d) (l.getD m Tapi_Lift.d)
        · rw [ha] at hs; cases hs
        · simp only [Bool.not_true, cond_false]
          rw [if_pos (by omega)]
          refine ih (m + 1) g _ (by omega) (by omega) (fun i hi => ?_) (by simp [hpl]) (fun j hj => ?_)
          · by_cases him : i = m
            · subst him; exact hs0
            · exact hall i (by omega)
          · by_cases hjm : j < m
            · rw [← hget j hjm]
              simp [List.getD_eq_getElem?_getD, List.getElem?_append_left (show j < pl.length by omega)]
            · have : j = m := by omega
              subst this
              simp [List.getD_eq_getElem?_getD, ← hpl]
      · unfold byStep at hs
        by_cases hlt : craneOf c (by_.getD m ByteArray.empty) < 0
        · rw [decide_eq_true hlt] at hs ⊢
          simp only [cond_true, Option.some.injEq] at hs ⊢
          exact hs
        · rw [decide_eq_false hlt] at hs ⊢
          simp only [cond_false, if_pos (craneOf_bd hlt), if_pos (inR hml), able_eq, Option.bind_some] at hs ⊢
          unfold cr at hs
          cases ha : ableB (c.getD (craneOf c (by_.getD m ByteArray.empty)).toNat Tapi_Crane.d) (l.getD m Tapi_Lift.d)
          · rw [ha] at hs
            simp only [Bool.not_false, cond_true, Option.some.injEq] at hs ⊢
            exact hs
          · rw [ha] at hs; cases hs
  rw [show (0 : Int) = ((0 : Nat) : Int) from rfl]
  exact key l.length 0 N [] (by omega) (by omega) (fun i hi => absurd hi (Nat.not_lt_zero _)) rfl (fun i hi => absurd hi (Nat.not_lt_zero _))
end Go.Den

namespace Go.Den
open Go.Ab

def nameOf (c : List Tapi_Crane) (k : Int) : ByteArray := (cr c k).f_Name
theorem namesLoop {N : Nat} {c : List Tapi_Crane} {R : List Int} (hR : R.length ≤ 8) (hp : PlacesOk c R) {L : Nat → List ByteArray → Int → Option (List ByteArray × Int)}
    (hstep : ∀ fuel out m, m < R.length → out.length = m → L (fuel + 1) out (m : Int) = L fuel (out ++ [nameOf c (R.getD m 0)]) ((m + 1 : Nat) : Int))
    (hend : ∀ fuel out, L (fuel + 1) out (R.length : Int) = some (out, 0)) (hN : 13 < N) : L N [] 0 = some (R.map (nameOf c), 0) := by
  have key : ∀ (d m fuel : Nat) (out : List ByteArray), m + d = R.length → d < fuel → out.length = m → L fuel out (m : Int) = some (out ++ (R.drop m).map (nameOf c), 0) := by
    intro d
    induction d with
    | zero =>
      intro m fuel out hm hf ho
      obtain ⟨g, rfl⟩ : ∃ g, fuel = g + 1 := ⟨fuel - 1, by omega⟩
      have : m = R.length := by omega
      subst this
      rw [hend, List.drop_of_length_le (Nat.le_refl _)]; simp
    | succ d ih =>
      intro m fuel out hm hf ho
      obtain ⟨g, rfl⟩ : ∃ g, fuel = g + 1 := ⟨fuel - 1, by omega⟩
      have hml : m < R.length := by omega
      rw [hstep g out m hml ho, ih (m + 1) g _ (by omega) (by omega) (by simp [ho]), List.drop_eq_getElem_cons hml, List.map_cons]
      simp only [List.getD_eq_getElem?_getD, List.getElem?_eq_getElem hml, Option.getD_some, List.append_assoc, List.singleton_append]
  have := key R.length 0 N [] (by omega) (by omega) rfl
  simpa using this

def hoistsR (c : List Tapi_Crane) (l : List Tapi_Lift) : List ByteArray × Int :=
  cond (cranesCode c != 0) ([], cranesCode c) (cond (liftsCode l != 0) ([], liftsCode l) (match find c l l.length [] with | some r => (r.map (nameOf c), 0) | none => ([], 29)))
theorem placesOk_nil (c : List Tapi_Crane) : PlacesOk c [] := fun j h => absurd h (Nat.not_lt_zero _)
theorem refHoists_eq {N : Nat} (hN : 13 < N) (c : List Tapi_Crane) (l : List Tapi_Lift) : g_keelblockref06_Hoists N c l = some (hoistsR c l) := by
  unfold g_keelblockref06_Hoists hoistsR
  rw [refCranes_eq hN, refLifts_eq hN]
  simp only [Option.bind_some]
  cases h1 : cranesCode c != 0 <;> try rfl
  cases h2 : liftsCode l != 0 <;> try rfl
  have hc : c.length ≤ 4 := cranes_len (by simpa using h1)
  have hl : l.length ≤ 8 := lifts_len (by simpa using h2)
  rw [hoisted_eq hN hc hl l.length N [] (by simp) (by omega) (placesOk_nil c)]
  cases hf : find c l l.length []
  · rfl
  · rename_i r
    obtain ⟨hp, hlen⟩ := find_ok _ _ _ (placesOk_nil c) hf
    have hlen : r.length = l.length := by simpa using hlen
    simp only [outR, Option.bind_some, cond_false, Bool.not_true]
    refine namesLoop (N := N) (c := c) (R := r) (by omega) hp (L := fun fuel out x => g_keelblockref06_Hoists_L1 N c (r, true) fuel out x) (fun fuel out m hm ho => ?_) (fun fuel out => ?_) hN
    · simp only [g_keelblockref06_Hoists_L1, dec_lt hm, cond_true, if_pos (inR hm), toNat_nat, if_pos (hp m hm), w64_succ (show m < 9223372036854775807 by omega)]
      rw [if_pos (by omega)]; rfl
    · simp only [g_keelblockref06_Hoists_L1, dec_nlt, cond_false]
theorem Hoists_eq {N : Nat} (hN : 13 < N) (c : List Tapi_Crane) (l : List Tapi_Lift) : g_berth_Hoists N c l = some (hoistsR c l) := by
  unfold g_berth_Hoists hoistsR
  rw [checkCranes_eq hN, checkLifts_eq hN]
  simp only [Option.bind_some]
  cases h1 : cranesCode c != 0 <;> try rfl
  cases h2 : liftsCode l != 0 <;> try rfl
  have hc : c.length ≤ 4 := cranes_len (by simpa using h1)
  have hl : l.length ≤ 8 := lifts_len (by simpa using h2)
  simp only [cond_false]
  rw [if_pos (by omega)]
  obtain ⟨pl', q1, q2, q3⟩ := give_eq hN hc hl l.length N [] (List.replicate l.length 0) (by simp) (by omega) (placesOk_nil c) (by simp) (by simp)
  have q3 : g_berth_Hoists_1 N N 0 l c (List.replicate l.length 0) = _ := q3
  rw [q3]
  cases hf : find c l l.length []
  · rfl
  · rename_i r
    obtain ⟨hp, hlen⟩ := find_ok _ _ _ (placesOk_nil c) hf
    have hlen : r.length = l.length := by simpa using hlen
    simp only [Option.bind_some, cond_false, Bool.not_true]
    refine namesLoop (N := N) (c := c) (R := r) (by omega) hp (L := fun fuel out x => g_berth_Hoists_L1 N c (true, r) fuel out x) (fun fuel out m hm ho => ?_) (fun fuel out => ?_) hN
    · simp only [g_berth_Hoists_L1, dec_lt hm, cond_true, if_pos (inR hm), toNat_nat, if_pos (hp m hm), w64_succ (show m < 9223372036854775807 by omega)]
      rw [if_pos (by omega)]; rfl
    · simp only [g_berth_Hoists_L1, dec_nlt, cond_false]

theorem Texts_self {N : Nat} (a : List ByteArray) (hN : a.length < N) (hl : a.length < 9223372036854775807) : g_keelblockbase_Texts N a a = some true := by
  unfold g_keelblockbase_Texts
  rw [bne_self_eq_false, cond_false]
  refine loop_none (L := fun fuel => g_keelblockbase_Texts_L1 N a a fuel) (some true) hN (fun fuel m hm => ?_) (fun fuel => ?_)
  · simp only [g_keelblockbase_Texts_L1, dec_lt hm, cond_true, if_pos (inR hm), w64_succ (show m < 9223372036854775807 by omega), streq_iff.2 rfl, Bool.not_true, cond_false]
  · simp only [g_keelblockbase_Texts_L1, dec_nlt, cond_false]
theorem hoistsR_len (c : List Tapi_Crane) (l : List Tapi_Lift) : (hoistsR c l).1.length ≤ 8 := by
  unfold hoistsR
  cases h1 : cranesCode c != 0
  · cases h2 : liftsCode l != 0
    · have hl : l.length ≤ 8 := lifts_len (by simpa using h2)
      simp only [cond_false]
      cases hf : find c l l.length []
      · simp
      · rename_i r
        obtain ⟨hp, hlen⟩ := find_ok _ _ _ (placesOk_nil c) hf
        simp at hlen ⊢; omega
    · simp
  · simp

theorem hoistsLaw_eq {N : Nat} (hN : 13 < N) : g_keelblocklaw06_hoists N = some true := by
  unfold g_keelblocklaw06_hoists
  rw [Hoists_eq hN]
  have e : hoistsR [⟨⟨#[112]⟩, 0, 0, 100, 0, 1⟩, ⟨⟨#[113]⟩, 0, 50, 150, 0, 1⟩] [⟨⟨#[120]⟩, 60, 0, 0, 0, 5⟩, ⟨⟨#[121]⟩, 70, 0, 0, 0, 5⟩] = ([⟨#[112]⟩, ⟨#[113]⟩], 0) := by
    unfold hoistsR
    rw [show cranesCode [⟨⟨#[112]⟩, 0, 0, 100, 0, 1⟩, ⟨⟨#[113]⟩, 0, 50, 150, 0, 1⟩] = 0 by decide +kernel, show liftsCode [⟨⟨#[120]⟩, 60, 0, 0, 0, 5⟩, ⟨⟨#[121]⟩, 70, 0, 0, 0, 5⟩] = 0 by decide +kernel]
    rw [show find [⟨⟨#[112]⟩, 0, 0, 100, 0, 1⟩, ⟨⟨#[113]⟩, 0, 50, 150, 0, 1⟩] [⟨⟨#[120]⟩, 60, 0, 0, 0, 5⟩, ⟨⟨#[121]⟩, 70, 0, 0, 0, 5⟩] [(⟨⟨#[120]⟩, 60, 0, 0, 0, 5⟩ : Tapi_Lift), ⟨⟨#[121]⟩, 70, 0, 0, 0, 5⟩].length [] = some [0, 1] by decide +kernel]
    rfl
  rw [e]
  simp only [Option.bind_some, beq_self_eq_true, cond_true]
  rw [Texts_self _ (by simp; omega) (by simp)]
  rfl

theorem short_total {N : Nat} (hN : 13 < N) (q : Tkeelblocklaw06_Quay) : ∃ b, g_keelblocklaw06_Quay_short N q = some b := by
  unfold g_keelblocklaw06_Quay_short
  cases h : cond (cond (decide (((q.f_Cranes.length : Nat) : Int) > 6)) true (decide (((q.f_Lifts.length : Nat) : Int) > 10))) true (decide (((q.f_By.length : Nat) : Int) > 12))
  · have hl : q.f_Cranes.length ≤ 6 ∧ q.f_Lifts.length ≤ 10 ∧ q.f_By.length ≤ 12 := by
      generalize q.f_Cranes.length = a, q.f_Lifts.length = b, q.f_By.length = c at h
      simp [Bool.cond_eq_ite] at h; omega
    have e3 : g_keelblocklaw06_Quay_short_L3 N q N 0 = some (scan (fun m => cond (decide ((((q.f_By.getD m ByteArray.empty).size : Nat) : Int) > 40)) (some false) none) true q.f_By.length 0) := by
      refine loop_scan0 (L := fun fuel => g_keelblocklaw06_Quay_short_L3 N q fuel) _ _ (by omega) (fun fuel m hm => ?_) (fun fuel => ?_)
      · simp only [g_keelblocklaw06_Quay_short_L3, dec_lt hm, cond_true, if_pos (inb hm), w64_succ (show m < 9223372036854775807 by omega), toNat_nat]
        cases decide ((((q.f_By.getD m ByteArray.empty).size : Nat) : Int) > 40) <;> rfl
      · simp only [g_keelblocklaw06_Quay_short_L3, dec_nlt, cond_false]
    have e2 : ∃ z, g_keelblocklaw06_Quay_short_L2 N q N 0 = some z := by
      refine ⟨scan (fun m => cond (decide ((((q.f_Lifts.getD m Tapi_Lift.d).f_Name.size : Nat) : Int) > 40)) (some false) none) (scan (fun m => cond (decide ((((q.f_By.getD m ByteArray.empty).size : Nat) : Int) > 40)) (some false) none) true q.f_By.length 0) q.f_Lifts.length 0, ?_⟩
      refine loop_scan0 (L := fun fuel => g_keelblocklaw06_Quay_short_L2 N q fuel) _ _ (by omega) (fun fuel m hm => ?_) (fun fuel => ?_)
      · simp only [g_keelblocklaw06_Quay_short_L2, dec_lt hm, cond_true, if_pos (inb hm), w64_succ (show m < 9223372036854775807 by omega), toNat_nat]
        cases decide ((((q.f_Lifts.getD m Tapi_Lift.d).f_Name.size : Nat) : Int) > 40) <;> rfl
      · simp only [g_keelblocklaw06_Quay_short_L2, dec_nlt, cond_false, e3]
    obtain ⟨z2, e2⟩ := e2
    refine ⟨scan (fun m => cond (decide ((((q.f_Cranes.getD m Tapi_Crane.d).f_Name.size : Nat) : Int) > 40)) (some false) none) z2 q.f_Cranes.length 0, ?_⟩
    rw [cond_false]
    refine loop_scan0 (L := fun fuel => g_keelblocklaw06_Quay_short_L1 N q fuel) _ _ (by omega) (fun fuel m hm => ?_) (fun fuel => ?_)
    · simp only [g_keelblocklaw06_Quay_short_L1, dec_lt hm, cond_true, if_pos (inb hm), w64_succ (show m < 9223372036854775807 by omega), toNat_nat]
      cases decide ((((q.f_Cranes.getD m Tapi_Crane.d).f_Name.size : Nat) : Int) > 40) <;> rfl
    · simp only [g_keelblocklaw06_Quay_short_L1, dec_nlt, cond_false, e2]
  · exact ⟨false, rfl⟩
end Go.Den

namespace Go.Den
open Go.Ab

theorem clash_comm (c : List Tapi_Crane) (a b : Tapi_Lift) (i k : Int) : clashB c a b i k = clashB c b a k i := by
  unfold clashB
  have e : (i == k) = (k == i) := by rw [Bool.eq_iff_iff]; simp; exact eq_comm
  rw [e]
  generalize decide (a.f_Start ≥ b.f_End) = b1, decide (b.f_Start ≥ a.f_End) = b2, (k == i) = b3, (aheadB c i k && decide (a.f_X ≥ b.f_X)) = b4, (aheadB c k i && decide (b.f_X ≥ a.f_X)) = b5
  cases b1 <;> cases b2 <;> cases b3 <;> cases b4 <;> cases b5 <;> rfl

theorem cond5 {a b c d e : Bool} (h : cond (cond (cond (cond a true b) true c) true d) true e = false) : a = false ∧ b = false ∧ c = false ∧ d = false ∧ e = false := by
  cases a <;> cases b <;> cases c <;> cases d <;> cases e <;> simp_all
theorem scan_false {p : Nat → Bool} : ∀ (n m : Nat), scan (fun j => cond (p j) (some true) none) false n m = false → ∀ j, m ≤ j → j < m + n → p j = false
  | 0, m, _, j, h1, h2 => by omega
  | n + 1, m, h, j, h1, h2 => by
    rw [scan] at h
    cases hp : p m <;> rw [hp] at h
    · by_cases hj : j = m
      · subst hj; exact hp
      · exact scan_false n (m + 1) h j (by omega) (by omega)
    · cases h
theorem scan_none {p : Nat → Bool} {a : Int} (ha : a ≠ 0) : ∀ (n m : Nat), scan (fun j => cond (p j) (some a) none) 0 n m = 0 → ∀ j, m ≤ j → j < m + n → p j = false
  | 0, m, _, j, h1, h2 => by omega
  | n + 1, m, h, j, h1, h2 => by
    rw [scan] at h
    cases hp : p m <;> rw [hp] at h
    · by_cases hj : j = m
      · subst hj; exact hp
      · exact scan_none ha n (m + 1) h j (by omega) (by omega)
    · exact absurd h ha

structure Accepted (c : List Tapi_Crane) (l : List Tapi_Lift) (by_ : List ByteArray) : Prop where
  cr : cranesCode c = 0
  li : liftsCode l = 0
  len : by_.length = l.length
  bd : ∀ m, m < l.length → 0 ≤ craneOf c (by_.getD m ByteArray.empty) ∧ craneOf c (by_.getD m ByteArray.empty) < (c.length : Int)
  able : ∀ m, m < l.length → ableB (Go.Den.cr c (craneOf c (by_.getD m ByteArray.empty))) (l.getD m Tapi_Lift.d) = true
  free : ∀ m j, m < l.length → j < m → clashB c (l.getD m Tapi_Lift.d) (l.getD j Tapi_Lift.d) (craneOf c (by_.getD m ByteArray.empty)) (craneOf c (by_.getD j ByteArray.empty)) = false
theorem accepted_of {c : List Tapi_Crane} {l : List Tapi_Lift} {by_ : List ByteArray} (h : hoistsCode c l by_ = 0) : Accepted c l by_ := by
  unfold hoistsCode at h
  by_cases h1 : cranesCode c = 0
  · by_cases h2 : liftsCode l = 0
    · rw [h1, h2] at h
      simp only [bne_self_eq_false, cond_false] at h
      cases h3 : ((by_.length : Nat) : Int) != ((l.length : Nat) : Int) <;> rw [h3] at h
      · have hb : by_.length = l.length := by simp at h3; omega
        simp only [cond_false] at h
        unfold byCode at h
        rcases scan_inv (f := byStep c l by_) (z := scan (pairStep c l by_) 0 l.length 0) l.length 0 with ⟨i, r, k1, k2, k3, k4, k5⟩ | ⟨k1, k2⟩
        · rw [h] at k5
          subst k5
          unfold byStep at k3
          generalize decide (craneOf c (by_.getD i ByteArray.empty) < 0) = p at k3
          generalize (!ableB (Go.Den.cr c (craneOf c (by_.getD i ByteArray.empty))) (l.getD i Tapi_Lift.d)) = q at k3
          cases p <;> cases q <;> simp at k3
        · rw [h] at k2
          have hs : ∀ m, m < l.length → (0 ≤ craneOf c (by_.getD m ByteArray.empty) ∧ craneOf c (by_.getD m ByteArray.empty) < (c.length : Int)) ∧ ableB (Go.Den.cr c (craneOf c (by_.getD m ByteArray.empty))) (l.getD m Tapi_Lift.d) = true := by
            intro m hm
            have := k1 m (Nat.zero_le _) (by omega)
            unfold byStep at this
            by_cases hlt : craneOf c (by_.getD m ByteArray.empty) < 0
            · rw [decide_eq_true hlt] at this; cases this
            · refine ⟨craneOf_bd hlt, ?_⟩
              rw [decide_eq_false hlt, cond_false] at this
              cases ha : ableB (Go.Den.cr c (craneOf c (by_.getD m ByteArray.empty))) (l.getD m Tapi_Lift.d)
              · rw [ha] at this; cases this
              · rfl
          refine ⟨h1, h2, hb, fun m hm => (hs m hm).1, fun m hm => (hs m hm).2, fun m j hm hj => ?_⟩
          have hp := scan_none (p := fun m => scan (fun j => cond (clashB c (l.getD m Tapi_Lift.d) (l.getD j Tapi_Lift.d) (craneOf c (by_.getD m ByteArray.empty)) (craneOf c (by_.getD j ByteArray.empty))) (some true) none) false m 0) (a := 17) (by decide) l.length 0 k2.symm m (Nat.zero_le _) (by omega)
          exact scan_false m 0 hp j (Nat.zero_le _) (by omega)
      · cases h
    · rw [h1, show (liftsCode l != 0) = true by simpa using h2] at h
      exact absurd h h2
  · rw [show (cranesCode c != 0) = true by simpa using h1] at h
    exact absurd h h1

/-- If an assignment is accepted the search finds one. -/
theorem find_some {c : List Tapi_Crane} {l : List Tapi_Lift} {by_ : List ByteArray} (ac : Accepted c l by_) : ∀ (n : Nat) (p : List Int), p.length + n = l.length → (∀ j, j < p.length → p.getD j 0 = craneOf c (by_.getD j ByteArray.empty)) → find c l n p ≠ none
  | 0, p, _, _ => by simp [find]
  | n + 1, p, h, hp => by
    intro hf
    rw [find] at hf
    rcases scan_inv (f := fun k => cond (goodB c l p (k : Int)) ((find c l n (p ++ [(k : Int)])).map some) none) (z := none) c.length 0 with ⟨i, q, h1, h2, h3, h4, h5⟩ | ⟨h1, h2⟩
    · rw [hf] at h5
      subst h5
      cases hg : goodB c l p (i : Int) <;> rw [hg] at h3
      · cases h3
      · simp only [cond_true, Option.map_eq_some_iff] at h3
        obtain ⟨a, _, h3⟩ := h3
        cases h3
    · have hpl : p.length < l.length := by omega
      obtain ⟨b1, b2⟩ := ac.bd p.length hpl
      generalize hk : craneOf c (by_.getD p.length ByteArray.empty) = k at b1 b2
      have hkn : ((k.toNat : Nat) : Int) = k := by omega
      have h3 := h1 k.toNat (Nat.zero_le _) (by omega)
      simp only [hkn] at h3
      have hgood : goodB c l p k = true := by
        unfold goodB
        have e1 := ac.able p.length hpl
        rw [hk] at e1
        rw [e1]
        have e2 : badB c l p k = false := by
          unfold badB
          apply scan_all
          intro j _ hj
          have := ac.free p.length j hpl (by omega)
          rw [hk] at this
          rw [hp j (by omega), this]; rfl
        rw [e2]; rfl
      rw [hgood, cond_true] at h3
      refine find_some ac n (p ++ [k]) (by simp; omega) (fun j hj => ?_) (by simpa using h3)
      by_cases hjl : j < p.length
      · rw [← hp j hjl]; simp [List.getD_eq_getElem?_getD, List.getElem?_append_left hjl]
      · have : j = p.length := by simp at hj; omega
        subst this
        rw [hk]; simp [List.getD_eq_getElem?_getD]

theorem berthCrossing_plain (q : Tkeelblocklaw06_Quay) (minute : Int) (_ : Tkeelblocklaw06_Quay.wf q) (_ : wI minute) : ∃ N, g_keelblocklaw06_BerthCrossing N q minute = some true := by
  refine ⟨14, ?_⟩
  have hN : 13 < 14 := by omega
  obtain ⟨b, hb⟩ := short_total hN q
  unfold g_keelblocklaw06_BerthCrossing
  rw [hoistsLaw_eq hN, hb]
  simp only [Option.bind_some, Bool.not_true, cond_false, checkHoists_eq hN]
  cases b
  · rfl
  · simp only [Bool.not_true, Bool.not_false, cond_true, cond_false, Option.bind_some]
    by_cases h0 : hoistsCode q.f_Cranes q.f_Lifts q.f_By = 0
    · have ac := accepted_of h0
      have hc := cranes_len ac.cr
      have hl := lifts_len ac.li
      have hlen := ac.len
      rw [h0, ac.len]
      simp only [bne_self_eq_false, cond_false, Hoists_eq hN, Option.bind_some]
      have hR : (hoistsR q.f_Cranes q.f_Lifts).2 = 0 := by
        unfold hoistsR
        rw [ac.cr, ac.li]
        simp only [bne_self_eq_false, cond_false]
        cases hf : find q.f_Cranes q.f_Lifts q.f_Lifts.length []
        · exact absurd hf (find_some ac _ _ (by simp) (fun j hj => absurd hj (Nat.not_lt_zero _)))
        · rfl
      have hof : ∀ s, g_keelblockref06_CraneOf 14 q.f_Cranes s = some (craneOf q.f_Cranes s) := fun s => craneOf_eq q.f_Cranes s (by omega) (by omega)
      refine loop_none (L := fun fuel => g_keelblocklaw06_BerthCrossing_L1 14 q minute (hoistsR q.f_Cranes q.f_Lifts) fuel) (some true) (show q.f_Lifts.length < 14 by omega) (fun fuel i hi => ?_) (fun fuel => ?_)
      · simp only [g_keelblocklaw06_BerthCrossing_L1, dec_lt hi, cond_true]
        refine loop_none (L := fun f => g_keelblocklaw06_BerthCrossing_L2 14 q minute (hoistsR q.f_Cranes q.f_Lifts) (i : Int) (g_keelblocklaw06_BerthCrossing_L1 14 q minute (hoistsR q.f_Cranes q.f_Lifts) fuel) f) _ (show q.f_Lifts.length < 14 by omega) (fun f k hk => ?_) (fun f => ?_)
        · simp only [g_keelblocklaw06_BerthCrossing_L2, dec_lt hk, cond_true, if_pos (inR hi), if_pos (inR hk), if_pos (inR (show i < q.f_By.length by omega)), if_pos (inR (show k < q.f_By.length by omega)), toNat_nat, hof, Option.bind_some, g_keelblocklaw06_BerthCrossing_J3, w64_succ (show k < 9223372036854775807 by omega)]
          cases hq : cond (cond (cond (cond ((i : Int) == (k : Int)) true (decide (minute < (q.f_Lifts.getD i Tapi_Lift.d).f_Start))) true (decide (minute ≥ (q.f_Lifts.getD i Tapi_Lift.d).f_End))) true (decide (minute < (q.f_Lifts.getD k Tapi_Lift.d).f_Start))) true (decide (minute ≥ (q.f_Lifts.getD k Tapi_Lift.d).f_End))
          · -- both lift at this minute
            have hne : i ≠ k := by rintro rfl; simp at hq
            have hcl : clashB q.f_Cranes (q.f_Lifts.getD i Tapi_Lift.d) (q.f_Lifts.getD k Tapi_Lift.d) (craneOf q.f_Cranes (q.f_By.getD i ByteArray.empty)) (craneOf q.f_Cranes (q.f_By.getD k ByteArray.empty)) = false := by
              rcases Nat.lt_or_gt_of_ne hne with h | h
              · rw [clash_comm]; exact ac.free k i hk h
              · exact ac.free i k hi h
            obtain ⟨i1, i2⟩ := ac.bd i hi
            obtain ⟨k1, k2⟩ := ac.bd k hk
            obtain ⟨_, t1, t2, t3, t4⟩ := cond5 hq
            have t1 := of_decide_eq_false t1
            have t2 := of_decide_eq_false t2
            have t3 := of_decide_eq_false t3
            have t4 := of_decide_eq_false t4
            unfold clashB at hcl
            rw [decide_eq_false (show ¬ (q.f_Lifts.getD i Tapi_Lift.d).f_Start ≥ (q.f_Lifts.getD k Tapi_Lift.d).f_End by omega), decide_eq_false (show ¬ (q.f_Lifts.getD k Tapi_Lift.d).f_Start ≥ (q.f_Lifts.getD i Tapi_Lift.d).f_End by omega)] at hcl
            simp only [Bool.or_self, Bool.not_false, Bool.true_and, Bool.or_eq_false_iff] at hcl
            obtain ⟨⟨c1, c2⟩, _⟩ := hcl
            simp only [cond_false, decide_eq_false (show ¬ craneOf q.f_Cranes (q.f_By.getD i ByteArray.empty) < 0 by omega), decide_eq_false (show ¬ craneOf q.f_Cranes (q.f_By.getD k ByteArray.empty) < 0 by omega), c1, Bool.not_false, cond_true, ahead_eq 14 q.f_Cranes ⟨i1, i2⟩ ⟨k1, k2⟩, Option.bind_some]
            cases hah : aheadB q.f_Cranes (craneOf q.f_Cranes (q.f_By.getD i ByteArray.empty)) (craneOf q.f_Cranes (q.f_By.getD k ByteArray.empty))
            · rfl
            · rw [hah] at c2
              simp only [Bool.true_and] at c2
              rw [c2]; rfl
          · rfl
        · simp only [g_keelblocklaw06_BerthCrossing_L2, dec_nlt, cond_false, w64_succ (show i < 9223372036854775807 by omega)]
      · simp only [g_keelblocklaw06_BerthCrossing_L1, dec_nlt, cond_false, hR]; rfl
    · rw [show (hoistsCode q.f_Cranes q.f_Lifts q.f_By != 0) = true by simpa using h0]; rfl
end Go.Den
