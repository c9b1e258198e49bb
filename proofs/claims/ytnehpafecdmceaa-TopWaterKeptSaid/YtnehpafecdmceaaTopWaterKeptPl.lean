/- The plain law: the Lean function of the law returns true for every input, and what it needs. No conditions. -/
import Derived.Test.YtnehpafecdmceaaTopWaterKeptDen

set_option linter.unusedVariables false
set_option linter.unusedSimpArgs false
namespace Go.Den
open Go.Ab

theorem w64_def (n : Int) : w64 n = if n % 18446744073709551616 ≥ 9223372036854775808 then n % 18446744073709551616 - 18446744073709551616 else n % 18446744073709551616 := by
  have e : w64 n = (if (true && decide (n % 18446744073709551616 ≥ 9223372036854775808)) = true then n % 18446744073709551616 - 18446744073709551616 else n % 18446744073709551616) := rfl
  rw [e]; simp
theorem w64_eq {n : Int} (h1 : -9223372036854775808 ≤ n) (h2 : n ≤ 9223372036854775807) : w64 n = n := by
  rw [w64_def]; split <;> omega
theorem w64_nat {m : Nat} (h : m ≤ 9223372036854775807) : w64 (m : Int) = m := w64_eq (by omega) (by omega)
theorem w64_succ {m : Nat} (h : m < 9223372036854775807) : w64 ((m : Int) + 1) = ((m + 1 : Nat) : Int) := by rw [w64_eq (by omega) (by omega)]; simp

theorem toList_inj {a b : ByteArray} (h : a.toList = b.toList) : a = b := by
  have e : ∀ x : ByteArray, x.toList = x.data.toList := fun x => ByteArray.toList_eq x
  rw [e, e] at h
  cases a; cases b; simp_all [Array.toList_inj]
theorem streq_iff {a b : ByteArray} : streq a b = true ↔ a = b := by
  unfold streq; simp only [beq_iff_eq]
  exact ⟨toList_inj, fun h => h ▸ rfl⟩
theorem streq_comm (a b : ByteArray) : streq a b = streq b a := by
  rw [Bool.eq_iff_iff, streq_iff, streq_iff]; exact eq_comm

/-- The first answer of a row of questions, from m on, k of them; else z. -/
def scan {R : Type} (f : Nat → Option R) (z : R) : Nat → Nat → R
  | 0, _ => z
  | k + 1, m => match f m with
    | some r => r
    | none => scan f z k (m + 1)

theorem loop_scan {R : Type} {L : Nat → Int → Option R} (f : Nat → Option R) (z : R) {n : Nat}
    (hstep : ∀ fuel m, m < n → L (fuel + 1) (m : Int) = (match f m with | some r => some r | none => L fuel ((m + 1 : Nat) : Int)))
    (hend : ∀ fuel, L (fuel + 1) (n : Int) = some z) : ∀ k m fuel, m + k = n → k < fuel → L fuel (m : Int) = some (scan f z k m)
  | 0, m, fuel, h, hf => by
    obtain ⟨g, rfl⟩ : ∃ g, fuel = g + 1 := ⟨fuel - 1, by omega⟩
    have : m = n := by omega
    subst this; exact hend g
  | k + 1, m, fuel, h, hf => by
    obtain ⟨g, rfl⟩ : ∃ g, fuel = g + 1 := ⟨fuel - 1, by omega⟩
    rw [hstep g m (by omega)]
    unfold scan
    cases hfm : f m with
    | some r => rfl
    | none => exact loop_scan f z hstep hend k (m + 1) g (by omega) (by omega)

theorem loop_scan0 {R : Type} {L : Nat → Int → Option R} (f : Nat → Option R) (z : R) {n fuel : Nat} (hf : n < fuel)
    (hstep : ∀ fuel m, m < n → L (fuel + 1) (m : Int) = (match f m with | some r => some r | none => L fuel ((m + 1 : Nat) : Int)))
    (hend : ∀ fuel, L (fuel + 1) (n : Int) = some z) : L fuel 0 = some (scan f z n 0) :=
  loop_scan f z hstep hend n 0 fuel (by omega) hf

/-- As loop_scan0; at the end all questions have been answered with 'none'. -/
theorem loop_scanA {R : Type} {L : Nat → Int → R} (f : Nat → Option R) (z : R) {n fuel : Nat} (hf : n < fuel)
    (hstep : ∀ fuel m, m < n → (∀ i, i < m → f i = none) → L (fuel + 1) (m : Int) = (match f m with | some r => r | none => L fuel ((m + 1 : Nat) : Int)))
    (hend : (∀ i, i < n → f i = none) → ∀ fuel, L (fuel + 1) (n : Int) = z) : L fuel 0 = scan f z n 0 := by
  have key : ∀ k m fuel, m + k = n → k < fuel → (∀ i, i < m → f i = none) → L fuel (m : Int) = scan f z k m := by
    intro k
    induction k with
    | zero =>
      intro m fuel h hf hn
      obtain ⟨g, rfl⟩ : ∃ g, fuel = g + 1 := ⟨fuel - 1, by omega⟩
      have : m = n := by omega
      subst this; exact hend hn g
    | succ k ih =>
      intro m fuel h hf hn
      obtain ⟨g, rfl⟩ : ∃ g, fuel = g + 1 := ⟨fuel - 1, by omega⟩
      rw [hstep g m (by omega) hn]
      unfold scan
      cases hfm : f m with
      | some r => rfl
      | none =>
        refine ih (m + 1) g (by omega) (by omega) fun i hi => ?_
        by_cases him : i = m
        · subst him; exact hfm
        · exact hn i (by omega)
  exact key n 0 fuel (by omega) hf (fun i hi => absurd hi (Nat.not_lt_zero _))
theorem scan_map {R S : Type} (g : R → S) {f : Nat → Option R} {z : R} : ∀ (k m : Nat), scan (fun i => (f i).map g) (g z) k m = g (scan f z k m)
  | 0, _ => rfl
  | k + 1, m => by
    unfold scan
    cases f m with
    | some r => rfl
    | none => exact scan_map g k (m + 1)
theorem loop_scan0A {R : Type} {L : Nat → Int → Option R} (f : Nat → Option R) (z : R) {n fuel : Nat} (hf : n < fuel)
    (hstep : ∀ fuel m, m < n → (∀ i, i < m → f i = none) → L (fuel + 1) (m : Int) = (match f m with | some r => some r | none => L fuel ((m + 1 : Nat) : Int)))
    (hend : (∀ i, i < n → f i = none) → ∀ fuel, L (fuel + 1) (n : Int) = some z) : L fuel 0 = some (scan f z n 0) := by
  rw [← scan_map some]
  refine loop_scanA (fun i => (f i).map some) (some z) hf (fun g m hm hn => ?_) (fun hn => hend fun i hi => ?_)
  · have hn' : ∀ i, i < m → f i = none := fun i hi => by have := hn i hi; simpa using this
    rw [hstep g m hm hn']
    cases f m <;> rfl
  · have := hn i hi; simpa using this
theorem scan_congr {R : Type} {f g : Nat → Option R} {z : R} : ∀ (k m : Nat), (∀ i, m ≤ i → i < m + k → f i = g i) → scan f z k m = scan g z k m
  | 0, _, _ => rfl
  | k + 1, m, h => by
    unfold scan
    rw [h m (by omega) (by omega)]
    cases g m with
    | some r => rfl
    | none => exact scan_congr k (m + 1) fun i hi hi2 => h i (by omega) (by omega)

theorem scan_all {R : Type} {f : Nat → Option R} {z : R} : ∀ (k m : Nat), (∀ i, m ≤ i → i < m + k → f i = none) → scan f z k m = z
  | 0, _, _ => rfl
  | k + 1, m, h => by
    unfold scan
    rw [h m (by omega) (by omega)]
    exact scan_all k (m + 1) fun i hi hi2 => h i (by omega) (by omega)

theorem scan_inv {R : Type} {f : Nat → Option R} {z : R} : ∀ (k m : Nat), (∃ i r, m ≤ i ∧ i < m + k ∧ f i = some r ∧ (∀ j, m ≤ j → j < i → f j = none) ∧ scan f z k m = r) ∨ ((∀ i, m ≤ i → i < m + k → f i = none) ∧ scan f z k m = z)
  | 0, m => .inr ⟨fun i h1 h2 => by omega, rfl⟩
  | k + 1, m => by
    cases hm : f m with
    | some r => exact .inl ⟨m, r, Nat.le_refl _, by omega, hm, fun j h1 h2 => by omega, by unfold scan; rw [hm]⟩
    | none =>
      have e : scan f z (k + 1) m = scan f z k (m + 1) := by rw [scan, hm]
      rcases scan_inv (f := f) (z := z) k (m + 1) with ⟨i, r, h1, h2, h3, h4, h5⟩ | ⟨h1, h2⟩
      · refine .inl ⟨i, r, by omega, by omega, h3, fun j hj1 hj2 => ?_, e.trans h5⟩
        by_cases hj : j = m
        · subst hj; exact hm
        · exact h4 j (by omega) hj2
      · refine .inr ⟨fun i hi1 hi2 => ?_, e.trans h2⟩
        by_cases hj : i = m
        · subst hj; exact hm
        · exact h1 i (by omega) (by omega)

theorem loop_scanR {R : Type} {L : Nat → Int → R} (f : Nat → Option R) (z : R) {n : Nat}
    (hstep : ∀ fuel m, m < n → L (fuel + 1) (m : Int) = (match f m with | some r => r | none => L fuel ((m + 1 : Nat) : Int)))
    (hend : ∀ fuel, L (fuel + 1) (n : Int) = z) : ∀ k m fuel, m + k = n → k < fuel → L fuel (m : Int) = scan f z k m
  | 0, m, fuel, h, hf => by
    obtain ⟨g, rfl⟩ : ∃ g, fuel = g + 1 := ⟨fuel - 1, by omega⟩
    have : m = n := by omega
    subst this; exact hend g
  | k + 1, m, fuel, h, hf => by
    obtain ⟨g, rfl⟩ : ∃ g, fuel = g + 1 := ⟨fuel - 1, by omega⟩
    rw [hstep g m (by omega)]
    unfold scan
    cases hfm : f m with
    | some r => rfl
    | none => exact loop_scanR f z hstep hend k (m + 1) g (by omega) (by omega)
theorem loop_scanR0 {R : Type} {L : Nat → Int → R} (f : Nat → Option R) (z : R) {n fuel : Nat} (hf : n < fuel)
    (hstep : ∀ fuel m, m < n → L (fuel + 1) (m : Int) = (match f m with | some r => r | none => L fuel ((m + 1 : Nat) : Int)))
    (hend : ∀ fuel, L (fuel + 1) (n : Int) = z) : L fuel 0 = scan f z n 0 :=
  loop_scanR f z hstep hend n 0 fuel (by omega) hf
theorem loop_none {R : Type} {L : Nat → Int → R} (z : R) {n fuel : Nat} (hf : n < fuel) (hstep : ∀ fuel m, m < n → L (fuel + 1) (m : Int) = L fuel ((m + 1 : Nat) : Int))
    (hend : ∀ fuel, L (fuel + 1) (n : Int) = z) : L fuel 0 = z :=
  (loop_scanR0 (fun _ => none) z hf (fun g m hm => hstep g m hm) hend).trans (scan_all n 0 fun _ _ _ => rfl)
theorem scan_index {p : Nat → Bool} : ∀ (n m : Nat), decide (scan (fun k => cond (p k) (some (k : Int)) none) (-1) n m ≥ 0) = scan (fun k => cond (p k) (some true) none) false n m
  | 0, m => rfl
  | n + 1, m => by
    unfold scan
    cases p m with
    | true => simp
    | false => exact scan_index n (m + 1)
theorem scan_first {p : Nat → Bool} {i : Nat} (hi : p i = true) : ∀ (k m : Nat), m ≤ i → i < m + k → (scan (fun k => cond (p k) (some (k : Int)) none) (-1) k m != (i : Int)) = scan (fun k => cond (p k) (some true) none) false (i - m) m
  | 0, m, h1, h2 => by omega
  | k + 1, m, h1, h2 => by
    by_cases hm : m = i
    · subst hm
      rw [Nat.sub_self]
      unfold scan
      rw [hi]; simp
    · obtain ⟨j, hj⟩ : ∃ j, i - m = j + 1 := ⟨i - m - 1, by omega⟩
      rw [hj]
      cases hp : p m with
      | true =>
        unfold scan
        simp only [hp, cond_true]
        have : (m : Int) ≠ i := by omega
        simpa using this
      | false =>
        have e1 : scan (fun k => cond (p k) (some (k : Int)) none) (-1) (k + 1) m = scan (fun k => cond (p k) (some (k : Int)) none) (-1) k (m + 1) := by rw [scan]; simp only [hp, cond_false]
        have e2 : scan (fun k => cond (p k) (some true) none) false (j + 1) m = scan (fun k => cond (p k) (some true) none) false j (m + 1) := by rw [scan]; simp only [hp, cond_false]
        rw [e1, e2, scan_first hi k (m + 1) (by omega) (by omega)]
        congr 1; omega
theorem scan_bool {R : Type} {p : Nat → Bool} {a z : R} : ∀ (n m : Nat), scan (fun k => cond (p k) (some a) none) z n m = cond (scan (fun k => cond (p k) (some true) none) false n m) a z
  | 0, m => rfl
  | n + 1, m => by
    unfold scan
    cases p m with
    | true => rfl
    | false => exact scan_bool n (m + 1)
theorem bind_cond {α β : Type} (q : Bool) (a b : α) (f : α → Option β) : (cond q (some a) (some b)).bind f = f (cond q a b) := by cases q <;> rfl
theorem cond_some {α : Type} (q : Bool) (a b : α) : cond q (some a) (some b) = some (cond q a b) := by cases q <;> rfl
theorem getD_take {α : Type} (l : List α) (m k : Nat) (d : α) (h : k < m) : ((l.take m).drop 0).getD k d = l.getD k d := by
  simp [List.getD, h]
theorem drop_take_one {α : Type} (l : List α) (m : Nat) (d : α) (h : m < l.length) : (l.take (m + 1)).drop m = [l.getD m d] := by
  have e : (l.take (m + 1)).drop m = (l.drop m).take 1 := by rw [List.drop_take]; congr 1; omega
  rw [e, List.drop_eq_getElem_cons h, List.take_succ_cons, List.take_zero]
  simp [List.getD, h]
theorem getD_mem {α : Type} (l : List α) (m : Nat) (d : α) (h : m < l.length) : l.getD m d ∈ l := by
  simp [List.getD, h]
theorem sq_nonneg (x : Int) : 0 ≤ x * x := by
  by_cases h : 0 ≤ x
  · exact Int.mul_nonneg h h
  · have := Int.mul_nonneg (show 0 ≤ -x by omega) (show 0 ≤ -x by omega)
    rwa [Int.neg_mul_neg] at this
theorem sq_le {x M : Int} (h1 : -M ≤ x) (h2 : x ≤ M) : x * x ≤ M * M := by
  by_cases h : 0 ≤ x
  · exact Int.mul_le_mul h2 h2 h (by omega)
  · have := Int.mul_le_mul (show -x ≤ M by omega) (show -x ≤ M by omega) (by omega) (by omega)
    rwa [Int.neg_mul_neg] at this
theorem orI_nat {a b : Nat} (ha : a < 9223372036854775808) (hb : b < 9223372036854775808) : orI .i64 (a : Int) (b : Int) = ((a ||| b : Nat) : Int) := by
  have h : a ||| b < 2 ^ 63 := Nat.or_lt_two_pow (by omega) (by omega)
  have e : (BitVec.ofInt IntKind.i64.bits (a : Int) ||| BitVec.ofInt IntKind.i64.bits (b : Int)).toNat = a ||| b := by
    show (BitVec.ofInt 64 (a : Int) ||| BitVec.ofInt 64 (b : Int)).toNat = _
    rw [BitVec.ofInt_natCast, BitVec.ofInt_natCast, BitVec.toNat_or, BitVec.toNat_ofNat, BitVec.toNat_ofNat, Nat.mod_eq_of_lt (by omega), Nat.mod_eq_of_lt (by omega)]
  unfold orI
  rw [e]
  exact w64_nat (by omega)
theorem shlI_one {k : Nat} (hk : k < 63) : shlI .i64 1 (k : Int) = ((2 ^ k : Nat) : Int) := by
  have h : 2 ^ k < 2 ^ 63 := Nat.pow_lt_pow_right (by omega) hk
  have e : min ((k : Int).toNat) IntKind.i64.bits = k := by
    show min k 64 = k
    omega
  unfold shlI
  rw [e]
  have e2 : (1 : Int) * 2 ^ k = ((2 ^ k : Nat) : Int) := by simp
  rw [e2]
  exact w64_nat (by omega)

theorem toNat_nat (m : Nat) : ((m : Int)).toNat = m := rfl
theorem inb {m n : Nat} (h : m < n) : 0 ≤ (m : Int) ∧ (m : Int) < ((n : Nat) : Int) := ⟨by omega, by omega⟩
theorem dec_lt {m n : Nat} (h : m < n) : decide ((m : Int) < ((n : Nat) : Int)) = true := by simp; omega
theorem dec_nlt {n : Nat} : decide ((n : Int) < ((n : Nat) : Int)) = false := by simp
end Go.Den

namespace Go.Den
open Go.Ab

/-- A name that the document allows, as a loop over its bytes. -/
def nameBad (s : ByteArray) (m : Nat) : Bool :=
  cond (!(cond (cond (decide (byteAt s m ≥ 97)) (decide (byteAt s m ≤ 122)) false) true (cond (decide (byteAt s m ≥ 65)) (decide (byteAt s m ≤ 90)) false))) (cond ((m : Int) == 0) true (!(cond (cond (decide (byteAt s m ≥ 48)) (decide (byteAt s m ≤ 57)) false) true (byteAt s m == 45)))) false
def nameOk (s : ByteArray) : Bool :=
  cond (cond (streq s ByteArray.empty) true (decide (((s.size : Nat) : Int) > 12))) false (scan (fun m => cond (nameBad s m) (some false) none) true s.size 0)

theorem streq_empty (s : ByteArray) : streq s ByteArray.empty = decide (((s.size : Nat) : Int) < 1) := by
  rw [Bool.eq_iff_iff, streq_iff, decide_eq_true_eq]
  constructor
  · rintro rfl; decide
  · intro h
    have : s.size = 0 := by omega
    cases s with | mk d => 
    have : d.size = 0 := this
    simp [Array.size_eq_zero_iff.1 this]; rfl
theorem nameBad_eq (s : ByteArray) (m : Nat) : nameBad s m = cond (!(cond (cond (decide (byteAt s m ≥ 97)) (decide (byteAt s m ≤ 122)) false) true (cond (decide (byteAt s m ≥ 65)) (decide (byteAt s m ≤ 90)) false))) (cond ((m : Int) == 0) true (cond (byteAt s m != 45) (cond (decide (byteAt s m < 48)) true (decide (byteAt s m > 57))) false)) false := by
  unfold nameBad
  generalize byteAt s m = b
  rw [Bool.eq_iff_iff]
  simp [Bool.cond_eq_ite]
  omega
theorem bytesL_at (s : ByteArray) (m : Nat) (h : m < s.size) : (bytesL s).getD m 0 = byteAt s m := by
  have := bytesL_get s m (by rw [← bytesL_len]; exact h)
  simpa [cU] using this
end Go.Den

namespace Go.Den
open Go.Ab

theorem isName_eq {N : Nat} (hN : 12 < N) (s : ByteArray) : g_water_isName N s = some (nameOk s) := by
  unfold g_water_isName nameOk g_water_between
  rw [streq_empty, Option.bind_some]
  have e0 : (cond (decide (((s.size : Nat) : Int) < 1)) true (decide (((s.size : Nat) : Int) > 12))) = !(cond (decide (((s.size : Nat) : Int) ≥ 1)) (decide (((s.size : Nat) : Int) ≤ 12)) false) := by
    rw [Bool.eq_iff_iff]; simp [Bool.cond_eq_ite]
  rw [e0]
  cases h : (cond (decide (((s.size : Nat) : Int) ≥ 1)) (decide (((s.size : Nat) : Int) ≤ 12)) false)
  · rfl
  · have hs : s.size ≤ 12 := by
      simp [Bool.cond_eq_ite] at h; omega
    refine loop_scan0 (L := fun fuel => g_water_isName_L1 N s fuel) _ _ (by omega) (fun fuel m hm => ?_) (fun fuel => ?_)
    · have hl : m < (bytesL s).length := by rw [← bytesL_len]; exact hm
      simp only [g_water_isName_L1, dec_lt hm, cond_true, if_pos (inb hl), w64_succ (show m < 9223372036854775807 by omega), toNat_nat, bytesL_at s m hm]
      rw [← nameBad_eq]
      cases nameBad s m <;> rfl
    · simp only [g_water_isName_L1, dec_nlt, cond_false]
theorem IsName_eq {N : Nat} (hN : 12 < N) (s : ByteArray) : g_keelblockbase_IsName N s = some (nameOk s) := by
  unfold g_keelblockbase_IsName nameOk
  rw [streq_empty]
  cases h : cond (decide (((s.size : Nat) : Int) < 1)) true (decide (((s.size : Nat) : Int) > 12))
  · have hs : s.size ≤ 12 := by
      cases h2 : decide (((s.size : Nat) : Int) < 1) <;> rw [h2] at h <;> simp at h; omega
    refine loop_scan0 (L := fun fuel => g_keelblockbase_IsName_L1 N s fuel) _ _ (by omega) (fun fuel m hm => ?_) (fun fuel => ?_)
    · simp only [g_keelblockbase_IsName_L1, dec_lt hm, cond_true, if_pos (inb hm), w64_succ (show m < 9223372036854775807 by omega), toNat_nat]
      rw [← nameBad_eq]
      cases nameBad s m <;> rfl
    · simp only [g_keelblockbase_IsName_L1, dec_nlt, cond_false]
  · rfl

end Go.Den

namespace Go.Den
open Go.Ab

def ins (n lo hi : Int) : Bool := cond (decide (n ≥ lo)) (decide (n ≤ hi)) false
theorem ins_iff {n lo hi : Int} : ins n lo hi = true ↔ lo ≤ n ∧ n ≤ hi := by unfold ins; simp [Bool.cond_eq_ite]
theorem between_eq (N : Nat) (n lo hi : Int) : g_water_between N n lo hi = some (ins n lo hi) := rfl
theorem inside_eq (N : Nat) (n lo hi : Int) : g_r05_inside N n lo hi = some (ins n lo hi) := rfl

def ar (b : Tapi_Basin) (m : Nat) : Tapi_Area := b.f_Areas.getD m Tapi_Area.d
def areaStep (b : Tapi_Basin) (m : Nat) : Option Int :=
  cond (!(ins (ar b m).f_From (-1000000) 1000000 && ins (ar b m).f_Size 1 1000000)) (some 2) (cond (decide (0 < m) && decide ((ar b m).f_From ≤ (ar b (m - 1)).f_From)) (some 10) none)
def formCode (b : Tapi_Basin) : Int :=
  cond (!(ins (b.f_Areas.length : Int) 1 20)) 2 (scan (areaStep b) (cond (decide (b.f_Rim ≤ (ar b (b.f_Areas.length - 1)).f_From) || decide (b.f_Rim > 1000000)) 2 0) b.f_Areas.length 0)

theorem form_eq {N : Nat} (hN : 20 < N) (b : Tapi_Basin) : g_water_checkForm N b = some (formCode b) := by
  unfold g_water_checkForm formCode
  rw [between_eq, Option.bind_some]
  cases h : ins (b.f_Areas.length : Int) 1 20
  · rfl
  · obtain ⟨h1, h2⟩ := ins_iff.1 h
    simp only [Bool.not_true, cond_false]
    refine loop_scan0 (L := fun fuel => g_water_checkForm_L1 N b fuel) _ _ (by omega) (fun fuel m hm => ?_) (fun fuel => ?_)
    · simp only [g_water_checkForm_L1, dec_lt hm, cond_true, if_pos (inb hm), w64_succ (show m < 9223372036854775807 by omega), toNat_nat, between_eq, Option.bind_some]
      unfold areaStep ar
      cases h3 : ins (b.f_Areas.getD m Tapi_Area.d).f_From (-1000000) 1000000
      · rfl
      · simp only [Bool.not_true, Bool.not_false, cond_true, Option.bind_some, Bool.true_and, cond_false]
        cases h4 : ins (b.f_Areas.getD m Tapi_Area.d).f_Size 1 1000000
        · rfl
        · simp only [Bool.not_true, cond_false]
          cases m with
          | zero => rfl
          | succ k =>
            have e : w64 (((k + 1 : Nat) : Int) - 1) = (k : Int) := by rw [w64_eq (by omega) (by omega)]; omega
            rw [e, if_pos (fun _ => inb (show k < b.f_Areas.length by omega))]
            have e2 : decide (((k + 1 : Nat) : Int) > 0) = true := by rw [decide_eq_true_eq]; omega
            rw [e2, toNat_nat]
            simp only [cond_true, Nat.add_sub_cancel, show decide (0 < k + 1) = true by simp, Bool.true_and]
            cases decide ((b.f_Areas.getD (k + 1) Tapi_Area.d).f_From ≤ (b.f_Areas.getD k Tapi_Area.d).f_From) <;> rfl
    · have e : w64 (((b.f_Areas.length : Nat) : Int) - 1) = ((b.f_Areas.length - 1 : Nat) : Int) := by rw [w64_eq (by omega) (by omega)]; omega
      simp only [g_water_checkForm_L1, dec_nlt, cond_false, e, if_pos (inb (show b.f_Areas.length - 1 < b.f_Areas.length by omega)), toNat_nat]
      unfold ar
      cases decide (b.f_Rim ≤ (b.f_Areas.getD (b.f_Areas.length - 1) Tapi_Area.d).f_From) <;> cases decide (b.f_Rim > 1000000) <;> rfl
def basinCode (b : Tapi_Basin) : Int := cond (!nameOk b.f_Name) 4 (formCode b)
theorem checkBasin_eq {N : Nat} (hN : 20 < N) (b : Tapi_Basin) : g_water_CheckBasin N b = some (basinCode b) := by
  unfold g_water_CheckBasin basinCode
  rw [isName_eq (by omega), form_eq hN]
  simp only [Option.bind_some]
  cases nameOk b.f_Name <;> rfl
theorem refL1_eq (N : Nat) (b : Tapi_Basin) : ∀ (fuel : Nat) (x : Int), g_r05_CheckBasin_L1 N b fuel x = g_water_checkForm_L1 N b fuel x
  | 0, x => rfl
  | fuel + 1, x => by simp only [g_r05_CheckBasin_L1, g_water_checkForm_L1, inside_eq, between_eq, refL1_eq N b fuel]
theorem refBasin_eq {N : Nat} (hN : 20 < N) (b : Tapi_Basin) : g_r05_CheckBasin N b = some (basinCode b) := by
  rw [← checkBasin_eq hN]
  unfold g_r05_CheckBasin g_water_CheckBasin g_water_checkForm
  rw [IsName_eq (by omega), isName_eq (by omega)]
  simp only [Option.bind_some, between_eq, refL1_eq]
  cases nameOk b.f_Name
  · rfl
  · simp only [Bool.not_true, cond_false]
    have e : (cond (((b.f_Areas.length : Nat) : Int) == 0) true (decide (((b.f_Areas.length : Nat) : Int) > 20))) = !(ins (b.f_Areas.length : Int) 1 20) := by
      generalize b.f_Areas.length = c
      rw [Bool.eq_iff_iff]; simp [Bool.cond_eq_ite, ins]; omega
    rw [e]
    cases ins (b.f_Areas.length : Int) 1 20
    · rfl
    · simp only [Bool.not_true, cond_false, Option.bind_fun_some]

/-- A basin that the document allows (but for its name). -/
structure Valid (b : Tapi_Basin) : Prop where
  len : 1 ≤ b.f_Areas.length ∧ b.f_Areas.length ≤ 20
  frm : ∀ m, m < b.f_Areas.length → -1000000 ≤ (ar b m).f_From ∧ (ar b m).f_From ≤ 1000000
  sz : ∀ m, m < b.f_Areas.length → 1 ≤ (ar b m).f_Size ∧ (ar b m).f_Size ≤ 1000000
  ord : ∀ m, m + 1 < b.f_Areas.length → (ar b m).f_From < (ar b (m + 1)).f_From
  rim : (ar b (b.f_Areas.length - 1)).f_From < b.f_Rim ∧ b.f_Rim ≤ 1000000
theorem valid_of {b : Tapi_Basin} (h : formCode b = 0) : Valid b := by
  unfold formCode at h
  cases hl : ins (b.f_Areas.length : Int) 1 20
  · rw [hl] at h; cases h
  · rw [hl] at h
    obtain ⟨l1, l2⟩ := ins_iff.1 hl
    simp only [Bool.not_true, cond_false] at h
    rcases scan_inv (f := areaStep b) (z := cond (decide (b.f_Rim ≤ (ar b (b.f_Areas.length - 1)).f_From) || decide (b.f_Rim > 1000000)) 2 0) b.f_Areas.length 0 with ⟨i, r, _, _, h3, _, h5⟩ | ⟨h1, h2⟩
    · rw [h] at h5
      subst h5
      unfold areaStep at h3
      generalize (!(ins (ar b i).f_From (-1000000) 1000000 && ins (ar b i).f_Size 1 1000000)) = p at h3
      generalize (decide (0 < i) && decide ((ar b i).f_From ≤ (ar b (i - 1)).f_From)) = q at h3
      cases p <;> cases q <;> simp at h3
    · have hn : ∀ i, i < b.f_Areas.length → (ins (ar b i).f_From (-1000000) 1000000 && ins (ar b i).f_Size 1 1000000) = true ∧ (decide (0 < i) && decide ((ar b i).f_From ≤ (ar b (i - 1)).f_From)) = false := by
        intro i hi
        have h3 := h1 i (Nat.zero_le _) (by omega)
        unfold areaStep at h3
        generalize hp : (ins (ar b i).f_From (-1000000) 1000000 && ins (ar b i).f_Size 1 1000000) = p at h3
        generalize hq : (decide (0 < i) && decide ((ar b i).f_From ≤ (ar b (i - 1)).f_From)) = q at h3
        cases p <;> cases q <;> simp at h3 ⊢
      rw [h] at h2
      have hr : (decide (b.f_Rim ≤ (ar b (b.f_Areas.length - 1)).f_From) || decide (b.f_Rim > 1000000)) = false := by
        cases hr : (decide (b.f_Rim ≤ (ar b (b.f_Areas.length - 1)).f_From) || decide (b.f_Rim > 1000000))
        · rfl
        · rw [hr] at h2; cases h2
      refine ⟨⟨by omega, by omega⟩, fun m hm => ?_, fun m hm => ?_, fun m hm => ?_, ?_⟩
      · exact ins_iff.1 (Bool.and_eq_true_iff.1 (hn m hm).1).1
      · exact ins_iff.1 (Bool.and_eq_true_iff.1 (hn m hm).1).2
      · have := (hn (m + 1) hm).2
        simp at this
        exact this
      · simp at hr; omega
end Go.Den

namespace Go.Den
open Go.Ab

/-- The volume below a level in the parts from m on. -/
def volS (b : Tapi_Basin) (l : Int) : Nat → Nat → Int
  | 0, _ => 0
  | k + 1, m => (ar b m).f_Size * max 0 ((if m + 1 < b.f_Areas.length then min l (ar b (m + 1)).f_From else l) - (ar b m).f_From) + volS b l k (m + 1)
def vol (b : Tapi_Basin) (l : Int) : Int := volS b l b.f_Areas.length 0

theorem mul_bd {a c A C : Int} (h1 : 0 ≤ a) (h2 : a ≤ A) (h3 : 0 ≤ c) (h4 : c ≤ C) : 0 ≤ a * c ∧ a * c ≤ A * C :=
  ⟨Int.mul_nonneg h1 h3, Int.mul_le_mul h2 h4 h3 (Int.le_trans h1 h2)⟩

theorem volS_bd {b : Tapi_Basin} (v : Valid b) {l : Int} (h1 : -1000000 ≤ l) (h2 : l ≤ 1000001) : ∀ k m, m + k = b.f_Areas.length → 0 ≤ volS b l k m ∧ volS b l k m ≤ 2000001000000 * k
  | 0, m, _ => ⟨Int.le_refl _, by simp [volS]⟩
  | k + 1, m, h => by
    have ih := volS_bd v h1 h2 k (m + 1) (by omega)
    have hs := v.sz m (by omega)
    have hf := v.frm m (by omega)
    unfold volS
    generalize ht : (if m + 1 < b.f_Areas.length then min l (ar b (m + 1)).f_From else l) = t
    have ht2 : t ≤ 1000001 := by rw [← ht]; split <;> omega
    have := mul_bd (a := (ar b m).f_Size) (c := max 0 (t - (ar b m).f_From)) (A := 1000000) (C := 2000001) (by omega) hs.2 (by omega) (by omega)
    omega

theorem volume_eq {N : Nat} (hN : 20 < N) {b : Tapi_Basin} (v : Valid b) {l : Int} (h1 : -1000000 ≤ l) (h2 : l ≤ 1000001) : g_water_volume N b l = some (vol b l) := by
  have key : ∀ k m fuel (s : Int), m + k = b.f_Areas.length → k < fuel → 0 ≤ s → s ≤ 2000001000000 * m → g_water_volume_L1 N b l fuel s (m : Int) = some (s + volS b l k m) := by
    intro k
    induction k with
    | zero =>
      intro m fuel s h hf hs1 hs2
      obtain ⟨f, rfl⟩ : ∃ f, fuel = f + 1 := ⟨fuel - 1, by omega⟩
      have : m = b.f_Areas.length := by omega
      subst this
      simp only [g_water_volume_L1, dec_nlt, cond_false, volS, Int.add_zero]
    | succ k ih =>
      intro m fuel s h hf hs1 hs2
      obtain ⟨f, rfl⟩ : ∃ f, fuel = f + 1 := ⟨fuel - 1, by omega⟩
      have hm : m < b.f_Areas.length := by omega
      have hv := v.len
      have hsz := v.sz m hm
      have hfr := v.frm m hm
      have step : ∀ t : Int, -1000000 ≤ t → t ≤ 1000001 → t = (if m + 1 < b.f_Areas.length then min l (ar b (m + 1)).f_From else l) →
          g_water_volume_J2 N b l s (m : Int) (g_water_volume_L1 N b l f) t = some (s + volS b l (k + 1) m) := by
        intro t ht1 ht2 ht
        unfold g_water_volume_J2
        rw [toNat_nat]
        change g_water_volume_L1 N b l f (w64 (s + w64 ((ar b m).f_Size * (if w64 (t - (ar b m).f_From) > 0 then w64 (t - (ar b m).f_From) else 0)))) (w64 ((m : Int) + 1)) = _
        rw [w64_eq (n := t - (ar b m).f_From) (by omega) (by omega)]
        have e : (if t - (ar b m).f_From > 0 then t - (ar b m).f_From else 0) = max 0 (t - (ar b m).f_From) := by split <;> omega
        rw [e]
        have hb := mul_bd (a := (ar b m).f_Size) (c := max 0 (t - (ar b m).f_From)) (A := 1000000) (C := 2000001) (by omega) hsz.2 (by omega) (by omega)
        rw [w64_eq (n := (ar b m).f_Size * _) (by omega) (by omega), w64_eq (n := s + _) (by omega) (by omega), w64_succ (show m < 9223372036854775807 by omega),
          ih (m + 1) f _ (by omega) (by omega) (by omega) (by omega)]
        congr 1
        rw [volS, ← ht]
        omega
      simp only [g_water_volume_L1, dec_lt hm, cond_true, if_pos (inb hm), w64_succ (show m < 9223372036854775807 by omega)]
      by_cases hm1 : m + 1 < b.f_Areas.length
      · simp only [dec_lt hm1, cond_true, if_pos (inb hm1), toNat_nat]
        change g_water_volume_J2 N b l s (m : Int) _ (if (ar b (m + 1)).f_From < l then (ar b (m + 1)).f_From else l) = _
        have hfr1 := v.frm (m + 1) hm1
        refine step _ ?_ ?_ ?_
        · split <;> omega
        · split <;> omega
        · rw [if_pos hm1]; split <;> omega
      · have hd : decide (((m + 1 : Nat) : Int) < ((b.f_Areas.length : Nat) : Int)) = false := by rw [decide_eq_false_iff_not]; omega
        simp only [hd, cond_false]
        exact step l h1 h2 (by rw [if_neg hm1])
  have := key b.f_Areas.length 0 N 0 (by omega) (by have := v.len; omega) (by omega) (by omega)
  unfold g_water_volume vol
  rw [Int.zero_add] at this
  exact this

theorem below_eq {N : Nat} (hN : 20 < N) {b : Tapi_Basin} (v : Valid b) {l : Int} (h1 : -1000000 ≤ l) (h2 : l ≤ 1000001) : g_r05_Below N b l = some (vol b l) := by
  have key : ∀ k m fuel (s : Int), m + k = b.f_Areas.length → k < fuel → 0 ≤ s → s ≤ 2000001000000 * m → g_r05_Below_L1 N b l fuel s (m : Int) = some (s + volS b l k m) := by
    intro k
    induction k with
    | zero =>
      intro m fuel s h hf hs1 hs2
      obtain ⟨f, rfl⟩ : ∃ f, fuel = f + 1 := ⟨fuel - 1, by omega⟩
      have : m = b.f_Areas.length := by omega
      subst this
      simp only [g_r05_Below_L1, dec_nlt, cond_false, volS, Int.add_zero]
    | succ k ih =>
      intro m fuel s h hf hs1 hs2
      obtain ⟨f, rfl⟩ : ∃ f, fuel = f + 1 := ⟨fuel - 1, by omega⟩
      have hm : m < b.f_Areas.length := by omega
      have hv := v.len
      have hsz := v.sz m hm
      have hfr := v.frm m hm
      have step : ∀ t : Int, -1000000 ≤ t → t ≤ 1000001 → t = (if m + 1 < b.f_Areas.length then min l (ar b (m + 1)).f_From else l) →
          g_r05_Below_J2 N b l s (m : Int) (g_r05_Below_L1 N b l f) t = some (s + volS b l (k + 1) m) := by
        intro t ht1 ht2 ht
        unfold g_r05_Below_J2 g_r05_Below_J3
        rw [toNat_nat, if_pos (inb hm)]
        change cond (decide (t > (ar b m).f_From)) (g_r05_Below_L1 N b l f (w64 (s + w64 ((ar b m).f_Size * w64 (t - (ar b m).f_From)))) (w64 ((m : Int) + 1))) (g_r05_Below_L1 N b l f s (w64 ((m : Int) + 1))) = _
        rw [w64_succ (show m < 9223372036854775807 by omega), w64_eq (n := t - (ar b m).f_From) (by omega) (by omega)]
        by_cases hgt : t > (ar b m).f_From
        · have hb := mul_bd (a := (ar b m).f_Size) (c := t - (ar b m).f_From) (A := 1000000) (C := 2000001) (by omega) hsz.2 (by omega) (by omega)
          rw [decide_eq_true hgt, cond_true, w64_eq (n := (ar b m).f_Size * _) (by omega) (by omega), w64_eq (n := s + _) (by omega) (by omega), ih (m + 1) f _ (by omega) (by omega) (by omega) (by omega)]
          congr 1
          rw [volS, ← ht, show max 0 (t - (ar b m).f_From) = t - (ar b m).f_From by omega]
          omega
        · rw [decide_eq_false hgt, cond_false, ih (m + 1) f _ (by omega) (by omega) (by omega) (by omega)]
          congr 1
          rw [volS, ← ht, show max 0 (t - (ar b m).f_From) = 0 by omega]
          simp
      simp only [g_r05_Below_L1, dec_lt hm, cond_true, w64_succ (show m < 9223372036854775807 by omega)]
      by_cases hm1 : m + 1 < b.f_Areas.length
      · simp only [dec_lt hm1, cond_true, if_pos (inb hm1), toNat_nat]
        change g_r05_Below_J2 N b l s (m : Int) _ (if (ar b (m + 1)).f_From < l then (ar b (m + 1)).f_From else l) = _
        have hfr1 := v.frm (m + 1) hm1
        refine step _ ?_ ?_ ?_
        · split <;> omega
        · split <;> omega
        · rw [if_pos hm1]; split <;> omega
      · have hd : decide (((m + 1 : Nat) : Int) < ((b.f_Areas.length : Nat) : Int)) = false := by rw [decide_eq_false_iff_not]; omega
        simp only [hd, cond_false]
        exact step l h1 h2 (by rw [if_neg hm1])
  have := key b.f_Areas.length 0 N 0 (by omega) (by have := v.len; omega) (by omega) (by omega)
  unfold g_r05_Below vol
  rw [Int.zero_add] at this
  exact this
end Go.Den

namespace Go.Den
open Go.Ab
variable {b : Tapi_Basin}

def topR (b : Tapi_Basin) (m : Nat) : Int := if m + 1 < b.f_Areas.length then (ar b (m + 1)).f_From else b.f_Rim
def pre (b : Tapi_Basin) : Nat → Int
  | 0 => 0
  | m + 1 => pre b m + (ar b m).f_Size * (topR b m - (ar b m).f_From)
theorem from_mono (v : Valid b) {i : Nat} : ∀ j, i ≤ j → j < b.f_Areas.length → (ar b i).f_From ≤ (ar b j).f_From
  | 0, h, _ => by have : i = 0 := by omega
                  subst this; exact Int.le_refl _
  | j + 1, h, hj => by
    by_cases he : i = j + 1
    · subst he; exact Int.le_refl _
    · have := from_mono (i := i) v j (by omega) (by omega)
      have := v.ord j hj
      omega
theorem vol_tail {l : Int} (v : Valid b) : ∀ k m, m + k = b.f_Areas.length → (0 < k → l ≤ (ar b m).f_From) → volS b l k m = 0
  | 0, m, _, _ => rfl
  | k + 1, m, h, hl => by
    have hl := hl (by omega)
    unfold volS
    have ih := vol_tail (l := l) v k (m + 1) (by omega) (fun hk => by have := v.ord m (by omega); omega)
    rw [ih]
    generalize ht : (if m + 1 < b.f_Areas.length then min l (ar b (m + 1)).f_From else l) = t
    have : t ≤ l := by rw [← ht]; split <;> omega
    rw [show max 0 (t - (ar b m).f_From) = 0 by omega]; simp
theorem vol_head {l : Int} (v : Valid b) {m : Nat} (hm : m < b.f_Areas.length) (hl : (ar b m).f_From ≤ l) : ∀ d j, j + d = m → volS b l (b.f_Areas.length - j) j = pre b m - pre b j + volS b l (b.f_Areas.length - m) m
  | 0, j, h => by
    have : j = m := by omega
    subst this; omega
  | d + 1, j, h => by
    have ih := vol_head v hm hl d (j + 1) (by omega)
    obtain ⟨k, hk⟩ : ∃ k, b.f_Areas.length - j = k + 1 := ⟨b.f_Areas.length - j - 1, by omega⟩
    have hk2 : b.f_Areas.length - (j + 1) = k := by omega
    rw [hk, volS, ← hk2, ih, pre, topR, if_pos (show j + 1 < b.f_Areas.length by omega), if_pos (show j + 1 < b.f_Areas.length by omega)]
    have h1 := from_mono v m (show j + 1 ≤ m by omega) hm
    have h2 := v.ord j (by omega)
    rw [show min l (ar b (j + 1)).f_From = (ar b (j + 1)).f_From by omega, show max 0 ((ar b (j + 1)).f_From - (ar b j).f_From) = (ar b (j + 1)).f_From - (ar b j).f_From by omega]
    omega
theorem vol_at {l : Int} (v : Valid b) {m : Nat} (hm : m < b.f_Areas.length) (hl : (ar b m).f_From ≤ l) (hl2 : m + 1 < b.f_Areas.length → l ≤ (ar b (m + 1)).f_From) :
    vol b l = pre b m + (ar b m).f_Size * (l - (ar b m).f_From) := by
  have h1 := vol_head v hm hl m 0 (by omega)
  obtain ⟨k, hk⟩ : ∃ k, b.f_Areas.length - m = k + 1 := ⟨b.f_Areas.length - m - 1, by omega⟩
  have h2 := vol_tail (l := l) v k (m + 1) (by omega) (fun h => hl2 (by omega))
  rw [hk, volS, h2] at h1
  have e : (if m + 1 < b.f_Areas.length then min l (ar b (m + 1)).f_From else l) = l := by
    split
    · rename_i h; have := hl2 h; omega
    · rfl
  rw [e, show max 0 (l - (ar b m).f_From) = l - (ar b m).f_From by omega] at h1
  unfold vol
  rw [Nat.sub_zero] at h1
  rw [h1, pre]; omega
theorem part_of {l : Int} (v : Valid b) (hl : (ar b 0).f_From ≤ l) : ∃ m, m < b.f_Areas.length ∧ (ar b m).f_From ≤ l ∧ (m + 1 < b.f_Areas.length → l < (ar b (m + 1)).f_From) := by
  have key : ∀ d m, m + d = b.f_Areas.length → m < b.f_Areas.length → (ar b m).f_From ≤ l → ∃ m, m < b.f_Areas.length ∧ (ar b m).f_From ≤ l ∧ (m + 1 < b.f_Areas.length → l < (ar b (m + 1)).f_From) := by
    intro d
    induction d with
    | zero => intro m h1 h2; omega
    | succ d ih =>
      intro m h1 h2 h3
      by_cases h : m + 1 < b.f_Areas.length ∧ (ar b (m + 1)).f_From ≤ l
      · exact ih (m + 1) (by omega) h.1 h.2
      · exact ⟨m, h2, h3, fun hh => by omega⟩
  exact key b.f_Areas.length 0 (by omega) (by have := v.len; omega) hl
theorem vol_succ {l : Int} (v : Valid b) (hl : (ar b 0).f_From ≤ l) : vol b l < vol b (l + 1) := by
  obtain ⟨m, h1, h2, h3⟩ := part_of v hl
  rw [vol_at v h1 h2 (fun h => by have := h3 h; omega), vol_at v h1 (show (ar b m).f_From ≤ l + 1 by omega) (fun h => by have := h3 h; omega)]
  have := v.sz m h1
  have e : (ar b m).f_Size * (l + 1 - (ar b m).f_From) = (ar b m).f_Size * (l - (ar b m).f_From) + (ar b m).f_Size := by
    rw [show l + 1 - (ar b m).f_From = (l - (ar b m).f_From) + 1 by omega, Int.mul_add, Int.mul_one]
  omega
theorem vol_mono {l : Int} (v : Valid b) (hl : (ar b 0).f_From ≤ l) : ∀ d : Nat, vol b l ≤ vol b (l + d)
  | 0 => by simp
  | d + 1 => by
    have h1 := vol_mono v hl d
    have h2 := vol_succ (l := l + d) v (by omega)
    rw [show l + ((d + 1 : Nat) : Int) = l + d + 1 by omega]; omega
theorem vol_le {l l' : Int} (v : Valid b) (hl : (ar b 0).f_From ≤ l) (h : l ≤ l') : vol b l ≤ vol b l' := by
  have := vol_mono v hl (l' - l).toNat
  rwa [show l + ((l' - l).toNat : Int) = l' by omega] at this
theorem vol_lt {l l' : Int} (v : Valid b) (hl : (ar b 0).f_From ≤ l) (h : l < l') : vol b l < vol b l' := by
  have := vol_le (l := l + 1) (l' := l') v (by omega) (by omega)
  have := vol_succ v hl
  omega
theorem vol_floor (v : Valid b) : vol b (ar b 0).f_From = 0 := by
  rw [vol_at v (show 0 < b.f_Areas.length by have := v.len; omega) (Int.le_refl _) (fun h => by have := v.ord 0 h; omega)]
  simp [pre]
theorem floor_lt (v : Valid b) : (ar b 0).f_From < b.f_Rim := by
  have := v.len
  have := from_mono v (b.f_Areas.length - 1) (Nat.zero_le _) (by omega)
  have := v.rim
  omega

/-- L is the level of the volume w. -/
structure Lev (b : Tapi_Basin) (w L : Int) : Prop where
  lo : (ar b 0).f_From ≤ L
  hi : L ≤ b.f_Rim
  le : vol b L ≤ w
  gt : L < b.f_Rim → w < vol b (L + 1)
theorem Lev.unique (v : Valid b) {w L L' : Int} (h : Lev b w L) (h' : Lev b w L') : L = L' := by
  have key : ∀ {L L' : Int}, Lev b w L → Lev b w L' → ¬ L < L' := by
    intro L L' h h' hlt
    have h1 := h.gt (by have := h'.hi; omega)
    have h2 := vol_le (l := L + 1) (l' := L') v (by have := h.lo; omega) (by omega)
    have h3 := h'.le
    omega
  have := key h h'
  have := key h' h
  omega
theorem top_bd (v : Valid b) {m : Nat} (hm : m < b.f_Areas.length) : (ar b m).f_From < topR b m ∧ topR b m ≤ 1000000 := by
  unfold topR
  split
  · rename_i h; exact ⟨v.ord m h, (v.frm _ h).2⟩
  · have : m = b.f_Areas.length - 1 := by omega
    subst this; exact v.rim
theorem top_le_rim (v : Valid b) {m : Nat} (hm : m < b.f_Areas.length) : topR b m ≤ b.f_Rim := by
  unfold topR
  split
  · rename_i h
    have := from_mono v (b.f_Areas.length - 1) (show m + 1 ≤ b.f_Areas.length - 1 by omega) (by omega)
    have := v.rim
    omega
  · exact Int.le_refl _
theorem vol_rim (v : Valid b) : vol b b.f_Rim = pre b b.f_Areas.length := by
  have := v.len
  obtain ⟨k, hk⟩ : ∃ k, b.f_Areas.length = k + 1 := ⟨b.f_Areas.length - 1, by omega⟩
  have hr := v.rim
  rw [show b.f_Areas.length - 1 = k by omega] at hr
  rw [vol_at v (show k < b.f_Areas.length by omega) (by omega) (fun h => by omega), hk, pre, topR, if_neg (by omega)]

theorem levelOf_eq {N : Nat} (hN : 20 < N) (v : Valid b) {w : Int} (h1 : 0 ≤ w) (h2 : w ≤ vol b b.f_Rim) : ∃ L, g_water_levelOf N b w = some L ∧ Lev b w L := by
  have hw : vol b b.f_Rim ≤ 40000020000000 := by
    have hr := v.rim
    have := volS_bd v (l := b.f_Rim) (by have := floor_lt v; have := v.frm 0 (by have := v.len; omega); omega) (by omega) b.f_Areas.length 0 (by omega)
    have := v.len
    unfold vol; omega
  have hrim := floor_lt v
  have hlen := v.len
  have key : ∀ k m fuel (r lev : Int), m + k = b.f_Areas.length → k < fuel → 0 ≤ r → w = pre b m + r → r ≤ w → (0 < k → lev = (ar b m).f_From) → (k = 0 → lev = b.f_Rim) →
      ∃ L, g_water_levelOf_L1 N b fuel r lev (m : Int) = some L ∧ Lev b w L := by
    intro k
    induction k with
    | zero =>
      intro m fuel r lev h hf hr hp hrw _ hlev
      obtain ⟨f, rfl⟩ : ∃ f, fuel = f + 1 := ⟨fuel - 1, by omega⟩
      have : m = b.f_Areas.length := by omega
      subst this
      have hlev := hlev rfl
      subst hlev
      simp only [g_water_levelOf_L1, dec_nlt, cond_false]
      exact ⟨_, rfl, by omega, by omega, by rw [vol_rim v]; omega, by omega⟩
    | succ k ih =>
      intro m fuel r lev h hf hr hp hrw hlev _
      obtain ⟨f, rfl⟩ : ∃ f, fuel = f + 1 := ⟨fuel - 1, by omega⟩
      have hm : m < b.f_Areas.length := by omega
      have hlev := hlev (by omega)
      subst hlev
      have hsz := v.sz m hm
      have hfr := v.frm m hm
      have htb := top_bd v hm
      have htr := top_le_rim v hm
      have h0 := from_mono v m (Nat.zero_le _) hm
      have step : ∃ L, g_water_levelOf_J2 N b r (m : Int) (g_water_levelOf_L1 N b f) (topR b m) = some L ∧ Lev b w L := by
        unfold g_water_levelOf_J2
        rw [toNat_nat]
        change ∃ L, cond (decide (r < w64 ((ar b m).f_Size * w64 (topR b m - (ar b m).f_From)))) (if ((ar b m).f_Size : Int) ≠ 0 then some (w64 ((ar b m).f_From + w64 (r.tdiv (ar b m).f_Size))) else none)
          (g_water_levelOf_L1 N b f (w64 (r - w64 ((ar b m).f_Size * w64 (topR b m - (ar b m).f_From)))) (topR b m) (w64 ((m : Int) + 1))) = some L ∧ Lev b w L
        have hb := mul_bd (a := (ar b m).f_Size) (c := topR b m - (ar b m).f_From) (A := 1000000) (C := 2000001) (by omega) hsz.2 (by omega) (by omega)
        rw [w64_eq (n := topR b m - _) (by omega) (by omega), w64_eq (n := (ar b m).f_Size * _) (by omega) (by omega), w64_succ (show m < 9223372036854775807 by omega)]
        by_cases hlt : r < (ar b m).f_Size * (topR b m - (ar b m).f_From)
        · have hs0 : (ar b m).f_Size ≠ 0 := by omega
          have hq := Int.mul_ediv_add_emod r (ar b m).f_Size
          have hq1 := Int.emod_nonneg r hs0
          have hq2 := Int.emod_lt_of_pos r (show 0 < (ar b m).f_Size by omega)
          have hq3 : 0 ≤ r / (ar b m).f_Size := Int.ediv_nonneg hr (by omega)
          have hq4 : r / (ar b m).f_Size < topR b m - (ar b m).f_From := by
            apply Int.ediv_lt_of_lt_mul (by omega)
            rw [Int.mul_comm]; exact hlt
          rw [decide_eq_true hlt, cond_true, if_pos hs0, Int.tdiv_eq_ediv_of_nonneg hr, w64_eq (n := r / _) (by omega) (by omega), w64_eq (n := (ar b m).f_From + _) (by omega) (by omega)]
          generalize r / (ar b m).f_Size = q at *
          have hL : ∀ l : Int, l = q ∨ l = q + 1 → vol b ((ar b m).f_From + l) = pre b m + (ar b m).f_Size * l := by
            intro l hl
            rw [vol_at v hm (by omega) (fun hh => by unfold topR at hq4; rw [if_pos hh] at hq4; omega)]
            congr 2; omega
          refine ⟨_, rfl, by omega, by omega, ?_, fun _ => ?_⟩
          · rw [hL q (.inl rfl)]; omega
          · rw [Int.add_assoc, hL (q + 1) (.inr rfl), Int.mul_add, Int.mul_one]; omega
        · rw [decide_eq_false hlt, cond_false, w64_eq (n := r - _) (by omega) (by omega)]
          refine ih (m + 1) f _ _ (by omega) (by omega) (by omega) (by rw [pre]; omega) (by omega) (fun hk => ?_) (fun hk => ?_)
          · unfold topR; rw [if_pos (by omega)]
          · unfold topR; rw [if_neg (by omega)]
      simp only [g_water_levelOf_L1, dec_lt hm, cond_true, if_pos (inb hm), w64_succ (show m < 9223372036854775807 by omega)]
      by_cases hm1 : m + 1 < b.f_Areas.length
      · simp only [dec_lt hm1, cond_true, if_pos (inb hm1), toNat_nat]
        unfold topR at step
        rw [if_pos hm1] at step
        exact step
      · have hd : decide (((m + 1 : Nat) : Int) < ((b.f_Areas.length : Nat) : Int)) = false := by rw [decide_eq_false_iff_not]; omega
        simp only [hd, cond_false]
        unfold topR at step
        rw [if_neg hm1] at step
        exact step
  unfold g_water_levelOf g_water_floor
  rw [if_pos (show 0 ≤ (0 : Int) ∧ 0 < ((b.f_Areas.length : Nat) : Int) by omega)]
  exact key b.f_Areas.length 0 N w _ (by omega) (by omega) h1 (by simp [pre]) (Int.le_refl _) (fun _ => rfl) (fun h => by omega)

theorem refLevelOf_eq {N : Nat} (hN : 2000001 < N) (v : Valid b) {w : Int} (h1 : 0 ≤ w) : ∃ L, g_r05_LevelOf N b w = some L ∧ Lev b w L := by
  have hfl := v.frm 0 (by have := v.len; omega)
  have hrim := v.rim
  have key : ∀ k fuel (lo hi : Int), (hi - lo).toNat = k → k < fuel → (ar b 0).f_From ≤ lo → lo ≤ hi → hi ≤ b.f_Rim → vol b lo ≤ w → (hi < b.f_Rim → w < vol b (hi + 1)) → ∃ L, g_r05_LevelOf_L1 N b w fuel lo hi = some L ∧ Lev b w L := by
    intro k
    induction k using Nat.strongRecOn with
    | ind k ih =>
      intro fuel lo hi hk hf hl hlh hh hv hg
      obtain ⟨f, rfl⟩ : ∃ f, fuel = f + 1 := ⟨fuel - 1, by omega⟩
      simp only [g_r05_LevelOf_L1]
      by_cases hlt : lo < hi
      · rw [decide_eq_true hlt, cond_true]
        rw [w64_eq (n := hi - lo) (by omega) (by omega), w64_eq (n := hi - lo + 1) (by omega) (by omega), Int.tdiv_eq_ediv_of_nonneg (by omega), w64_eq (n := (hi - lo + 1) / 2) (by omega) (by omega), w64_eq (n := lo + _) (by omega) (by omega)]
        generalize hmid : lo + (hi - lo + 1) / 2 = mid
        rw [below_eq (by omega) v (by omega) (by omega), Option.bind_some]
        by_cases hc : vol b mid ≤ w
        · rw [decide_eq_true hc, cond_true]
          exact ih (hi - mid).toNat (by omega) f mid hi rfl (by omega) (by omega) (by omega) hh hc hg
        · rw [decide_eq_false hc, cond_false, w64_eq (n := mid - 1) (by omega) (by omega)]
          exact ih (mid - 1 - lo).toNat (by omega) f lo (mid - 1) rfl (by omega) hl (by omega) (by omega) hv (fun _ => by rw [show mid - 1 + 1 = mid by omega]; omega)
      · rw [decide_eq_false hlt, cond_false]
        have : lo = hi := by omega
        subst this
        exact ⟨_, rfl, hl, hh, hv, hg⟩
  unfold g_r05_LevelOf g_r05_Floor
  rw [if_pos (show 0 ≤ (0 : Int) ∧ 0 < ((b.f_Areas.length : Nat) : Int) by have := v.len; omega)]
  have hfr := floor_lt v
  refine key _ N _ _ rfl ?_ (Int.le_refl _) (Int.le_of_lt hfr) (Int.le_refl _) ?_ (by omega)
  · change (b.f_Rim - (ar b 0).f_From).toNat < N; omega
  · change vol b (ar b 0).f_From ≤ w; rw [vol_floor v]; exact h1
end Go.Den

namespace Go.Den
open Go.Ab

theorem basinValid {b : Tapi_Basin} (h : basinCode b = 0) : Valid b := by
  unfold basinCode at h
  cases hn : nameOk b.f_Name <;> rw [hn] at h
  · cases h
  · exact valid_of h
theorem floor_eq (N : Nat) {b : Tapi_Basin} (v : Valid b) : g_water_floor N b = some (ar b 0).f_From := by
  unfold g_water_floor
  rw [if_pos (by have := v.len; omega)]; rfl
theorem refFloor_eq (N : Nat) {b : Tapi_Basin} (v : Valid b) : g_r05_Floor N b = some (ar b 0).f_From := by
  unfold g_r05_Floor
  rw [if_pos (by have := v.len; omega)]; rfl

def volR (b : Tapi_Basin) (l : Int) : Int × Int :=
  cond (basinCode b != 0) (0, basinCode b) (cond (!ins l (ar b 0).f_From b.f_Rim) (0, 2) (vol b l, 0))
theorem Volume_eq {N : Nat} (hN : 20 < N) (b : Tapi_Basin) (l : Int) : g_water_Volume N b l = some (volR b l) := by
  unfold g_water_Volume volR
  rw [checkBasin_eq hN, Option.bind_some]
  cases h : basinCode b != 0
  · have v := basinValid (b := b) (by simpa using h)
    have h0 := v.frm 0 (by have := v.len; omega)
    have hr := v.rim
    simp only [cond_false, floor_eq N v, Option.bind_some, between_eq]
    cases hi : ins l (ar b 0).f_From b.f_Rim
    · rfl
    · obtain ⟨i1, i2⟩ := ins_iff.1 hi
      simp only [Bool.not_true, cond_false]
      rw [volume_eq hN v (by omega) (by omega)]; rfl
  · rfl
theorem refVolume_eq {N : Nat} (hN : 20 < N) (b : Tapi_Basin) (l : Int) : g_r05_Volume N b l = some (volR b l) := by
  unfold g_r05_Volume volR
  rw [refBasin_eq hN, Option.bind_some]
  cases h : basinCode b != 0
  · have v := basinValid (b := b) (by simpa using h)
    have h0 := v.frm 0 (by have := v.len; omega)
    have hr := v.rim
    simp only [cond_false, refFloor_eq N v, Option.bind_some, inside_eq]
    cases hi : ins l (ar b 0).f_From b.f_Rim
    · rfl
    · obtain ⟨i1, i2⟩ := ins_iff.1 hi
      simp only [Bool.not_true, cond_false]
      rw [below_eq hN v (by omega) (by omega)]; rfl
  · rfl

/-- What Level returns. -/
def LevR (b : Tapi_Basin) (w : Int) (r : Int × Int) : Prop :=
  if basinCode b = 0 then (if 0 ≤ w ∧ w ≤ vol b b.f_Rim then r.2 = 0 ∧ Lev b w r.1 else r = (0, 2)) else r = (0, basinCode b)
theorem LevR.unique {b : Tapi_Basin} {w : Int} {r r' : Int × Int} (h : LevR b w r) (h' : LevR b w r') : r = r' := by
  unfold LevR at h h'
  split at h
  · rename_i h0
    rw [if_pos h0] at h'
    split at h
    · rename_i h1
      rw [if_pos h1] at h'
      have := h.2.unique (basinValid h0) h'.2
      exact Prod.ext this (h.1.trans h'.1.symm)
    · rename_i h1
      rw [if_neg h1] at h'
      exact h.trans h'.symm
  · rename_i h0
    rw [if_neg h0] at h'
    exact h.trans h'.symm
theorem Level_eq {N : Nat} (hN : 20 < N) (b : Tapi_Basin) (w : Int) : ∃ r, g_water_Level N b w = some r ∧ LevR b w r := by
  unfold g_water_Level LevR
  rw [checkBasin_eq hN, Option.bind_some]
  by_cases h0 : basinCode b = 0
  · have v := basinValid h0
    have hf := v.frm 0 (by have := v.len; omega)
    have hr := v.rim
    have hr2 := floor_lt v
    rw [h0]
    simp only [bne_self_eq_false, cond_false, if_true]
    rw [volume_eq hN v (by omega) (by omega)]
    simp only [Option.bind_some, between_eq]
    cases hi : ins w 0 (vol b b.f_Rim)
    · exact ⟨_, rfl, by rw [if_neg (fun h => by rw [ins_iff.2 h] at hi; cases hi)]⟩
    · have hi := ins_iff.1 hi
      simp only [if_pos hi]
      obtain ⟨L, h1, h2⟩ := levelOf_eq hN v hi.1 hi.2
      simp only [Bool.not_true, cond_false, h1, Option.bind_some]
      exact ⟨_, rfl, rfl, h2⟩
  · have : (basinCode b != 0) = true := by simpa using h0
    rw [this]; exact ⟨_, rfl, by rw [if_neg h0]⟩
theorem refLevel_eq {N : Nat} (hN : 2000001 < N) (b : Tapi_Basin) (w : Int) : ∃ r, g_r05_Level N b w = some r ∧ LevR b w r := by
  unfold g_r05_Level LevR g_r05_Capacity
  rw [refBasin_eq (by omega), Option.bind_some]
  by_cases h0 : basinCode b = 0
  · have v := basinValid h0
    have hf := v.frm 0 (by have := v.len; omega)
    have hr := v.rim
    have hr2 := floor_lt v
    rw [h0]
    simp only [bne_self_eq_false, cond_false, if_true]
    rw [below_eq (by omega) v (by omega) (by omega)]
    simp only [Option.bind_some, inside_eq]
    cases hi : ins w 0 (vol b b.f_Rim)
    · exact ⟨_, rfl, by rw [if_neg (fun h => by rw [ins_iff.2 h] at hi; cases hi)]⟩
    · have hi := ins_iff.1 hi
      simp only [if_pos hi]
      obtain ⟨L, h1, h2⟩ := refLevelOf_eq hN v hi.1
      simp only [Bool.not_true, cond_false, h1, Option.bind_some]
      exact ⟨_, rfl, rfl, h2⟩
  · have : (basinCode b != 0) = true := by simpa using h0
    rw [this]; exact ⟨_, rfl, by rw [if_neg h0]⟩

def tubV : Tapi_Basin := ⟨⟨#[65]⟩, [⟨0, 100⟩, ⟨1000, 200⟩], 3000⟩
theorem tub_eq (N : Nat) : g_w05_tub N = some tubV := rfl
theorem tub_ok : basinCode tubV = 0 := by decide +kernel
theorem awake5_eq {N : Nat} (hN : 20 < N) : g_w05_awake N = some true := by
  unfold g_w05_awake
  rw [tub_eq, Option.bind_some, Volume_eq hN, Option.bind_some, Option.bind_some]
  obtain ⟨r, h1, h2⟩ := Level_eq hN tubV 100199
  have h3 : LevR tubV 100199 (1000, 0) := by
    unfold LevR
    rw [if_pos tub_ok, if_pos (by decide +kernel)]
    exact ⟨rfl, by decide +kernel, by decide +kernel, by decide +kernel, fun _ => by decide +kernel⟩
  have := h2.unique h3
  subst this
  rw [h1, Option.bind_some]
  rw [show volR tubV 1500 = (200000, 0) by decide +kernel]
  rfl
end Go.Den

namespace Go.Den
open Go.Ab

theorem half_eq {s : Int} (h1 : 0 ≤ s) (h2 : s ≤ 4611686018427387904) : w64 (shrI .u64 (IntKind.u64.wrap (w64 s)) 1) = s / 2 := by
  rw [w64_eq (n := s) (by omega) (by omega)]
  have e : IntKind.u64.wrap s = s % 18446744073709551616 := rfl
  rw [e, Int.emod_eq_of_lt h1 (by omega)]
  have e2 : shrI .u64 s 1 = s.fdiv 2 := rfl
  rw [e2, Int.fdiv_eq_ediv_of_nonneg _ (by omega)]
  exact w64_eq (by omega) (by omega)

def mk (m : List Tapi_Mark) (i : Nat) : Tapi_Mark := m.getD i Tapi_Mark.d
def seaStep (m : List Tapi_Mark) (i : Nat) : Option Int :=
  cond (!(ins (mk m i).f_Minute 0 1000000 && ins (mk m i).f_Level (-1000000) 1000000)) (some 2) (cond (decide (0 < i) && decide ((mk m i).f_Minute ≤ (mk m (i - 1)).f_Minute)) (some 10) none)
def seaCode (m : List Tapi_Mark) : Int := cond (decide (((m.length : Nat) : Int) > 400)) 8 (scan (seaStep m) 0 m.length 0)

theorem seaLoop {m : List Tapi_Mark} (hl : m.length ≤ 400) {i : Nat} (hi : i < m.length) : seaStep m i = cond (cond (!ins (mk m i).f_Minute 0 1000000) true (!ins (mk m i).f_Level (-1000000) 1000000)) (some 2) (cond (cond (decide ((i : Int) > 0)) (decide ((mk m i).f_Minute ≤ (mk m ((w64 ((i : Int) - 1)).toNat)).f_Minute)) false) (some 10) none) := by
  unfold seaStep
  cases i with
  | zero => cases ins (mk m 0).f_Minute 0 1000000 <;> cases ins (mk m 0).f_Level (-1000000) 1000000 <;> rfl
  | succ k =>
    have e : w64 (((k + 1 : Nat) : Int) - 1) = (k : Int) := by rw [w64_eq (by omega) (by omega)]; omega
    have e2 : decide (((k + 1 : Nat) : Int) > 0) = true := by rw [decide_eq_true_eq]; omega
    rw [e, e2, toNat_nat, Nat.add_sub_cancel, show decide (0 < k + 1) = true by simp]
    cases ins (mk m (k + 1)).f_Minute 0 1000000 <;> cases ins (mk m (k + 1)).f_Level (-1000000) 1000000 <;> rfl
theorem prev_bd {m : List Tapi_Mark} (hl : m.length ≤ 400) {i : Nat} (hi : i < m.length) : decide ((i : Int) > 0) = true → 0 ≤ w64 ((i : Int) - 1) ∧ w64 ((i : Int) - 1) < ((m.length : Nat) : Int) := by
  intro h
  have := of_decide_eq_true h
  rw [w64_eq (by omega) (by omega)]; omega
theorem checkSea_eq {N : Nat} (hN : 400 < N) (m : List Tapi_Mark) : g_water_CheckSea N m = some (seaCode m) := by
  unfold g_water_CheckSea seaCode
  cases h : decide (((m.length : Nat) : Int) > 400)
  · have hl : m.length ≤ 400 := by simp at h; omega
    rw [cond_false, cond_false]
    refine loop_scan0 (L := fun fuel => g_water_CheckSea_L1 N m fuel) _ _ (by omega) (fun fuel i hi => ?_) (fun fuel => ?_)
    · rw [seaLoop hl hi]
      simp only [g_water_CheckSea_L1, dec_lt hi, cond_true, if_pos (inb hi), toNat_nat, between_eq, Option.bind_some, if_pos (prev_bd hl hi), w64_succ (show i < 9223372036854775807 by omega)]
      unfold mk
      cases ins (m.getD i Tapi_Mark.d).f_Minute 0 1000000
      · rfl
      · simp only [Bool.not_true, Bool.not_false, cond_true, cond_false, Option.bind_some]
        cases ins (m.getD i Tapi_Mark.d).f_Level (-1000000) 1000000
        · rfl
        · simp only [Bool.not_true, cond_false]
          cases cond (decide ((i : Int) > 0)) (decide ((m.getD i Tapi_Mark.d).f_Minute ≤ (m.getD (w64 ((i : Int) - 1)).toNat Tapi_Mark.d).f_Minute)) false <;> rfl
    · simp only [g_water_CheckSea_L1, dec_nlt, cond_false]
  · rfl
theorem refSea_eq {N : Nat} (hN : 400 < N) (m : List Tapi_Mark) : g_r05_CheckSea N m = some (seaCode m) := by
  unfold g_r05_CheckSea seaCode
  cases h : decide (((m.length : Nat) : Int) > 400)
  · have hl : m.length ≤ 400 := by simp at h; omega
    rw [cond_false, cond_false]
    refine loop_scan0 (L := fun fuel => g_r05_CheckSea_L1 N m fuel) _ _ (by omega) (fun fuel i hi => ?_) (fun fuel => ?_)
    · rw [seaLoop hl hi]
      simp only [g_r05_CheckSea_L1, dec_lt hi, cond_true, if_pos (inb hi), if_pos (fun _ => inb hi), toNat_nat, inside_eq, Option.bind_some, if_pos (prev_bd hl hi), w64_succ (show i < 9223372036854775807 by omega)]
      unfold mk
      cases ins (m.getD i Tapi_Mark.d).f_Minute 0 1000000
      · rfl
      · simp only [Bool.not_true, Bool.not_false, cond_true, cond_false, Option.bind_some]
        cases ins (m.getD i Tapi_Mark.d).f_Level (-1000000) 1000000
        · rfl
        · simp only [Bool.not_true, cond_false]
          cases cond (decide ((i : Int) > 0)) (decide ((m.getD i Tapi_Mark.d).f_Minute ≤ (m.getD (w64 ((i : Int) - 1)).toNat Tapi_Mark.d).f_Minute)) false <;> rfl
    · simp only [g_r05_CheckSea_L1, dec_nlt, cond_false]
  · rfl

structure SeaOk (m : List Tapi_Mark) : Prop where
  len : m.length ≤ 400
  min : ∀ i, i < m.length → 0 ≤ (mk m i).f_Minute ∧ (mk m i).f_Minute ≤ 1000000
  lev : ∀ i, i < m.length → -1000000 ≤ (mk m i).f_Level ∧ (mk m i).f_Level ≤ 1000000
  ord : ∀ i, i + 1 < m.length → (mk m i).f_Minute < (mk m (i + 1)).f_Minute
theorem sea_of {m : List Tapi_Mark} (h : seaCode m = 0) : SeaOk m := by
  unfold seaCode at h
  cases hd : decide (((m.length : Nat) : Int) > 400) <;> rw [hd] at h
  · simp only [cond_false] at h
    rcases scan_inv (f := seaStep m) (z := 0) m.length 0 with ⟨i, r, _, _, h3, _, h5⟩ | ⟨h1, _⟩
    · rw [h] at h5
      subst h5
      unfold seaStep at h3
      generalize (!(ins (mk m i).f_Minute 0 1000000 && ins (mk m i).f_Level (-1000000) 1000000)) = p at h3
      generalize (decide (0 < i) && decide ((mk m i).f_Minute ≤ (mk m (i - 1)).f_Minute)) = q at h3
      cases p <;> cases q <;> simp at h3
    · have hn : ∀ i, i < m.length → (ins (mk m i).f_Minute 0 1000000 && ins (mk m i).f_Level (-1000000) 1000000) = true ∧ (decide (0 < i) && decide ((mk m i).f_Minute ≤ (mk m (i - 1)).f_Minute)) = false := by
        intro i hi
        have h3 := h1 i (Nat.zero_le _) (by omega)
        unfold seaStep at h3
        generalize (ins (mk m i).f_Minute 0 1000000 && ins (mk m i).f_Level (-1000000) 1000000) = p at h3 ⊢
        generalize (decide (0 < i) && decide ((mk m i).f_Minute ≤ (mk m (i - 1)).f_Minute)) = q at h3 ⊢
        cases p <;> cases q <;> simp at h3 ⊢
      refine ⟨by have := of_decide_eq_false hd; omega, fun i hi => ins_iff.1 (Bool.and_eq_true_iff.1 (hn i hi).1).1, fun i hi => ins_iff.1 (Bool.and_eq_true_iff.1 (hn i hi).1).2, fun i hi => ?_⟩
      have := (hn (i + 1) hi).2
      simp at this
      exact this
  · cases h
theorem min_mono {m : List Tapi_Mark} (v : SeaOk m) {i : Nat} : ∀ j, i ≤ j → j < m.length → (mk m i).f_Minute ≤ (mk m j).f_Minute
  | 0, h, _ => by have : i = 0 := by omega
                  subst this; exact Int.le_refl _
  | j + 1, h, hj => by
    by_cases he : i = j + 1
    · subst he; exact Int.le_refl _
    · have := min_mono (i := i) v j (by omega) (by omega)
      have := v.ord j hj
      omega

/-- The place of the first mark behind a minute. -/
structure Pos (m : List Tapi_Mark) (t : Int) (p : Nat) : Prop where
  le : p ≤ m.length
  lo : ∀ j, j < p → (mk m j).f_Minute ≤ t
  hi : ∀ j, p ≤ j → j < m.length → t < (mk m j).f_Minute
theorem search_eq {N : Nat} {m : List Tapi_Mark} (v : SeaOk m) (hN : 400 < N) (t : Int) : ∃ p : Nat, g_sort_Search N ((m.length : Nat) : Int) m t = some (p : Int) ∧ Pos m t p := by
  have hl := v.len
  have key : ∀ k fuel (i j : Nat), j - i = k → k < fuel → i ≤ j → j ≤ m.length → (∀ q, q < i → (mk m q).f_Minute ≤ t) → (∀ q, j ≤ q → q < m.length → t < (mk m q).f_Minute) →
      ∃ p : Nat, g_sort_Search_L1 N m t fuel (i : Int) (j : Int) = some (p : Int) ∧ Pos m t p := by
    intro k
    induction k using Nat.strongRecOn with
    | ind k ih =>
      intro fuel i j hk hf hij hj h1 h2
      obtain ⟨f, rfl⟩ : ∃ f, fuel = f + 1 := ⟨fuel - 1, by omega⟩
      simp only [g_sort_Search_L1]
      by_cases hlt : i < j
      · have hm : w64 (shrI .u64 (IntKind.u64.wrap (w64 ((i : Int) + (j : Int)))) 1) = (((i + j) / 2 : Nat) : Int) := by
          rw [half_eq (by omega) (by omega)]; omega
        have hmid : (i + j) / 2 < m.length := by omega
        rw [dec_lt hlt, cond_true]
        rw [hm]
        generalize hmm : (i + j) / 2 = mid at hmid ⊢
        rw [show g_water_tide_1 N (mid : Int) m t = some (decide ((mk m mid).f_Minute > t)) by unfold g_water_tide_1; rw [if_pos (inb hmid)]; rfl]
        rw [Option.bind_some]
        by_cases hc : (mk m mid).f_Minute > t
        · rw [decide_eq_true hc, Bool.not_true, cond_false]
          exact ih (mid - i) (by omega) f i mid rfl (by omega) (by omega) (by omega) h1 (fun q hq hq2 => by have := min_mono (i := mid) v q hq hq2; omega)
        · rw [decide_eq_false hc, Bool.not_false, cond_true, w64_succ (by omega)]
          exact ih (j - (mid + 1)) (by omega) f (mid + 1) j rfl (by omega) (by omega) hj (fun q hq => by have := min_mono (i := q) v mid (by omega) hmid; omega) h2
      · rw [show decide ((i : Int) < (j : Int)) = false from decide_eq_false (by omega), cond_false]
        have : i = j := by omega
        subst this
        exact ⟨i, rfl, hj, h1, h2⟩
  unfold g_sort_Search
  exact key m.length N 0 m.length (by omega) (by omega) (by omega) (Nat.le_refl _) (fun q hq => absurd hq (Nat.not_lt_zero _)) (fun q hq hq2 => by omega)
theorem Pos.unique {m : List Tapi_Mark} {t : Int} {p q : Nat} (h : Pos m t p) (k : Pos m t q) : p = q := by
  rcases Nat.lt_trichotomy p q with hl | hl | hl
  · have h1 := k.lo p hl
    have h2 := h.hi p (Nat.le_refl _) (by have := k.le; omega)
    omega
  · exact hl
  · have h1 := h.lo q hl
    have h2 := k.hi q (Nat.le_refl _) (by have := h.le; omega)
    omega

theorem down_eq {a b : Int} (hb : 0 < b) (h1 : -1000000000000000000 ≤ a) (h2 : a ≤ 1000000000000000000) : cond (decide (a.tmod b < 0)) (w64 (w64 (a.tdiv b) - 1)) (w64 (a.tdiv b)) = a / b := by
  have hm := Int.mul_tdiv_add_tmod a b
  have l1 := Int.tmod_lt_of_pos a hb
  have l2 := Int.lt_tmod_of_pos a hb
  have hn := Int.natAbs_tdiv_le_natAbs a b
  by_cases hr : a.tmod b < 0
  · have e : a / b = a.tdiv b - 1 := ((Int.ediv_emod_unique (r := a.tmod b + b) hb).2 ⟨by rw [Int.mul_sub, Int.mul_one]; omega, by omega, by omega⟩).1
    rw [decide_eq_true hr, cond_true, w64_eq (n := a.tdiv b) (by omega) (by omega), w64_eq (by omega) (by omega), e]
  · have e : a / b = a.tdiv b := ((Int.ediv_emod_unique (r := a.tmod b) hb).2 ⟨by omega, by omega, by omega⟩).1
    rw [decide_eq_false hr, cond_false, w64_eq (n := a.tdiv b) (by omega) (by omega), e]
end Go.Den

namespace Go.Den
open Go.Ab
variable {m : List Tapi_Mark}

/-- The level of the sea at a minute, by the place of the next mark. -/
def line (m : List Tapi_Mark) (t : Int) (i : Nat) : Int :=
  (mk m (i - 1)).f_Level + ((mk m i).f_Level - (mk m (i - 1)).f_Level) * (t - (mk m (i - 1)).f_Minute) / ((mk m i).f_Minute - (mk m (i - 1)).f_Minute)
def seaAt (m : List Tapi_Mark) (t : Int) (p : Nat) : Int :=
  if p = 0 then (mk m 0).f_Level else if p = m.length then (mk m (p - 1)).f_Level else line m t p

theorem prod_bd {x y X Y : Int} (h1 : -X ≤ x) (h2 : x ≤ X) (h3 : 0 ≤ y) (h4 : y ≤ Y) : -(X * Y) ≤ x * y ∧ x * y ≤ X * Y := by
  have hX : 0 ≤ X := by omega
  constructor
  · have := Int.mul_le_mul (show -x ≤ X by omega) h4 h3 hX
    rw [Int.neg_mul] at this; omega
  · exact Int.mul_le_mul h2 h4 h3 hX
theorem div_bd {a b A : Int} (hb : 0 < b) (h1 : -A ≤ a) (h2 : a ≤ A) : -A ≤ a / b ∧ a / b ≤ A := by
  have hA : 0 ≤ A := by omega
  constructor
  · rw [Int.le_ediv_iff_mul_le hb]
    have := Int.mul_le_mul_of_nonneg_left (show 1 ≤ b by omega) hA
    rw [Int.neg_mul]; omega
  · have : a / b < A + 1 := by
      rw [Int.ediv_lt_iff_lt_mul hb, Int.add_mul]
      have := Int.mul_le_mul_of_nonneg_left (show 1 ≤ b by omega) hA
      omega
    omega

/-- What the program computes between two marks. -/
theorem line_eq (v : SeaOk m) {t : Int} {i : Nat} (hi0 : 0 < i) (hi : i < m.length) (h1 : (mk m (i - 1)).f_Minute ≤ t) (h2 : t ≤ (mk m i).f_Minute) :
    w64 ((mk m i).f_Level - (mk m (i - 1)).f_Level) = (mk m i).f_Level - (mk m (i - 1)).f_Level ∧ w64 (t - (mk m (i - 1)).f_Minute) = t - (mk m (i - 1)).f_Minute ∧
    w64 ((mk m i).f_Minute - (mk m (i - 1)).f_Minute) = (mk m i).f_Minute - (mk m (i - 1)).f_Minute ∧ 0 < (mk m i).f_Minute - (mk m (i - 1)).f_Minute ∧
    w64 (((mk m i).f_Level - (mk m (i - 1)).f_Level) * (t - (mk m (i - 1)).f_Minute)) = ((mk m i).f_Level - (mk m (i - 1)).f_Level) * (t - (mk m (i - 1)).f_Minute) ∧
    -1000000000000000000 ≤ ((mk m i).f_Level - (mk m (i - 1)).f_Level) * (t - (mk m (i - 1)).f_Minute) ∧ ((mk m i).f_Level - (mk m (i - 1)).f_Level) * (t - (mk m (i - 1)).f_Minute) ≤ 1000000000000000000 ∧
    w64 ((mk m (i - 1)).f_Level + ((mk m i).f_Level - (mk m (i - 1)).f_Level) * (t - (mk m (i - 1)).f_Minute) / ((mk m i).f_Minute - (mk m (i - 1)).f_Minute)) = line m t i := by
  have a1 := v.min i hi
  have a2 := v.min (i - 1) (by omega)
  have a3 := v.lev i hi
  have a4 := v.lev (i - 1) (by omega)
  have a5 := v.ord (i - 1) (by omega)
  rw [show i - 1 + 1 = i by omega] at a5
  have hp := prod_bd (x := (mk m i).f_Level - (mk m (i - 1)).f_Level) (y := t - (mk m (i - 1)).f_Minute) (X := 2000000) (Y := 1000000) (by omega) (by omega) (by omega) (by omega)
  have hd := div_bd (a := ((mk m i).f_Level - (mk m (i - 1)).f_Level) * (t - (mk m (i - 1)).f_Minute)) (b := (mk m i).f_Minute - (mk m (i - 1)).f_Minute) (A := 2000000000000) (by omega) (by omega) (by omega)
  refine ⟨w64_eq (by omega) (by omega), w64_eq (by omega) (by omega), w64_eq (by omega) (by omega), by omega, w64_eq (by omega) (by omega), by omega, by omega, ?_⟩
  unfold line
  exact w64_eq (by omega) (by omega)

theorem tide_eq {N : Nat} (hN : 400 < N) (v : SeaOk m) (h0 : 0 < m.length) (t : Int) : ∃ p, Pos m t p ∧ g_water_tide N m t = some (seaAt m t p) := by
  obtain ⟨p, h1, hp⟩ := search_eq v hN t
  have hl := v.len
  have hpl := hp.le
  refine ⟨p, hp, ?_⟩
  unfold g_water_tide seaAt
  rw [h1, Option.bind_some]
  by_cases hp0 : p = 0
  · subst hp0
    rw [show (((0 : Nat) : Int) == 0) = true from rfl, cond_true, if_pos (show 0 ≤ (0 : Int) ∧ 0 < ((m.length : Nat) : Int) by omega), if_pos rfl]; rfl
  · have e0 : ((p : Int) == 0) = false := by simpa using hp0
    have ep : w64 ((p : Int) - 1) = ((p - 1 : Nat) : Int) := by rw [w64_eq (by omega) (by omega)]; omega
    have hpb : 0 ≤ ((p - 1 : Nat) : Int) ∧ ((p - 1 : Nat) : Int) < ((m.length : Nat) : Int) := by omega
    rw [e0, cond_false, ep, if_neg hp0]
    by_cases hpe : p = m.length
    · have e1 : ((p : Int) == ((m.length : Nat) : Int)) = true := by simp; omega
      rw [e1, cond_true, if_pos hpb, if_pos hpe]; rfl
    · have e1 : ((p : Int) == ((m.length : Nat) : Int)) = false := by simp; omega
      have hpi : 0 ≤ (p : Int) ∧ (p : Int) < ((m.length : Nat) : Int) := by omega
      obtain ⟨l1, l2, l3, l4, l5, l6, l7, l8⟩ := line_eq v (t := t) (i := p) (by omega) (by omega) (hp.lo _ (by omega)) (by have := hp.hi p (Nat.le_refl _) (by omega); omega)
      rw [e1, cond_false, if_pos hpb, if_pos hpi, if_neg hpe]
      simp only [toNat_nat]
      change (if w64 ((mk m p).f_Minute - (mk m (p - 1)).f_Minute) ≠ 0 then
        cond (decide ((w64 (w64 ((mk m p).f_Level - (mk m (p - 1)).f_Level) * w64 (t - (mk m (p - 1)).f_Minute))).tmod (w64 ((mk m p).f_Minute - (mk m (p - 1)).f_Minute)) < 0))
          (g_water_tide_J1 N m (p : Int) (w64 (w64 ((w64 (w64 ((mk m p).f_Level - (mk m (p - 1)).f_Level) * w64 (t - (mk m (p - 1)).f_Minute))).tdiv (w64 ((mk m p).f_Minute - (mk m (p - 1)).f_Minute))) - 1)))
          (g_water_tide_J1 N m (p : Int) (w64 ((w64 (w64 ((mk m p).f_Level - (mk m (p - 1)).f_Level) * w64 (t - (mk m (p - 1)).f_Minute))).tdiv (w64 ((mk m p).f_Minute - (mk m (p - 1)).f_Minute)))))
        else none) = _
      rw [l1, l2, l3, l5, if_pos (show _ ≠ _ by omega)]
      have hd := down_eq l4 l6 l7
      have push : ∀ (q : Bool) (x y : Int), cond q (g_water_tide_J1 N m (p : Int) x) (g_water_tide_J1 N m (p : Int) y) = g_water_tide_J1 N m (p : Int) (cond q x y) := fun q x y => by cases q <;> rfl
      rw [push, hd]
      unfold g_water_tide_J1
      rw [ep, toNat_nat]
      exact congrArg some l8

theorem line_end (v : SeaOk m) {i : Nat} (hi0 : 0 < i) (hi : i < m.length) : line m (mk m i).f_Minute i = (mk m i).f_Level := by
  have a5 := v.ord (i - 1) (by omega)
  rw [show i - 1 + 1 = i by omega] at a5
  unfold line
  rw [Int.mul_ediv_cancel _ (by omega)]; omega
theorem line_start {i : Nat} {t : Int} (h : t = (mk m (i - 1)).f_Minute) : line m t i = (mk m (i - 1)).f_Level := by
  unfold line
  rw [h, Int.sub_self, Int.mul_zero, Int.zero_ediv, Int.add_zero]
theorem at_eq {N : Nat} (hN : 400 < N) (v : SeaOk m) (h0 : 0 < m.length) {t : Int} {p : Nat} (hp : Pos m t p) : g_r05_At N m t = some (seaAt m t p) := by
  have hl := v.len
  unfold g_r05_At
  rw [if_pos (show 0 ≤ (0 : Int) ∧ 0 < ((m.length : Nat) : Int) by omega)]
  change cond (decide (t ≤ (mk m 0).f_Minute)) (some (mk m 0).f_Level) _ = _
  by_cases ht : t ≤ (mk m 0).f_Minute
  · rw [decide_eq_true ht, cond_true]
    unfold seaAt
    by_cases hp0 : p = 0
    · rw [if_pos hp0]
    · have he : t = (mk m 0).f_Minute := by have := hp.lo 0 (by omega); omega
      have hp1 : p = 1 := by
        rcases Nat.lt_trichotomy p 1 with h | h | h
        · omega
        · exact h
        · have := hp.lo 1 (by omega)
          have := v.ord 0 (by have := hp.le; omega)
          simp only [Nat.zero_add] at this
          omega
      subst hp1
      rw [if_neg (by omega)]
      split
      · rfl
      · rw [line_start he]
  · rw [decide_eq_false ht, cond_false]
    have key : ∀ d i fuel, i + d = m.length → d < fuel → 0 < i → (∀ j, j < i → (mk m j).f_Minute < t) → g_r05_At_L1 N m t fuel (i : Int) = some (seaAt m t p) := by
      intro d
      induction d with
      | zero =>
        intro i fuel h hf hi hb
        obtain ⟨f, rfl⟩ : ∃ f, fuel = f + 1 := ⟨fuel - 1, by omega⟩
        have : i = m.length := by omega
        subst this
        have ep : w64 (((m.length : Nat) : Int) - 1) = ((m.length - 1 : Nat) : Int) := by rw [w64_eq (by omega) (by omega)]; omega
        simp only [g_r05_At_L1, dec_nlt, cond_false, ep, if_pos (inb (show m.length - 1 < m.length by omega)), toNat_nat]
        have hpe : p = m.length := by
          rcases Nat.lt_or_ge p m.length with h | h
          · have := hp.hi p (Nat.le_refl _) h
            have := hb p h
            omega
          · have := hp.le; omega
        unfold seaAt
        rw [if_neg (by omega), if_pos hpe, hpe]; rfl
      | succ d ih =>
        intro i fuel h hf hi hb
        obtain ⟨f, rfl⟩ : ∃ f, fuel = f + 1 := ⟨fuel - 1, by omega⟩
        have hil : i < m.length := by omega
        have ep : w64 ((i : Int) - 1) = ((i - 1 : Nat) : Int) := by rw [w64_eq (by omega) (by omega)]; omega
        simp only [g_r05_At_L1, dec_lt hil, cond_true, if_pos (inb hil), toNat_nat, ep, if_pos (inb (show i - 1 < m.length by omega)), w64_succ (show i < 9223372036854775807 by omega)]
        by_cases hc : t ≤ (mk m i).f_Minute
        · have hc' : t ≤ (m.getD i Tapi_Mark.d).f_Minute := hc
          rw [decide_eq_true hc', cond_true]
          obtain ⟨l1, l2, l3, l4, l5, l6, l7, l8⟩ := line_eq v (t := t) (i := i) hi hil (by have := hb (i - 1) (by omega); omega) hc
          have hfd : g_r05_floorDiv N (((mk m i).f_Level - (mk m (i - 1)).f_Level) * (t - (mk m (i - 1)).f_Minute)) ((mk m i).f_Minute - (mk m (i - 1)).f_Minute) = some ((((mk m i).f_Level - (mk m (i - 1)).f_Level) * (t - (mk m (i - 1)).f_Minute)) / ((mk m i).f_Minute - (mk m (i - 1)).f_Minute)) := by
            unfold g_r05_floorDiv
            rw [if_pos (by omega), ← down_eq l4 l6 l7]
            unfold g_r05_floorDiv_J1
            rw [cond_some]
          change (g_r05_floorDiv N (w64 (w64 ((mk m i).f_Level - (mk m (i - 1)).f_Level) * w64 (t - (mk m (i - 1)).f_Minute))) (w64 ((mk m i).f_Minute - (mk m (i - 1)).f_Minute))).bind (fun r => some (w64 ((mk m (i - 1)).f_Level + r))) = _
          rw [l1, l2, l3, l5, hfd, Option.bind_some, l8]
          congr 1
          unfold seaAt
          rcases Int.lt_or_eq_of_le hc with hlt | heq
          · have hpi : p = i := hp.unique ⟨Nat.le_of_lt hil, fun j hj => by have := hb j hj; omega, fun j hj hj2 => by have := min_mono (i := i) v j hj hj2; omega⟩
            rw [if_neg (by omega), if_neg (by omega), hpi]
          · have hpi : p = i + 1 := hp.unique ⟨hil, fun j hj => by have := min_mono (i := j) v i (by omega) hil; omega, fun j hj hj2 => by have := min_mono (i := i + 1) v j hj hj2; have := v.ord i (by omega); omega⟩
            rw [heq, line_end v hi hil, if_neg (by omega), hpi]
            split
            · rfl
            · rw [line_start (by rfl)]; rfl
        · have hc' : ¬ t ≤ (m.getD i Tapi_Mark.d).f_Minute := hc
          rw [decide_eq_false hc', cond_false]
          exact ih (i + 1) f (by omega) (by omega) (by omega) (fun j hj => by
            by_cases hji : j = i
            · subst hji; omega
            · exact hb j (by omega))
    exact key (m.length - 1) 1 N (by omega) (by omega) (by omega) (fun j hj => by
      have : j = 0 := by omega
      subst this
      omega)

/-! ### High waters -/
def lv (m : List Tapi_Mark) (i : Nat) : Int := (mk m i).f_Level
/-- Whether the plateau that begins with the mark i ends lower, or with the last mark. -/
def fallsB (m : List Tapi_Mark) (i k j : Nat) : Bool := scan (fun q => cond (lv m q != lv m i) (some (decide (lv m q < lv m i))) none) true k j
def peakB (m : List Tapi_Mark) (i : Nat) : Bool := !(decide (0 < i) && decide (lv m i ≤ lv m (i - 1))) && fallsB m i (m.length - i) i
def highs (m : List Tapi_Mark) : Nat → Nat → List Tapi_Mark
  | 0, _ => []
  | k + 1, i => cond (peakB m i) (mk m i :: highs m k (i + 1)) (highs m k (i + 1))
theorem highs_len (m : List Tapi_Mark) : ∀ k i, (highs m k i).length ≤ k
  | 0, _ => Nat.le_refl _
  | k + 1, i => by
    unfold highs
    have := highs_len m k (i + 1)
    cases peakB m i
    · simp only [cond_false]; omega
    · simp only [cond_true, List.length_cons]; omega
theorem getD_drop {α : Type} (l : List α) (n i j : Nat) (d : α) (hn : l.length ≤ n) : ((l.take n).drop i).getD j d = l.getD (i + j) d := by
  rw [List.take_of_length_le hn]
  simp [List.getD_eq_getElem?_getD]
theorem idx_falls (m : List Tapi_Mark) (i : Nat) : ∀ (k j : Nat), 
    (scan (fun q => cond (lv m (i + q) != lv m i) (some (q : Int)) none) (-1) k j = -1 ∧ fallsB m i k (i + j) = true) ∨
      ∃ q : Nat, scan (fun q => cond (lv m (i + q) != lv m i) (some (q : Int)) none) (-1) k j = (q : Int) ∧ q < j + k ∧ fallsB m i k (i + j) = decide (lv m (i + q) < lv m i)
  | 0, j => .inl ⟨rfl, rfl⟩
  | k + 1, j => by
    have ih := idx_falls m i k (j + 1)
    unfold fallsB at ih ⊢
    rw [scan, scan]
    cases lv m (i + j) != lv m i
    · rcases ih with ⟨h1, h2⟩ | ⟨q, h1, h2, h3⟩
      · exact .inl ⟨h1, h2⟩
      · exact .inr ⟨q, h1, by omega, h3⟩
    · exact .inr ⟨j, rfl, by omega, rfl⟩

theorem indexMark_eq {N : Nat} (hN : 400 < N) (hl : m.length ≤ 400) {i : Nat} (hi : i < m.length) : g_slices_IndexFunc_api_Mark_api_Mark N ((m.take m.length).drop i) (mk m i) = some (scan (fun q => cond (lv m (i + q) != lv m i) (some (q : Int)) none) (-1) (m.length - i) 0) := by
  have hlen : ((m.take m.length).drop i).length = m.length - i := by simp
  unfold g_slices_IndexFunc_api_Mark_api_Mark
  refine loop_scan0 (L := fun fuel => g_slices_IndexFunc_api_Mark_api_Mark_L1 N ((m.take m.length).drop i) (mk m i) fuel) _ _ (by omega) (fun fuel k hk => ?_) (fun fuel => ?_)
  · simp only [g_slices_IndexFunc_api_Mark_api_Mark_L1, hlen, dec_lt hk, cond_true, if_pos (inb hk), w64_succ (show k < 9223372036854775807 by omega), toNat_nat, getD_drop m m.length i k _ (Nat.le_refl _), g_water_HighWaters_1, Option.bind_some]
    change cond (lv m (i + k) != lv m i) _ _ = _
    cases lv m (i + k) != lv m i <;> rfl
  · simp only [g_slices_IndexFunc_api_Mark_api_Mark_L1, hlen, dec_nlt, cond_false]

theorem high_eq {N : Nat} (hN : 400 < N) (v : SeaOk m) : g_water_HighWaters_L1 N m N [] 0 = some (highs m m.length 0, 0) := by
  have hl := v.len
  have key : ∀ d i fuel (out : List Tapi_Mark), i + d = m.length → d < fuel → out.length ≤ i → g_water_HighWaters_L1 N m fuel out (i : Int) = some (out ++ highs m d i, 0) := by
    intro d
    induction d with
    | zero =>
      intro i fuel out h hf ho
      obtain ⟨f, rfl⟩ : ∃ f, fuel = f + 1 := ⟨fuel - 1, by omega⟩
      have : i = m.length := by omega
      subst this
      simp only [g_water_HighWaters_L1, dec_nlt, cond_false, highs, List.append_nil]
    | succ d ih =>
      intro i fuel out h hf ho
      obtain ⟨f, rfl⟩ : ∃ f, fuel = f + 1 := ⟨fuel - 1, by omega⟩
      have hi : i < m.length := by omega
      have e1 : cond (decide ((i : Int) > 0)) (decide ((m.getD i Tapi_Mark.d).f_Level ≤ (m.getD (w64 ((i : Int) - 1)).toNat Tapi_Mark.d).f_Level)) false = (decide (0 < i) && decide (lv m i ≤ lv m (i - 1))) := by
        cases i with
        | zero => rfl
        | succ k =>
          have e : w64 (((k + 1 : Nat) : Int) - 1) = (k : Int) := by rw [w64_eq (by omega) (by omega)]; omega
          rw [e, decide_eq_true (show ((k + 1 : Nat) : Int) > 0 by omega), decide_eq_true (show 0 < k + 1 by omega)]; rfl
      simp only [g_water_HighWaters_L1, dec_lt hi, cond_true, if_pos (inb hi), toNat_nat, if_pos (prev_bd hl hi), e1, g_water_HighWaters_J2, w64_succ (show i < 9223372036854775807 by omega)]
      rw [highs]
      unfold peakB
      cases (decide (0 < i) && decide (lv m i ≤ lv m (i - 1)))
      · simp only [cond_false, Bool.not_false, Bool.true_and]
        rw [if_pos ⟨Nat.le_of_lt hi, Nat.le_refl _⟩, if_pos (Int.natCast_nonneg _)]
        have hix := indexMark_eq hN hl hi
        unfold mk at hix
        rw [hix, Option.bind_some]
        rcases idx_falls m i (m.length - i) 0 with ⟨f1, f2⟩ | ⟨q, f1, f3, f2⟩
        · rw [f1]
          rw [Nat.add_zero] at f2
          rw [f2, show decide ((-1 : Int) < 0) = true from rfl]
          simp only [Bool.not_true, Bool.false_eq_true, false_implies, if_true, cond_true]
          rw [if_pos (by omega), ih (i + 1) f _ (by omega) (by omega) (by simp; omega), List.append_assoc]; rfl
        · have hw : w64 ((i : Int) + (q : Int)) = ((i + q : Nat) : Int) := by rw [w64_eq (by omega) (by omega)]; omega
          rw [f1, hw]
          rw [Nat.add_zero] at f2
          rw [f2, show decide ((q : Int) < 0) = false from decide_eq_false (by omega)]
          simp only [Bool.not_false, forall_const, cond_false, toNat_nat]
          rw [if_pos (inb (show i + q < m.length by omega))]
          change cond (decide (lv m (i + q) < lv m i)) _ _ = some (out ++ cond (decide (lv m (i + q) < lv m i)) _ _, 0)
          cases decide (lv m (i + q) < lv m i)
          · simp only [cond_false]; exact ih (i + 1) f _ (by omega) (by omega) (by omega)
          · simp only [cond_true]
            rw [if_pos (by omega), ih (i + 1) f _ (by omega) (by omega) (by simp; omega), List.append_assoc]; rfl
      · simp only [cond_true, Bool.not_true, Bool.false_and, cond_false]
        exact ih (i + 1) f _ (by omega) (by omega) (by omega)
  have := key m.length 0 N [] (by omega) (by omega) (by simp)
  simpa using this
theorem refHigh_eq {N : Nat} (hN : 400 < N) (v : SeaOk m) : g_r05_HighWaters_L1 N m N [] 0 = some (highs m m.length 0) := by
  have hl := v.len
  have key : ∀ d i fuel (out : List Tapi_Mark), i + d = m.length → d < fuel → out.length ≤ i → g_r05_HighWaters_L1 N m fuel out (i : Int) = some (out ++ highs m d i) := by
    intro d
    induction d with
    | zero =>
      intro i fuel out h hf ho
      obtain ⟨f, rfl⟩ : ∃ f, fuel = f + 1 := ⟨fuel - 1, by omega⟩
      have : i = m.length := by omega
      subst this
      simp only [g_r05_HighWaters_L1, dec_nlt, cond_false, highs, List.append_nil]
    | succ d ih =>
      intro i fuel out h hf ho
      obtain ⟨f, rfl⟩ : ∃ f, fuel = f + 1 := ⟨fuel - 1, by omega⟩
      have hi : i < m.length := by omega
      have e1 : cond (decide ((i : Int) > 0)) (decide ((m.getD (w64 ((i : Int) - 1)).toNat Tapi_Mark.d).f_Level ≥ (m.getD i Tapi_Mark.d).f_Level)) false = (decide (0 < i) && decide (lv m i ≤ lv m (i - 1))) := by
        cases i with
        | zero => rfl
        | succ k =>
          have e : w64 (((k + 1 : Nat) : Int) - 1) = (k : Int) := by rw [w64_eq (by omega) (by omega)]; omega
          rw [e, decide_eq_true (show ((k + 1 : Nat) : Int) > 0 by omega), decide_eq_true (show 0 < k + 1 by omega)]; rfl
      have inner : ∀ e j fu, j + e = m.length → e < fu → g_r05_HighWaters_L3 N m out (i : Int) (g_r05_HighWaters_L1 N m f) fu (j : Int) = some (out ++ cond (fallsB m i e j) (mk m i :: highs m d (i + 1)) (highs m d (i + 1))) := by
        intro e
        induction e with
        | zero =>
          intro j fu hj hfu
          obtain ⟨g, rfl⟩ : ∃ g, fu = g + 1 := ⟨fu - 1, by omega⟩
          have : j = m.length := by omega
          subst this
          simp only [g_r05_HighWaters_L3, dec_nlt, Bool.false_eq_true, false_implies, if_true, cond_false, beq_self_eq_true, Bool.not_true, cond_true, if_pos (inb hi), toNat_nat, g_r05_HighWaters_J2, w64_succ (show i < 9223372036854775807 by omega)]
          rw [if_pos (by omega), ih (i + 1) f _ (by omega) (by omega) (by simp; omega), List.append_assoc]; rfl
        | succ e ihe =>
          intro j fu hj hfu
          obtain ⟨g, rfl⟩ : ∃ g, fu = g + 1 := ⟨fu - 1, by omega⟩
          have hjl : j < m.length := by omega
          have hne : (((j : Nat) : Int) == ((m.length : Nat) : Int)) = false := by simp; omega
          simp only [g_r05_HighWaters_L3, dec_lt hjl, hne, forall_const, if_pos (inb hjl), if_pos (inb hi), if_pos (fun _ => inb hjl), if_pos (fun _ => inb hi), cond_true, cond_false, toNat_nat, g_r05_HighWaters_J2, w64_succ (show i < 9223372036854775807 by omega), w64_succ (show j < 9223372036854775807 by omega), Bool.not_false]
          change cond (lv m j == lv m i) _ (cond (decide (lv m j < lv m i)) _ _) = _
          unfold fallsB
          rw [scan]
          have hb : (lv m j != lv m i) = !(lv m j == lv m i) := rfl
          rw [hb]
          cases lv m j == lv m i
          · simp only [cond_false, Bool.not_false, cond_true]
            cases decide (lv m j < lv m i)
            · simp only [cond_false]; exact ih (i + 1) f _ (by omega) (by omega) (by omega)
            · simp only [cond_true]
              rw [if_pos (by omega), ih (i + 1) f _ (by omega) (by omega) (by simp; omega), List.append_assoc]; rfl
          · simp only [cond_true, Bool.not_true, cond_false]
            have := ihe (j + 1) g (by omega) (by omega)
            unfold fallsB at this
            exact this
      simp only [g_r05_HighWaters_L1, dec_lt hi, cond_true, if_pos (fun _ => inb hi), toNat_nat, if_pos (prev_bd hl hi), e1, g_r05_HighWaters_J2, w64_succ (show i < 9223372036854775807 by omega)]
      rw [highs]
      unfold peakB
      cases (decide (0 < i) && decide (lv m i ≤ lv m (i - 1)))
      · simp only [cond_false, Bool.not_false, Bool.true_and]
        rw [inner d (i + 1) N (by omega) (by omega)]
        have e2 : fallsB m i (m.length - i) i = fallsB m i d (i + 1) := by
          rw [show m.length - i = d + 1 by omega]
          unfold fallsB
          rw [scan]
          simp
        rw [e2]
      · simp only [cond_true, Bool.not_true, Bool.false_and, cond_false]
        exact ih (i + 1) f _ (by omega) (by omega) (by omega)
  have := key m.length 0 N [] (by omega) (by omega) (by simp)
  simpa using this
end Go.Den

namespace Go.Den
open Go.Ab

theorem mGet_mPut (x z : ByteArray) (y : Bool) : ∀ l : List (ByteArray × Bool), mGet streq (mPut streq l x y) z = cond (streq x z) (some y) (mGet streq l z)
  | [] => rfl
  | p :: r => by
    have ih := mGet_mPut x z y r
    simp only [mPut, mGet]
    cases hx : streq p.1 x with
    | true =>
      have := streq_iff.1 hx
      simp only [cond_true, mGet, this]
      cases streq x z <;> rfl
    | false =>
      simp only [cond_false, mGet, ih]
      cases hz : streq p.1 z with
      | true =>
        have hne : streq x z = false := by
          cases h2 : streq x z with
          | false => rfl
          | true =>
            rw [streq_iff.1 h2, hz] at hx
            cases hx
        rw [hne]; rfl
      | false => rfl

/-- Whether a name stands ahead of a place. -/
def dup (nm : Nat → ByteArray) (m : Nat) (s : ByteArray) : Bool := (List.range m).any fun j => streq (nm j) s
theorem dup_succ (nm : Nat → ByteArray) (m : Nat) (s : ByteArray) : dup nm (m + 1) s = (dup nm m s || streq (nm m) s) := by
  unfold dup
  rw [List.range_succ, List.any_append]; simp
theorem scan_any {p : Nat → Bool} : ∀ (n m : Nat), scan (fun k => cond (p k) (some true) none) false n m = (List.range' m n).any p
  | 0, m => rfl
  | n + 1, m => by
    rw [List.range'_succ, List.any_cons, scan]
    cases p m with
    | true => rfl
    | false => exact scan_any n (m + 1)
theorem dup_scan (nm : Nat → ByteArray) (m : Nat) (s : ByteArray) : scan (fun k => cond (streq (nm k) s) (some true) none) false m 0 = dup nm m s := by
  rw [scan_any (p := fun k => streq (nm k) s), dup, List.range_eq_range']

def namedStep (nm : Nat → ByteArray) (code : Nat → Int) (m : Nat) : Option Int :=
  cond (!nameOk (nm m)) (some 4) (cond (dup nm m (nm m)) (some 5) (cond (code m != 0) (some (code m)) none))
theorem named_eq {L : Nat → List (ByteArray × Bool) → Int → Option Int} (nm : Nat → ByteArray) (code : Nat → Int) {n : Nat}
    (hstep : ∀ fuel names m, m < n → L (fuel + 1) names (m : Int) = cond (!nameOk (nm m)) (some 4) (cond ((mGet streq names (nm m)).getD false) (some 5) (cond (code m != 0) (some (code m)) (L fuel (mPut streq names (nm m) true) ((m + 1 : Nat) : Int)))))
    (hend : ∀ fuel names, L (fuel + 1) names (n : Int) = some 0) : ∀ k m names fuel, m + k = n → k < fuel → (∀ s, (mGet streq names s).getD false = dup nm m s) → L fuel names (m : Int) = some (scan (namedStep nm code) 0 k m)
  | 0, m, names, fuel, h, hf, _ => by
    obtain ⟨g, rfl⟩ : ∃ g, fuel = g + 1 := ⟨fuel - 1, by omega⟩
    have : m = n := by omega
    subst this; exact hend g names
  | k + 1, m, names, fuel, h, hf, hd => by
    obtain ⟨g, rfl⟩ : ∃ g, fuel = g + 1 := ⟨fuel - 1, by omega⟩
    rw [hstep g names m (by omega), hd, scan]
    unfold namedStep
    cases nameOk (nm m) with
    | false => rfl
    | true =>
      simp only [Bool.not_true, cond_false]
      cases dup nm m (nm m) with
      | true => rfl
      | false =>
        simp only [cond_false]
        cases code m != 0 with
        | true => rfl
        | false =>
          simp only [cond_false]
          refine named_eq nm code hstep hend k (m + 1) _ g (by omega) (by omega) fun s => ?_
          rw [mGet_mPut, dup_succ, ← hd s]
          cases streq (nm m) s <;> simp

def bs (n : Tapi_Network) (m : Nat) : Tapi_Basin := n.f_Basins.getD m Tapi_Basin.d
def ls (n : Tapi_Network) (m : Nat) : Tapi_Link := n.f_Links.getD m Tapi_Link.d
def basinIx (n : Tapi_Network) (s : ByteArray) : Int := scan (fun k => cond (streq (bs n k).f_Name s) (some (k : Int)) none) (-1) n.f_Basins.length 0
def linkIx (n : Tapi_Network) (s : ByteArray) : Int := scan (fun k => cond (streq (ls n k).f_Name s) (some (k : Int)) none) (-1) n.f_Links.length 0
theorem refBasinIx_eq {N : Nat} {n : Tapi_Network} (hN : n.f_Basins.length < N) (hl : n.f_Basins.length < 1000) (s : ByteArray) : g_r05_Basin N n s = some (basinIx n s) := by
  unfold g_r05_Basin
  refine loop_scan0 (L := fun fuel => g_r05_Basin_L1 N n s fuel) _ _ hN (fun fuel k hk => ?_) (fun fuel => ?_)
  · simp only [g_r05_Basin_L1, dec_lt hk, cond_true, if_pos (inb hk), w64_succ (show k < 9223372036854775807 by omega), toNat_nat]
    change cond (streq (bs n k).f_Name s) _ _ = _
    cases streq (bs n k).f_Name s <;> rfl
  · simp only [g_r05_Basin_L1, dec_nlt, cond_false]
theorem refLinkIx_eq {N : Nat} {n : Tapi_Network} (hN : n.f_Links.length < N) (hl : n.f_Links.length < 1000) (s : ByteArray) : g_r05_Link N n s = some (linkIx n s) := by
  unfold g_r05_Link
  refine loop_scan0 (L := fun fuel => g_r05_Link_L1 N n s fuel) _ _ hN (fun fuel k hk => ?_) (fun fuel => ?_)
  · simp only [g_r05_Link_L1, dec_lt hk, cond_true, if_pos (inb hk), w64_succ (show k < 9223372036854775807 by omega), toNat_nat]
    change cond (streq (ls n k).f_Name s) _ _ = _
    cases streq (ls n k).f_Name s <;> rfl
  · simp only [g_r05_Link_L1, dec_nlt, cond_false]
theorem basinIx_eq {N : Nat} {n : Tapi_Network} (hN : n.f_Basins.length < N) (hl : n.f_Basins.length < 1000) (s : ByteArray) : g_water_basinOf N n s = some (basinIx n s) := by
  unfold g_water_basinOf g_slices_IndexFunc_api_Basin_api_Basin
  rw [loop_scan0 (L := fun fuel => g_slices_IndexFunc_api_Basin_api_Basin_L1 N n.f_Basins s fuel) (fun k => cond (streq (bs n k).f_Name s) (some (k : Int)) none) (-1) hN (fun fuel k hk => ?_) (fun fuel => ?_)]
  · rfl
  · simp only [g_slices_IndexFunc_api_Basin_api_Basin_L1, g_water_basinOf_1, dec_lt hk, cond_true, if_pos (inb hk), w64_succ (show k < 9223372036854775807 by omega), toNat_nat, Option.bind_some]
    change cond (streq (bs n k).f_Name s) _ _ = _
    cases streq (bs n k).f_Name s <;> rfl
  · simp only [g_slices_IndexFunc_api_Basin_api_Basin_L1, dec_nlt, cond_false]

/-- A side of a link is the sea or a basin. -/
def sideOk (n : Tapi_Network) (s : ByteArray) : Bool := cond (streq s ByteArray.empty) true (decide (basinIx n s ≥ 0))
def linkTail (n : Tapi_Network) (l : Tapi_Link) : Int :=
  cond (streq l.f_From l.f_To) 3 (cond (cond (cond (streq l.f_From ByteArray.empty) true (streq l.f_To ByteArray.empty)) (((n.f_Sea.length : Nat) : Int) == 0) false) 29
    (cond (!ins l.f_Rate 0 1000000000) 2 (cond (cond (l.f_Kind == 0) (cond (!ins l.f_Sill (-1000000) 1000000) true (!ins l.f_Factor 0 1000000000)) false) 2
      (cond (cond (l.f_Kind == 1) (!ins l.f_Lift 0 1000000) false) 2 0))))
def linkCode (n : Tapi_Network) (l : Tapi_Link) : Int :=
  cond (cond (l.f_Kind != 0) (l.f_Kind != 1) false) 3 (cond (!(sideOk n l.f_From && sideOk n l.f_To)) 6 (linkTail n l))
theorem refSide_eq {N : Nat} {n : Tapi_Network} (hN : n.f_Basins.length < N) (hl : n.f_Basins.length < 1000) (s : ByteArray) : g_r05_side N n s = some (sideOk n s) := by
  unfold g_r05_side sideOk
  rw [refBasinIx_eq hN hl]
  cases streq s ByteArray.empty <;> rfl
theorem refLink_eq {N : Nat} {n : Tapi_Network} (hN : n.f_Basins.length < N) (hl : n.f_Basins.length < 1000) (l : Tapi_Link) : g_r05_checkLink N n l = some (linkCode n l) := by
  unfold g_r05_checkLink linkCode linkTail
  simp only [refSide_eq hN hl, inside_eq, Option.bind_some]
  cases cond (l.f_Kind != 0) (l.f_Kind != 1) false with
  | true => rfl
  | false =>
    cases sideOk n l.f_From with
    | false => rfl
    | true =>
      cases sideOk n l.f_To with
      | false => rfl
      | true =>
        cases streq l.f_From l.f_To with
        | true => rfl
        | false =>
          simp only [Bool.not_true, Bool.not_false, cond_true, cond_false, Option.bind_some, Bool.and_self]
          cases cond (cond (streq l.f_From ByteArray.empty) true (streq l.f_To ByteArray.empty)) (((n.f_Sea.length : Nat) : Int) == 0) false with
          | true => rfl
          | false =>
            simp only [cond_false]
            cases ins l.f_Rate 0 1000000000 with
            | false => rfl
            | true =>
              cases l.f_Kind == 0 <;> cases l.f_Kind == 1 <;> cases ins l.f_Sill (-1000000) 1000000 <;> cases ins l.f_Factor 0 1000000000 <;> cases ins l.f_Lift 0 1000000 <;> rfl
theorem linkEnd (N : Nat) (n : Tapi_Network) (l : Tapi_Link) (fuel : Nat) : g_water_checkLink_L1 N n l (fuel + 1) ((2 : Nat) : Int) = some (linkTail n l) := by
  unfold linkTail
  simp only [g_water_checkLink_L1, dec_nlt, cond_false, between_eq, Option.bind_some]
  cases streq l.f_From l.f_To with
  | true => rfl
  | false =>
    simp only [cond_false]
    cases cond (cond (streq l.f_From ByteArray.empty) true (streq l.f_To ByteArray.empty)) (((n.f_Sea.length : Nat) : Int) == 0) false with
    | true => rfl
    | false =>
      simp only [cond_false]
      cases ins l.f_Rate 0 1000000000 with
      | false => rfl
      | true =>
        cases l.f_Kind == 0 <;> cases l.f_Kind == 1 <;> cases ins l.f_Sill (-1000000) 1000000 <;> cases ins l.f_Factor 0 1000000000 <;> cases ins l.f_Lift 0 1000000 <;> rfl
theorem linkStep {N : Nat} {n : Tapi_Network} (hN : n.f_Basins.length < N) (hl : n.f_Basins.length < 1000) (l : Tapi_Link) (fuel m : Nat) (hm : m < 2) : g_water_checkLink_L1 N n l (fuel + 1) (m : Int) =
    cond (!sideOk n ([l.f_From, l.f_To].getD m ByteArray.empty)) (some 6) (g_water_checkLink_L1 N n l fuel ((m + 1 : Nat) : Int)) := by
  have hlen : (([l.f_From, l.f_To] : List ByteArray).length) = 2 := rfl
  rw [g_water_checkLink_L1]
  simp only [hlen, dec_lt hm, cond_true, if_pos (inb hm), toNat_nat, basinIx_eq hN hl, w64_succ (show m < 9223372036854775807 by omega)]
  unfold sideOk
  generalize [l.f_From, l.f_To].getD m ByteArray.empty = s
  cases streq s ByteArray.empty with
  | true => rfl
  | false =>
    simp only [Bool.not_false, cond_true, cond_false, Option.bind_some]
    rw [show decide (basinIx n s < 0) = !decide (basinIx n s ≥ 0) by rw [Bool.eq_iff_iff]; simp]
theorem checkLink_eq {N : Nat} {n : Tapi_Network} (h2 : 2 < N) (hN : n.f_Basins.length < N) (hl : n.f_Basins.length < 1000) (l : Tapi_Link) : g_water_checkLink N n l = some (linkCode n l) := by
  unfold g_water_checkLink linkCode
  obtain ⟨M, hM⟩ : ∃ M, N = M + 3 := ⟨N - 3, by omega⟩
  have e1 := linkStep hN hl l (M + 2) 0 (by omega)
  have e2 := linkStep hN hl l (M + 1) 1 (by omega)
  have e3 := linkEnd N n l M
  have e0 : g_water_checkLink_L1 N n l N 0 = g_water_checkLink_L1 N n l (M + 2 + 1) ((0 : Nat) : Int) := by rw [show M + 2 + 1 = N by omega]; rfl
  rw [e0, e1, e2, e3]
  cases cond (l.f_Kind != 0) (l.f_Kind != 1) false with
  | true => rfl
  | false =>
    simp only [cond_false, List.getD_cons_zero, List.getD_cons_succ]
    cases sideOk n l.f_From <;> cases sideOk n l.f_To <;> rfl

def bCode (n : Tapi_Network) : Nat → Option Int := namedStep (fun m => (bs n m).f_Name) fun m => formCode (bs n m)
def lCode (n : Tapi_Network) : Nat → Option Int := namedStep (fun m => (ls n m).f_Name) fun m => linkCode n (ls n m)
def linksCode (n : Tapi_Network) : Int := cond (decide (((n.f_Links.length : Nat) : Int) > 12)) 8 (scan (lCode n) 0 n.f_Links.length 0)
def netCode (n : Tapi_Network) : Int :=
  cond (decide (((n.f_Basins.length : Nat) : Int) > 8)) 8 (scan (bCode n) (cond (seaCode n.f_Sea != 0) (seaCode n.f_Sea) (linksCode n)) n.f_Basins.length 0)
theorem named_nz {nm : Nat → ByteArray} {code : Nat → Int} {m : Nat} {r : Int} (h : namedStep nm code m = some r) : r ≠ 0 := by
  unfold namedStep at h
  intro h0
  subst h0
  generalize hc : (code m != 0) = c at h
  generalize nameOk (nm m) = a at h
  generalize dup nm m (nm m) = b at h
  cases a <;> cases b <;> cases c <;> simp at h
  rw [h] at hc; cases hc
theorem scan_rest {f : Nat → Option Int} (hf : ∀ m r, f m = some r → r ≠ 0) (z : Int) (k m : Nat) : scan f z k m = cond (scan f 0 k m != 0) (scan f 0 k m) z := by
  rcases scan_inv (f := f) (z := z) k m with ⟨i, r, h1, h2, h3, h4, h5⟩ | ⟨h1, h2⟩
  · rcases scan_inv (f := f) (z := 0) k m with ⟨i', r', k1, k2, k3, k4, k5⟩ | ⟨k1, k2⟩
    · have : i = i' := by
        rcases Nat.lt_trichotomy i i' with h | h | h
        · rw [k4 i h1 h] at h3; cases h3
        · exact h
        · rw [h4 i' k1 h] at k3; cases k3
      subst this
      rw [h3] at k3; cases k3
      rw [h5, k5]
      have : (r != 0) = true := by simpa using hf i r h3
      rw [this]; rfl
    · rw [k1 i h1 h2] at h3; cases h3
  · rw [h2, scan_all k m h1]; rfl
theorem checkNet_eq {N : Nat} (hN : 400 < N) (n : Tapi_Network) : g_water_CheckNetwork N n = some (netCode n) := by
  unfold g_water_CheckNetwork netCode g_water_checkNamed
  rw [checkSea_eq hN]
  cases hb : decide (((n.f_Basins.length : Nat) : Int) > 8) with
  | true => rfl
  | false =>
    have hb : n.f_Basins.length ≤ 8 := by simp at hb; omega
    have e1 : g_water_checkNamed_L1 N ((n.f_Basins.length : Nat) : Int) n N [] ((0 : Nat) : Int) = some (scan (bCode n) 0 n.f_Basins.length 0) := by
      refine named_eq (n := n.f_Basins.length) (L := fun fuel names x => g_water_checkNamed_L1 N ((n.f_Basins.length : Nat) : Int) n fuel names x) (fun m => (bs n m).f_Name) (fun m => formCode (bs n m)) (fun fuel names m hm => ?_) (fun fuel names => ?_) n.f_Basins.length 0 [] N (by omega) (by omega) (fun s => rfl)
      · simp only [g_water_checkNamed_L1, g_water_CheckNetwork_1, g_water_CheckNetwork_2, dec_lt hm, cond_true, if_pos (inb hm), toNat_nat, Option.bind_some, isName_eq (show 12 < N by omega), form_eq (show 20 < N by omega), w64_succ (show m < 9223372036854775807 by omega)]
        rfl
      · simp only [g_water_checkNamed_L1, dec_nlt, cond_false]
    have e1 : g_water_checkNamed_L1 N ((n.f_Basins.length : Nat) : Int) n N [] 0 = some (scan (bCode n) 0 n.f_Basins.length 0) := e1
    have e2 : g_water_checkNamed_v2 N ((n.f_Links.length : Nat) : Int) 12 n = some (linksCode n) := by
      unfold g_water_checkNamed_v2 linksCode
      cases hl : decide (((n.f_Links.length : Nat) : Int) > 12) with
      | true => rfl
      | false =>
        have hl : n.f_Links.length ≤ 12 := by simp at hl; omega
        rw [cond_false, cond_false]
        have := named_eq (n := n.f_Links.length) (L := fun fuel names x => g_water_checkNamed_v2_L1 N ((n.f_Links.length : Nat) : Int) n fuel names x) (fun m => (ls n m).f_Name) (fun m => linkCode n (ls n m)) (fun fuel names m hm => ?_) (fun fuel names => ?_) n.f_Links.length 0 [] N (by omega) (by omega) (fun s => rfl)
        · exact this
        · simp only [g_water_checkNamed_v2_L1, g_water_CheckNetwork_3, g_water_CheckNetwork_4, dec_lt hm, cond_true, if_pos (inb hm), toNat_nat, Option.bind_some, isName_eq (show 12 < N by omega), checkLink_eq (show 2 < N by omega) (show n.f_Basins.length < N by omega) (by omega), w64_succ (show m < 9223372036854775807 by omega)]
          rfl
        · simp only [g_water_checkNamed_v2_L1, dec_nlt, cond_false]
    rw [cond_false, cond_false, e1, e2, scan_rest (f := bCode n) (fun m r h => named_nz h) (cond (seaCode n.f_Sea != 0) (seaCode n.f_Sea) (linksCode n))]
    simp only [Option.bind_some]
    cases scan (bCode n) 0 n.f_Basins.length 0 != 0 <;> cases seaCode n.f_Sea != 0 <;> rfl
theorem refNet_eq {N : Nat} (hN : 400 < N) (n : Tapi_Network) : g_r05_CheckNetwork N n = some (netCode n) := by
  unfold g_r05_CheckNetwork netCode
  cases hb : decide (((n.f_Basins.length : Nat) : Int) > 8) with
  | true => rfl
  | false =>
    have hb : n.f_Basins.length ≤ 8 := by simp at hb; omega
    rw [cond_false, cond_false]
    have ix : ∀ {i : Nat} {nm : Nat → ByteArray} {k : Nat}, i < k → (scan (fun j => cond (streq (nm j) (nm i)) (some (j : Int)) none) (-1) k 0 != (i : Int)) = dup nm i (nm i) := by
      intro i nm k hi
      rw [scan_first (p := fun j => streq (nm j) (nm i)) (streq_iff.2 rfl) k 0 (by omega) (by omega), Nat.sub_zero, dup_scan]
    refine loop_scan0 (L := fun fuel => g_r05_CheckNetwork_L1 N n fuel) _ _ (by omega) (fun fuel m hm => ?_) (fun fuel => ?_)
    · simp only [g_r05_CheckNetwork_L1, dec_lt hm, cond_true, if_pos (inb hm), toNat_nat, IsName_eq (show 12 < N by omega), Option.bind_some, refBasinIx_eq (show n.f_Basins.length < N by omega) (by omega), refBasin_eq (show 20 < N by omega), w64_succ (show m < 9223372036854775807 by omega)]
      have e := ix (nm := fun j => (bs n j).f_Name) hm
      change cond (!nameOk (bs n m).f_Name) _ (cond (basinIx n (bs n m).f_Name != (m : Int)) _ (cond (basinCode (bs n m) != 0) (some (basinCode (bs n m))) _)) = _
      unfold basinIx bCode namedStep basinCode
      rw [e]
      cases nameOk (bs n m).f_Name with
      | false => rfl
      | true =>
        simp only [Bool.not_true, cond_false]
        cases dup (fun j => (bs n j).f_Name) m (bs n m).f_Name with
        | true => rfl
        | false => cases formCode (bs n m) != 0 <;> rfl
    · simp only [g_r05_CheckNetwork_L1, dec_nlt, cond_false, refSea_eq hN, Option.bind_some]
      cases seaCode n.f_Sea != 0 with
      | true => rfl
      | false =>
        simp only [cond_false]
        unfold linksCode
        cases hl : decide (((n.f_Links.length : Nat) : Int) > 12) with
        | true => rfl
        | false =>
          have hl : n.f_Links.length ≤ 12 := by simp at hl; omega
          rw [cond_false, cond_false]
          refine loop_scan0 (L := fun fuel => g_r05_CheckNetwork_L2 N n fuel) _ _ (by omega) (fun fuel m hm => ?_) (fun fuel => ?_)
          · simp only [g_r05_CheckNetwork_L2, dec_lt hm, cond_true, if_pos (inb hm), toNat_nat, IsName_eq (show 12 < N by omega), Option.bind_some, refLinkIx_eq (show n.f_Links.length < N by omega) (by omega), refLink_eq (show n.f_Basins.length < N by omega) (by omega), w64_succ (show m < 9223372036854775807 by omega)]
            have e := ix (nm := fun j => (ls n j).f_Name) hm
            change cond (!nameOk (ls n m).f_Name) _ (cond (linkIx n (ls n m).f_Name != (m : Int)) _ (cond (linkCode n (ls n m) != 0) (some (linkCode n (ls n m))) _)) = _
            unfold linkIx lCode namedStep
            rw [e]
            cases nameOk (ls n m).f_Name with
            | false => rfl
            | true =>
              simp only [Bool.not_true, cond_false]
              cases dup (fun j => (ls n j).f_Name) m (ls n m).f_Name with
              | true => rfl
              | false => cases linkCode n (ls n m) != 0 <;> rfl
          · simp only [g_r05_CheckNetwork_L2, dec_nlt, cond_false]

/-- A network that the document allows. -/
structure NetOk (n : Tapi_Network) : Prop where
  nb : n.f_Basins.length ≤ 8
  nl : n.f_Links.length ≤ 12
  nm : ∀ i, i < n.f_Basins.length → nameOk (bs n i).f_Name = true
  form : ∀ i, i < n.f_Basins.length → formCode (bs n i) = 0
  sea : seaCode n.f_Sea = 0
  lnm : ∀ i, i < n.f_Links.length → nameOk (ls n i).f_Name = true
  link : ∀ i, i < n.f_Links.length → linkCode n (ls n i) = 0
theorem named_all {nm : Nat → ByteArray} {code : Nat → Int} {k : Nat} (h : scan (namedStep nm code) 0 k 0 = 0) (i : Nat) (hi : i < k) : nameOk (nm i) = true ∧ code i = 0 := by
  rcases scan_inv (f := namedStep nm code) (z := 0) k 0 with ⟨j, r, _, _, h3, _, h5⟩ | ⟨h1, _⟩
  · exact absurd (h5.symm.trans h) (named_nz h3)
  · have := h1 i (Nat.zero_le _) (by omega)
    unfold namedStep at this
    cases hn : nameOk (nm i) <;> cases hd : dup nm i (nm i) <;> cases hc : (code i != 0) <;> rw [hn, hd, hc] at this <;> simp at this
    exact ⟨rfl, by simpa using hc⟩
theorem net_of {n : Tapi_Network} (h : netCode n = 0) : NetOk n := by
  unfold netCode at h
  cases hb : decide (((n.f_Basins.length : Nat) : Int) > 8) with
  | true => rw [hb] at h; cases h
  | false =>
    rw [hb, cond_false, scan_rest (f := bCode n) (fun m r h => named_nz h)] at h
    have hb : n.f_Basins.length ≤ 8 := by simp at hb; omega
    cases hs : (scan (bCode n) 0 n.f_Basins.length 0 != 0) with
    | true => rw [hs, cond_true] at h; rw [h] at hs; cases hs
    | false =>
      rw [hs, cond_false] at h
      have hs : scan (bCode n) 0 n.f_Basins.length 0 = 0 := by simpa using hs
      cases hsea : (seaCode n.f_Sea != 0) with
      | true => rw [hsea, cond_true] at h; rw [h] at hsea; cases hsea
      | false =>
        rw [hsea, cond_false] at h
        unfold linksCode at h
        cases hl : decide (((n.f_Links.length : Nat) : Int) > 12) with
        | true => rw [hl] at h; cases h
        | false =>
          rw [hl, cond_false] at h
          have hl : n.f_Links.length ≤ 12 := by simp at hl; omega
          exact ⟨hb, hl, fun i hi => (named_all hs i hi).1, fun i hi => (named_all hs i hi).2, by simpa using hsea, fun i hi => (named_all h i hi).1, fun i hi => (named_all h i hi).2⟩
theorem NetOk.valid {n : Tapi_Network} (v : NetOk n) {i : Nat} (hi : i < n.f_Basins.length) : Valid (bs n i) := valid_of (v.form i hi)
theorem NetOk.basin {n : Tapi_Network} (v : NetOk n) {i : Nat} (hi : i < n.f_Basins.length) : basinCode (bs n i) = 0 := by
  unfold basinCode
  rw [v.nm i hi, v.form i hi]; rfl
end Go.Den

namespace Go.Den
open Go.Ab

def zeroW : Tapi_Water := ⟨0, [], []⟩
def fillOk (n : Tapi_Network) (levels : List Int) (m : Nat) : Bool := ins (levels.getD m 0) (ar (bs n m) 0).f_From (bs n m).f_Rim
def allOk (n : Tapi_Network) (levels : List Int) : Nat → Nat → Bool
  | 0, _ => true
  | k + 1, m => cond (fillOk n levels m) (allOk n levels k (m + 1)) false
def vols (n : Tapi_Network) (levels : List Int) (m : Nat) : List Int := (List.range m).map fun i => vol (bs n i) (levels.getD i 0)
theorem vols_succ (n : Tapi_Network) (levels : List Int) (m : Nat) : vols n levels (m + 1) = vols n levels m ++ [vol (bs n m) (levels.getD m 0)] := by
  unfold vols
  rw [List.range_succ, List.map_append]; rfl
theorem vols_len (n : Tapi_Network) (levels : List Int) (m : Nat) : (vols n levels m).length = m := by simp [vols]
theorem vols_get (n : Tapi_Network) (levels : List Int) {m i : Nat} (h : i < m) : (vols n levels m).getD i 0 = vol (bs n i) (levels.getD i 0) := by
  simp [vols, List.getD_eq_getElem?_getD, h]
theorem allOk_get {n : Tapi_Network} {levels : List Int} : ∀ {k m : Nat}, allOk n levels k m = true → ∀ i, m ≤ i → i < m + k → fillOk n levels i = true
  | 0, m, _, i, h1, h2 => by omega
  | k + 1, m, h, i, h1, h2 => by
    unfold allOk at h
    cases hf : fillOk n levels m with
    | false => rw [hf] at h; cases h
    | true =>
      rw [hf, cond_true] at h
      by_cases hi : i = m
      · subst hi; exact hf
      · exact allOk_get h i (by omega) (by omega)
def fullW (n : Tapi_Network) (minute : Int) (levels : List Int) : Tapi_Water := ⟨minute, vols n levels n.f_Basins.length, List.replicate n.f_Links.length false⟩
def fillR (n : Tapi_Network) (minute : Int) (levels : List Int) : Tapi_Water × Int := cond (allOk n levels n.f_Basins.length 0) (fullW n minute levels, 0) (zeroW, 2)

theorem fillL1 {N : Nat} (hN : 400 < N) {n : Tapi_Network} (v : NetOk n) (minute : Int) {levels : List Int} (hlen : levels.length = n.f_Basins.length) : ∀ k m fuel, m + k = n.f_Basins.length → k < fuel →
    g_water_Fill_L1 N n minute levels fuel (vols n levels m) (m : Int) = some (cond (allOk n levels k m) (fullW n minute levels, 0) (zeroW, 2))
  | 0, m, fuel, h, hf => by
    obtain ⟨g, rfl⟩ : ∃ g, fuel = g + 1 := ⟨fuel - 1, by omega⟩
    have hm : m = n.f_Basins.length := by omega
    subst hm
    simp only [g_water_Fill_L1, dec_nlt, cond_false, allOk, cond_true]; rfl
  | k + 1, m, fuel, h, hf => by
    obtain ⟨g, rfl⟩ : ∃ g, fuel = g + 1 := ⟨fuel - 1, by omega⟩
    have hm : m < n.f_Basins.length := by omega
    have hnb := v.nb
    have vb := v.valid hm
    have e1 : g_water_floor N (n.f_Basins.getD m Tapi_Basin.d) = some (ar (bs n m) 0).f_From := floor_eq N vb
    have hm2 : m < levels.length := by omega
    rw [g_water_Fill_L1]
    simp only [dec_lt hm, cond_true, if_pos (inb hm), if_pos (inb hm2), toNat_nat, e1, Option.bind_some, between_eq, w64_succ (show m < 9223372036854775807 by omega), vols_len]
    rw [allOk]
    change cond (!fillOk n levels m) _ _ = _
    cases hfo : fillOk n levels m with
    | false => rfl
    | true =>
      obtain ⟨i1, i2⟩ := ins_iff.1 hfo
      have h0 := vb.frm 0 (by have := vb.len; omega)
      have hr := vb.rim
      simp only [Bool.not_true, cond_false, cond_true]
      rw [show g_water_volume N (n.f_Basins.getD m Tapi_Basin.d) (levels.getD m 0) = some (vol (bs n m) (levels.getD m 0)) from volume_eq (by omega) vb (by omega) (by omega)]
      simp only [Option.bind_some]
      rw [if_pos (by omega), ← vols_succ]
      exact fillL1 hN v minute hlen k (m + 1) g (by omega) (by omega)
def fillCode (n : Tapi_Network) (minute : Int) (levels : List Int) : Int :=
  cond (netCode n != 0) (netCode n) (cond (!ins minute 0 1000000) 2 (cond (((levels.length : Nat) : Int) != ((n.f_Basins.length : Nat) : Int)) 11 0))
theorem Fill_eq {N : Nat} (hN : 400 < N) (n : Tapi_Network) (minute : Int) (levels : List Int) :
    g_water_Fill N n minute levels = some (cond (fillCode n minute levels != 0) (zeroW, fillCode n minute levels) (fillR n minute levels)) := by
  unfold g_water_Fill fillCode
  rw [checkNet_eq hN, Option.bind_some]
  cases h : netCode n != 0 with
  | true => simp only [cond_true, h]; rfl
  | false =>
    have v := net_of (n := n) (by simpa using h)
    simp only [cond_false, between_eq, Option.bind_some]
    cases ins minute 0 1000000 with
    | false => rfl
    | true =>
      simp only [Bool.not_true, cond_false]
      cases hl : ((levels.length : Nat) : Int) != ((n.f_Basins.length : Nat) : Int) with
      | true => rfl
      | false =>
        have hl : levels.length = n.f_Basins.length := by simp at hl; omega
        have hnl := v.nl
        have hnb := v.nb
        rw [cond_false, if_pos (by omega)]
        exact fillL1 hN v minute hl n.f_Basins.length 0 N (by omega) (by omega)

theorem ints_self {N : Nat} {l : List Int} (h : l.length < N) (h2 : l.length < 1000) : g_keelblockbase_Ints N l l = some true := by
  unfold g_keelblockbase_Ints
  rw [bne_self_eq_false, cond_false]
  refine loop_none (L := fun fuel => g_keelblockbase_Ints_L1 N l l fuel) (some true) h (fun fuel i hi => ?_) (fun fuel => ?_)
  · simp only [g_keelblockbase_Ints_L1, dec_lt hi, cond_true, if_pos (inb hi), bne_self_eq_false, cond_false, w64_succ (show i < 9223372036854775807 by omega)]
  · simp only [g_keelblockbase_Ints_L1, dec_nlt, cond_false]
theorem same_self {N : Nat} {w : Tapi_Water} (h1 : w.f_Litres.length < N) (h2 : w.f_Open.length < N) (h3 : w.f_Litres.length < 1000) (h4 : w.f_Open.length < 1000) : g_w05_SameWater N w w = some true := by
  unfold g_w05_SameWater
  rw [ints_self h1 h3]
  simp only [bne_self_eq_false, Bool.not_false, Bool.not_true, cond_true, cond_false, Option.bind_some]
  refine loop_none (L := fun fuel => g_w05_SameWater_L1 N w w fuel) (some true) h2 (fun fuel i hi => ?_) (fun fuel => ?_)
  · simp only [g_w05_SameWater_L1, dec_lt hi, cond_true, if_pos (inb hi), beq_self_eq_true, Bool.not_true, cond_false, w64_succ (show i < 9223372036854775807 by omega)]
  · simp only [g_w05_SameWater_L1, dec_nlt, cond_false]
theorem none_zero {N : Nat} (h : 0 < N) : g_w05_none N zeroW = some true := by
  unfold g_w05_none
  have := same_self (N := N) (w := zeroW) h h (by decide) (by decide)
  rw [show (⟨0, ([] : List Int), ([] : List Bool)⟩ : Tapi_Water) = zeroW from rfl, this]; rfl

/-- The state of a network is what the document allows. -/
def litresStep (n : Tapi_Network) (w : Tapi_Water) (m : Nat) : Option Int := cond (!ins (w.f_Litres.getD m 0) 0 (vol (bs n m) (bs n m).f_Rim)) (some 2) none
def stateCode (n : Tapi_Network) (w : Tapi_Water) : Int :=
  cond (netCode n != 0) (netCode n) (cond (!ins w.f_Minute 0 1000000) 2 (cond (cond (((w.f_Litres.length : Nat) : Int) != ((n.f_Basins.length : Nat) : Int)) true (((w.f_Open.length : Nat) : Int) != ((n.f_Links.length : Nat) : Int))) 11
    (scan (litresStep n w) 0 n.f_Basins.length 0)))
theorem checkState_eq {N : Nat} (hN : 400 < N) (n : Tapi_Network) (w : Tapi_Water) : g_water_checkState N n w = some (stateCode n w) := by
  unfold g_water_checkState stateCode
  rw [checkNet_eq hN, Option.bind_some]
  cases h : netCode n != 0 with
  | true => rfl
  | false =>
    have v := net_of (n := n) (by simpa using h)
    have hnb := v.nb
    simp only [cond_false, between_eq, Option.bind_some]
    cases ins w.f_Minute 0 1000000 with
    | false => rfl
    | true =>
      simp only [Bool.not_true, cond_false]
      cases hl : cond (((w.f_Litres.length : Nat) : Int) != ((n.f_Basins.length : Nat) : Int)) true (((w.f_Open.length : Nat) : Int) != ((n.f_Links.length : Nat) : Int)) with
      | true => rfl
      | false =>
        have hl : w.f_Litres.length = n.f_Basins.length := by
          cases h2 : ((w.f_Litres.length : Nat) : Int) != ((n.f_Basins.length : Nat) : Int) with
          | true => rw [h2] at hl; cases hl
          | false => simp at h2; omega
        rw [cond_false, cond_false]
        refine loop_scan0 (L := fun fuel => g_water_checkState_L1 N n w fuel) _ _ (by omega) (fun fuel m hm => ?_) (fun fuel => ?_)
        · have hm2 : m < w.f_Litres.length := by omega
          have vb := v.valid hm
          have h0 := vb.frm 0 (by have := vb.len; omega)
          have hr := vb.rim
          have hfl := floor_lt vb
          simp only [g_water_checkState_L1, dec_lt hm, cond_true, if_pos (inb hm), if_pos (inb hm2), toNat_nat, w64_succ (show m < 9223372036854775807 by omega), between_eq]
          rw [show g_water_volume N (n.f_Basins.getD m Tapi_Basin.d) (n.f_Basins.getD m Tapi_Basin.d).f_Rim = some (vol (bs n m) (bs n m).f_Rim) from volume_eq (by omega) vb (show -1000000 ≤ (bs n m).f_Rim by omega) (show (bs n m).f_Rim ≤ 1000001 by omega)]
          simp only [Option.bind_some, litresStep]
          cases ins (w.f_Litres.getD m 0) 0 (vol (bs n m) (bs n m).f_Rim) <;> rfl
        · simp only [g_water_checkState_L1, dec_nlt, cond_false]
structure StateOk (n : Tapi_Network) (w : Tapi_Water) : Prop where
  net : NetOk n
  lo : 0 ≤ w.f_Minute
  hi : w.f_Minute ≤ 1000000
  lit : w.f_Litres.length = n.f_Basins.length
  opn : w.f_Open.length = n.f_Links.length
  vol : ∀ m, m < n.f_Basins.length → 0 ≤ w.f_Litres.getD m 0 ∧ w.f_Litres.getD m 0 ≤ vol (bs n m) (bs n m).f_Rim
theorem state_of {n : Tapi_Network} {w : Tapi_Water} (h : stateCode n w = 0) : StateOk n w := by
  unfold stateCode at h
  cases hn : netCode n != 0 with
  | true => rw [hn, cond_true] at h; rw [h] at hn; cases hn
  | false =>
    rw [hn, cond_false] at h
    cases hi : ins w.f_Minute 0 1000000 with
    | false => rw [hi] at h; cases h
    | true =>
      rw [hi, Bool.not_true, cond_false] at h
      cases hl : cond (((w.f_Litres.length : Nat) : Int) != ((n.f_Basins.length : Nat) : Int)) true (((w.f_Open.length : Nat) : Int) != ((n.f_Links.length : Nat) : Int)) with
      | true => rw [hl] at h; cases h
      | false =>
        rw [hl, cond_false] at h
        have h2 : w.f_Litres.length = n.f_Basins.length ∧ w.f_Open.length = n.f_Links.length := by
          cases h2 : ((w.f_Litres.length : Nat) : Int) != ((n.f_Basins.length : Nat) : Int) with
          | true => rw [h2] at hl; cases hl
          | false =>
            rw [h2, cond_false] at hl
            simp at h2 hl; omega
        obtain ⟨i1, i2⟩ := ins_iff.1 hi
        refine ⟨net_of (by simpa using hn), i1, i2, h2.1, h2.2, fun m hm => ?_⟩
        rcases scan_inv (f := litresStep n w) (z := 0) n.f_Basins.length 0 with ⟨j, r, _, _, h3, _, h5⟩ | ⟨h1, _⟩
        · rw [h] at h5; subst h5
          unfold litresStep at h3
          generalize ins (w.f_Litres.getD j 0) 0 (Go.Den.vol (bs n j) (bs n j).f_Rim) = q at h3
          cases q <;> simp at h3
        · have := h1 m (Nat.zero_le _) (by omega)
          unfold litresStep at this
          cases hj : ins (w.f_Litres.getD m 0) 0 (Go.Den.vol (bs n m) (bs n m).f_Rim) with
          | false => rw [hj] at this; cases this
          | true => exact ins_iff.1 hj
/-- The levels of a state. -/
def Levs (n : Tapi_Network) (w : Tapi_Water) (out : List Int) : Prop := out.length = n.f_Basins.length ∧ ∀ m, m < n.f_Basins.length → Lev (bs n m) (w.f_Litres.getD m 0) (out.getD m 0)
theorem Levs.unique {n : Tapi_Network} {w : Tapi_Water} (v : NetOk n) {l l' : List Int} (h : Levs n w l) (h' : Levs n w l') : l = l' := by
  refine List.ext_getElem (h.1.trans h'.1.symm) fun i h1 h2 => ?_
  have hi : i < n.f_Basins.length := h.1 ▸ h1
  have := (h.2 i hi).unique (v.valid hi) (h'.2 i hi)
  simpa [List.getD_eq_getElem?_getD, h1, h2] using this
theorem levelsL1 {N : Nat} (hN : 400 < N) {n : Tapi_Network} {w : Tapi_Water} (v : StateOk n w) : ∀ k m fuel (out : List Int), m + k = n.f_Basins.length → k < fuel → out.length = m → (∀ i, i < m → Lev (bs n i) (w.f_Litres.getD i 0) (out.getD i 0)) →
    ∃ l, g_water_Levels_L1 N n w fuel out (m : Int) = some (l, 0) ∧ Levs n w l
  | 0, m, fuel, out, h, hf, ho, hl => by
    obtain ⟨g, rfl⟩ : ∃ g, fuel = g + 1 := ⟨fuel - 1, by omega⟩
    have hm : m = n.f_Basins.length := by omega
    subst hm
    exact ⟨out, by simp only [g_water_Levels_L1, dec_nlt, cond_false], ho, hl⟩
  | k + 1, m, fuel, out, h, hf, ho, hl => by
    obtain ⟨g, rfl⟩ : ∃ g, fuel = g + 1 := ⟨fuel - 1, by omega⟩
    have hm : m < n.f_Basins.length := by omega
    have hm2 : m < w.f_Litres.length := by rw [v.lit]; exact hm
    have hnb := v.net.nb
    obtain ⟨b1, b2⟩ := v.vol m hm
    obtain ⟨L, e1, e2⟩ := levelOf_eq (N := N) (by omega) (v.net.valid hm) b1 b2
    have e1 : g_water_levelOf N (n.f_Basins.getD m Tapi_Basin.d) (w.f_Litres.getD m 0) = some L := e1
    simp only [g_water_Levels_L1, dec_lt hm, cond_true, if_pos (inb hm), if_pos (inb hm2), toNat_nat, e1, Option.bind_some, w64_succ (show m < 9223372036854775807 by omega)]
    rw [if_pos (by omega)]
    refine levelsL1 hN v k (m + 1) g (out ++ [L]) (by omega) (by omega) (by simp [ho]) fun i hi => ?_
    by_cases him : i = m
    · subst him
      have : (out ++ [L]).getD i 0 = L := by simp [List.getD_eq_getElem?_getD, ← ho]
      rw [this]; exact e2
    · have : (out ++ [L]).getD i 0 = out.getD i 0 := by simp [List.getD_eq_getElem?_getD, List.getElem?_append_left (show i < out.length by omega)]
      rw [this]; exact hl i (by omega)
theorem Levels_eq {N : Nat} (hN : 400 < N) (n : Tapi_Network) (w : Tapi_Water) : (stateCode n w ≠ 0 ∧ g_water_Levels N n w = some ([], stateCode n w)) ∨ (stateCode n w = 0 ∧ ∃ l, g_water_Levels N n w = some (l, 0) ∧ Levs n w l) := by
  unfold g_water_Levels
  rw [checkState_eq hN, Option.bind_some]
  by_cases h : stateCode n w = 0
  · right
    have v := state_of h
    have hnb := v.net.nb
    obtain ⟨l, h1, h2⟩ := levelsL1 hN v n.f_Basins.length 0 N [] (by omega) (by omega) rfl (fun i hi => by omega)
    refine ⟨h, l, ?_, h2⟩
    rw [h, bne_self_eq_false, cond_false]; exact h1
  · left
    refine ⟨h, ?_⟩
    have : (stateCode n w != 0) = true := by simpa using h
    rw [this]; rfl
end Go.Den

namespace Go.Den
open Go.Ab

open Classical in
/-- The level of a volume. -/
noncomputable def lvl (b : Tapi_Basin) (w : Int) : Int := if h : ∃ L, Lev b w L then h.choose else 0
theorem lvl_lev {b : Tapi_Basin} (v : Valid b) {w : Int} (h1 : 0 ≤ w) (h2 : w ≤ vol b b.f_Rim) : Lev b w (lvl b w) := by
  obtain ⟨L, _, h⟩ := levelOf_eq (N := 21) (by omega) v h1 h2
  have he : ∃ L, Lev b w L := ⟨L, h⟩
  unfold lvl
  rw [dif_pos he]
  exact he.choose_spec
theorem levelOf_lvl {N : Nat} (hN : 20 < N) {b : Tapi_Basin} (v : Valid b) {w : Int} (h1 : 0 ≤ w) (h2 : w ≤ vol b b.f_Rim) : g_water_levelOf N b w = some (lvl b w) := by
  obtain ⟨L, e, h⟩ := levelOf_eq hN v h1 h2
  rw [e, h.unique v (lvl_lev v h1 h2)]
theorem refLevelOf_lvl {N : Nat} (hN : 2000001 < N) {b : Tapi_Basin} (v : Valid b) {w : Int} (h1 : 0 ≤ w) (h2 : w ≤ vol b b.f_Rim) : g_r05_LevelOf N b w = some (lvl b w) := by
  obtain ⟨L, e, h⟩ := refLevelOf_eq hN v h1
  rw [e, h.unique v (lvl_lev v h1 h2)]
theorem lvl_mono {b : Tapi_Basin} (v : Valid b) {w w' : Int} (h1 : 0 ≤ w) (h : w ≤ w') (h2 : w' ≤ vol b b.f_Rim) : lvl b w ≤ lvl b w' := by
  have a := lvl_lev v h1 (by omega)
  have c := lvl_lev v (w := w') (by omega) h2
  have clo := c.lo
  have ahi := a.hi
  have ale := a.le
  refine Int.not_lt.1 fun hlt => ?_
  have h3 := c.gt (by omega)
  have h4 := vol_le v (l := lvl b w' + 1) (l' := lvl b w) (by omega) (by omega)
  omega
theorem vol_cap {b : Tapi_Basin} (v : Valid b) : 0 ≤ vol b b.f_Rim ∧ vol b b.f_Rim ≤ 40000020000000 := by
  have hr := v.rim
  have h0 := v.frm 0 (by have := v.len; omega)
  have hf := floor_lt v
  have := volS_bd v (l := b.f_Rim) (by omega) (by omega) b.f_Areas.length 0 (by omega)
  have := v.len
  unfold vol; omega
theorem vol_nn {b : Tapi_Basin} (v : Valid b) {l : Int} (h1 : -1000000 ≤ l) (h2 : l ≤ 1000001) : 0 ≤ vol b l ∧ vol b l ≤ 40000020000000 := by
  have := volS_bd v h1 h2 b.f_Areas.length 0 (by omega)
  have := v.len
  unfold vol; omega

theorem line_bd {m : List Tapi_Mark} (v : SeaOk m) {t : Int} {i : Nat} (hi0 : 0 < i) (hi : i < m.length) (h1 : (mk m (i - 1)).f_Minute ≤ t) (h2 : t ≤ (mk m i).f_Minute) : -1000000 ≤ line m t i ∧ line m t i ≤ 1000000 := by
  have o := v.ord (i - 1) (by omega)
  rw [show i - 1 + 1 = i by omega] at o
  have a := v.lev (i - 1) (by omega)
  have c := v.lev i hi
  unfold line
  generalize (mk m (i - 1)).f_Level = p at *
  generalize (mk m i).f_Level = q at *
  generalize (mk m (i - 1)).f_Minute = s at *
  generalize (mk m i).f_Minute = e at *
  obtain ⟨x, hx⟩ : ∃ x, x = t - s := ⟨_, rfl⟩
  obtain ⟨T, hT⟩ : ∃ T, T = e - s := ⟨_, rfl⟩
  rw [← hx, ← hT]
  have hTp : 0 < T := by omega
  have hx0 : 0 ≤ x := by omega
  have hxT : x ≤ T := by omega
  by_cases hd : 0 ≤ q - p
  · have l1 : 0 ≤ (q - p) * x / T := Int.ediv_nonneg (Int.mul_nonneg hd hx0) (by omega)
    have l2 : (q - p) * x / T ≤ q - p := Int.ediv_le_of_le_mul hTp (Int.mul_le_mul_of_nonneg_left hxT hd)
    omega
  · have l1 : (q - p) * x / T ≤ 0 := Int.ediv_le_of_le_mul hTp (by
      have := Int.mul_nonneg (show 0 ≤ p - q by omega) hx0
      have e : (q - p) * x = -((p - q) * x) := by rw [← Int.neg_mul]; congr 1; omega
      omega)
    have l2 : q - p ≤ (q - p) * x / T := Int.le_ediv_of_mul_le hTp (by
      have := Int.mul_le_mul_of_nonneg_left hxT (show 0 ≤ p - q by omega)
      have e1 : (q - p) * x = -((p - q) * x) := by rw [← Int.neg_mul]; congr 1; omega
      have e2 : (q - p) * T = -((p - q) * T) := by rw [← Int.neg_mul]; congr 1; omega
      omega)
    omega
theorem sea_bd {m : List Tapi_Mark} (v : SeaOk m) (h0 : 0 < m.length) {t : Int} {p : Nat} (hp : Pos m t p) : -1000000 ≤ seaAt m t p ∧ seaAt m t p ≤ 1000000 := by
  unfold seaAt
  have hpl := hp.le
  split
  · exact v.lev 0 h0
  · split
    · exact v.lev (p - 1) (by omega)
    · rename_i h1 h2
      have a := hp.lo (p - 1) (by omega)
      have c := hp.hi p (Nat.le_refl _) (by omega)
      exact line_bd v (by omega) (by omega) a (by omega)

/-- A side that may be. -/
structure SideOk (X : Twater_side) : Prop where
  bas : ∀ b, X.f_basin = some b → Valid b ∧ 0 ≤ X.f_litres ∧ X.f_litres ≤ vol b b.f_Rim
  sea : X.f_basin = none → -1000000 ≤ X.f_sea ∧ X.f_sea ≤ 1000000
/-- The level of a side with some litres more. -/
noncomputable def SL (X : Twater_side) (d : Int) : Int := match X.f_basin with
  | none => X.f_sea
  | some b => lvl b (X.f_litres + d)
/-- So many litres more are within the basin. -/
def Fits (X : Twater_side) (d : Int) : Prop := ∀ b, X.f_basin = some b → 0 ≤ X.f_litres + d ∧ X.f_litres + d ≤ vol b b.f_Rim
theorem fits0 {X : Twater_side} (s : SideOk X) : Fits X 0 := fun b hb => by
  obtain ⟨_, h1, h2⟩ := s.bas b hb
  omega
theorem SL_bd {X : Twater_side} (s : SideOk X) {d : Int} (hf : Fits X d) : -1000000 ≤ SL X d ∧ SL X d ≤ 1000000 := by
  unfold SL
  cases hb : X.f_basin with
  | none => exact s.sea hb
  | some b =>
    obtain ⟨v, _, _⟩ := s.bas b hb
    obtain ⟨f1, f2⟩ := hf b hb
    have l := lvl_lev v f1 f2
    have h1 := l.lo
    have h2 := l.hi
    have h3 := v.frm 0 (by have := v.len; omega)
    have h4 := v.rim
    show -1000000 ≤ lvl b (X.f_litres + d) ∧ lvl b (X.f_litres + d) ≤ 1000000
    omega
theorem SL_mono {X : Twater_side} (s : SideOk X) {d d' : Int} (h : d ≤ d') (h1 : Fits X d) (h2 : Fits X d') : SL X d ≤ SL X d' := by
  unfold SL
  cases hb : X.f_basin with
  | none => exact Int.le_refl _
  | some b =>
    obtain ⟨v, _, _⟩ := s.bas b hb
    exact lvl_mono v (h1 b hb).1 (by omega) (h2 b hb).2
theorem level_eq {N : Nat} (hN : 20 < N) {X : Twater_side} (s : SideOk X) {d : Int} (hf : Fits X d) : g_water_side_level N X d = some (SL X d) := by
  unfold g_water_side_level SL
  cases hb : X.f_basin with
  | none => rfl
  | some b =>
    obtain ⟨v, _, _⟩ := s.bas b hb
    obtain ⟨f1, f2⟩ := hf b hb
    have := vol_cap v
    simp only [Option.isSome_some, Bool.not_true, cond_false, if_true, Option.getD_some]
    rw [w64_eq (by omega) (by omega), levelOf_lvl hN v f1 f2]; rfl
def roomV (X : Twater_side) (many : Int) : Int := match X.f_basin with | none => many | some b => vol b b.f_Rim - X.f_litres
def spareV (X : Twater_side) (sill many : Int) : Int := match X.f_basin with | none => many | some b => if X.f_litres - vol b sill > 0 then X.f_litres - vol b sill else 0
theorem room_eq {N : Nat} (hN : 20 < N) {X : Twater_side} (s : SideOk X) (many : Int) : g_water_side_room N X many = some (roomV X many) := by
  unfold g_water_side_room roomV
  cases hb : X.f_basin with
  | none => rfl
  | some b =>
    obtain ⟨v, h1, h2⟩ := s.bas b hb
    have hr := v.rim
    have h0 := v.frm 0 (by have := v.len; omega)
    have hf := floor_lt v
    have := vol_cap v
    simp only [Option.isSome_some, Bool.not_true, cond_false, if_true, Option.getD_some]
    rw [volume_eq hN v (by omega) (by omega), Option.bind_some, w64_eq (by omega) (by omega)]
theorem spare_eq {N : Nat} (hN : 20 < N) {X : Twater_side} (s : SideOk X) {sill : Int} (h1 : -1000000 ≤ sill) (h2 : sill ≤ 1000000) (many : Int) :
    g_water_side_spare N X sill many = some (spareV X sill many) := by
  unfold g_water_side_spare spareV
  cases hb : X.f_basin with
  | none => rfl
  | some b =>
    obtain ⟨v, h3, h4⟩ := s.bas b hb
    have := vol_cap v
    have := vol_nn v h1 (l := sill) (by omega)
    simp only [Option.isSome_some, Bool.not_true, cond_false, if_true, Option.getD_some]
    rw [volume_eq hN v h1 (by omega), Option.bind_some, w64_eq (by omega) (by omega)]

/-- So much may flow from the upper side to the lower one: the document's words. -/
def May (l : Tapi_Link) (U D : Twater_side) (q : Int) : Prop :=
  q ≤ l.f_Rate ∧ q ≤ l.f_Factor * (SL U 0 - (if SL D 0 > l.f_Sill then SL D 0 else l.f_Sill)) ∧ (∀ b, U.f_basin = some b → vol b l.f_Sill ≤ U.f_litres - q) ∧ (∀ b, D.f_basin = some b → D.f_litres + q ≤ vol b b.f_Rim) ∧ SL U (-q) ≥ SL D q
structure LinkOk (l : Tapi_Link) : Prop where
  rate : 0 ≤ l.f_Rate ∧ l.f_Rate ≤ 1000000000
  sill : -1000000 ≤ l.f_Sill ∧ l.f_Sill ≤ 1000000
  fac : 0 ≤ l.f_Factor ∧ l.f_Factor ≤ 1000000000
theorem May.fits {l : Tapi_Link} (k : LinkOk l) {U D : Twater_side} (u : SideOk U) (d : SideOk D) {q : Int} (hq : 0 ≤ q) (h : May l U D q) : Fits U (-q) ∧ Fits D q := by
  obtain ⟨_, _, h3, h4, _⟩ := h
  have hs := k.sill
  refine ⟨fun b hb => ?_, fun b hb => ?_⟩
  · obtain ⟨v, a1, a2⟩ := u.bas b hb
    have := h3 b hb
    have := vol_nn v (l := l.f_Sill) (by omega) (by omega)
    omega
  · obtain ⟨v, a1, a2⟩ := d.bas b hb
    have := h4 b hb
    omega
theorem May.down {l : Tapi_Link} (k : LinkOk l) {U D : Twater_side} (u : SideOk U) (d : SideOk D) {q q' : Int} (h0 : 0 ≤ q) (hq : q ≤ q') (h : May l U D q') : May l U D q := by
  obtain ⟨f1, f2⟩ := h.fits k u d (by omega)
  obtain ⟨h1, h2, h3, h4, h5⟩ := h
  have g1 : Fits U (-q) := fun b hb => by
    obtain ⟨v, a1, a2⟩ := u.bas b hb
    have := f1 b hb
    omega
  have g2 : Fits D q := fun b hb => by
    obtain ⟨v, a1, a2⟩ := d.bas b hb
    have := f2 b hb
    omega
  refine ⟨by omega, by omega, fun b hb => ?_, fun b hb => ?_, ?_⟩
  · have := h3 b hb; omega
  · have := h4 b hb; omega
  · have := SL_mono u (show -q' ≤ -q by omega) f1 g1
    have := SL_mono d hq g2 f2
    omega
/-- The most that may flow: nothing, or something that may flow while one litre more may not. -/
def Most (l : Tapi_Link) (U D : Twater_side) (r : Int) : Prop := 0 ≤ r ∧ (0 < r → May l U D r) ∧ ¬ May l U D (r + 1)
theorem Most.unique {l : Tapi_Link} (k : LinkOk l) {U D : Twater_side} (u : SideOk U) (d : SideOk D) {r r' : Int} (h : Most l U D r) (h' : Most l U D r') : r = r' := by
  obtain ⟨a1, a2, a3⟩ := h
  obtain ⟨b1, b2, b3⟩ := h'
  rcases Int.lt_trichotomy r r' with hl | hl | hl
  · exact (a3 ((b2 (by omega)).down k u d (by omega) (by omega))).elim
  · exact hl
  · exact (b3 ((a2 (by omega)).down k u d (by omega) (by omega))).elim
end Go.Den

namespace Go.Den
open Go.Ab

theorem search2 {N : Nat} {U D : Twater_side} (P : Nat → Bool) {n : Nat} (hn : n ≤ 1000000000) (hP : ∀ q : Nat, q < n → g_water_gate_1 N (q : Int) U D = some (P q)) (mono : ∀ q q', q ≤ q' → q' < n → P q = true → P q' = true) :
    ∀ f fuel i j, j - i < 2 ^ f → f < fuel → i ≤ j → j ≤ n → (∀ q, q < i → P q = false) → (∀ q, j ≤ q → q < n → P q = true) →
      ∃ p : Nat, g_sort_Search_v2_L1 N U D fuel (i : Int) (j : Int) = some (p : Int) ∧ p ≤ n ∧ (∀ q, q < p → P q = false) ∧ (p < n → P p = true) := by
  intro f
  induction f with
  | zero =>
    intro fuel i j hk hf hij hj h1 h2
    obtain ⟨g, rfl⟩ : ∃ g, fuel = g + 1 := ⟨fuel - 1, by omega⟩
    have : i = j := by simp at hk; omega
    subst this
    simp only [g_sort_Search_v2_L1]
    rw [show decide ((i : Int) < (i : Int)) = false from decide_eq_false (by omega), cond_false]
    exact ⟨i, rfl, hj, h1, fun h => h2 i (Nat.le_refl _) h⟩
  | succ f ih =>
    intro fuel i j hk hf hij hj h1 h2
    obtain ⟨g, rfl⟩ : ∃ g, fuel = g + 1 := ⟨fuel - 1, by omega⟩
    simp only [g_sort_Search_v2_L1]
    by_cases hlt : i < j
    · have hm : w64 (shrI .u64 (IntKind.u64.wrap (w64 ((i : Int) + (j : Int)))) 1) = (((i + j) / 2 : Nat) : Int) := by
        rw [half_eq (by omega) (by omega)]; omega
      have hmid : (i + j) / 2 < n := by omega
      have hpow : 2 ^ (f + 1) = 2 * 2 ^ f := by rw [Nat.pow_succ, Nat.mul_comm]
      rw [dec_lt hlt, cond_true, hm]
      generalize hmm : (i + j) / 2 = mid at hmid ⊢
      rw [hP mid hmid, Option.bind_some]
      cases hc : P mid with
      | true =>
        rw [Bool.not_true, cond_false]
        exact ih g i mid (by omega) (by omega) (by omega) (by omega) h1 (fun q hq hq2 => mono mid q hq hq2 hc)
      | false =>
        rw [Bool.not_false, cond_true, w64_succ (by omega)]
        refine ih g (mid + 1) j (by omega) (by omega) (by omega) hj (fun q hq => ?_) h2
        cases hq2 : P q with
        | false => rfl
        | true =>
          have := mono q mid (by omega) hmid hq2
          rw [hc] at this; cases this
    · rw [show decide ((i : Int) < (j : Int)) = false from decide_eq_false (by omega), cond_false]
      have : i = j := by omega
      subst this
      exact ⟨i, rfl, hj, h1, fun h => h2 i (Nat.le_refl _) h⟩

theorem gate1_eq {N : Nat} (hN : 20 < N) {U D : Twater_side} (u : SideOk U) (d : SideOk D) {q : Nat} (hq : q ≤ 1000000000) (h1 : Fits U (-((q : Int) + 1))) (h2 : Fits D ((q : Int) + 1)) :
    g_water_gate_1 N (q : Int) U D = some (decide (SL U (-((q : Int) + 1)) < SL D ((q : Int) + 1))) := by
  unfold g_water_gate_1
  rw [w64_eq (n := 0 - (q : Int)) (by omega) (by omega), w64_eq (n := 0 - (q : Int) - 1) (by omega) (by omega), w64_eq (n := (q : Int) + 1) (by omega) (by omega), show 0 - (q : Int) - 1 = -((q : Int) + 1) by omega, level_eq hN u h1, level_eq hN d h2]
  rfl

/-- What a gate does: nothing below its sill, else the most that may flow. -/
def GateR (l : Tapi_Link) (U D : Twater_side) (r : Int) : Prop := (SL U 0 ≤ l.f_Sill ∧ r = 0) ∨ (l.f_Sill < SL U 0 ∧ Most l U D r)
theorem GateR.unique {l : Tapi_Link} (k : LinkOk l) {U D : Twater_side} (u : SideOk U) (d : SideOk D) {r r' : Int} (h : GateR l U D r) (h' : GateR l U D r') : r = r' := by
  rcases h with ⟨a, rfl⟩ | ⟨a, b⟩ <;> rcases h' with ⟨a', rfl⟩ | ⟨a', b'⟩
  · rfl
  · omega
  · omega
  · exact b.unique k u d b'

theorem gate_eq {N : Nat} (hN : 100 < N) {l : Tapi_Link} (k : LinkOk l) {U D : Twater_side} (u : SideOk U) (d : SideOk D) (hUD : SL D 0 < SL U 0) : ∃ r, g_water_gate N l U D = some r ∧ GateR l U D r ∧ 0 ≤ r ∧ r ≤ 1000000000 := by
  unfold g_water_gate
  have e0 := level_eq (N := N) (by omega) u (fits0 u)
  have e1 := level_eq (N := N) (by omega) d (fits0 d)
  have hks := k.sill
  have hkr := k.rate
  have hkf := k.fac
  have bU := SL_bd u (fits0 u)
  have bD := SL_bd d (fits0 d)
  rw [e0, Option.bind_some]
  by_cases hs : SL U 0 ≤ l.f_Sill
  · rw [decide_eq_true hs, cond_true]
    exact ⟨0, rfl, .inl ⟨hs, rfl⟩, by omega, by omega⟩
  · rw [decide_eq_false hs, cond_false, Option.bind_some, e1, Option.bind_some, spare_eq (by omega) u hks.1 hks.2, room_eq (by omega) d]
    simp only [Option.bind_some]
    obtain ⟨head, hhead⟩ : ∃ h, h = SL U 0 - (if SL D 0 > l.f_Sill then SL D 0 else l.f_Sill) := ⟨_, rfl⟩
    have hh : 0 < head ∧ head ≤ 2000000 := by rw [hhead]; split <;> omega
    have hF : 0 ≤ l.f_Factor * head ∧ l.f_Factor * head ≤ 1000000000 * 2000000 := mul_bd hkf.1 hkf.2 (by omega) hh.2
    rw [← hhead, w64_eq (n := head) (by omega) (by omega), w64_eq (n := l.f_Factor * head) (by omega) (by omega)]
    obtain ⟨R, hR⟩ : ∃ R, R = roomV D l.f_Rate := ⟨_, rfl⟩
    obtain ⟨Z, hZ⟩ : ∃ Z, Z = spareV U l.f_Sill l.f_Rate := ⟨_, rfl⟩
    rw [← hR, ← hZ]
    have hR0 : 0 ≤ R := by
      rw [hR]; unfold roomV
      cases hb : D.f_basin with
      | none => exact hkr.1
      | some b => have := d.bas b hb; show 0 ≤ vol b b.f_Rim - D.f_litres; omega
    have hZ0 : 0 ≤ Z := by
      rw [hZ]; unfold spareV
      cases hb : U.f_basin with
      | none => exact hkr.1
      | some b => show 0 ≤ if U.f_litres - vol b l.f_Sill > 0 then U.f_litres - vol b l.f_Sill else 0; split <;> omega
    have hRq : ∀ q, q ≤ l.f_Rate → (q ≤ R ↔ ∀ b, D.f_basin = some b → D.f_litres + q ≤ vol b b.f_Rim) := by
      intro q hq
      rw [hR]; unfold roomV
      cases hb : D.f_basin with
      | none => exact ⟨fun _ b h => (by cases h), fun _ => hq⟩
      | some b =>
        constructor
        · intro h b' hb'; cases hb'
          have h : q ≤ vol b b.f_Rim - D.f_litres := h
          omega
        · intro h
          have := h b rfl
          show q ≤ vol b b.f_Rim - D.f_litres
          omega
    have hZq : ∀ q, 1 ≤ q → q ≤ l.f_Rate → (q ≤ Z ↔ ∀ b, U.f_basin = some b → vol b l.f_Sill ≤ U.f_litres - q) := by
      intro q hq1 hq
      rw [hZ]; unfold spareV
      cases hb : U.f_basin with
      | none => exact ⟨fun _ b h => (by cases h), fun _ => hq⟩
      | some b =>
        constructor
        · intro h b' hb'; cases hb'
          have h : q ≤ if U.f_litres - vol b l.f_Sill > 0 then U.f_litres - vol b l.f_Sill else 0 := h
          split at h <;> omega
        · intro h
          have := h b rfl
          show q ≤ if U.f_litres - vol b l.f_Sill > 0 then U.f_litres - vol b l.f_Sill else 0
          split <;> omega
    generalize hM : (if R < (if Z < (if l.f_Factor * head < l.f_Rate then l.f_Factor * head else l.f_Rate) then Z else (if l.f_Factor * head < l.f_Rate then l.f_Factor * head else l.f_Rate)) then R else (if Z < (if l.f_Factor * head < l.f_Rate then l.f_Factor * head else l.f_Rate) then Z else (if l.f_Factor * head < l.f_Rate then l.f_Factor * head else l.f_Rate))) = M
    have hM0 : 0 ≤ M ∧ M ≤ l.f_Rate := by rw [← hM]; split <;> split <;> (try split) <;> omega
    have hMq : ∀ q, q ≤ M ↔ (q ≤ R ∧ q ≤ Z ∧ q ≤ l.f_Factor * head ∧ q ≤ l.f_Rate) := by
      intro q
      rw [← hM]
      split <;> split <;> (try split) <;> omega
    have hMay : ∀ q, 1 ≤ q → (May l U D q ↔ q ≤ M ∧ SL U (-q) ≥ SL D q) := by
      intro q hq
      unfold May
      rw [← hhead, hMq]
      constructor
      · rintro ⟨a, b, c, e, f⟩
        exact ⟨⟨(hRq q a).2 e, (hZq q hq a).2 c, b, a⟩, f⟩
      · rintro ⟨⟨a, b, c, e⟩, f⟩
        exact ⟨e, c, (hZq q hq e).1 b, (hRq q e).1 a, f⟩
    have hfit : ∀ q, 0 ≤ q → q ≤ M → Fits U (-q) ∧ Fits D q := by
      intro q h0 hq
      obtain ⟨a, b, c, e⟩ := (hMq q).1 hq
      refine ⟨fun b' hb' => ?_, fun b' hb' => ?_⟩
      · obtain ⟨v, a1, a2⟩ := u.bas b' hb'
        by_cases h1 : 1 ≤ q
        · have := (hZq q h1 e).1 b b' hb'
          have := vol_nn v (l := l.f_Sill) (by omega) (by omega)
          omega
        · omega
      · obtain ⟨v, a1, a2⟩ := d.bas b' hb'
        have := (hRq q e).1 a b' hb'
        omega
    obtain ⟨n, hn⟩ : ∃ n : Nat, M = (n : Int) := ⟨M.toNat, by omega⟩
    have hn9 : n ≤ 1000000000 := by omega
    obtain ⟨p, h1, h2, h3, h4⟩ := search2 (N := N) (U := U) (D := D) (fun q => decide (SL U (-((q : Int) + 1)) < SL D ((q : Int) + 1))) hn9
      (fun q hq => gate1_eq (by omega) u d (by omega) (hfit _ (by omega) (by omega)).1 (hfit _ (by omega) (by omega)).2)
      (fun q q' hqq hq' h => by
        have h := of_decide_eq_true h
        refine decide_eq_true ?_
        have := SL_mono u (show -((q' : Int) + 1) ≤ -((q : Int) + 1) by omega) (hfit _ (by omega) (by omega)).1 (hfit _ (by omega) (by omega)).1
        have := SL_mono d (show (q : Int) + 1 ≤ (q' : Int) + 1 by omega) (hfit _ (by omega) (by omega)).2 (hfit _ (by omega) (by omega)).2
        omega)
      31 N 0 n (by omega) (by omega) (by omega) (Nat.le_refl _) (fun q hq => by omega) (fun q hq hq2 => by omega)
    have h1 : g_sort_Search_v2 N M U D = some (p : Int) := by rw [hn]; exact h1
    rw [h1, Option.bind_some]
    refine ⟨p, rfl, .inr ⟨by omega, by omega, fun hp => ?_, fun hm => ?_⟩, by omega, by omega⟩
    · rw [hMay _ (by omega)]
      refine ⟨by omega, ?_⟩
      have := of_decide_eq_false (h3 (p - 1) (by omega))
      rw [show ((p - 1 : Nat) : Int) + 1 = (p : Int) by omega] at this
      omega
    · rw [hMay _ (by omega)] at hm
      have := of_decide_eq_true (h4 (by omega))
      omega
end Go.Den

namespace Go.Den
open Go.Ab

theorem empty_bad : nameOk ByteArray.empty = false := by decide +kernel
theorem ix_inv (n : Tapi_Network) (s : ByteArray) : (basinIx n s = -1 ∧ ∀ i, i < n.f_Basins.length → (bs n i).f_Name ≠ s) ∨ ∃ i : Nat, i < n.f_Basins.length ∧ basinIx n s = (i : Int) ∧ (bs n i).f_Name = s := by
  unfold basinIx
  rcases scan_inv (f := fun k => cond (streq (bs n k).f_Name s) (some (k : Int)) none) (z := -1) n.f_Basins.length 0 with ⟨i, r, _, h2, h3, _, h5⟩ | ⟨h1, h2⟩
  · right
    cases hs : streq (bs n i).f_Name s with
    | false => simp only [hs, cond_false] at h3; cases h3
    | true =>
      simp only [hs, cond_true, Option.some.injEq] at h3
      exact ⟨i, by omega, by rw [h5, ← h3], streq_iff.1 hs⟩
  · left
    refine ⟨h2, fun i hi he => ?_⟩
    have := h1 i (Nat.zero_le _) (by omega)
    simp only [streq_iff.2 he, cond_true] at this
    cases this
theorem ix_empty {n : Tapi_Network} (v : NetOk n) : basinIx n ByteArray.empty = -1 := by
  rcases ix_inv n ByteArray.empty with ⟨h, _⟩ | ⟨i, h1, _, h3⟩
  · exact h
  · have := v.nm i h1
    rw [h3, empty_bad] at this
    cases this

/-- A side of a link as the document names it. -/
inductive IsSide (n : Tapi_Network) (w : Tapi_Water) (s : ByteArray) (X : Twater_side) : Prop where
  | sea (p : Nat) : s = ByteArray.empty → 0 < n.f_Sea.length → Pos n.f_Sea w.f_Minute p → X.f_basin = none → X.f_sea = seaAt n.f_Sea w.f_Minute p → IsSide n w s X
  | bas (i : Nat) : streq s ByteArray.empty = false → i < n.f_Basins.length → basinIx n s = (i : Int) → (bs n i).f_Name = s → X.f_basin = some (bs n i) → X.f_litres = w.f_Litres.getD i 0 → IsSide n w s X
theorem IsSide.ok {n : Tapi_Network} {w : Tapi_Water} (v : StateOk n w) {s : ByteArray} {X : Twater_side} (h : IsSide n w s X) : SideOk X := by
  cases h with
  | sea p h1 h2 h3 h4 h5 =>
    refine ⟨fun b hb => (by rw [h4] at hb; cases hb), fun _ => ?_⟩
    rw [h5]
    exact sea_bd (sea_of v.net.sea) h2 h3
  | bas i h1 h2 h3 h4 h5 h6 =>
    refine ⟨fun b hb => ?_, fun hb => (by rw [h5] at hb; cases hb)⟩
    rw [h5] at hb; cases hb
    rw [h6]
    exact ⟨v.net.valid h2, v.vol i h2⟩
theorem sideOf_eq {N : Nat} (hN : 400 < N) {n : Tapi_Network} {w : Tapi_Water} (v : StateOk n w) {s : ByteArray} (hs : sideOk n s = true) (hsea : s = ByteArray.empty → 0 < n.f_Sea.length) : ∃ X, g_water_sideOf N n w s = some X ∧ IsSide n w s X := by
  unfold g_water_sideOf
  have hnb := v.net.nb
  cases he : streq s ByteArray.empty with
  | true =>
    have he := streq_iff.1 he
    obtain ⟨p, hp, h1⟩ := tide_eq hN (sea_of v.net.sea) (hsea he) w.f_Minute
    rw [cond_true, h1]
    exact ⟨_, rfl, .sea p he (hsea he) hp rfl rfl⟩
  | false =>
    unfold sideOk at hs
    rw [he, cond_false] at hs
    have hs := of_decide_eq_true hs
    rcases ix_inv n s with ⟨h, _⟩ | ⟨i, h1, h2, h3⟩
    · omega
    · have hi : i < w.f_Litres.length := by rw [v.lit]; exact h1
      rw [cond_false, basinIx_eq (by omega) (by omega), Option.bind_some, h2, if_pos (inb h1), if_pos (inb hi)]
      exact ⟨_, rfl, .bas i he h1 h2 h3 rfl rfl⟩
theorem height_sea {N : Nat} (hN : 400 < N) {n : Tapi_Network} {w : Tapi_Water} (v : NetOk n) {s : ByteArray} (he : s = ByteArray.empty) (hl : 0 < n.f_Sea.length) {p : Nat} (hp : Pos n.f_Sea w.f_Minute p) : g_r05_height N n w s = some (seaAt n.f_Sea w.f_Minute p) := by
  unfold g_r05_height
  rw [streq_iff.2 he, cond_true, at_eq hN (sea_of v.sea) hl hp]; rfl
theorem height_bas {N : Nat} (hN : 2000001 < N) {n : Tapi_Network} {w : Tapi_Water} (v : NetOk n) {s : ByteArray} (he : streq s ByteArray.empty = false) {i : Nat} (hi : i < n.f_Basins.length) (hx : basinIx n s = (i : Int)) (hw : i < w.f_Litres.length)
    (h1 : 0 ≤ w.f_Litres.getD i 0) (h2 : w.f_Litres.getD i 0 ≤ vol (bs n i) (bs n i).f_Rim) : g_r05_height N n w s = some (lvl (bs n i) (w.f_Litres.getD i 0)) := by
  unfold g_r05_height
  have hnb := v.nb
  rw [he, cond_false, refBasinIx_eq (by omega) (by omega), Option.bind_some, hx, if_pos (inb hi), if_pos (inb hw), toNat_nat]
  rw [show g_r05_LevelOf N (n.f_Basins.getD i Tapi_Basin.d) (w.f_Litres.getD i 0) = some (lvl (bs n i) (w.f_Litres.getD i 0)) from refLevelOf_lvl hN (v.valid hi) h1 h2]; rfl
theorem height_eq {N : Nat} (hN : 2000001 < N) {n : Tapi_Network} {w : Tapi_Water} (v : StateOk n w) {s : ByteArray} {X : Twater_side} (h : IsSide n w s X) : g_r05_height N n w s = some (SL X 0) := by
  unfold SL
  cases h with
  | sea p h1 h2 h3 h4 h5 => rw [h4, height_sea (by omega) v.net h1 h2 h3, h5]
  | bas i h1 h2 h3 _ h5 h6 =>
    have := v.vol i h2
    rw [h5, height_bas hN v.net h1 h2 h3 (by rw [v.lit]; exact h2) this.1 this.2, h6, Int.add_zero]

/-- Litres at a place more. -/
def bump (l : List Int) (x : Int) (q : Int) : List Int := cond (decide (x ≥ 0)) (l.set x.toNat (w64 (l.getD x.toNat 0 + q))) l
theorem bump_len (l : List Int) (x q : Int) : (bump l x q).length = l.length := by
  unfold bump
  cases decide (x ≥ 0) <;> simp
theorem bump_same {l : List Int} {i : Nat} (hi : i < l.length) (q : Int) : (bump l (i : Int) q).getD i 0 = w64 (l.getD i 0 + q) := by
  unfold bump
  rw [decide_eq_true (by omega), cond_true, toNat_nat]
  simp [List.getD_eq_getElem?_getD, hi]
theorem bump_other {l : List Int} {i : Nat} {x : Int} (h : x ≠ (i : Int)) (q : Int) : (bump l x q).getD i 0 = l.getD i 0 := by
  unfold bump
  by_cases hx : x ≥ 0
  · rw [decide_eq_true hx, cond_true]
    have : x.toNat ≠ i := by omega
    simp [List.getD_eq_getElem?_getD, List.getElem?_set_ne this]
  · rw [decide_eq_false hx, cond_false]
def movedW (n : Tapi_Network) (w : Tapi_Water) (a b : ByteArray) (q : Int) : Tapi_Water := ⟨w.f_Minute, bump (bump w.f_Litres (basinIx n a) (-q)) (basinIx n b) q, w.f_Open⟩
theorem ix_lt (n : Tapi_Network) (s : ByteArray) (h : basinIx n s ≥ 0) : 0 ≤ basinIx n s ∧ basinIx n s < ((n.f_Basins.length : Nat) : Int) := by
  rcases ix_inv n s with ⟨h1, _⟩ | ⟨i, h1, h2, _⟩ <;> omega
theorem moved_eq {N : Nat} (hN : 400 < N) {n : Tapi_Network} {w : Tapi_Water} (v : NetOk n) (hl : w.f_Litres.length = n.f_Basins.length) (ho : w.f_Open.length = n.f_Links.length) (a b : ByteArray) (q : Int) : g_r05_moved N n w a b q = some (movedW n w a b q) := by
  have hnb := v.nb
  have hnl := v.nl
  have hJ : ∀ l : List Int, l.length = n.f_Basins.length → g_r05_moved_J1 N n b q w l = some ⟨w.f_Minute, bump l (basinIx n b) q, w.f_Open⟩ := by
    intro l hl
    unfold g_r05_moved_J1 g_r05_moved_J2 bump
    rw [refBasinIx_eq (by omega) (by omega), Option.bind_some]
    by_cases hx : basinIx n b ≥ 0
    · rw [decide_eq_true hx, cond_true, if_pos (by rw [hl]; exact ix_lt n b hx)]; rfl
    · rw [decide_eq_false hx]; rfl
  unfold g_r05_moved g_r05_Copy
  rw [if_pos (by omega), if_pos (by omega), Option.bind_some, refBasinIx_eq (by omega) (by omega), Option.bind_some]
  simp only [List.nil_append]
  unfold movedW
  by_cases hx : basinIx n a ≥ 0
  · rw [decide_eq_true hx, cond_true, if_pos (by rw [hl]; exact ix_lt n a hx), show (⟨w.f_Minute, w.f_Litres, w.f_Open⟩ : Tapi_Water) = w from rfl, hJ _ (by simp [hl])]
    have e : bump w.f_Litres (basinIx n a) (-q) = w.f_Litres.set (basinIx n a).toNat (w64 (w.f_Litres.getD (basinIx n a).toNat 0 - q)) := by
      unfold bump
      rw [decide_eq_true hx, cond_true, Int.sub_eq_add_neg]
    rw [e]
  · have e : bump w.f_Litres (basinIx n a) (-q) = w.f_Litres := by
      unfold bump
      rw [decide_eq_false hx, cond_false]
    rw [decide_eq_false hx, cond_false, show (⟨w.f_Minute, w.f_Litres, w.f_Open⟩ : Tapi_Water) = w from rfl, hJ _ hl, e]

/-- The height of a side behind a move. -/
theorem height_from {N : Nat} (hN : 2000001 < N) {n : Tapi_Network} {w : Tapi_Water} (v : StateOk n w) {a b : ByteArray} (hab : streq a b = false) {U : Twater_side} (h : IsSide n w a U) {q : Int} (hf : Fits U (-q)) : g_r05_height N n (movedW n w a b q) a = some (SL U (-q)) := by
  unfold SL
  cases h with
  | sea p h1 h2 h3 h4 h5 => rw [h4, height_sea (w := movedW n w a b q) (by omega) v.net h1 h2 h3, h5]; rfl
  | bas i h1 h2 h3 h7 h5 h6 =>
    have hb := hf _ h5
    have hc := vol_cap (v.net.valid h2)
    have hi : i < w.f_Litres.length := by rw [v.lit]; exact h2
    have hne : basinIx n b ≠ (i : Int) := by
      intro he
      rcases ix_inv n b with ⟨h, _⟩ | ⟨j, j1, j2, j3⟩
      · omega
      · have : i = j := by omega
        subst this
        rw [h7] at j3
        rw [streq_iff.2 j3] at hab; cases hab
    have e : (movedW n w a b q).f_Litres.getD i 0 = U.f_litres + -q := by
      show (bump (bump w.f_Litres (basinIx n a) (-q)) (basinIx n b) q).getD i 0 = _
      rw [bump_other hne, h3, bump_same hi, w64_eq (by rw [← h6]; omega) (by rw [← h6]; omega), h6]
    rw [h5, height_bas (w := movedW n w a b q) hN v.net h1 h2 h3 (by show i < (bump _ _ _).length; rw [bump_len, bump_len]; exact hi) (by rw [e]; exact hb.1) (by rw [e]; exact hb.2), e]
theorem height_to {N : Nat} (hN : 2000001 < N) {n : Tapi_Network} {w : Tapi_Water} (v : StateOk n w) {a b : ByteArray} (hab : streq a b = false) {D : Twater_side} (h : IsSide n w b D) {q : Int} (hf : Fits D q) : g_r05_height N n (movedW n w a b q) b = some (SL D q) := by
  unfold SL
  cases h with
  | sea p h1 h2 h3 h4 h5 => rw [h4, height_sea (w := movedW n w a b q) (by omega) v.net h1 h2 h3, h5]; rfl
  | bas i h1 h2 h3 h7 h5 h6 =>
    have hb := hf _ h5
    have hc := vol_cap (v.net.valid h2)
    have hi : i < w.f_Litres.length := by rw [v.lit]; exact h2
    have hne : basinIx n a ≠ (i : Int) := by
      intro he
      rcases ix_inv n a with ⟨h, _⟩ | ⟨j, j1, j2, j3⟩
      · omega
      · have : i = j := by omega
        subst this
        rw [h7] at j3
        rw [streq_iff.2 j3.symm] at hab; cases hab
    have e : (movedW n w a b q).f_Litres.getD i 0 = D.f_litres + q := by
      show (bump (bump w.f_Litres (basinIx n a) (-q)) (basinIx n b) q).getD i 0 = _
      rw [h3, bump_same (by rw [bump_len]; exact hi), bump_other hne, w64_eq (by rw [← h6]; omega) (by rw [← h6]; omega), h6]
    rw [h5, height_bas (w := movedW n w a b q) hN v.net h1 h2 h3 (by show i < (bump _ _ _).length; rw [bump_len, bump_len]; exact hi) (by rw [e]; exact hb.1) (by rw [e]; exact hb.2), e]
end Go.Den

namespace Go.Den
open Go.Ab

theorem may_eq {N : Nat} (hN : 2000001 < N) {n : Tapi_Network} {w : Tapi_Water} (v : StateOk n w) {l : Tapi_Link} (k : LinkOk l) {a b : ByteArray} (hab : streq a b = false) {U D : Twater_side} (hU : IsSide n w a U) (hD : IsSide n w b D) (hUD : SL D 0 < SL U 0) {q : Int} (hq : 1 ≤ q) (hq2 : q ≤ 2147483648) :
    ∃ B, g_r05_may N n w l a b q = some B ∧ (B = true ↔ May l U D q) := by
  have u := hU.ok v
  have d := hD.ok v
  have bU := SL_bd u (fits0 u)
  have bD := SL_bd d (fits0 d)
  have hks := k.sill
  have hkr := k.rate
  have hkf := k.fac
  have hnb := v.net.nb
  unfold g_r05_may
  rw [height_eq hN v hD, Option.bind_some, height_eq hN v hU, Option.bind_some]
  obtain ⟨head, hhead⟩ : ∃ h, h = SL U 0 - (if SL D 0 > l.f_Sill then SL D 0 else l.f_Sill) := ⟨_, rfl⟩
  have hmx : (if l.f_Sill > SL D 0 then l.f_Sill else SL D 0) = (if SL D 0 > l.f_Sill then SL D 0 else l.f_Sill) := by split <;> split <;> omega
  have hh : -2000000 ≤ head ∧ head ≤ 2000000 := by rw [hhead]; split <;> omega
  have hF : -(1000000000 * 2000000) ≤ l.f_Factor * head ∧ l.f_Factor * head ≤ 1000000000 * 2000000 := by
    have := prod_bd (x := head) (y := l.f_Factor) (X := 2000000) (Y := 1000000000) hh.1 hh.2 hkf.1 hkf.2
    rw [Int.mul_comm head l.f_Factor] at this
    omega
  rw [hmx, ← hhead, w64_eq (n := head) (by omega) (by omega), w64_eq (n := l.f_Factor * head) (by omega) (by omega)]
  by_cases h1 : q ≤ l.f_Rate
  case neg =>
    rw [decide_eq_true (show q > l.f_Rate by omega)]
    exact ⟨false, rfl, fun h => (by cases h), fun h => (h1 h.1).elim⟩
  by_cases h2 : q ≤ l.f_Factor * head
  case neg =>
    rw [decide_eq_false (show ¬ q > l.f_Rate by omega), decide_eq_true (show q > l.f_Factor * head by omega)]
    exact ⟨false, rfl, fun h => (by cases h), fun h => by have := h.2.1; rw [← hhead] at this; exact (h2 this).elim⟩
  rw [decide_eq_false (show ¬ q > l.f_Rate by omega), decide_eq_false (show ¬ q > l.f_Factor * head by omega)]
  simp only [cond_false]
  -- the upper side's litres
  have hA : ∃ A : Bool, (A = true ↔ ∀ b', U.f_basin = some b' → vol b' l.f_Sill ≤ U.f_litres - q) ∧ ∀ (K : Option Bool),
      ((g_r05_Basin N n a).bind fun rBasin =>
        (if ((decide (rBasin ≥ 0)) = true → 0 ≤ rBasin ∧ rBasin < ((w.f_Litres.length : Nat) : Int)) then
        (if ((decide (rBasin ≥ 0)) = true → 0 ≤ rBasin ∧ rBasin < ((n.f_Basins.length : Nat) : Int)) then
        ((cond (decide (rBasin ≥ 0)) (g_r05_Below N (n.f_Basins.getD ((rBasin).toNat) Tapi_Basin.d) l.f_Sill) (some 0)).bind fun rBelow =>
        (cond (cond (decide (rBasin ≥ 0)) (decide ((w64 ((w.f_Litres.getD ((rBasin).toNat) 0) - q)) < rBelow)) false)
        (some false) K)) else none) else none)) = cond A K (some false) := by
    rw [refBasinIx_eq (by omega) (by omega)]
    simp only [Option.bind_some]
    cases hU with
    | sea p h1 _ _ h4 _ =>
      refine ⟨true, ⟨fun _ b' hb' => (by rw [h4] at hb'; cases hb'), fun _ => rfl⟩, fun K => ?_⟩
      rw [h1, ix_empty v.net]
      simp only [show decide ((-1 : Int) ≥ 0) = false from rfl, Bool.false_eq_true, false_implies, if_true, cond_false, cond_true, Option.bind_some]
    | bas i h1 h2 h3 _ h5 h6 =>
      have hi : i < w.f_Litres.length := by rw [v.lit]; exact h2
      have hv := v.vol i h2
      have hc := vol_cap (v.net.valid h2)
      refine ⟨decide (vol (bs n i) l.f_Sill ≤ U.f_litres - q), ⟨fun h b' hb' => (by rw [h5] at hb'; cases hb'; exact of_decide_eq_true h), fun h => decide_eq_true (h _ h5)⟩, fun K => ?_⟩
      rw [h3, decide_eq_true (show ((i : Nat) : Int) ≥ 0 by omega)]
      rw [if_pos (fun _ => inb hi), if_pos (fun _ => inb h2), cond_true, toNat_nat]
      rw [show g_r05_Below N (n.f_Basins.getD i Tapi_Basin.d) l.f_Sill = some (vol (bs n i) l.f_Sill) from below_eq (by omega) (v.net.valid h2) (by omega) (by omega), Option.bind_some, cond_true, w64_eq (by omega) (by omega), ← h6]
      by_cases hd : vol (bs n i) l.f_Sill ≤ U.f_litres - q
      · rw [decide_eq_true hd, decide_eq_false (show ¬ U.f_litres - q < vol (bs n i) l.f_Sill by omega)]; rfl
      · rw [decide_eq_false hd, decide_eq_true (show U.f_litres - q < vol (bs n i) l.f_Sill by omega)]; rfl
  have hB : ∃ A : Bool, (A = true ↔ ∀ b', D.f_basin = some b' → D.f_litres + q ≤ vol b' b'.f_Rim) ∧ ∀ (K : Option Bool),
      ((g_r05_Basin N n b).bind fun rBasin2 =>
        (if ((decide (rBasin2 ≥ 0)) = true → 0 ≤ rBasin2 ∧ rBasin2 < ((w.f_Litres.length : Nat) : Int)) then
        (if ((decide (rBasin2 ≥ 0)) = true → 0 ≤ rBasin2 ∧ rBasin2 < ((n.f_Basins.length : Nat) : Int)) then
        ((cond (decide (rBasin2 ≥ 0)) (g_r05_Capacity N (n.f_Basins.getD ((rBasin2).toNat) Tapi_Basin.d)) (some 0)).bind fun rCapacity =>
        (cond (cond (decide (rBasin2 ≥ 0)) (decide ((w64 ((w.f_Litres.getD ((rBasin2).toNat) 0) + q)) > rCapacity)) false)
        (some false) K)) else none) else none)) = cond A K (some false) := by
    rw [refBasinIx_eq (by omega) (by omega)]
    simp only [Option.bind_some]
    cases hD with
    | sea p h1 _ _ h4 _ =>
      refine ⟨true, ⟨fun _ b' hb' => (by rw [h4] at hb'; cases hb'), fun _ => rfl⟩, fun K => ?_⟩
      rw [h1, ix_empty v.net]
      simp only [show decide ((-1 : Int) ≥ 0) = false from rfl, Bool.false_eq_true, false_implies, if_true, cond_false, cond_true, Option.bind_some]
    | bas i h1 h2 h3 _ h5 h6 =>
      have hi : i < w.f_Litres.length := by rw [v.lit]; exact h2
      have hv := v.vol i h2
      have hc := vol_cap (v.net.valid h2)
      have hr := (v.net.valid h2).rim
      have h0 := (v.net.valid h2).frm 0 (by have := (v.net.valid h2).len; omega)
      have hfl := floor_lt (v.net.valid h2)
      refine ⟨decide (D.f_litres + q ≤ vol (bs n i) (bs n i).f_Rim), ⟨fun h b' hb' => (by rw [h5] at hb'; cases hb'; exact of_decide_eq_true h), fun h => decide_eq_true (h _ h5)⟩, fun K => ?_⟩
      rw [h3, decide_eq_true (show ((i : Nat) : Int) ≥ 0 by omega)]
      rw [if_pos (fun _ => inb hi), if_pos (fun _ => inb h2), cond_true, toNat_nat]
      have e : g_r05_Capacity N (n.f_Basins.getD i Tapi_Basin.d) = some (vol (bs n i) (bs n i).f_Rim) := by
        unfold g_r05_Capacity
        rw [show g_r05_Below N (n.f_Basins.getD i Tapi_Basin.d) (n.f_Basins.getD i Tapi_Basin.d).f_Rim = some (vol (bs n i) (bs n i).f_Rim) from below_eq (by omega) (v.net.valid h2) (show -1000000 ≤ (bs n i).f_Rim by omega) (show (bs n i).f_Rim ≤ 1000001 by omega)]; rfl
      rw [e, Option.bind_some, cond_true, w64_eq (by omega) (by omega), ← h6]
      by_cases hd : D.f_litres + q ≤ vol (bs n i) (bs n i).f_Rim
      · rw [decide_eq_true hd, decide_eq_false (show ¬ D.f_litres + q > vol (bs n i) (bs n i).f_Rim by omega)]; rfl
      · rw [decide_eq_false hd, decide_eq_true (show D.f_litres + q > vol (bs n i) (bs n i).f_Rim by omega)]; rfl
  obtain ⟨A, hA1, hA2⟩ := hA
  obtain ⟨B, hB1, hB2⟩ := hB
  rw [hA2, hB2]
  cases A with
  | false => exact ⟨false, rfl, fun h => (by cases h), fun h => (hA1.2 h.2.2.1)⟩
  | true =>
    cases B with
    | false => exact ⟨false, rfl, fun h => (by cases h), fun h => (hB1.2 h.2.2.2.1)⟩
    | true =>
      have hA1 := hA1.1 rfl
      have hB1 := hB1.1 rfl
      have fU : Fits U (-q) := fun b' hb' => by
        obtain ⟨v', a1, a2⟩ := u.bas b' hb'
        have := hA1 b' hb'
        have := vol_nn v' (l := l.f_Sill) (by omega) (by omega)
        omega
      have fD : Fits D q := fun b' hb' => by
        obtain ⟨v', a1, a2⟩ := d.bas b' hb'
        have := hB1 b' hb'
        omega
      simp only [cond_true]
      rw [moved_eq (by omega) v.net v.lit v.opn, Option.bind_some]
      rw [show (⟨(movedW n w a b q).f_Minute, (movedW n w a b q).f_Litres, (movedW n w a b q).f_Open⟩ : Tapi_Water) = movedW n w a b q from rfl]
      rw [height_from hN v hab hU fU, Option.bind_some, height_to hN v hab hD fD]
      refine ⟨_, rfl, ?_⟩
      rw [decide_eq_true_iff]
      constructor
      · intro h
        exact ⟨h1, by rw [← hhead]; exact h2, hA1, hB1, h⟩
      · intro h; exact h.2.2.2.2

theorem throughL1 {N : Nat} (hN : 2000001 < N) {n : Tapi_Network} {w : Tapi_Water} (v : StateOk n w) {l : Tapi_Link} (k : LinkOk l) {a b : ByteArray} (hab : streq a b = false) {U D : Twater_side} (hU : IsSide n w a U) (hD : IsSide n w b D) (hUD : SL D 0 < SL U 0) :
    ∀ (e fuel : Nat) (q : Int), e + 1 < fuel → 0 ≤ q → q + 2 ^ (e + 1) ≤ 2147483648 → (0 < q → May l U D q) → ¬ May l U D (q + 2 ^ (e + 1)) →
      ∃ r, g_r05_through_L1 N n w l a b fuel q (2 ^ e) = some r ∧ Most l U D r
  | e, fuel, q, hf, h0, hq, hm, hn => by
    obtain ⟨g, rfl⟩ : ∃ g, fuel = g + 1 := ⟨fuel - 1, by omega⟩
    have hp : (2 : Int) ^ (e + 1) = 2 * 2 ^ e := by rw [Int.pow_succ, Int.mul_comm]
    have hpos : (0 : Int) < 2 ^ e := Int.pow_pos (by omega)
    obtain ⟨B, hB, hB2⟩ := may_eq hN v k hab hU hD hUD (q := q + 2 ^ e) (by omega) (by omega)
    rw [g_r05_through_L1, decide_eq_true hpos, cond_true, w64_eq (n := q + 2 ^ e) (by omega) (by omega), hB, Option.bind_some]
    have hd : w64 ((2 ^ e : Int).tdiv 2) = (2 ^ e : Int) / 2 := by
      rw [Int.tdiv_eq_ediv_of_nonneg (by omega), w64_eq (by omega) (by omega)]
    unfold g_r05_through_J2
    rw [hd]
    have key : ∀ q' : Int, 0 ≤ q' → q' + 2 ^ e ≤ 2147483648 → (0 < q' → May l U D q') → ¬ May l U D (q' + 2 ^ e) → ∃ r, g_r05_through_L1 N n w l a b g q' (2 ^ e / 2) = some r ∧ Most l U D r := by
      intro q' h1 h2 h3 h4
      cases e with
      | zero =>
        obtain ⟨g', rfl⟩ : ∃ g', g = g' + 1 := ⟨g - 1, by omega⟩
        rw [show (2 : Int) ^ 0 / 2 = 0 from rfl, g_r05_through_L1]
        exact ⟨q', rfl, h1, h3, h4⟩
      | succ e =>
        have : (2 : Int) ^ (e + 1) / 2 = 2 ^ e := by rw [Int.pow_succ]; exact Int.mul_ediv_cancel _ (by omega)
        rw [this]
        exact throughL1 hN v k hab hU hD hUD e g q' (by omega) h1 h2 h3 h4
    cases B with
    | true => exact key (q + 2 ^ e) (by omega) (by omega) (fun _ => hB2.1 rfl) (by rw [show q + 2 ^ e + 2 ^ e = q + 2 ^ (e + 1) by omega]; exact hn)
    | false => exact key q h0 (by omega) hm (fun h => by have := hB2.2 h; cases this)
theorem through_eq {N : Nat} (hN : 2000001 < N) {n : Tapi_Network} {w : Tapi_Water} (v : StateOk n w) {l : Tapi_Link} (k : LinkOk l) {a b : ByteArray} (hab : streq a b = false) {U D : Twater_side} (hU : IsSide n w a U) (hD : IsSide n w b D) (hUD : SL D 0 < SL U 0) :
    ∃ r, g_r05_through N n w l a b = some r ∧ GateR l U D r := by
  unfold g_r05_through
  rw [height_eq hN v hU, Option.bind_some]
  by_cases hs : SL U 0 ≤ l.f_Sill
  · rw [decide_eq_true hs, cond_true]
    exact ⟨0, rfl, .inl ⟨hs, rfl⟩⟩
  · rw [decide_eq_false hs, cond_false]
    have hr := k.rate
    obtain ⟨r, h1, h2⟩ := throughL1 hN v k hab hU hD hUD 30 N 0 (by omega) (by omega) (by decide) (fun h => by omega) (fun h => by have := h.1; omega)
    exact ⟨r, h1, .inr ⟨by omega, h2⟩⟩
/-- The two ways to find what a gate does agree. -/
theorem gates_eq {N : Nat} (hN : 2000001 < N) {n : Tapi_Network} {w : Tapi_Water} (v : StateOk n w) {l : Tapi_Link} (k : LinkOk l) {a b : ByteArray} (hab : streq a b = false) {U D : Twater_side} (hU : IsSide n w a U) (hD : IsSide n w b D) (hUD : SL D 0 < SL U 0) :
    ∃ r, g_water_gate N l U D = some r ∧ g_r05_through N n w l a b = some r ∧ 0 ≤ r ∧ r ≤ 1000000000 ∧ GateR l U D r := by
  have u := hU.ok v
  have d := hD.ok v
  obtain ⟨r, h1, h2, h3, h4⟩ := gate_eq (N := N) (by omega) k u d hUD
  obtain ⟨r', h5, h6⟩ := through_eq hN v k hab hU hD hUD
  have := h2.unique k u d h6
  subst this
  exact ⟨r, h1, h5, h3, h4, h2⟩
end Go.Den

namespace Go.Den
open Go.Ab

/-- What is known of a link that the document allows. -/
structure LinkFine (n : Tapi_Network) (l : Tapi_Link) : Prop where
  kind : l.f_Kind = 0 ∨ l.f_Kind = 1
  sfrom : sideOk n l.f_From = true
  sto : sideOk n l.f_To = true
  ne : streq l.f_From l.f_To = false
  sea : l.f_From = ByteArray.empty ∨ l.f_To = ByteArray.empty → 0 < n.f_Sea.length
  rate : 0 ≤ l.f_Rate ∧ l.f_Rate ≤ 1000000000
  gate : l.f_Kind = 0 → (-1000000 ≤ l.f_Sill ∧ l.f_Sill ≤ 1000000) ∧ (0 ≤ l.f_Factor ∧ l.f_Factor ≤ 1000000000)
  pump : l.f_Kind = 1 → 0 ≤ l.f_Lift ∧ l.f_Lift ≤ 1000000
theorem link_of {n : Tapi_Network} {l : Tapi_Link} (h : linkCode n l = 0) : LinkFine n l := by
  unfold linkCode at h
  cases hk : cond (l.f_Kind != 0) (l.f_Kind != 1) false with
  | true => rw [hk] at h; cases h
  | false =>
    rw [hk, cond_false] at h
    have hkind : l.f_Kind = 0 ∨ l.f_Kind = 1 := by
      by_cases h0 : l.f_Kind = 0
      · exact .inl h0
      · right
        have : (l.f_Kind != 0) = true := by simpa using h0
        rw [this, cond_true] at hk
        simpa using hk
    cases hs : (sideOk n l.f_From && sideOk n l.f_To) with
    | false => rw [hs] at h; cases h
    | true =>
      rw [hs, Bool.not_true, cond_false] at h
      rw [Bool.and_eq_true] at hs
      unfold linkTail at h
      cases hne : streq l.f_From l.f_To with
      | true => rw [hne] at h; cases h
      | false =>
        rw [hne, cond_false] at h
        cases hsea : cond (cond (streq l.f_From ByteArray.empty) true (streq l.f_To ByteArray.empty)) (((n.f_Sea.length : Nat) : Int) == 0) false with
        | true => rw [hsea] at h; cases h
        | false =>
          rw [hsea, cond_false] at h
          cases hr : ins l.f_Rate 0 1000000000 with
          | false => rw [hr] at h; cases h
          | true =>
            rw [hr, Bool.not_true, cond_false] at h
            have hr := ins_iff.1 hr
            refine ⟨hkind, hs.1, hs.2, hne, fun he => ?_, hr, fun h0 => ?_, fun h1 => ?_⟩
            · have e : cond (streq l.f_From ByteArray.empty) true (streq l.f_To ByteArray.empty) = true := by
                rcases he with he | he
                · rw [streq_iff.2 he]; rfl
                · rw [streq_iff.2 he]; cases streq l.f_From ByteArray.empty <;> rfl
              rw [e, cond_true] at hsea
              have : ((n.f_Sea.length : Nat) : Int) ≠ 0 := by simpa using hsea
              omega
            · rw [h0] at h
              cases a : ins l.f_Sill (-1000000) 1000000 <;> cases c : ins l.f_Factor 0 1000000000 <;> rw [a, c] at h
              · cases h
              · cases h
              · cases h
              · exact ⟨ins_iff.1 a, ins_iff.1 c⟩
            · rw [h1] at h
              cases a : ins l.f_Lift 0 1000000 <;> rw [a] at h
              · cases h
              · exact ins_iff.1 a
theorem LinkFine.gateOk {n : Tapi_Network} {l : Tapi_Link} (k : LinkFine n l) (h : l.f_Kind = 0) : LinkOk l := ⟨k.rate, (k.gate h).1, (k.gate h).2⟩

/-- What is known of what a link does: both sides keep within their bounds; a gate does what the document says. -/
structure FlowR (l : Tapi_Link) (F T : Twater_side) (r : Int) : Prop where
  bd : -1000000000 ≤ r ∧ r ≤ 1000000000
  fitF : Fits F (-r)
  fitT : Fits T r
  gate : l.f_Kind = 0 → (SL T 0 < SL F 0 → GateR l F T r) ∧ (SL F 0 < SL T 0 → GateR l T F (-r)) ∧ (SL F 0 = SL T 0 → r = 0)
theorem GateR.fits {l : Tapi_Link} (k : LinkOk l) {U D : Twater_side} (u : SideOk U) (d : SideOk D) {r : Int} (h : GateR l U D r) : Fits U (-r) ∧ Fits D r := by
  have z : r = 0 → Fits U (-r) ∧ Fits D r := fun h => by
    subst h
    exact ⟨fits0 u, fits0 d⟩
  rcases h with ⟨_, h⟩ | ⟨_, h0, h1, _⟩
  · exact z h
  · by_cases hr : 0 < r
    · exact (h1 hr).fits k u d h0
    · exact z (by omega)

theorem flow_eq {N : Nat} (hN : 2000001 < N) {n : Tapi_Network} {w : Tapi_Water} (v : StateOk n w) {i : Nat} (hi : i < n.f_Links.length) {F T : Twater_side} (hF : IsSide n w (ls n i).f_From F) (hT : IsSide n w (ls n i).f_To T)
    (eF : g_water_sideOf N n w (ls n i).f_From = some F) (eT : g_water_sideOf N n w (ls n i).f_To = some T) :
    ∃ r, g_water_flow N n w (i : Int) = some r ∧ (w.f_Open.getD i false = false → r = 0) ∧ (w.f_Open.getD i false = true → g_r05_Act N n w (ls n i) = some r ∧ FlowR (ls n i) F T r) := by
  have k := link_of (v.net.link i hi)
  have f := hF.ok v
  have t := hT.ok v
  have bF := SL_bd f (fits0 f)
  have bT := SL_bd t (fits0 t)
  have hnb := v.net.nb
  have hio : i < w.f_Open.length := by rw [v.opn]; exact hi
  have hkr := k.rate
  unfold g_water_flow
  rw [if_pos (inb hi), if_pos (inb hio), toNat_nat]
  change ∃ r, cond (!w.f_Open.getD i false) (some 0) ((g_water_sideOf N n w (ls n i).f_From).bind fun rsideOf => ((g_water_sideOf N n w (ls n i).f_To).bind fun rsideOf2 => ((g_water_side_level N rsideOf2 0).bind fun rlevel => ((g_water_side_level N rsideOf 0).bind fun rlevel2 =>
    (cond ((ls n i).f_Kind == 1) (cond (decide ((w64 (rlevel - rlevel2)) > (ls n i).f_Lift)) (some 0) (cond (!(!rsideOf.f_basin.isSome)) (g_water_flow_J1 N n i rsideOf2 rsideOf.f_litres) (g_water_flow_J1 N n i rsideOf2 (ls n i).f_Rate)))
      (cond (decide ((w64 (rlevel - rlevel2)) < 0)) ((g_water_gate N (ls n i) rsideOf rsideOf2).bind fun rgate => some rgate) (cond (decide ((w64 (rlevel - rlevel2)) > 0)) ((g_water_gate N (ls n i) rsideOf2 rsideOf).bind fun rgate2 => some (w64 (0 - rgate2))) (some 0)))))))) = some r ∧ _
  cases ho : w.f_Open.getD i false with
  | false => exact ⟨0, rfl, fun _ => rfl, fun h => (by cases h)⟩
  | true =>
    rw [eF, eT]
    simp only [Bool.not_true, cond_false, Option.bind_some, level_eq (show 20 < N by omega) f (fits0 f), level_eq (show 20 < N by omega) t (fits0 t)]
    rw [w64_eq (n := SL T 0 - SL F 0) (by omega) (by omega)]
    unfold g_r05_Act
    rw [height_eq hN v hF, height_eq hN v hT]
    simp only [Option.bind_some]
    rcases k.kind with hk | hk
    · rw [hk]
      have kg := k.gateOk hk
      have hne := k.ne
      have hne2 : streq (ls n i).f_To (ls n i).f_From = false := by rw [streq_comm]; exact hne
      rw [show ((0 : Int) == 1) = false from rfl, show ((0 : Int) == 0) = true from rfl, cond_false, cond_true]
      rcases Int.lt_trichotomy (SL T 0) (SL F 0) with hl | hl | hl
      · obtain ⟨r, h1, h2, h3, h4, h5⟩ := gates_eq hN v kg hne hF hT hl
        obtain ⟨g1, g2⟩ := h5.fits kg f t
        refine ⟨r, ?_, fun h => (by cases h), fun _ => ⟨?_, ⟨by omega, by omega⟩, g1, g2, fun _ => ⟨fun _ => h5, fun h => by omega, fun h => by omega⟩⟩⟩
        · rw [decide_eq_true (show SL T 0 - SL F 0 < 0 by omega), cond_true, h1]; rfl
        · rw [decide_eq_true (show SL F 0 > SL T 0 by omega), cond_true, h2]; rfl
      · refine ⟨0, ?_, fun h => (by cases h), fun _ => ⟨?_, ⟨by omega, by omega⟩, fits0 f, fits0 t, fun _ => ⟨fun h => by omega, fun h => by omega, fun _ => rfl⟩⟩⟩
        · rw [decide_eq_false (show ¬ SL T 0 - SL F 0 < 0 by omega), cond_false, decide_eq_false (show ¬ SL T 0 - SL F 0 > 0 by omega)]; rfl
        · rw [decide_eq_false (show ¬ SL F 0 > SL T 0 by omega), cond_false, decide_eq_false (show ¬ SL T 0 > SL F 0 by omega)]; rfl
      · obtain ⟨r, h1, h2, h3, h4, h5⟩ := gates_eq hN v kg hne2 hT hF hl
        obtain ⟨g1, g2⟩ := h5.fits kg t f
        refine ⟨-r, ?_, fun h => (by cases h), fun _ => ⟨?_, ⟨by omega, by omega⟩, (by rw [Int.neg_neg]; exact g2), g1, fun _ => ⟨fun h => by omega, fun _ => (by rw [Int.neg_neg]; exact h5), fun h => by omega⟩⟩⟩
        · rw [decide_eq_false (show ¬ SL T 0 - SL F 0 < 0 by omega), cond_false, decide_eq_true (show SL T 0 - SL F 0 > 0 by omega), cond_true, h1, Option.bind_some, w64_eq (by omega) (by omega), Int.zero_sub]
        · rw [decide_eq_false (show ¬ SL F 0 > SL T 0 by omega), cond_false, decide_eq_true (show SL T 0 > SL F 0 by omega), cond_true, h2, Option.bind_some, w64_eq (by omega) (by omega), Int.zero_sub]
    · rw [hk]
      have kp := k.pump hk
      have k0 : ∀ {p : Prop}, ls n i = ls n i → (ls n i).f_Kind = 0 → p := fun _ h => by rw [hk] at h; cases h
      rw [show ((1 : Int) == 1) = true from rfl, show ((1 : Int) == 0) = false from rfl, cond_true, cond_false, w64_eq (n := SL T 0 - SL F 0) (by omega) (by omega)]
      cases hd : decide (SL T 0 - SL F 0 > (ls n i).f_Lift) with
      | true => exact ⟨0, rfl, fun h => (by cases h), fun _ => ⟨rfl, ⟨by omega, by omega⟩, fits0 f, fits0 t, fun h => k0 rfl h⟩⟩
      | false =>
        -- what the upper side gives, by both
        obtain ⟨give, hg1, hg2, hg3, hg4⟩ : ∃ give : Int, (cond (!(!F.f_basin.isSome)) (g_water_flow_J1 N n i T F.f_litres) (g_water_flow_J1 N n i T (ls n i).f_Rate) = g_water_flow_J1 N n i T give) ∧ 0 ≤ give ∧
            (∀ b, F.f_basin = some b → give = F.f_litres) ∧ ((g_r05_Basin N n (ls n i).f_From).bind fun rBasin => (cond (decide (rBasin ≥ 0))
              (if 0 ≤ rBasin ∧ rBasin < ((w.f_Litres.length : Nat) : Int) then g_r05_Act_J1 N n w (ls n i) (if (w.f_Litres.getD ((rBasin).toNat) 0) < (ls n i).f_Rate then (w.f_Litres.getD ((rBasin).toNat) 0) else (ls n i).f_Rate) else none)
              (g_r05_Act_J1 N n w (ls n i) (ls n i).f_Rate))) = g_r05_Act_J1 N n w (ls n i) (if give < (ls n i).f_Rate then give else (ls n i).f_Rate) := by
          rw [refBasinIx_eq (by omega) (by omega)]
          simp only [Option.bind_some]
          cases hF with
          | sea p h1 h2 h3 h4 h5 =>
            refine ⟨(ls n i).f_Rate, by rw [h4]; rfl, hkr.1, fun b hb => (by rw [h4] at hb; cases hb), ?_⟩
            rw [h1, ix_empty v.net, show decide ((-1 : Int) ≥ 0) = false from rfl, cond_false, if_neg (by omega)]
          | bas j h1 h2 h3 h4 h5 h6 =>
            have hj : j < w.f_Litres.length := by rw [v.lit]; exact h2
            have := v.vol j h2
            refine ⟨F.f_litres, by rw [h5]; rfl, by omega, fun b hb => rfl, ?_⟩
            rw [h3, decide_eq_true (show ((j : Nat) : Int) ≥ 0 by omega), cond_true, if_pos (inb hj), toNat_nat, h6]
        simp only [cond_false]
        rw [hg1, hg4]
        obtain ⟨x, hx⟩ : ∃ x, x = (if give < (ls n i).f_Rate then give else (ls n i).f_Rate) := ⟨_, rfl⟩
        have hx1 : 0 ≤ x ∧ x ≤ give ∧ x ≤ (ls n i).f_Rate := by rw [hx]; split <;> omega
        obtain ⟨r, e1, e2, e3, e4, e5⟩ : ∃ r, g_water_flow_J1 N n i T give = some r ∧ g_r05_Act_J1 N n w (ls n i) x = some r ∧ 0 ≤ r ∧ r ≤ x ∧ ∀ b, T.f_basin = some b → T.f_litres + r ≤ vol b b.f_Rim := by
          unfold g_water_flow_J1 g_r05_Act_J1 g_r05_Act_J2
          rw [toNat_nat, room_eq (by omega) t, Option.bind_some, refBasinIx_eq (by omega) (by omega), Option.bind_some]
          rw [show (n.f_Links.getD i Tapi_Link.d) = ls n i from rfl, ← hx]
          cases hT with
          | sea p h1 h2 h3 h4 h5 =>
            refine ⟨x, ?_, ?_, hx1.1, Int.le_refl _, fun b hb => (by rw [h4] at hb; cases hb)⟩
            · unfold roomV
              rw [h4]
              simp only
              split
              · congr 1; omega
              · rfl
            · rw [h1, ix_empty v.net]; rfl
          | bas j h1 h2 h3 h4 h5 h6 =>
            have hj : j < w.f_Litres.length := by rw [v.lit]; exact h2
            have hv := v.vol j h2
            have hc := vol_cap (v.net.valid h2)
            have hr := (v.net.valid h2).rim
            have h0 := (v.net.valid h2).frm 0 (by have := (v.net.valid h2).len; omega)
            have hfl := floor_lt (v.net.valid h2)
            have e : g_r05_Capacity N (n.f_Basins.getD j Tapi_Basin.d) = some (vol (bs n j) (bs n j).f_Rim) := by
              unfold g_r05_Capacity
              rw [show g_r05_Below N (n.f_Basins.getD j Tapi_Basin.d) (n.f_Basins.getD j Tapi_Basin.d).f_Rim = some (vol (bs n j) (bs n j).f_Rim) from below_eq (by omega) (v.net.valid h2) (show -1000000 ≤ (bs n j).f_Rim by omega) (show (bs n j).f_Rim ≤ 1000001 by omega)]; rfl
            have er : roomV T (ls n i).f_Rate = vol (bs n j) (bs n j).f_Rim - T.f_litres := by unfold roomV; rw [h5]
            rw [er, h3, decide_eq_true (show ((j : Nat) : Int) ≥ 0 by omega), cond_true, if_pos (inb h2), toNat_nat, e, Option.bind_some, if_pos (inb hj), w64_eq (by omega) (by omega), ← h6]
            refine ⟨_, rfl, rfl, ?_, ?_, fun b hb => ?_⟩
            · split <;> omega
            · split <;> omega
            · rw [h5] at hb; cases hb
              split <;> omega
        refine ⟨r, e1, fun h => (by cases h), fun _ => ⟨by rw [← hx]; exact e2, ⟨by omega, by omega⟩, fun b hb => ?_, fun b hb => ?_, fun h => k0 rfl h⟩⟩
        · obtain ⟨_, a1, a2⟩ := f.bas b hb
          have := hg3 b hb
          omega
        · obtain ⟨_, a1, a2⟩ := t.bas b hb
          have := e5 b hb
          omega
theorem flow_ok {N : Nat} (hN : 2000001 < N) {n : Tapi_Network} {w : Tapi_Water} (v : StateOk n w) {i : Nat} (hi : i < n.f_Links.length) :
    ∃ F T r, IsSide n w (ls n i).f_From F ∧ IsSide n w (ls n i).f_To T ∧ g_water_flow N n w (i : Int) = some r ∧ (w.f_Open.getD i false = false → r = 0) ∧ (w.f_Open.getD i false = true → g_r05_Act N n w (ls n i) = some r ∧ FlowR (ls n i) F T r) := by
  have k := link_of (v.net.link i hi)
  obtain ⟨F, eF, hF⟩ := sideOf_eq (N := N) (by omega) v k.sfrom fun h => k.sea (.inl h)
  obtain ⟨T, eT, hT⟩ := sideOf_eq (N := N) (by omega) v k.sto fun h => k.sea (.inr h)
  obtain ⟨r, h⟩ := flow_eq hN v hi hF hT eF eT
  exact ⟨F, T, r, hF, hT, h⟩
end Go.Den

namespace Go.Den
open Go.Ab

theorem capacity_eq {N : Nat} (hN : 20 < N) {b : Tapi_Basin} (v : Valid b) : g_r05_Capacity N b = some (vol b b.f_Rim) := by
  have hr := v.rim
  have h0 := v.frm 0 (by have := v.len; omega)
  have hfl := floor_lt v
  unfold g_r05_Capacity
  rw [below_eq hN v (by omega) (by omega)]; rfl
def waterCode (n : Tapi_Network) (w : Tapi_Water) : Int :=
  cond (!ins w.f_Minute 0 1000000) 2 (cond (cond (((w.f_Litres.length : Nat) : Int) != ((n.f_Basins.length : Nat) : Int)) true (((w.f_Open.length : Nat) : Int) != ((n.f_Links.length : Nat) : Int))) 11 (scan (litresStep n w) 0 n.f_Basins.length 0))
theorem stateCode_eq (n : Tapi_Network) (w : Tapi_Water) : stateCode n w = cond (netCode n != 0) (netCode n) (waterCode n w) := rfl
theorem refWater_eq {N : Nat} (hN : 400 < N) {n : Tapi_Network} (v : NetOk n) (w : Tapi_Water) : g_r05_CheckWater N n w = some (waterCode n w) := by
  unfold g_r05_CheckWater waterCode
  have hnb := v.nb
  simp only [inside_eq, Option.bind_some]
  cases ins w.f_Minute 0 1000000 with
  | false => rfl
  | true =>
    simp only [Bool.not_true, cond_false]
    cases hl : cond (((w.f_Litres.length : Nat) : Int) != ((n.f_Basins.length : Nat) : Int)) true (((w.f_Open.length : Nat) : Int) != ((n.f_Links.length : Nat) : Int)) with
    | true => rfl
    | false =>
      have hl : w.f_Litres.length = n.f_Basins.length := by
        cases h2 : ((w.f_Litres.length : Nat) : Int) != ((n.f_Basins.length : Nat) : Int) with
        | true => rw [h2] at hl; cases hl
        | false => simp at h2; omega
      rw [cond_false, cond_false, ← hl]
      refine loop_scan0 (L := fun fuel => g_r05_CheckWater_L1 N n w fuel) _ _ (by omega) (fun fuel m hm => ?_) (fun fuel => ?_)
      · have hm2 : m < n.f_Basins.length := by omega
        simp only [g_r05_CheckWater_L1, dec_lt hm, cond_true, if_pos (inb hm), if_pos (inb hm2), toNat_nat, w64_succ (show m < 9223372036854775807 by omega), inside_eq]
        rw [show g_r05_Capacity N (n.f_Basins.getD m Tapi_Basin.d) = some (vol (bs n m) (bs n m).f_Rim) from capacity_eq (by omega) (v.valid hm2)]
        simp only [Option.bind_some, litresStep]
        cases ins (w.f_Litres.getD m 0) 0 (vol (bs n m) (bs n m).f_Rim) <;> rfl
      · simp only [g_r05_CheckWater_L1, dec_nlt, cond_false]
theorem refLevelsL1 {N : Nat} (hN : 2000001 < N) {n : Tapi_Network} {w : Tapi_Water} (v : StateOk n w) : ∀ k m fuel (out : List Int), m + k = n.f_Basins.length → k < fuel → out.length = m → (∀ i, i < m → Lev (bs n i) (w.f_Litres.getD i 0) (out.getD i 0)) →
    ∃ l, g_r05_Levels_L1 N n w fuel out (m : Int) = some l ∧ Levs n w l
  | 0, m, fuel, out, h, hf, ho, hl => by
    obtain ⟨g, rfl⟩ : ∃ g, fuel = g + 1 := ⟨fuel - 1, by omega⟩
    have hm : m = n.f_Basins.length := by omega
    subst hm
    exact ⟨out, by simp only [g_r05_Levels_L1, dec_nlt, cond_false], ho, hl⟩
  | k + 1, m, fuel, out, h, hf, ho, hl => by
    obtain ⟨g, rfl⟩ : ∃ g, fuel = g + 1 := ⟨fuel - 1, by omega⟩
    have hm : m < n.f_Basins.length := by omega
    have hm2 : m < w.f_Litres.length := by rw [v.lit]; exact hm
    have hnb := v.net.nb
    obtain ⟨b1, b2⟩ := v.vol m hm
    obtain ⟨L, e1, e2⟩ := refLevelOf_eq hN (v.net.valid hm) b1
    have e1 : g_r05_LevelOf N (n.f_Basins.getD m Tapi_Basin.d) (w.f_Litres.getD m 0) = some L := e1
    simp only [g_r05_Levels_L1, dec_lt hm, cond_true, if_pos (inb hm), if_pos (inb hm2), toNat_nat, e1, Option.bind_some, w64_succ (show m < 9223372036854775807 by omega)]
    rw [if_pos (by omega)]
    refine refLevelsL1 hN v k (m + 1) g (out ++ [L]) (by omega) (by omega) (by simp [ho]) fun i hi => ?_
    by_cases him : i = m
    · subst him
      have : (out ++ [L]).getD i 0 = L := by simp [List.getD_eq_getElem?_getD, ← ho]
      rw [this]; exact e2
    · have : (out ++ [L]).getD i 0 = out.getD i 0 := by simp [List.getD_eq_getElem?_getD, List.getElem?_append_left (show i < out.length by omega)]
      rw [this]; exact hl i (by omega)
theorem refLevels_eq {N : Nat} (hN : 2000001 < N) {n : Tapi_Network} {w : Tapi_Water} (v : StateOk n w) : ∃ l, g_r05_Levels N n w = some l ∧ Levs n w l := by
  have hnb := v.net.nb
  exact refLevelsL1 hN v n.f_Basins.length 0 N [] (by omega) (by omega) rfl (fun i hi => by omega)
theorem linkIx_eq {N : Nat} {n : Tapi_Network} (hN : n.f_Links.length < N) (hl : n.f_Links.length < 1000) (s : ByteArray) : g_water_linkOf N n s = some (linkIx n s) := by
  unfold g_water_linkOf g_slices_IndexFunc_api_Link_api_Link
  rw [loop_scan0 (L := fun fuel => g_slices_IndexFunc_api_Link_api_Link_L1 N n.f_Links s fuel) (fun k => cond (streq (ls n k).f_Name s) (some (k : Int)) none) (-1) hN (fun fuel k hk => ?_) (fun fuel => ?_)]
  · rfl
  · simp only [g_slices_IndexFunc_api_Link_api_Link_L1, g_water_linkOf_1, dec_lt hk, cond_true, if_pos (inb hk), w64_succ (show k < 9223372036854775807 by omega), toNat_nat, Option.bind_some]
    change cond (streq (ls n k).f_Name s) _ _ = _
    cases streq (ls n k).f_Name s <;> rfl
  · simp only [g_slices_IndexFunc_api_Link_api_Link_L1, dec_nlt, cond_false]
theorem linkIx_inv (n : Tapi_Network) (s : ByteArray) : linkIx n s = -1 ∨ ∃ i : Nat, i < n.f_Links.length ∧ linkIx n s = (i : Int) := by
  unfold linkIx
  rcases scan_inv (f := fun k => cond (streq (ls n k).f_Name s) (some (k : Int)) none) (z := -1) n.f_Links.length 0 with ⟨i, r, _, h2, h3, _, h5⟩ | ⟨_, h2⟩
  · right
    cases hs : streq (ls n i).f_Name s with
    | false => simp only [hs, cond_false] at h3; cases h3
    | true =>
      simp only [hs, cond_true, Option.some.injEq] at h3
      exact ⟨i, by omega, by rw [h5, ← h3]⟩
  · exact .inl h2

theorem shortN {N : Nat} {n : Tapi_Network} (hN : 400 < N) : ∃ q, g_w05_short N n = some q := by
  unfold g_w05_short
  cases h : cond (cond (decide (((n.f_Basins.length : Nat) : Int) > 10)) true (decide (((n.f_Links.length : Nat) : Int) > 14))) true (cond (decide (((n.f_Sea.length : Nat) : Int) > 30)) (decide (((n.f_Sea.length : Nat) : Int) ≤ 400)) false) with
  | true => exact ⟨false, rfl⟩
  | false =>
    have hl : n.f_Basins.length ≤ 10 ∧ n.f_Links.length ≤ 14 := by
      cases h1 : decide (((n.f_Basins.length : Nat) : Int) > 10) with
      | true => rw [h1] at h; cases h
      | false =>
        cases h2 : decide (((n.f_Links.length : Nat) : Int) > 14) with
        | true => rw [h1, h2] at h; cases h
        | false => simp at h1 h2; omega
    have e2 : ∃ q, g_w05_short_L2 N n N 0 = some q := by
      refine ⟨_, loop_scan0 (L := fun fuel => g_w05_short_L2 N n fuel) (fun i => cond (cond (cond (decide (((((n.f_Links.getD i Tapi_Link.d).f_Name).size : Nat) : Int) > 40)) true (decide (((((n.f_Links.getD i Tapi_Link.d).f_From).size : Nat) : Int) > 40))) true (decide (((((n.f_Links.getD i Tapi_Link.d).f_To).size : Nat) : Int) > 40))) (some false) none) true (show n.f_Links.length < N by omega) (fun fuel i hi => ?_) (fun fuel => ?_)⟩
      · simp only [g_w05_short_L2, dec_lt hi, cond_true, if_pos (inb hi), if_pos (fun _ => inb hi), toNat_nat, w64_succ (show i < 9223372036854775807 by omega)]
        cases cond (cond (decide (((((n.f_Links.getD i Tapi_Link.d).f_Name).size : Nat) : Int) > 40)) true (decide (((((n.f_Links.getD i Tapi_Link.d).f_From).size : Nat) : Int) > 40))) true (decide (((((n.f_Links.getD i Tapi_Link.d).f_To).size : Nat) : Int) > 40)) <;> rfl
      · simp only [g_w05_short_L2, dec_nlt, cond_false]
    obtain ⟨q2, e2⟩ := e2
    refine ⟨_, loop_scan0 (L := fun fuel => g_w05_short_L1 N n fuel) (fun i => cond (cond (decide (((((n.f_Basins.getD i Tapi_Basin.d).f_Areas).length : Nat) : Int) > 30)) true (decide (((((n.f_Basins.getD i Tapi_Basin.d).f_Name).size : Nat) : Int) > 40))) (some false) none) q2 (show n.f_Basins.length < N by omega) (fun fuel i hi => ?_) (fun fuel => ?_)⟩
    · simp only [g_w05_short_L1, dec_lt hi, cond_true, if_pos (inb hi), if_pos (fun _ => inb hi), toNat_nat, w64_succ (show i < 9223372036854775807 by omega)]
      cases cond (decide (((((n.f_Basins.getD i Tapi_Basin.d).f_Areas).length : Nat) : Int) > 30)) true (decide (((((n.f_Basins.getD i Tapi_Basin.d).f_Name).size : Nat) : Int) > 40)) <;> rfl
    · simp only [g_w05_short_L1, dec_nlt, cond_false, e2]
/-- A case is short or not; a short one has few turns, or too many. -/
theorem Short_some {N : Nat} (c : Tkeelblocklaw05_Case) (hN : 400 < N) (hT : c.f_Turns.length < N) (hw : c.f_Turns.length ≤ 9223372036854775807) : ∃ q, g_w05_Case_Short N c = some q ∧ (q = true → c.f_Turns.length ≤ 30 ∨ 200 < c.f_Turns.length) := by
  unfold g_w05_Case_Short
  obtain ⟨q, hq⟩ := shortN (n := c.f_N) hN
  rw [hq, Option.bind_some]
  cases hc : cond (cond (cond (!q) true (decide (((c.f_W.f_Litres.length : Nat) : Int) > 20))) true (decide (((c.f_W.f_Open.length : Nat) : Int) > 20))) true (cond (decide (((c.f_Turns.length : Nat) : Int) > 30)) (decide (((c.f_Turns.length : Nat) : Int) ≤ 200)) false) with
  | true => exact ⟨false, rfl, fun h => (by cases h)⟩
  | false =>
    have hl : c.f_Turns.length ≤ 30 ∨ 200 < c.f_Turns.length := by
      cases h1 : decide (((c.f_Turns.length : Nat) : Int) > 30) with
      | false => simp at h1; omega
      | true =>
        cases h2 : decide (((c.f_Turns.length : Nat) : Int) ≤ 200) with
        | false => simp at h2; omega
        | true =>
          rw [h1, h2] at hc
          generalize cond (cond (!q) true (decide (((c.f_W.f_Litres.length : Nat) : Int) > 20))) true (decide (((c.f_W.f_Open.length : Nat) : Int) > 20)) = z at hc
          cases z <;> cases hc
    refine ⟨_, loop_scan0 (L := fun fuel => g_w05_Case_Short_L1 N c fuel) (fun i => cond (decide (((((c.f_Turns.getD i Tapi_Turn.d).f_Link).size : Nat) : Int) > 40)) (some false) none) true hT (fun fuel i hi => ?_) (fun fuel => ?_), fun _ => hl⟩
    · simp only [g_w05_Case_Short_L1, dec_lt hi, cond_true, if_pos (inb hi), toNat_nat, w64_succ (show i < 9223372036854775807 by omega)]
      cases decide (((((c.f_Turns.getD i Tapi_Turn.d).f_Link).size : Nat) : Int) > 40) <;> rfl
    · simp only [g_w05_Case_Short_L1, dec_nlt, cond_false]
end Go.Den

namespace Go.Den
open Go.Ab

theorem sum_set (l : List Int) : ∀ (i : Nat) (x : Int), i < l.length → (l.set i x).sum = l.sum + x - l.getD i 0 := by
  induction l with
  | nil => intro i x h; simp at h
  | cons a r ih =>
    intro i x h
    cases i with
    | zero => simp; omega
    | succ i =>
      have := ih i x (by simpa using h)
      simp only [List.set_cons_succ, List.sum_cons, this, List.getD_cons_succ]
      omega
theorem bump_sum {l : List Int} {i : Nat} (hi : i < l.length) {q : Int} (h1 : -9223372036854775808 ≤ l.getD i 0 + q) (h2 : l.getD i 0 + q ≤ 9223372036854775807) : (bump l (i : Int) q).sum = l.sum + q := by
  unfold bump
  rw [decide_eq_true (by omega), cond_true, toNat_nat, sum_set l i _ hi, w64_eq h1 h2]; omega
theorem bump_neg (l : List Int) (q : Int) : bump l (-1) q = l := rfl

/-- What comes out of the sea through a link. -/
def fromSea (l : Tapi_Link) (q : Int) : Int := cond (streq l.f_From ByteArray.empty) q 0 - cond (streq l.f_To ByteArray.empty) q 0

theorem fits_zero {X : Twater_side} (s : SideOk X) : Fits X (-0) ∧ Fits X 0 := ⟨fits0 s, fits0 s⟩
theorem moved_ok {n : Tapi_Network} {w : Tapi_Water} (v : StateOk n w) {l : Tapi_Link} (hne : streq l.f_From l.f_To = false) {F T : Twater_side} (hF : IsSide n w l.f_From F) (hT : IsSide n w l.f_To T) {r : Int} (fF : Fits F (-r)) (fT : Fits T r) :
    StateOk n (movedW n w l.f_From l.f_To r) ∧ (movedW n w l.f_From l.f_To r).f_Litres.sum = w.f_Litres.sum + fromSea l r := by
  have hlen : (movedW n w l.f_From l.f_To r).f_Litres.length = n.f_Basins.length := by
    show (bump (bump w.f_Litres _ _) _ _).length = _
    rw [bump_len, bump_len, v.lit]
  have hxy : ∀ i j : Nat, basinIx n l.f_From = (i : Int) → basinIx n l.f_To = (j : Int) → i ≠ j := by
    intro i j h1 h2 he
    subst he
    rcases ix_inv n l.f_From with ⟨h, _⟩ | ⟨a, a1, a2, a3⟩
    · omega
    · rcases ix_inv n l.f_To with ⟨h, _⟩ | ⟨b, b1, b2, b3⟩
      · omega
      · have : a = b := by omega
        subst this
        rw [streq_iff.2 (a3.symm.trans b3)] at hne; cases hne
  refine ⟨⟨v.net, v.lo, v.hi, hlen, v.opn, fun m hm => ?_⟩, ?_⟩
  · have hml : m < w.f_Litres.length := by rw [v.lit]; exact hm
    have hv := v.vol m hm
    have hc := vol_cap (v.net.valid hm)
    show 0 ≤ (bump (bump w.f_Litres (basinIx n l.f_From) (-r)) (basinIx n l.f_To) r).getD m 0 ∧ (bump (bump w.f_Litres (basinIx n l.f_From) (-r)) (basinIx n l.f_To) r).getD m 0 ≤ vol (bs n m) (bs n m).f_Rim
    by_cases h1 : basinIx n l.f_To = (m : Int)
    · have hf : basinIx n l.f_From ≠ (m : Int) := fun h => hxy m m h h1 rfl
      rw [h1, bump_same (by rw [bump_len]; exact hml), bump_other hf]
      cases hT with
      | sea p e1 _ _ _ _ => rw [e1, ix_empty v.net] at h1; omega
      | bas i e1 e2 e3 e4 e5 e6 =>
        have : i = m := by omega
        subst this
        have := fT _ e5
        rw [← e6, w64_eq (by omega) (by omega)]; omega
    · rw [bump_other h1]
      by_cases h2 : basinIx n l.f_From = (m : Int)
      · rw [h2, bump_same hml]
        cases hF with
        | sea p e1 _ _ _ _ => rw [e1, ix_empty v.net] at h2; omega
        | bas i e1 e2 e3 e4 e5 e6 =>
          have : i = m := by omega
          subst this
          have := fF _ e5
          rw [← e6, w64_eq (by omega) (by omega)]; omega
      · rw [bump_other h2]; exact hv
  · show (bump (bump w.f_Litres (basinIx n l.f_From) (-r)) (basinIx n l.f_To) r).sum = _
    unfold fromSea
    have s1 : (bump w.f_Litres (basinIx n l.f_From) (-r)).sum = w.f_Litres.sum + cond (streq l.f_From ByteArray.empty) r 0 - r := by
      cases hF with
      | sea p e1 _ _ _ _ => rw [e1, ix_empty v.net, bump_neg, streq_iff.2 rfl, cond_true]; omega
      | bas i e1 e2 e3 e4 e5 e6 =>
        have := fF _ e5
        have hc := vol_cap (v.net.valid e2)
        rw [e3, bump_sum (by rw [v.lit]; exact e2) (by rw [← e6]; omega) (by rw [← e6]; omega), e1, cond_false]; omega
    cases hT with
    | sea p e1 _ _ _ _ =>
      have : streq l.f_To ByteArray.empty = true := streq_iff.2 e1
      rw [this, show basinIx n l.f_To = -1 by rw [e1]; exact ix_empty v.net, bump_neg, s1, cond_true]; omega
    | bas i e1 e2 e3 e4 e5 e6 =>
      have := fT _ e5
      have hc := vol_cap (v.net.valid e2)
      have hf : basinIx n l.f_From ≠ (i : Int) := fun h => hxy i i h e3 rfl
      have hi : i < w.f_Litres.length := by rw [v.lit]; exact e2
      rw [e3, bump_sum (by rw [bump_len]; exact hi) (by rw [bump_other hf, ← e6]; omega) (by rw [bump_other hf, ← e6]; omega), s1, e1, cond_false]; omega

/-- What a link does, and the state behind it. -/
theorem link_step {N : Nat} (hN : 2000001 < N) {n : Tapi_Network} {w : Tapi_Water} (v : StateOk n w) {i : Nat} (hi : i < n.f_Links.length) :
    ∃ r, g_water_flow N n w (i : Int) = some r ∧ (w.f_Open.getD i false = false → r = 0) ∧ (w.f_Open.getD i false = true → g_r05_Act N n w (ls n i) = some r) ∧
      StateOk n (movedW n w (ls n i).f_From (ls n i).f_To r) ∧ (movedW n w (ls n i).f_From (ls n i).f_To r).f_Litres.sum = w.f_Litres.sum + fromSea (ls n i) r := by
  obtain ⟨F, T, r, hF, hT, h1, h2, h3⟩ := flow_ok hN v hi
  have k := link_of (v.net.link i hi)
  have fits : Fits F (-r) ∧ Fits T r := by
    cases ho : w.f_Open.getD i false with
    | false =>
      rw [h2 ho]
      exact ⟨fits0 (hF.ok v), fits0 (hT.ok v)⟩
    | true => exact ⟨(h3 ho).2.fitF, (h3 ho).2.fitT⟩
  exact ⟨r, h1, h2, fun ho => (h3 ho).1, moved_ok v k.ne hF hT fits.1 fits.2⟩

/-- What the links from a number on have taken out of the sea. -/
def seaSum (n : Tapi_Network) : Nat → List Int → Int
  | _, [] => 0
  | m, q :: r => fromSea (ls n m) q + seaSum n (m + 1) r
theorem seaSum_app (n : Tapi_Network) : ∀ (l : List Int) (m : Nat) (q : Int), seaSum n m (l ++ [q]) = seaSum n m l + fromSea (ls n (m + l.length)) q
  | [], m, q => by simp [seaSum]
  | x :: l, m, q => by
    simp only [List.cons_append, seaSum, seaSum_app n l (m + 1) q, List.length_cons]
    rw [show m + 1 + l.length = m + (l.length + 1) by omega]; omega

theorem step_L1 {N : Nat} (hN : 2000001 < N) {n : Tapi_Network} (w0 : Tapi_Water) : ∀ k m fuel (w : Tapi_Water) (flows : List Int), m + k = n.f_Links.length → k < fuel → StateOk n w → w0.f_Open = w.f_Open → flows.length = m →
    ∃ l' f', g_water_step_L1 N n w.f_Minute w.f_Open fuel w.f_Litres flows (m : Int) = some (f', ⟨w64 (w.f_Minute + 1), l', w.f_Open⟩, l') ∧
      g_r05_Step_L1 N n w0 fuel w.f_Minute w.f_Litres w.f_Open flows (m : Int) = some (⟨w64 (w.f_Minute + 1), l', w.f_Open⟩, f') ∧
      StateOk n ⟨w.f_Minute, l', w.f_Open⟩ ∧ f'.length = n.f_Links.length ∧ l'.sum = w.f_Litres.sum + seaSum n 0 f' - seaSum n 0 flows
  | 0, m, fuel, w, flows, h, hf, v, ho, hl => by
    obtain ⟨g, rfl⟩ : ∃ g, fuel = g + 1 := ⟨fuel - 1, by omega⟩
    have hm : m = n.f_Links.length := by omega
    subst hm
    refine ⟨w.f_Litres, flows, ?_, ?_, v, hl, by omega⟩
    · simp only [g_water_step_L1, dec_nlt, cond_false]
    · simp only [g_r05_Step_L1, dec_nlt, cond_false]
  | k + 1, m, fuel, w, flows, h, hf, v, ho, hl => by
    obtain ⟨g, rfl⟩ : ∃ g, fuel = g + 1 := ⟨fuel - 1, by omega⟩
    have hm : m < n.f_Links.length := by omega
    have hmo : m < w.f_Open.length := by rw [v.opn]; exact hm
    have hnb := v.net.nb
    have hnl := v.net.nl
    obtain ⟨r, h1, h2, h3, h4, h5⟩ := link_step hN v hm
    obtain ⟨l', f', i1, i2, i3, i4, i5⟩ := step_L1 hN w0 k (m + 1) g (movedW n w (ls n m).f_From (ls n m).f_To r) (flows ++ [r]) (by omega) (by omega) h4 ho (by simp [hl])
    refine ⟨l', f', ?_, ?_, i3, i4, ?_⟩
    · refine Eq.trans ?_ i1
      have hflow : g_water_flow N n (⟨w.f_Minute, w.f_Litres, w.f_Open⟩ : Tapi_Water) (m : Int) = some r := h1
      rw [g_water_step_L1, dec_lt hm, cond_true, if_pos (inb hm), hflow, Option.bind_some, toNat_nat]
      change ((g_water_basinOf N n (ls n m).f_From).bind fun rbasinOf => _) = _
      have j3 : ∀ l : List Int, g_water_step_J3 N n w.f_Minute w.f_Open flows (m : Int) r (g_water_step_L1 N n w.f_Minute w.f_Open g) l = g_water_step_L1 N n w.f_Minute w.f_Open g l (flows ++ [r]) ((m + 1 : Nat) : Int) := by
        intro l
        unfold g_water_step_J3
        rw [if_pos (by omega), w64_succ (by omega)]
      have j2 : ∀ l : List Int, l.length = n.f_Basins.length → g_water_step_J2 N n w.f_Minute w.f_Open flows (m : Int) r (g_water_step_L1 N n w.f_Minute w.f_Open g) l = g_water_step_L1 N n w.f_Minute w.f_Open g (bump l (basinIx n (ls n m).f_To) r) (flows ++ [r]) ((m + 1 : Nat) : Int) := by
        intro l hll
        unfold g_water_step_J2
        rw [toNat_nat]
        change ((g_water_basinOf N n (ls n m).f_To).bind fun rbasinOf2 => _) = _
        rw [basinIx_eq (by omega) (by omega), Option.bind_some]
        unfold bump
        by_cases hx : basinIx n (ls n m).f_To ≥ 0
        · rw [decide_eq_true hx, cond_true, if_pos (by rw [hll]; exact ix_lt n _ hx), j3]; rfl
        · rw [decide_eq_false hx, cond_false, j3]; rfl
      rw [basinIx_eq (by omega) (by omega), Option.bind_some]
      show _ = g_water_step_L1 N n w.f_Minute w.f_Open g (bump (bump w.f_Litres (basinIx n (ls n m).f_From) (-r)) (basinIx n (ls n m).f_To) r) (flows ++ [r]) ((m + 1 : Nat) : Int)
      by_cases hx : basinIx n (ls n m).f_From ≥ 0
      · rw [decide_eq_true hx, cond_true, if_pos (by rw [v.lit]; exact ix_lt n _ hx), j2 _ (by simp [v.lit])]
        have e : bump w.f_Litres (basinIx n (ls n m).f_From) (-r) = w.f_Litres.set (basinIx n (ls n m).f_From).toNat (w64 (w.f_Litres.getD (basinIx n (ls n m).f_From).toNat 0 - r)) := by
          unfold bump
          rw [decide_eq_true hx, cond_true, Int.sub_eq_add_neg]
        rw [e]
      · have e : bump w.f_Litres (basinIx n (ls n m).f_From) (-r) = w.f_Litres := by
          unfold bump
          rw [decide_eq_false hx, cond_false]
        rw [decide_eq_false hx, cond_false, j2 _ v.lit, e]
    · refine Eq.trans ?_ i2
      have j2 : g_r05_Step_J2 N n w0 w.f_Minute w.f_Litres w.f_Open flows (m : Int) (g_r05_Step_L1 N n w0 g) r = g_r05_Step_L1 N n w0 g w.f_Minute (movedW n w (ls n m).f_From (ls n m).f_To r).f_Litres w.f_Open (flows ++ [r]) ((m + 1 : Nat) : Int) := by
        unfold g_r05_Step_J2
        rw [if_pos (inb hm), toNat_nat]
        change ((g_r05_moved N n w (ls n m).f_From (ls n m).f_To r).bind fun rmoved => _) = _
        rw [moved_eq (by omega) v.net v.lit v.opn, Option.bind_some, if_pos (by omega), w64_succ (by omega)]; rfl
      have hm0 : m < w0.f_Open.length := by rw [ho]; exact hmo
      rw [g_r05_Step_L1, dec_lt hm, cond_true, if_pos (inb hm0), toNat_nat, ho]
      cases hop : w.f_Open.getD m false with
      | true =>
        rw [cond_true, if_pos (inb hm)]
        rw [show g_r05_Act N n (⟨w.f_Minute, w.f_Litres, w.f_Open⟩ : Tapi_Water) (n.f_Links.getD m Tapi_Link.d) = some r from h3 hop, Option.bind_some]
        exact j2
      | false =>
        rw [cond_false, ← h2 hop]
        exact j2
    · rw [i5, h5, seaSum_app, hl, Nat.zero_add]; omega
/-- The state behind a minute, and what the links did. -/
theorem step_eq {N : Nat} (hN : 2000001 < N) {n : Tapi_Network} {w : Tapi_Water} (v : StateOk n w) (hm : w.f_Minute < 1000000) : ∃ w' f, g_water_step N n w.f_Minute w.f_Litres w.f_Open = some (f, w', w'.f_Litres) ∧ g_r05_Step N n w = some (w', f) ∧
    StateOk n w' ∧ w'.f_Minute = w.f_Minute + 1 ∧ w'.f_Open = w.f_Open ∧ f.length = n.f_Links.length ∧ w'.f_Litres.sum = w.f_Litres.sum + seaSum n 0 f := by
  have hnl := v.net.nl
  have hnb := v.net.nb
  have hlo := v.lo
  have hlit := v.lit
  have hopn := v.opn
  obtain ⟨l', f', h1, h2, h3, h4, h5⟩ := step_L1 hN w n.f_Links.length 0 N w [] (by omega) (by omega) v rfl rfl
  have e : w64 (w.f_Minute + 1) = w.f_Minute + 1 := w64_eq (by omega) (by omega)
  rw [e] at h1 h2
  refine ⟨⟨w.f_Minute + 1, l', w.f_Open⟩, f', h1, ?_, ⟨h3.net, by show 0 ≤ w.f_Minute + 1; omega, by show w.f_Minute + 1 ≤ 1000000; omega, h3.lit, h3.opn, h3.vol⟩, rfl, rfl, h4, by rw [h5]; simp [seaSum]⟩
  unfold g_r05_Step g_r05_Copy
  rw [if_pos (by omega), if_pos (by omega), Option.bind_some]
  simp only [List.nil_append]
  exact h2
end Go.Den

namespace Go.Den
open Go.Ab

def tn (turns : List Tapi_Turn) (m : Nat) : Tapi_Turn := turns.getD m Tapi_Turn.d
def turnStep (n : Tapi_Network) (turns : List Tapi_Turn) (i : Nat) : Option Int :=
  cond (!ins (tn turns i).f_Minute 0 1000000) (some 2) (cond (decide (0 < i) && decide ((tn turns i).f_Minute < (tn turns (i - 1)).f_Minute)) (some 10) (cond (decide (linkIx n (tn turns i).f_Link < 0)) (some 6) none))
def turnsCode (n : Tapi_Network) (turns : List Tapi_Turn) : Int := cond (decide (((turns.length : Nat) : Int) > 200)) 8 (scan (turnStep n turns) 0 turns.length 0)
theorem turns_prev {turns : List Tapi_Turn} (hl : turns.length ≤ 200) {i : Nat} (hi : i < turns.length) : (decide ((i : Int) > 0) = true → 0 ≤ w64 ((i : Int) - 1) ∧ w64 ((i : Int) - 1) < ((turns.length : Nat) : Int)) ∧
    cond (decide ((i : Int) > 0)) (decide ((turns.getD i Tapi_Turn.d).f_Minute < (turns.getD (w64 ((i : Int) - 1)).toNat Tapi_Turn.d).f_Minute)) false = (decide (0 < i) && decide ((tn turns i).f_Minute < (tn turns (i - 1)).f_Minute)) := by
  cases i with
  | zero => exact ⟨fun h => (by have := of_decide_eq_true h; omega), rfl⟩
  | succ k =>
    have e : w64 (((k + 1 : Nat) : Int) - 1) = (k : Int) := by rw [w64_eq (by omega) (by omega)]; omega
    rw [e, decide_eq_true (show ((k + 1 : Nat) : Int) > 0 by omega), decide_eq_true (show 0 < k + 1 by omega)]
    exact ⟨fun _ => ⟨by omega, by omega⟩, rfl⟩
theorem refTurns_eq {N : Nat} (hN : 400 < N) {n : Tapi_Network} (v : NetOk n) (turns : List Tapi_Turn) : g_r05_CheckTurns N n turns = some (turnsCode n turns) := by
  unfold g_r05_CheckTurns turnsCode
  have hnl := v.nl
  cases h : decide (((turns.length : Nat) : Int) > 200) with
  | true => rfl
  | false =>
    have hl : turns.length ≤ 200 := by simp at h; omega
    rw [cond_false, cond_false]
    refine loop_scan0 (L := fun fuel => g_r05_CheckTurns_L1 N n turns fuel) _ _ (by omega) (fun fuel i hi => ?_) (fun fuel => ?_)
    · obtain ⟨p1, p2⟩ := turns_prev hl hi
      simp only [g_r05_CheckTurns_L1, dec_lt hi, cond_true, if_pos (inb hi), if_pos (fun _ => inb hi), toNat_nat, inside_eq, Option.bind_some, if_pos p1, p2, refLinkIx_eq (show n.f_Links.length < N by omega) (show n.f_Links.length < 1000 by omega), w64_succ (show i < 9223372036854775807 by omega)]
      unfold turnStep
      change cond (!ins (tn turns i).f_Minute 0 1000000) _ (cond _ _ (cond (decide (linkIx n (tn turns i).f_Link < 0)) _ _)) = _
      cases ins (tn turns i).f_Minute 0 1000000 <;> cases (decide (0 < i) && decide ((tn turns i).f_Minute < (tn turns (i - 1)).f_Minute)) <;> cases decide (linkIx n (tn turns i).f_Link < 0) <;> rfl
    · simp only [g_r05_CheckTurns_L1, dec_nlt, cond_false]
def startCode (n : Tapi_Network) (w : Tapi_Water) (turns : List Tapi_Turn) : Int := cond (stateCode n w != 0) (stateCode n w) (turnsCode n turns)
theorem checkTurns_eq {N : Nat} (hN : 400 < N) (n : Tapi_Network) (w : Tapi_Water) (turns : List Tapi_Turn) : g_water_checkTurns N n w turns = some (startCode n w turns) := by
  unfold g_water_checkTurns startCode turnsCode
  rw [checkState_eq hN, Option.bind_some]
  cases hs : stateCode n w != 0 with
  | true => rfl
  | false =>
    have v := (state_of (n := n) (w := w) (by simpa using hs)).net
    have hnl := v.nl
    cases h : decide (((turns.length : Nat) : Int) > 200) with
    | true => rfl
    | false =>
      have hl : turns.length ≤ 200 := by simp at h; omega
      simp only [cond_false]
      refine loop_scan0 (L := fun fuel => g_water_checkTurns_L1 N n turns fuel) _ _ (by omega) (fun fuel i hi => ?_) (fun fuel => ?_)
      · obtain ⟨p1, p2⟩ := turns_prev hl hi
        simp only [g_water_checkTurns_L1, dec_lt hi, cond_true, if_pos (inb hi), if_pos (fun _ => inb hi), toNat_nat, between_eq, Option.bind_some, if_pos p1, p2, linkIx_eq (show n.f_Links.length < N by omega) (show n.f_Links.length < 1000 by omega), w64_succ (show i < 9223372036854775807 by omega)]
        unfold turnStep
        change cond (!ins (tn turns i).f_Minute 0 1000000) _ (cond _ _ (cond (decide (linkIx n (tn turns i).f_Link < 0)) _ _)) = _
        cases ins (tn turns i).f_Minute 0 1000000 <;> cases (decide (0 < i) && decide ((tn turns i).f_Minute < (tn turns (i - 1)).f_Minute)) <;> cases decide (linkIx n (tn turns i).f_Link < 0) <;> rfl
      · simp only [g_water_checkTurns_L1, dec_nlt, cond_false]
theorem started_eq {N : Nat} (hN : 400 < N) (n : Tapi_Network) (w : Tapi_Water) (turns : List Tapi_Turn) : g_r05_Started N n w turns = some (startCode n w turns) := by
  unfold g_r05_Started startCode
  rw [refNet_eq hN, Option.bind_some, stateCode_eq]
  cases h : netCode n != 0 with
  | true => simp only [cond_true, h]
  | false =>
    have v := net_of (n := n) (by simpa using h)
    rw [cond_false, cond_false, refWater_eq hN v, Option.bind_some, refTurns_eq hN v]
    cases waterCode n w != 0 <;> rfl

/-- The turns are what the document allows. -/
structure TurnsOk (n : Tapi_Network) (turns : List Tapi_Turn) : Prop where
  len : turns.length ≤ 200
  link : ∀ i, i < turns.length → 0 ≤ linkIx n (tn turns i).f_Link
theorem turns_of {n : Tapi_Network} {turns : List Tapi_Turn} (h : turnsCode n turns = 0) : TurnsOk n turns := by
  unfold turnsCode at h
  cases hd : decide (((turns.length : Nat) : Int) > 200) with
  | true => rw [hd] at h; cases h
  | false =>
    rw [hd, cond_false] at h
    refine ⟨by simp at hd; omega, fun i hi => ?_⟩
    rcases scan_inv (f := turnStep n turns) (z := 0) turns.length 0 with ⟨j, r, _, _, h3, _, h5⟩ | ⟨h1, _⟩
    · rw [h] at h5; subst h5
      unfold turnStep at h3
      generalize ins (tn turns j).f_Minute 0 1000000 = a at h3
      generalize (decide (0 < j) && decide ((tn turns j).f_Minute < (tn turns (j - 1)).f_Minute)) = b at h3
      generalize decide (linkIx n (tn turns j).f_Link < 0) = c at h3
      cases a <;> cases b <;> cases c <;> simp at h3
    · have := h1 i (Nat.zero_le _) (by omega)
      unfold turnStep at this
      generalize ins (tn turns i).f_Minute 0 1000000 = a at this
      generalize (decide (0 < i) && decide ((tn turns i).f_Minute < (tn turns (i - 1)).f_Minute)) = b at this
      cases hc : decide (linkIx n (tn turns i).f_Link < 0) with
      | true => rw [hc] at this; cases a <;> cases b <;> simp at this
      | false => have := of_decide_eq_false hc; omega
theorem start_of {n : Tapi_Network} {w : Tapi_Water} {turns : List Tapi_Turn} (h : startCode n w turns = 0) : stateCode n w = 0 ∧ TurnsOk n turns := by
  unfold startCode at h
  cases hs : stateCode n w != 0 with
  | true => rw [hs, cond_true] at h; rw [h] at hs; cases hs
  | false =>
    rw [hs, cond_false] at h
    exact ⟨by simpa using hs, turns_of h⟩

/-- What the turns of a minute open and shut. -/
def turnOpen (n : Tapi_Network) (t : Tapi_Turn) (minute : Int) (o : List Bool) : List Bool := cond (t.f_Minute == minute) (o.set (linkIx n t.f_Link).toNat t.f_Open) o
def openAt (n : Tapi_Network) (turns : List Tapi_Turn) (minute : Int) : Nat → Nat → List Bool → List Bool
  | 0, _, o => o
  | k + 1, m, o => openAt n turns minute k (m + 1) (turnOpen n (tn turns m) minute o)
theorem turnOpen_len (n : Tapi_Network) (t : Tapi_Turn) (minute : Int) (o : List Bool) : (turnOpen n t minute o).length = o.length := by
  unfold turnOpen
  cases t.f_Minute == minute <;> simp
theorem openAt_len (n : Tapi_Network) (turns : List Tapi_Turn) (minute : Int) : ∀ k m o, (openAt n turns minute k m o).length = o.length
  | 0, _, _ => rfl
  | k + 1, m, o => by rw [openAt, openAt_len n turns minute k, turnOpen_len]
def opened (n : Tapi_Network) (turns : List Tapi_Turn) (w : Tapi_Water) : Tapi_Water := ⟨w.f_Minute, w.f_Litres, openAt n turns w.f_Minute turns.length 0 w.f_Open⟩
theorem opened_ok {n : Tapi_Network} {turns : List Tapi_Turn} {w : Tapi_Water} (v : StateOk n w) : StateOk n (opened n turns w) := ⟨v.net, v.lo, v.hi, v.lit, by show (openAt n turns w.f_Minute turns.length 0 w.f_Open).length = _; rw [openAt_len, v.opn], v.vol⟩
theorem lk {n : Tapi_Network} {s : ByteArray} {o : List Bool} (h : 0 ≤ linkIx n s) (ho : o.length = n.f_Links.length) : 0 ≤ linkIx n s ∧ linkIx n s < ((o.length : Nat) : Int) := by
  rcases linkIx_inv n s with h1 | ⟨i, h1, h2⟩
  · omega
  · omega

theorem run_L2 {N : Nat} (hN : 400 < N) {n : Tapi_Network} (v : NetOk n) {turns : List Tapi_Turn} (t : TurnsOk n turns) (minutes a : Int) (l : List Int) (x : Int) (K : Int → List Int → List Bool → Int → Option (Tapi_Water × List Int × List Bool)) :
    ∀ k m fuel (o : List Bool), m + k = turns.length → k < fuel → o.length = n.f_Links.length → g_water_run_L2 N n turns minutes a l x K fuel o (m : Int) =
      (g_water_step N n a l (openAt n turns a k m o)).bind fun rstep => if rstep.2.2.length = l.length then K rstep.2.1.f_Minute rstep.2.2 (openAt n turns a k m o) (w64 (x + 1)) else none
  | 0, m, fuel, o, h, hf, ho => by
    obtain ⟨g, rfl⟩ : ∃ g, fuel = g + 1 := ⟨fuel - 1, by omega⟩
    have hm : m = turns.length := by omega
    subst hm
    simp only [g_water_run_L2, dec_nlt, cond_false, openAt]
  | k + 1, m, fuel, o, h, hf, ho => by
    obtain ⟨g, rfl⟩ : ∃ g, fuel = g + 1 := ⟨fuel - 1, by omega⟩
    have hm : m < turns.length := by omega
    have hnl := v.nl
    have htl := t.len
    have ih := run_L2 hN v t minutes a l x K k (m + 1) g (turnOpen n (tn turns m) a o) (by omega) (by omega) (by rw [turnOpen_len]; exact ho)
    rw [openAt, ← ih]
    rw [g_water_run_L2]
    simp only [dec_lt hm, cond_true, if_pos (inb hm), toNat_nat, linkIx_eq (show n.f_Links.length < N by omega) (show n.f_Links.length < 1000 by omega), Option.bind_some, g_water_run_J3, w64_succ (show m < 9223372036854775807 by omega)]
    unfold turnOpen
    change cond ((tn turns m).f_Minute == a) (if 0 ≤ linkIx n (tn turns m).f_Link ∧ linkIx n (tn turns m).f_Link < ((o.length : Nat) : Int) then _ else none) _ = _
    rw [if_pos (lk (t.link m hm) ho)]
    cases (tn turns m).f_Minute == a <;> rfl
theorem refRun_L2 {N : Nat} (hN : 400 < N) {n : Tapi_Network} (v : NetOk n) {turns : List Tapi_Turn} (t : TurnsOk n turns) (minutes a : Int) (l : List Int) (x : Int) (K : Int → List Int → List Bool → Int → Option Tapi_Water) :
    ∀ k m fuel (o : List Bool), m + k = turns.length → k < fuel → o.length = n.f_Links.length → g_r05_Run_L2 N n turns minutes a l x K fuel o (m : Int) =
      (g_r05_Step N n ⟨a, l, openAt n turns a k m o⟩).bind fun r => K r.1.f_Minute r.1.f_Litres r.1.f_Open (w64 (x + 1))
  | 0, m, fuel, o, h, hf, ho => by
    obtain ⟨g, rfl⟩ : ∃ g, fuel = g + 1 := ⟨fuel - 1, by omega⟩
    have hm : m = turns.length := by omega
    subst hm
    simp only [g_r05_Run_L2, dec_nlt, cond_false, openAt]
  | k + 1, m, fuel, o, h, hf, ho => by
    obtain ⟨g, rfl⟩ : ∃ g, fuel = g + 1 := ⟨fuel - 1, by omega⟩
    have hm : m < turns.length := by omega
    have hnl := v.nl
    have htl := t.len
    have ih := refRun_L2 hN v t minutes a l x K k (m + 1) g (turnOpen n (tn turns m) a o) (by omega) (by omega) (by rw [turnOpen_len]; exact ho)
    rw [openAt, ← ih]
    rw [g_r05_Run_L2]
    simp only [dec_lt hm, cond_true, if_pos (inb hm), toNat_nat, refLinkIx_eq (show n.f_Links.length < N by omega) (show n.f_Links.length < 1000 by omega), Option.bind_some, g_r05_Run_J3, w64_succ (show m < 9223372036854775807 by omega)]
    unfold turnOpen
    change cond ((tn turns m).f_Minute == a) (if 0 ≤ linkIx n (tn turns m).f_Link ∧ linkIx n (tn turns m).f_Link < ((o.length : Nat) : Int) then _ else none) _ = _
    rw [if_pos (lk (t.link m hm) ho)]
    cases (tn turns m).f_Minute == a <;> rfl

/-- The state behind so many minutes. -/
def iterW (N : Nat) (n : Tapi_Network) (turns : List Tapi_Turn) : Nat → Tapi_Water → Option Tapi_Water
  | 0, w => some w
  | k + 1, w => (g_r05_Step N n (opened n turns w)).bind fun r => iterW N n turns k r.1
theorem iter_add (N : Nat) (n : Tapi_Network) (turns : List Tapi_Turn) : ∀ a b w, iterW N n turns (a + b) w = (iterW N n turns a w).bind (iterW N n turns b)
  | 0, b, w => by rw [Nat.zero_add]; rfl
  | a + 1, b, w => by
    rw [show a + 1 + b = (a + b) + 1 by omega, iterW, iterW]
    cases g_r05_Step N n (opened n turns w) with
    | none => rfl
    | some r => exact iter_add N n turns a b r.1
theorem run_L1 {N : Nat} (hN : 2000001 < N) {n : Tapi_Network} {turns : List Tapi_Turn} (t : TurnsOk n turns) {M : Nat} (hM : M < 1000000000) : ∀ k m fuel (w : Tapi_Water), m + k = M → k < fuel → StateOk n w → w.f_Minute + k ≤ 1000000 →
    ∃ w', iterW N n turns k w = some w' ∧ g_water_run_L1 N n turns (M : Int) fuel w.f_Minute w.f_Litres w.f_Open (m : Int) = some (w', w'.f_Litres, w'.f_Open) ∧
      g_r05_Run_L1 N n turns (M : Int) fuel w.f_Minute w.f_Litres w.f_Open (m : Int) = some w' ∧ StateOk n w' ∧ w'.f_Minute = w.f_Minute + k
  | 0, m, fuel, w, h, hf, v, hw => by
    obtain ⟨g, rfl⟩ : ∃ g, fuel = g + 1 := ⟨fuel - 1, by omega⟩
    have hm : m = M := by omega
    subst hm
    refine ⟨w, rfl, ?_, ?_, v, by omega⟩
    · simp only [g_water_run_L1, dec_nlt, cond_false]
    · simp only [g_r05_Run_L1, dec_nlt, cond_false]
  | k + 1, m, fuel, w, h, hf, v, hw => by
    obtain ⟨g, rfl⟩ : ∃ g, fuel = g + 1 := ⟨fuel - 1, by omega⟩
    have hm : m < M := by omega
    have htl := t.len
    obtain ⟨w1, f, s1, s2, s3, s4, s5, _⟩ := step_eq hN (opened_ok (turns := turns) v) (show w.f_Minute < 1000000 by omega)
    have s4 : w1.f_Minute = w.f_Minute + 1 := s4
    obtain ⟨w', i1, i2, i3, i4, i5⟩ := run_L1 hN t hM k (m + 1) g w1 (by omega) (by omega) s3 (by omega)
    have hlen : w1.f_Litres.length = w.f_Litres.length := by rw [s3.lit, v.lit]
    have hw64 : w64 ((m : Int) + 1) = ((m + 1 : Nat) : Int) := w64_succ (by omega)
    have r1 := run_L2 (N := N) (by omega) v.net t (M : Int) w.f_Minute w.f_Litres (m : Int) (g_water_run_L1 N n turns (M : Int) g) turns.length 0 N w.f_Open (by omega) (by omega) v.opn
    have r2 := refRun_L2 (N := N) (by omega) v.net t (M : Int) w.f_Minute w.f_Litres (m : Int) (g_r05_Run_L1 N n turns (M : Int) g) turns.length 0 N w.f_Open (by omega) (by omega) v.opn
    have s1 : g_water_step N n w.f_Minute w.f_Litres (openAt n turns w.f_Minute turns.length 0 w.f_Open) = some (f, w1, w1.f_Litres) := s1
    have s2' : g_r05_Step N n ⟨w.f_Minute, w.f_Litres, openAt n turns w.f_Minute turns.length 0 w.f_Open⟩ = some (w1, f) := s2
    refine ⟨w', ?_, ?_, ?_, i4, by rw [i5, s4]; omega⟩
    · rw [iterW, s2]; exact i1
    · rw [g_water_run_L1, dec_lt hm, cond_true]
      refine Eq.trans r1 ?_
      rw [s1, Option.bind_some, if_pos hlen, hw64]
      have s5 : w1.f_Open = openAt n turns w.f_Minute turns.length 0 w.f_Open := s5
      rw [← s5]; exact i2
    · rw [g_r05_Run_L1, dec_lt hm, cond_true]
      refine Eq.trans r2 ?_
      rw [s2', Option.bind_some, hw64]; exact i3
theorem clone_eq {N : Nat} {w : Tapi_Water} (h1 : w.f_Litres.length ≤ 1000) (h2 : w.f_Open.length ≤ 1000) : g_water_clone N w = some w := by
  unfold g_water_clone g_slices_Clone_int_int g_slices_Clone_bool_bool
  rw [if_pos (by omega), if_pos (by omega)]; rfl
theorem copy_eq {N : Nat} {w : Tapi_Water} (h1 : w.f_Litres.length ≤ 1000) (h2 : w.f_Open.length ≤ 1000) : g_r05_Copy N w = some w := by
  unfold g_r05_Copy
  rw [if_pos (by omega), if_pos (by omega)]; rfl
/-- A run from a right state. -/
theorem run_eq {N : Nat} (hN : 2000001 < N) {n : Tapi_Network} {turns : List Tapi_Turn} (t : TurnsOk n turns) {w : Tapi_Water} (v : StateOk n w) {M : Nat} (hM : w.f_Minute + M ≤ 1000000) :
    ∃ w', iterW N n turns M w = some w' ∧ g_water_run N n turns (M : Int) w.f_Minute w.f_Litres w.f_Open = some (w', w'.f_Litres, w'.f_Open) ∧ g_r05_Run N n w turns (M : Int) = some w' ∧ StateOk n w' ∧ w'.f_Minute = w.f_Minute + M := by
  have hlo := v.lo
  have hnb := v.net.nb
  have hnl := v.net.nl
  obtain ⟨w', h1, h2, h3, h4, h5⟩ := run_L1 hN t (M := M) (by omega) M 0 N w (by omega) (by omega) v hM
  refine ⟨w', h1, h2, ?_, h4, h5⟩
  unfold g_r05_Run
  rw [copy_eq (by rw [v.lit]; omega) (by rw [v.opn]; omega), Option.bind_some]
  exact h3
def runCode (n : Tapi_Network) (w : Tapi_Water) (turns : List Tapi_Turn) (minutes : Int) : Int :=
  cond (startCode n w turns != 0) (startCode n w turns) (cond (cond (!ins minutes 0 10000) true (decide (w64 (w.f_Minute + minutes) > 1000000))) 2 0)
theorem Run_eq {N : Nat} (hN : 2000001 < N) (n : Tapi_Network) (w : Tapi_Water) (turns : List Tapi_Turn) (minutes : Int) :
    (runCode n w turns minutes ≠ 0 ∧ g_water_Run N n w turns minutes = some (zeroW, runCode n w turns minutes)) ∨
    (runCode n w turns minutes = 0 ∧ StateOk n w ∧ TurnsOk n turns ∧ ∃ M : Nat, minutes = (M : Int) ∧ M ≤ 10000 ∧ w.f_Minute + M ≤ 1000000 ∧ ∃ w', iterW N n turns M w = some w' ∧ g_water_Run N n w turns minutes = some (w', 0) ∧
      g_r05_Run N n w turns minutes = some w' ∧ StateOk n w' ∧ w'.f_Minute = w.f_Minute + M) := by
  unfold g_water_Run
  rw [checkTurns_eq (by omega), Option.bind_some]
  by_cases h0 : startCode n w turns = 0
  · obtain ⟨hs, t⟩ := start_of h0
    have v := state_of hs
    have hlo := v.lo
    have hhi := v.hi
    have hnb := v.net.nb
    have hnl := v.net.nl
    have hrc : runCode n w turns minutes = cond (cond (!ins minutes 0 10000) true (decide (w64 (w.f_Minute + minutes) > 1000000))) 2 0 := by unfold runCode; rw [h0]; rfl
    rw [h0, hrc]
    simp only [bne_self_eq_false, cond_false, between_eq, Option.bind_some]
    cases hc : cond (!ins minutes 0 10000) true (decide (w64 (w.f_Minute + minutes) > 1000000)) with
    | true => exact .inl ⟨by simp, rfl⟩
    | false =>
      right
      cases hi : ins minutes 0 10000 with
      | false => rw [hi] at hc; cases hc
      | true =>
        rw [hi, Bool.not_true, cond_false] at hc
        obtain ⟨i1, i2⟩ := ins_iff.1 hi
        have hc := of_decide_eq_false hc
        rw [w64_eq (by omega) (by omega)] at hc
        obtain ⟨M, rfl⟩ : ∃ M : Nat, minutes = (M : Int) := ⟨minutes.toNat, by omega⟩
        obtain ⟨w', h1, h2, h3, h4, h5⟩ := run_eq hN t v (M := M) (by omega)
        refine ⟨rfl, v, t, M, rfl, by omega, by omega, w', h1, ?_, h3, h4, h5⟩
        rw [cond_false, clone_eq (by rw [v.lit]; omega) (by rw [v.opn]; omega), Option.bind_some, h2, Option.bind_some, if_pos (by rw [h4.lit, v.lit]), if_pos (by rw [h4.opn, v.opn])]
  · left
    have hb : (startCode n w turns != 0) = true := by simpa using h0
    have hrc : runCode n w turns minutes = startCode n w turns := by unfold runCode; rw [hb]; rfl
    rw [hrc, hb]
    exact ⟨h0, rfl⟩
end Go.Den

namespace Go.Den
open Go.Ab

theorem same_ok {N : Nat} (hN : 400 < N) {n : Tapi_Network} {w : Tapi_Water} (v : StateOk n w) : g_w05_SameWater N w w = some true := by
  have hnb := v.net.nb
  have hnl := v.net.nl
  exact same_self (by rw [v.lit]; omega) (by rw [v.opn]; omega) (by rw [v.lit]; omega) (by rw [v.opn]; omega)

end Go.Den

namespace Go.Den
open Go.Ab

def stepCode (n : Tapi_Network) (w : Tapi_Water) : Int := cond (stateCode n w != 0) (stateCode n w) (cond (w.f_Minute == 1000000) 2 0)
theorem Step_eq {N : Nat} (hN : 2000001 < N) (n : Tapi_Network) (w : Tapi_Water) : (stepCode n w ≠ 0 ∧ g_water_Step N n w = some (zeroW, [], stepCode n w)) ∨
    (stepCode n w = 0 ∧ StateOk n w ∧ w.f_Minute < 1000000 ∧ ∃ w' f, g_water_Step N n w = some (w', f, 0) ∧ g_r05_Step N n w = some (w', f) ∧ StateOk n w' ∧ w'.f_Minute = w.f_Minute + 1 ∧ w'.f_Open = w.f_Open ∧ f.length = n.f_Links.length ∧ w'.f_Litres.sum = w.f_Litres.sum + seaSum n 0 f) := by
  unfold g_water_Step stepCode
  rw [checkState_eq (by omega), Option.bind_some]
  by_cases h0 : stateCode n w = 0
  · have v := state_of h0
    have hhi := v.hi
    have hnb := v.net.nb
    have hnl := v.net.nl
    rw [h0]
    simp only [bne_self_eq_false, cond_false]
    cases hm : w.f_Minute == 1000000 with
    | true => exact .inl ⟨by simp, rfl⟩
    | false =>
      right
      have hm : w.f_Minute ≠ 1000000 := by simpa using hm
      obtain ⟨w', f, h1, h2, h3, h4, h5, h6, h7⟩ := step_eq hN v (by omega)
      refine ⟨rfl, v, by omega, w', f, ?_, h2, h3, h4, h5, h6, h7⟩
      rw [cond_false, clone_eq (by rw [v.lit]; omega) (by rw [v.opn]; omega), Option.bind_some, h1, Option.bind_some, if_pos (by rw [h3.lit, v.lit]), ← h5]
  · left
    have hb : (stateCode n w != 0) = true := by simpa using h0
    rw [hb]
    exact ⟨h0, rfl⟩
end Go.Den

namespace Go.Den
open Go.Ab

theorem w64_add (a b : Int) : w64 (w64 a + b) = w64 (a + b) := by simp only [w64_def]; split <;> split <;> split <;> omega
theorem w64_sub (a b : Int) : w64 (w64 a - b) = w64 (a - b) := by simp only [w64_def]; split <;> split <;> split <;> omega
theorem net_parts {n : Tapi_Network} (h : netCode n = 0) : n.f_Basins.length ≤ 8 ∧ scan (bCode n) 0 n.f_Basins.length 0 = 0 ∧ seaCode n.f_Sea = 0 := by
  unfold netCode at h
  cases hb : decide (((n.f_Basins.length : Nat) : Int) > 8) with
  | true => rw [hb] at h; cases h
  | false =>
    rw [hb, cond_false, scan_rest (f := bCode n) (fun m r h => named_nz h)] at h
    have hb : n.f_Basins.length ≤ 8 := by simp at hb; omega
    cases hs : (scan (bCode n) 0 n.f_Basins.length 0 != 0) with
    | true => rw [hs, cond_true] at h; rw [h] at hs; cases hs
    | false =>
      rw [hs, cond_false] at h
      have hs : scan (bCode n) 0 n.f_Basins.length 0 = 0 := by simpa using hs
      cases hsea : (seaCode n.f_Sea != 0) with
      | true => rw [hsea, cond_true] at h; rw [h] at hsea; cases hsea
      | false => exact ⟨hb, hs, by simpa using hsea⟩
/-- The network with one link alone. -/
def oneN (n : Tapi_Network) (i : Nat) : Tapi_Network := ⟨n.f_Basins, n.f_Sea, [ls n i]⟩
theorem one_code {n : Tapi_Network} (h : netCode n = 0) {i : Nat} (hi : i < n.f_Links.length) : netCode (oneN n i) = 0 := by
  have v := net_of h
  obtain ⟨h1, h2, h3⟩ := net_parts h
  have e1 : scan (bCode (oneN n i)) 0 (oneN n i).f_Basins.length 0 = 0 := h2
  have e2 : linksCode (oneN n i) = 0 := by
    unfold linksCode
    have : scan (lCode (oneN n i)) 0 (oneN n i).f_Links.length 0 = 0 := by
      refine scan_all _ _ fun j h1 h2 => ?_
      have hj : j = 0 := by have : (oneN n i).f_Links.length = 1 := rfl; omega
      subst hj
      unfold lCode namedStep
      dsimp only
      have a : nameOk (ls (oneN n i) 0).f_Name = true := v.lnm i hi
      have b : linkCode (oneN n i) (ls (oneN n i) 0) = 0 := v.link i hi
      rw [a, b]; rfl
    rw [this]; rfl
  unfold netCode
  rw [scan_rest (f := bCode (oneN n i)) (fun m r h => named_nz h) _, e1, e2]
  rw [show seaCode (oneN n i).f_Sea = 0 from h3]
  rw [decide_eq_false (show ¬ (((oneN n i).f_Basins.length : Nat) : Int) > 8 by show ¬ ((n.f_Basins.length : Nat) : Int) > 8; omega)]; rfl
def oneW (w : Tapi_Water) : Tapi_Water := ⟨w.f_Minute, w.f_Litres, [true]⟩
theorem one_state {n : Tapi_Network} {w : Tapi_Water} (h : netCode n = 0) (v : StateOk n w) {i : Nat} (hi : i < n.f_Links.length) : stateCode (oneN n i) (oneW w) = 0 := by
  unfold stateCode
  rw [one_code h hi]
  have e1 : ins (oneW w).f_Minute 0 1000000 = true := ins_iff.2 ⟨v.lo, v.hi⟩
  have e2 : (((oneW w).f_Litres.length : Nat) : Int) = (((oneN n i).f_Basins.length : Nat) : Int) := by
    show ((w.f_Litres.length : Nat) : Int) = ((n.f_Basins.length : Nat) : Int)
    rw [v.lit]
  have e3 : (((oneW w).f_Open.length : Nat) : Int) = (((oneN n i).f_Links.length : Nat) : Int) := rfl
  have e4 : scan (litresStep (oneN n i) (oneW w)) 0 (oneN n i).f_Basins.length 0 = 0 := by
    refine scan_all _ _ fun j h1 h2 => ?_
    have hj : j < n.f_Basins.length := by have : (oneN n i).f_Basins.length = n.f_Basins.length := rfl; omega
    have := v.vol j hj
    unfold litresStep
    rw [show ins ((oneW w).f_Litres.getD j 0) 0 (vol (bs (oneN n i) j) (bs (oneN n i) j).f_Rim) = true from ins_iff.2 this]; rfl
  rw [e1, e2, e3, e4]
  simp only [bne_self_eq_false, cond_false, Bool.not_true]
theorem code_of_state {n : Tapi_Network} {w : Tapi_Water} (h : stateCode n w = 0) : netCode n = 0 := by
  unfold stateCode at h
  cases hn : netCode n != 0 with
  | true => rw [hn, cond_true] at h; rw [h] at hn; cases hn
  | false => simpa using hn

section
variable {N : Nat}
theorem side_height (hN : 2000001 < N) {n : Tapi_Network} {w : Tapi_Water} (v : StateOk n w) {s : ByteArray} (hs : sideOk n s = true) : g_w05_side N n w s = g_r05_height N n w s := by
  unfold g_w05_side
  have hnb := v.net.nb
  cases he : streq s ByteArray.empty with
  | true =>
    unfold g_r05_height
    rw [he]; rfl
  | false =>
    unfold sideOk at hs
    rw [he, cond_false] at hs
    have hs := of_decide_eq_true hs
    rcases ix_inv n s with ⟨h, _⟩ | ⟨i, h1, h2, h3⟩
    · omega
    · obtain ⟨l, e1, e2⟩ := refLevels_eq hN v
      obtain ⟨b1, b2⟩ := v.vol i h1
      have e3 := (e2.2 i h1).unique (v.net.valid h1) (lvl_lev (v.net.valid h1) b1 b2)
      rw [cond_false, e1, Option.bind_some, refBasinIx_eq (by omega) (by omega), Option.bind_some, h2, if_pos (inb (show i < l.length by rw [e2.1]; exact h1)), toNat_nat, e3,
        height_bas hN v.net he h1 h2 (by rw [v.lit]; exact h1) b1 b2]
theorem step_next (hN : 2000001 < N) {n : Tapi_Network} {w : Tapi_Water} (v : StateOk n w) {m : Nat} (hm : m < n.f_Links.length) {r : Int} (h1 : g_water_flow N n w (m : Int) = some r) {flows : List Int} (hl : flows.length = m) (g : Nat) :
    g_water_step_L1 N n w.f_Minute w.f_Open (g + 1) w.f_Litres flows (m : Int) = g_water_step_L1 N n w.f_Minute w.f_Open g (movedW n w (ls n m).f_From (ls n m).f_To r).f_Litres (flows ++ [r]) ((m + 1 : Nat) : Int) := by
  have hnb := v.net.nb
  have hnl := v.net.nl
  have hflow : g_water_flow N n (⟨w.f_Minute, w.f_Litres, w.f_Open⟩ : Tapi_Water) (m : Int) = some r := h1
  rw [g_water_step_L1, dec_lt hm, cond_true, if_pos (inb hm), hflow, Option.bind_some, toNat_nat]
  change ((g_water_basinOf N n (ls n m).f_From).bind fun rbasinOf => _) = _
  have j3 : ∀ l : List Int, g_water_step_J3 N n w.f_Minute w.f_Open flows (m : Int) r (g_water_step_L1 N n w.f_Minute w.f_Open g) l = g_water_step_L1 N n w.f_Minute w.f_Open g l (flows ++ [r]) ((m + 1 : Nat) : Int) := by
    intro l
    unfold g_water_step_J3
    rw [if_pos (by omega), w64_succ (by omega)]
  have j2 : ∀ l : List Int, l.length = n.f_Basins.length → g_water_step_J2 N n w.f_Minute w.f_Open flows (m : Int) r (g_water_step_L1 N n w.f_Minute w.f_Open g) l = g_water_step_L1 N n w.f_Minute w.f_Open g (bump l (basinIx n (ls n m).f_To) r) (flows ++ [r]) ((m + 1 : Nat) : Int) := by
    intro l hll
    unfold g_water_step_J2
    rw [toNat_nat]
    change ((g_water_basinOf N n (ls n m).f_To).bind fun rbasinOf2 => _) = _
    rw [basinIx_eq (by omega) (by omega), Option.bind_some]
    unfold bump
    by_cases hx : basinIx n (ls n m).f_To ≥ 0
    · rw [decide_eq_true hx, cond_true, if_pos (by rw [hll]; exact ix_lt n _ hx), j3]; rfl
    · rw [decide_eq_false hx, cond_false, j3]; rfl
  rw [basinIx_eq (by omega) (by omega), Option.bind_some]
  show _ = g_water_step_L1 N n w.f_Minute w.f_Open g (bump (bump w.f_Litres (basinIx n (ls n m).f_From) (-r)) (basinIx n (ls n m).f_To) r) (flows ++ [r]) ((m + 1 : Nat) : Int)
  by_cases hx : basinIx n (ls n m).f_From ≥ 0
  · rw [decide_eq_true hx, cond_true, if_pos (by rw [v.lit]; exact ix_lt n _ hx), j2 _ (by simp [v.lit])]
    have e : bump w.f_Litres (basinIx n (ls n m).f_From) (-r) = w.f_Litres.set (basinIx n (ls n m).f_From).toNat (w64 (w.f_Litres.getD (basinIx n (ls n m).f_From).toNat 0 - r)) := by
      unfold bump
      rw [decide_eq_true hx, cond_true, Int.sub_eq_add_neg]
    rw [e]
  · have e : bump w.f_Litres (basinIx n (ls n m).f_From) (-r) = w.f_Litres := by
      unfold bump
      rw [decide_eq_false hx, cond_false]
    rw [decide_eq_false hx, cond_false, j2 _ v.lit, e]
/-- A minute of a network with one link that is open. -/
theorem step_one (hN : 2000001 < N) {n : Tapi_Network} {w : Tapi_Water} (hc : stateCode n w = 0) (hm : w.f_Minute < 1000000) (hl : n.f_Links.length = 1) (ho : w.f_Open.getD 0 false = true) :
    ∃ F T r, IsSide n w (ls n 0).f_From F ∧ IsSide n w (ls n 0).f_To T ∧ FlowR (ls n 0) F T r ∧ g_water_Step N n w = some (⟨w.f_Minute + 1, (movedW n w (ls n 0).f_From (ls n 0).f_To r).f_Litres, w.f_Open⟩, [r], 0) := by
  have v := state_of hc
  have hlo := v.lo
  have hnb := v.net.nb
  obtain ⟨F, T, r, hF, hT, h1, h2, h3⟩ := flow_ok hN v (show 0 < n.f_Links.length by omega)
  obtain ⟨h3, h4⟩ := h3 ho
  refine ⟨F, T, r, hF, hT, h4, ?_⟩
  obtain ⟨g, rfl⟩ : ∃ g, N = g + 2 := ⟨N - 2, by omega⟩
  have e1 := step_next hN v (show 0 < n.f_Links.length by omega) h1 (flows := []) rfl (g + 1)
  have e2 : g_water_step_L1 (g + 2) n w.f_Minute w.f_Open (g + 1) (movedW n w (ls n 0).f_From (ls n 0).f_To r).f_Litres ([] ++ [r]) ((0 + 1 : Nat) : Int) = some ([r], ⟨w64 (w.f_Minute + 1), (movedW n w (ls n 0).f_From (ls n 0).f_To r).f_Litres, w.f_Open⟩, (movedW n w (ls n 0).f_From (ls n 0).f_To r).f_Litres) := by
    rw [g_water_step_L1, hl, dec_nlt]; rfl
  have e3 : g_water_step (g + 2) n w.f_Minute w.f_Litres w.f_Open = _ := e1.trans e2
  unfold g_water_Step
  rw [checkState_eq (by omega), hc, Option.bind_some, bne_self_eq_false, cond_false, show (w.f_Minute == 1000000) = false by simpa using (show w.f_Minute ≠ 1000000 by omega), cond_false, clone_eq (by rw [v.lit]; omega) (by rw [v.opn]; omega), Option.bind_some, e3, Option.bind_some]
  have hlen : (movedW n w (ls n 0).f_From (ls n 0).f_To r).f_Litres.length = w.f_Litres.length := by
    show (bump (bump w.f_Litres _ _) _ _).length = _
    rw [bump_len, bump_len]
  rw [if_pos hlen, w64_eq (by omega) (by omega)]
end

section
variable {N : Nat} {c : Tkeelblocklaw05_Case} {w x : Tapi_Water} {f : List Int}
/-- A gate alone never makes the side that it fills higher than the other one. -/
theorem kept_L5 (hN : 2000001 < N) (hc : netCode c.f_N = 0) (v : StateOk c.f_N w) (hm : w.f_Minute < 1000000) (hf : f.length = c.f_N.f_Links.length) :
    g_w05_WaterKept_L5 N c (w, 0) (x, f, 0) N 0 = some true := by
  have hnl := v.net.nl
  refine loop_none (L := fun fuel => g_w05_WaterKept_L5 N c (w, 0) (x, f, 0) fuel) (some true) (show f.length < N by omega) (fun fuel i hi => ?_) (fun fuel => ?_)
  · have hil : i < c.f_N.f_Links.length := by omega
    have hw64 : w64 ((i : Int) + 1) = ((i + 1 : Nat) : Int) := w64_succ (by omega)
    simp only [g_w05_WaterKept_L5, dec_lt hi, cond_true, if_pos (inb hil), toNat_nat, hw64, g_w05_WaterKept_J6]
    change cond ((ls c.f_N i).f_Kind != 0) _ _ = _
    cases hk : (ls c.f_N i).f_Kind != 0 with
    | true => rfl
    | false =>
      have hk : (ls c.f_N i).f_Kind = 0 := by simpa using hk
      rw [cond_false, if_pos (by omega), if_pos (by omega), if_pos (by omega), drop_take_one c.f_N.f_Links i Tapi_Link.d hil]
      have hone : stateCode (oneN c.f_N i) (oneW w) = 0 := one_state hc v hil
      have v1 := state_of hone
      obtain ⟨F, T, r, hF, hT, hr, hs⟩ := step_one hN hone (show (oneW w).f_Minute < 1000000 from hm) rfl rfl
      have k := link_of (v.net.link i hil)
      obtain ⟨vm, _⟩ := moved_ok v1 (l := ls (oneN c.f_N i) 0) k.ne hF hT hr.fitF hr.fitT
      have hs : g_water_Step N (⟨c.f_N.f_Basins, c.f_N.f_Sea, [c.f_N.f_Links.getD i Tapi_Link.d]⟩ : Tapi_Network) (⟨w.f_Minute, w.f_Litres, [true]⟩ : Tapi_Water) = some (⟨w.f_Minute + 1, (movedW (oneN c.f_N i) (oneW w) (ls c.f_N i).f_From (ls c.f_N i).f_To r).f_Litres, [true]⟩, [r], 0) := hs
      rw [hs]
      have e1 : ((((movedW (oneN c.f_N i) (oneW w) (ls c.f_N i).f_From (ls c.f_N i).f_To r).f_Litres.length : Nat) : Int) != ((w.f_Litres.length : Nat) : Int)) = false := by
        have : (movedW (oneN c.f_N i) (oneW w) (ls c.f_N i).f_From (ls c.f_N i).f_To r).f_Litres.length = w.f_Litres.length := by
          show (bump (bump w.f_Litres _ _) _ _).length = _
          rw [bump_len, bump_len]
        rw [this]; exact bne_self_eq_false _
      have sF : g_w05_side N (⟨c.f_N.f_Basins, c.f_N.f_Sea, [c.f_N.f_Links.getD i Tapi_Link.d]⟩ : Tapi_Network) (⟨w.f_Minute, (movedW (oneN c.f_N i) (oneW w) (ls c.f_N i).f_From (ls c.f_N i).f_To r).f_Litres, [true]⟩ : Tapi_Water) (ls c.f_N i).f_From = some (SL F (-r)) :=
        (side_height hN vm k.sfrom).trans (height_from hN v1 k.ne hF hr.fitF)
      have sT : g_w05_side N (⟨c.f_N.f_Basins, c.f_N.f_Sea, [c.f_N.f_Links.getD i Tapi_Link.d]⟩ : Tapi_Network) (⟨w.f_Minute, (movedW (oneN c.f_N i) (oneW w) (ls c.f_N i).f_From (ls c.f_N i).f_To r).f_Litres, [true]⟩ : Tapi_Water) (ls c.f_N i).f_To = some (SL T r) :=
        (side_height hN vm k.sto).trans (height_to hN v1 k.ne hT hr.fitT)
      have sF' : g_w05_side N (⟨c.f_N.f_Basins, c.f_N.f_Sea, [c.f_N.f_Links.getD i Tapi_Link.d]⟩ : Tapi_Network) (⟨w.f_Minute, (movedW (oneN c.f_N i) (oneW w) (ls c.f_N i).f_From (ls c.f_N i).f_To r).f_Litres, [true]⟩ : Tapi_Water) (c.f_N.f_Links.getD i Tapi_Link.d).f_From = some (SL F (-r)) := sF
      have sT' : g_w05_side N (⟨c.f_N.f_Basins, c.f_N.f_Sea, [c.f_N.f_Links.getD i Tapi_Link.d]⟩ : Tapi_Network) (⟨w.f_Minute, (movedW (oneN c.f_N i) (oneW w) (ls c.f_N i).f_From (ls c.f_N i).f_To r).f_Litres, [true]⟩ : Tapi_Water) (c.f_N.f_Links.getD i Tapi_Link.d).f_To = some (SL T r) := sT
      simp only [Option.bind_some, bne_self_eq_false, cond_false, List.length_singleton, e1, sF', sT']
      rw [if_pos (by omega), if_pos (fun _ => by omega)]
      have hg := hr.gate hk
      have hB : cond (cond (decide (r > 0)) (decide (SL F (-r) < SL T r)) false) true (cond (decide (r < 0)) (decide (SL T r < SL F (-r))) false) = false := by
        by_cases h1 : r > 0
        · have : SL F (-r) ≥ SL T r := by
            rcases Int.lt_trichotomy (SL T 0) (SL F 0) with hl | hl | hl
            · rcases hg.1 hl with ⟨_, h⟩ | ⟨_, _, h, _⟩
              · omega
              · exact (h h1).2.2.2.2
            · have := hg.2.2 hl.symm; omega
            · rcases hg.2.1 hl with ⟨_, h⟩ | ⟨_, h, _, _⟩ <;> omega
          rw [decide_eq_true h1, decide_eq_false (show ¬ SL F (-r) < SL T r by omega), decide_eq_false (show ¬ r < 0 by omega)]; rfl
        · by_cases h2 : r < 0
          · have : SL T r ≥ SL F (-r) := by
              rcases Int.lt_trichotomy (SL T 0) (SL F 0) with hl | hl | hl
              · rcases hg.1 hl with ⟨_, h⟩ | ⟨_, h, _, _⟩ <;> omega
              · have := hg.2.2 hl.symm; omega
              · rcases hg.2.1 hl with ⟨_, h⟩ | ⟨_, _, h, _⟩
                · omega
                · have := (h (by omega)).2.2.2.2
                  rw [Int.neg_neg] at this; exact this
            rw [decide_eq_false h1, decide_eq_true h2, decide_eq_false (show ¬ SL T r < SL F (-r) by omega)]; rfl
          · rw [decide_eq_false h1, decide_eq_false h2]; rfl
      rw [show ([r] : List Int).getD 0 0 = r from rfl, hB]; rfl
  · simp only [g_w05_WaterKept_L5, dec_nlt, cond_false]

theorem take_succ_sum (l : List Int) {i : Nat} (hi : i < l.length) : (l.take (i + 1)).sum = (l.take i).sum + l.getD i 0 := by
  rw [List.take_succ_eq_append_getElem hi, List.sum_append]
  simp [List.getD_eq_getElem?_getD, hi]
theorem kept_L4 (hN : 2000001 < N) (hc : netCode c.f_N = 0) (v : StateOk c.f_N w) (vx : StateOk c.f_N x) (hm : w.f_Minute < 1000000) (hf : f.length = c.f_N.f_Links.length) {sea : Int} (hs : sea = w64 (x.f_Litres.sum - w.f_Litres.sum)) :
    ∀ k m fuel (sum : Int), m + k = c.f_N.f_Basins.length → k < fuel → sum = w64 ((x.f_Litres.take m).sum - (w.f_Litres.take m).sum) → g_w05_WaterKept_L4 N c (w, 0) (x, f, 0) sea fuel sum (m : Int) = some true
  | 0, m, fuel, sum, h, hfu, hsum => by
    obtain ⟨g, rfl⟩ : ∃ g, fuel = g + 1 := ⟨fuel - 1, by omega⟩
    have hm' : m = x.f_Litres.length := by rw [vx.lit]; omega
    have hmw : m = w.f_Litres.length := by rw [v.lit]; omega
    have e : sum = sea := by
      rw [hsum, hs]
      rw [show x.f_Litres.take m = x.f_Litres by rw [hm']; exact List.take_length, show w.f_Litres.take m = w.f_Litres by rw [hmw]; exact List.take_length]
    rw [g_w05_WaterKept_L4]
    rw [show decide ((m : Int) < ((x.f_Litres.length : Nat) : Int)) = false by rw [hm']; exact dec_nlt, cond_false, e, bne_self_eq_false, cond_false]
    exact kept_L5 hN hc v hm hf
  | k + 1, m, fuel, sum, h, hfu, hsum => by
    obtain ⟨g, rfl⟩ : ∃ g, fuel = g + 1 := ⟨fuel - 1, by omega⟩
    have hmb : m < c.f_N.f_Basins.length := by omega
    have hmx : m < x.f_Litres.length := by rw [vx.lit]; exact hmb
    have hmw : m < w.f_Litres.length := by rw [v.lit]; exact hmb
    have hnb := v.net.nb
    obtain ⟨b1, b2⟩ := vx.vol m hmb
    rw [g_w05_WaterKept_L4]
    simp only [dec_lt hmx, cond_true, if_pos (inb hmx), if_pos (inb hmw), toNat_nat, w64_succ (show m < 9223372036854775807 by omega)]
    rw [if_pos (fun _ => inb hmx), if_pos (fun _ => inb hmb), decide_eq_false (show ¬ x.f_Litres.getD m 0 < 0 by omega)]
    rw [show g_r05_Capacity N (c.f_N.f_Basins.getD m Tapi_Basin.d) = some (vol (bs c.f_N m) (bs c.f_N m).f_Rim) from capacity_eq (by omega) (v.net.valid hmb)]
    simp only [Bool.not_false, cond_true, Option.bind_some, cond_false]
    rw [decide_eq_false (show ¬ x.f_Litres.getD m 0 > vol (bs c.f_N m) (bs c.f_N m).f_Rim by omega), cond_false]
    refine kept_L4 hN hc v vx hm hf hs k (m + 1) g _ (by omega) (by omega) ?_
    rw [hsum, w64_add, w64_sub, take_succ_sum _ hmx, take_succ_sum _ hmw]
    congr 1; omega
theorem kept_L1 (hN : 2000001 < N) (hc : netCode c.f_N = 0) (v : StateOk c.f_N w) (vx : StateOk c.f_N x) (hm : w.f_Minute < 1000000) (hf : f.length = c.f_N.f_Links.length) (hs : x.f_Litres.sum = w.f_Litres.sum + seaSum c.f_N 0 f) :
    ∀ k m fuel (sea : Int), m + k = c.f_N.f_Links.length → k < fuel → sea = w64 (seaSum c.f_N 0 (f.take m)) → g_w05_WaterKept_L1 N c (w, 0) (x, f, 0) fuel sea (m : Int) = some true
  | 0, m, fuel, sea, h, hfu, hsea => by
    obtain ⟨g, rfl⟩ : ∃ g, fuel = g + 1 := ⟨fuel - 1, by omega⟩
    have hmf : m = f.length := by omega
    have hnb := v.net.nb
    rw [g_w05_WaterKept_L1]
    rw [show decide ((m : Int) < ((f.length : Nat) : Int)) = false by rw [hmf]; exact dec_nlt, cond_false]
    refine kept_L4 hN hc v vx hm hf ?_ c.f_N.f_Basins.length 0 N 0 (by omega) (by omega) (by simp; rfl)
    rw [hsea, hmf, List.take_length, hs]
    congr 1; omega
  | k + 1, m, fuel, sea, h, hfu, hsea => by
    obtain ⟨g, rfl⟩ : ∃ g, fuel = g + 1 := ⟨fuel - 1, by omega⟩
    have hml : m < c.f_N.f_Links.length := by omega
    have hmf : m < f.length := by omega
    have hnl := v.net.nl
    have ih := fun s hs' => kept_L1 hN hc v vx hm hf hs k (m + 1) g s (by omega) (by omega) hs'
    have ht : seaSum c.f_N 0 (f.take (m + 1)) = seaSum c.f_N 0 (f.take m) + fromSea (ls c.f_N m) (f.getD m 0) := by
      rw [List.take_succ_eq_append_getElem hmf, seaSum_app]
      have : (f.take m).length = m := by simp; omega
      rw [this, Nat.zero_add]
      simp [List.getD_eq_getElem?_getD, hmf]
    have hw64 : w64 ((m : Int) + 1) = ((m + 1 : Nat) : Int) := w64_succ (by omega)
    have j2 : ∀ s2 t2 : Int, s2 = w64 t2 → g_w05_WaterKept_J2 N c (w, 0) (x, f, 0) (m : Int) (g_w05_WaterKept_L1 N c (w, 0) (x, f, 0) g) s2 = g_w05_WaterKept_L1 N c (w, 0) (x, f, 0) g (w64 (t2 - cond (streq (ls c.f_N m).f_To ByteArray.empty) (f.getD m 0) 0)) ((m + 1 : Nat) : Int) := by
      intro s2 t2 h2
      unfold g_w05_WaterKept_J2 g_w05_WaterKept_J3
      rw [if_pos (inb hml), toNat_nat, if_pos (inb hmf), hw64]
      change cond (streq (ls c.f_N m).f_To ByteArray.empty) _ _ = _
      cases streq (ls c.f_N m).f_To ByteArray.empty with
      | true => rw [cond_true, cond_true, h2, w64_sub]
      | false => rw [cond_false, cond_false, Int.sub_zero, h2]
    rw [g_w05_WaterKept_L1]
    simp only [dec_lt hmf, cond_true, if_pos (inb hml), if_pos (inb hmf), toNat_nat]
    change cond (streq (ls c.f_N m).f_From ByteArray.empty) _ _ = _
    unfold fromSea at ht
    cases hF : streq (ls c.f_N m).f_From ByteArray.empty with
    | true =>
      rw [hF, cond_true] at ht
      rw [cond_true, j2 _ (seaSum c.f_N 0 (f.take m) + f.getD m 0) (by rw [hsea, w64_add])]
      refine ih _ ?_
      rw [ht]; congr 1; omega
    | false =>
      rw [hF, cond_false] at ht
      rw [cond_false, j2 _ (seaSum c.f_N 0 (f.take m)) hsea]
      refine ih _ ?_
      rw [ht]; congr 1; omega
end

theorem waterKept_plain (c : Tkeelblocklaw05_Case) (more : Int) (hc : Tkeelblocklaw05_Case.wf c) (_ : wI more) : ∃ N, g_w05_WaterKept N c more = some true := by
  refine ⟨2000002 + c.f_Turns.length, ?_⟩
  have hw : c.f_Turns.length ≤ 9223372036854775807 := hc.2.2.1
  have hT : c.f_Turns.length < 2000002 + c.f_Turns.length := by omega
  generalize hN : 2000002 + c.f_Turns.length = N at hT
  have hN : 2000001 < N := by omega
  unfold g_w05_WaterKept
  rw [awake5_eq (by omega)]
  obtain ⟨s, hq, _⟩ := Short_some c (by omega) hT hw
  simp only [Option.bind_some, Bool.not_true, cond_false, hq]
  cases cond (cond (!s) true (decide (more < 0))) true (decide (more > 30)) with
  | true => rfl
  | false =>
    rw [cond_false]
    rcases Run_eq hN c.f_N c.f_W c.f_Turns more with ⟨h0, h1⟩ | ⟨h0, v0, _, M, _, _, _, w, _, h1, _, v, _⟩
    · have hb : (runCode c.f_N c.f_W c.f_Turns more != 0) = true := by simpa using h0
      rw [h1]
      simp only [Option.bind_some, hb, cond_true]
    · have hnet : netCode c.f_N = 0 := by
        have hs : startCode c.f_N c.f_W c.f_Turns = 0 := by
          unfold runCode at h0
          cases hb : (startCode c.f_N c.f_W c.f_Turns != 0) with
          | true => rw [hb, cond_true] at h0; rw [h0] at hb; cases hb
          | false => simpa using hb
        exact code_of_state (start_of hs).1
      have hnl := v.net.nl
      rw [h1]
      simp only [Option.bind_some, bne_self_eq_false, cond_false]
      rw [show (((w.f_Litres.length : Nat) : Int) != ((c.f_N.f_Basins.length : Nat) : Int)) = false by rw [v.lit]; exact bne_self_eq_false _, cond_false]
      rcases Step_eq hN c.f_N w with ⟨k0, k1⟩ | ⟨k0, _, hm, x, f, k1, _, vx, _, _, hf, hsum⟩
      · have hb : (stepCode c.f_N w != 0) = true := by simpa using k0
        rw [k1]
        simp only [Option.bind_some, hb, cond_true]
        have hsc : stateCode c.f_N w = 0 := by
          unfold stateCode
          rw [hnet, ins_iff.2 ⟨v.lo, v.hi⟩, v.lit, v.opn]
          simp only [bne_self_eq_false, cond_false, Bool.not_true]
          refine scan_all _ _ fun j _ hj => ?_
          unfold litresStep
          rw [ins_iff.2 (v.vol j (by omega))]; rfl
        unfold stepCode at k0 ⊢
        rw [hsc] at k0 ⊢
        cases hm : w.f_Minute == 1000000 with
        | true => rfl
        | false => rw [hm] at k0; exact (k0 rfl).elim
      · rw [k1]
        simp only [Option.bind_some, bne_self_eq_false, cond_false]
        rw [show (((x.f_Litres.length : Nat) : Int) != ((c.f_N.f_Basins.length : Nat) : Int)) = false by rw [vx.lit]; exact bne_self_eq_false _, show (((f.length : Nat) : Int) != ((c.f_N.f_Links.length : Nat) : Int)) = false by rw [hf]; exact bne_self_eq_false _]
        exact kept_L1 hN hnet v vx hm hf hsum c.f_N.f_Links.length 0 N 0 (by omega) (by omega) rfl
end Go.Den

namespace Go.Den
open Go.Ab

theorem wet_eq {N : Nat} (hN : 20 < N) : g_keelblocktop_wet N = some true := by
  unfold g_keelblocktop_wet
  rw [Volume_eq hN, show volR (⟨(⟨#[65]⟩ : ByteArray), ([(⟨0, 100⟩ : Tapi_Area)] : List Tapi_Area), 50⟩ : Tapi_Basin) 30 = (3000, 0) by decide +kernel]; rfl
theorem litres_eq {N : Nat} (w : Tapi_Water) (h : w.f_Litres.length < N) (h2 : w.f_Litres.length < 1000) : g_keelblocktop_litres N w = some (w64 w.f_Litres.sum) := by
  have key : ∀ k m fuel (s : Int), m + k = w.f_Litres.length → k < fuel → s = w64 (w.f_Litres.take m).sum → g_keelblocktop_litres_L1 N w fuel s (m : Int) = some (w64 w.f_Litres.sum) := by
    intro k
    induction k with
    | zero =>
      intro m fuel s h3 hf hs
      obtain ⟨g, rfl⟩ : ∃ g, fuel = g + 1 := ⟨fuel - 1, by omega⟩
      have hm : m = w.f_Litres.length := by omega
      subst hm
      simp only [g_keelblocktop_litres_L1, dec_nlt, cond_false]
      rw [hs, List.take_length]
    | succ k ih =>
      intro m fuel s h3 hf hs
      obtain ⟨g, rfl⟩ : ∃ g, fuel = g + 1 := ⟨fuel - 1, by omega⟩
      have hm : m < w.f_Litres.length := by omega
      simp only [g_keelblocktop_litres_L1, dec_lt hm, cond_true, if_pos (inb hm), toNat_nat, w64_succ (show m < 9223372036854775807 by omega)]
      exact ih (m + 1) g _ (by omega) (by omega) (by rw [hs, w64_add, take_succ_sum _ hm])
  unfold g_keelblocktop_litres
  exact key w.f_Litres.length 0 N 0 (by omega) h rfl
def Inland (n : Tapi_Network) : Prop := ∀ i, i < n.f_Links.length → streq (ls n i).f_From ByteArray.empty = false ∧ streq (ls n i).f_To ByteArray.empty = false
theorem inland_eq {N : Nat} {n : Tapi_Network} (h : n.f_Links.length < N) (h2 : n.f_Links.length < 1000) : ∃ q, g_keelblocktop_inland N n = some q ∧ (q = true → Inland n) := by
  unfold g_keelblocktop_inland
  refine ⟨_, loop_scan0 (L := fun fuel => g_keelblocktop_inland_L1 N n fuel) (fun i => cond (cond (streq (ls n i).f_From ByteArray.empty) true (streq (ls n i).f_To ByteArray.empty)) (some false) none) true h (fun fuel i hi => ?_) (fun fuel => ?_), fun hq i hi => ?_⟩
  · simp only [g_keelblocktop_inland_L1, dec_lt hi, cond_true, if_pos (inb hi), if_pos (fun _ => inb hi), toNat_nat, w64_succ (show i < 9223372036854775807 by omega)]
    change cond (cond (streq (ls n i).f_From ByteArray.empty) true (streq (ls n i).f_To ByteArray.empty)) _ _ = _
    cases cond (streq (ls n i).f_From ByteArray.empty) true (streq (ls n i).f_To ByteArray.empty) <;> rfl
  · simp only [g_keelblocktop_inland_L1, dec_nlt, cond_false]
  · rcases scan_inv (f := fun i => cond (cond (streq (ls n i).f_From ByteArray.empty) true (streq (ls n i).f_To ByteArray.empty)) (some false) none) (z := true) n.f_Links.length 0 with ⟨j, r, _, _, h3, _, h5⟩ | ⟨h1, _⟩
    · rw [hq] at h5; subst h5
      generalize cond (streq (ls n j).f_From ByteArray.empty) true (streq (ls n j).f_To ByteArray.empty) = z at h3
      cases z <;> simp at h3
    · have := h1 i (Nat.zero_le _) (by omega)
      cases a : streq (ls n i).f_From ByteArray.empty <;> cases b : streq (ls n i).f_To ByteArray.empty <;> simp only [a, b, cond_true, cond_false] at this
      · exact ⟨rfl, rfl⟩
      · cases this
      · cases this
      · cases this
theorem inland_sum {n : Tapi_Network} (h : Inland n) : ∀ (l : List Int) (m : Nat), m + l.length ≤ n.f_Links.length → seaSum n m l = 0
  | [], m, _ => rfl
  | q :: l, m, hl => by
    have := h m (by simp at hl; omega)
    simp only [seaSum, inland_sum h l (m + 1) (by simp at hl; omega), fromSea, this.1, this.2, cond_false]; rfl
theorem iter_sum {N : Nat} (hN : 2000001 < N) {n : Tapi_Network} {turns : List Tapi_Turn} (hin : Inland n) : ∀ (k : Nat) (w w' : Tapi_Water), StateOk n w → w.f_Minute + (k : Int) ≤ 1000000 → iterW N n turns k w = some w' → w'.f_Litres.sum = w.f_Litres.sum
  | 0, w, w', _, _, h => by
    simp only [iterW, Option.some.injEq] at h
    rw [h]
  | k + 1, w, w', v, hw, h => by
    obtain ⟨w1, f, s1, s2, s3, s4, s5, s6, s7⟩ := step_eq hN (opened_ok (turns := turns) v) (show w.f_Minute < 1000000 by omega)
    have s4 : w1.f_Minute = w.f_Minute + 1 := s4
    have s7 : w1.f_Litres.sum = w.f_Litres.sum + seaSum n 0 f := s7
    rw [iterW, s2, Option.bind_some] at h
    rw [iter_sum hN hin k w1 w' s3 (by omega) h, s7, inland_sum hin f 0 (by omega)]; omega

section
variable {N : Nat} {c : Tkeelblocklaw05_Case} {w : Tapi_Water}
theorem one_after {n : Tapi_Network} {w : Tapi_Water} (h : netCode n = 0) {i : Nat} (hi : i < n.f_Links.length) (hm : 0 ≤ w.f_Minute) (hm2 : w.f_Minute < 1000000) {l : List Int} (v : StateOk (oneN n i) ⟨w.f_Minute, l, [true]⟩) : stateCode (oneN n i) ⟨w.f_Minute + 1, l, [true]⟩ = 0 := by
  unfold stateCode
  rw [one_code h hi]
  have e1 : ins (w.f_Minute + 1) 0 1000000 = true := ins_iff.2 ⟨by omega, by omega⟩
  have e2 : ((l.length : Nat) : Int) = (((oneN n i).f_Basins.length : Nat) : Int) := by
    have := v.lit
    exact congrArg _ this
  have e3 : ((([true] : List Bool).length : Nat) : Int) = (((oneN n i).f_Links.length : Nat) : Int) := rfl
  have e4 : scan (litresStep (oneN n i) ⟨w.f_Minute + 1, l, [true]⟩) 0 (oneN n i).f_Basins.length 0 = 0 := by
    refine scan_all _ _ fun j h1 h2 => ?_
    have := v.vol j (by omega)
    unfold litresStep
    rw [show ins ((⟨w.f_Minute + 1, l, [true]⟩ : Tapi_Water).f_Litres.getD j 0) 0 (vol (bs (oneN n i) j) (bs (oneN n i) j).f_Rim) = true from ins_iff.2 this]; rfl
  dsimp only
  rw [e1, e2, e3, e4]
  simp only [bne_self_eq_false, cond_false, Bool.not_true]
/-- The level of a basin among the levels of a state. -/
theorem levs_at {n : Tapi_Network} {w : Tapi_Water} (v : StateOk n w) {l : List Int} (h : Levs n w l) {i : Nat} (hi : i < n.f_Basins.length) : l.getD i 0 = lvl (bs n i) (w.f_Litres.getD i 0) := by
  obtain ⟨b1, b2⟩ := v.vol i hi
  exact (h.2 i hi).unique (v.net.valid hi) (lvl_lev (v.net.valid hi) b1 b2)
theorem top_L1 (hN : 2000001 < N) (hc : netCode c.f_N = 0) (v : StateOk c.f_N w) (hm : w.f_Minute < 1000000) : g_keelblocktop_TopWaterKept_L1 N c (w, 0) N 0 = some true := by
  have hnl := v.net.nl
  have hnb := v.net.nb
  have hlo := v.lo
  refine loop_none (L := fun fuel => g_keelblocktop_TopWaterKept_L1 N c (w, 0) fuel) (some true) (show c.f_N.f_Links.length < N by omega) (fun fuel i hi => ?_) (fun fuel => ?_)
  · have hw64 : w64 ((i : Int) + 1) = ((i + 1 : Nat) : Int) := w64_succ (by omega)
    simp only [g_keelblocktop_TopWaterKept_L1, dec_lt hi, cond_true, if_pos (inb hi), toNat_nat, hw64, g_keelblocktop_TopWaterKept_J2, refBasinIx_eq (show c.f_N.f_Basins.length < N by omega) (show c.f_N.f_Basins.length < 1000 by omega), Option.bind_some]
    change cond (cond (cond ((ls c.f_N i).f_Kind != 0) true (decide (basinIx c.f_N (ls c.f_N i).f_From < 0))) true (decide (basinIx c.f_N (ls c.f_N i).f_To < 0))) _ _ = _
    cases hk : cond (cond ((ls c.f_N i).f_Kind != 0) true (decide (basinIx c.f_N (ls c.f_N i).f_From < 0))) true (decide (basinIx c.f_N (ls c.f_N i).f_To < 0)) with
    | true => rfl
    | false =>
      obtain ⟨hkind, hfx, htx⟩ : (ls c.f_N i).f_Kind = 0 ∧ 0 ≤ basinIx c.f_N (ls c.f_N i).f_From ∧ 0 ≤ basinIx c.f_N (ls c.f_N i).f_To := by
        cases a : (ls c.f_N i).f_Kind != 0 with
        | true => rw [a] at hk; cases hk
        | false =>
          rw [a, cond_false] at hk
          cases b : decide (basinIx c.f_N (ls c.f_N i).f_From < 0) with
          | true => rw [b] at hk; cases hk
          | false =>
            rw [b, cond_false] at hk
            have b := of_decide_eq_false b
            have hk := of_decide_eq_false hk
            exact ⟨by simpa using a, by omega, by omega⟩
      have hone : stateCode (oneN c.f_N i) (oneW w) = 0 := one_state hc v hi
      have v1 := state_of hone
      obtain ⟨F, T, r, hF, hT, hr, hs⟩ := step_one hN hone (show (oneW w).f_Minute < 1000000 from hm) rfl rfl
      have k := link_of (v.net.link i hi)
      obtain ⟨vm, _⟩ := moved_ok v1 (l := ls (oneN c.f_N i) 0) k.ne hF hT hr.fitF hr.fitT
      have hafter := one_after hc hi hlo hm (l := (movedW (oneN c.f_N i) (oneW w) (ls c.f_N i).f_From (ls c.f_N i).f_To r).f_Litres) vm
      have vy := state_of hafter
      rcases Levels_eq (N := N) (by omega) (oneN c.f_N i) (oneW w) with ⟨h0, _⟩ | ⟨_, la, la1, la2⟩
      · exact (h0 hone).elim
      rcases Levels_eq (N := N) (by omega) (oneN c.f_N i) ⟨w.f_Minute + 1, (movedW (oneN c.f_N i) (oneW w) (ls c.f_N i).f_From (ls c.f_N i).f_To r).f_Litres, [true]⟩ with ⟨h0, _⟩ | ⟨_, lb, lb1, lb2⟩
      · exact (h0 hafter).elim
      have hs : g_water_Step N (⟨c.f_N.f_Basins, c.f_N.f_Sea, [c.f_N.f_Links.getD i Tapi_Link.d]⟩ : Tapi_Network) (⟨w.f_Minute, w.f_Litres, [true]⟩ : Tapi_Water) = some (⟨w.f_Minute + 1, (movedW (oneN c.f_N i) (oneW w) (ls c.f_N i).f_From (ls c.f_N i).f_To r).f_Litres, [true]⟩, [r], 0) := hs
      have la1 : g_water_Levels N (⟨c.f_N.f_Basins, c.f_N.f_Sea, [c.f_N.f_Links.getD i Tapi_Link.d]⟩ : Tapi_Network) (⟨w.f_Minute, w.f_Litres, [true]⟩ : Tapi_Water) = some (la, 0) := la1
      have lb1 : g_water_Levels N (⟨c.f_N.f_Basins, c.f_N.f_Sea, [c.f_N.f_Links.getD i Tapi_Link.d]⟩ : Tapi_Network) (⟨w.f_Minute + 1, (movedW (oneN c.f_N i) (oneW w) (ls c.f_N i).f_From (ls c.f_N i).f_To r).f_Litres, [true]⟩ : Tapi_Water) = some (lb, 0) := lb1
      have hla : la.length = c.f_N.f_Basins.length := la2.1
      have hlb : lb.length = c.f_N.f_Basins.length := lb2.1
      rw [hs, Option.bind_some, la1, Option.bind_some, lb1, Option.bind_some]
      simp only [bne_self_eq_false, cond_false, hla, hlb]
      have lx := ix_lt c.f_N _ hfx
      have ly := ix_lt c.f_N _ htx
      have fT := hF.ok v1
      have tT := hT.ok v1
      have bF0 := SL_bd fT (fits0 fT)
      have bT0 := SL_bd tT (fits0 tT)
      have bF1 := SL_bd fT hr.fitF
      have bT1 := SL_bd tT hr.fitT
      -- the four levels
      obtain ⟨x1, x2⟩ : la.getD (basinIx c.f_N (ls c.f_N i).f_From).toNat 0 = SL F 0 ∧ lb.getD (basinIx c.f_N (ls c.f_N i).f_From).toNat 0 = SL F (-r) := by
        have hh := height_from hN v1 k.ne hF hr.fitF
        have h0 := height_eq hN v1 hF
        cases hF with
        | sea p e1 _ _ _ _ =>
          have : basinIx c.f_N (ls c.f_N i).f_From = -1 := by
            rw [show (ls c.f_N i).f_From = ByteArray.empty from e1]; exact ix_empty v.net
          omega
        | bas j e1 e2 e3 e4 e5 e6 =>
          have e3 : basinIx c.f_N (ls c.f_N i).f_From = (j : Int) := e3
          rw [e3, toNat_nat]
          have g1 := levs_at v1 la2 e2
          have g2 := levs_at vy lb2 e2
          have w1 := v1.vol j e2
          have w2 := vm.vol j e2
          rw [height_bas hN v1.net e1 e2 e3 (by rw [v1.lit]; exact e2) w1.1 w1.2] at h0
          have hh2 := height_bas hN vm.net e1 e2 e3 (by rw [vm.lit]; exact e2) w2.1 w2.2
          have hh2 := hh.symm.trans hh2
          exact ⟨g1.trans (Option.some.inj h0), g2.trans (Option.some.inj hh2).symm⟩
      obtain ⟨y1, y2⟩ : la.getD (basinIx c.f_N (ls c.f_N i).f_To).toNat 0 = SL T 0 ∧ lb.getD (basinIx c.f_N (ls c.f_N i).f_To).toNat 0 = SL T r := by
        have hh := height_to hN v1 k.ne hT hr.fitT
        have h0 := height_eq hN v1 hT
        cases hT with
        | sea p e1 _ _ _ _ =>
          have : basinIx c.f_N (ls c.f_N i).f_To = -1 := by
            rw [show (ls c.f_N i).f_To = ByteArray.empty from e1]; exact ix_empty v.net
          omega
        | bas j e1 e2 e3 e4 e5 e6 =>
          have e3 : basinIx c.f_N (ls c.f_N i).f_To = (j : Int) := e3
          rw [e3, toNat_nat]
          have g1 := levs_at v1 la2 e2
          have g2 := levs_at vy lb2 e2
          have w1 := v1.vol j e2
          have w2 := vm.vol j e2
          rw [height_bas hN v1.net e1 e2 e3 (by rw [v1.lit]; exact e2) w1.1 w1.2] at h0
          have hh2 := height_bas hN vm.net e1 e2 e3 (by rw [vm.lit]; exact e2) w2.1 w2.2
          have hh2 := hh.symm.trans hh2
          exact ⟨g1.trans (Option.some.inj h0), g2.trans (Option.some.inj hh2).symm⟩
      change (if 0 ≤ basinIx c.f_N (ls c.f_N i).f_From ∧ basinIx c.f_N (ls c.f_N i).f_From < ((c.f_N.f_Basins.length : Nat) : Int) then (if 0 ≤ basinIx c.f_N (ls c.f_N i).f_To ∧ basinIx c.f_N (ls c.f_N i).f_To < ((c.f_N.f_Basins.length : Nat) : Int) then (if 0 ≤ basinIx c.f_N (ls c.f_N i).f_From ∧ basinIx c.f_N (ls c.f_N i).f_From < ((c.f_N.f_Basins.length : Nat) : Int) then (if 0 ≤ basinIx c.f_N (ls c.f_N i).f_To ∧ basinIx c.f_N (ls c.f_N i).f_To < ((c.f_N.f_Basins.length : Nat) : Int) then _ else none) else none) else none) else none) = _
      rw [if_pos lx, if_pos ly, if_pos lx, if_pos ly]
      change cond (cond (cond (decide ((w64 (la.getD (basinIx c.f_N (ls c.f_N i).f_From).toNat 0 - la.getD (basinIx c.f_N (ls c.f_N i).f_To).toNat 0)) ≥ 0)) (cond (decide ((w64 (lb.getD (basinIx c.f_N (ls c.f_N i).f_From).toNat 0 - lb.getD (basinIx c.f_N (ls c.f_N i).f_To).toNat 0)) < 0)) true (decide ((w64 (lb.getD (basinIx c.f_N (ls c.f_N i).f_From).toNat 0 - lb.getD (basinIx c.f_N (ls c.f_N i).f_To).toNat 0)) > (w64 (la.getD (basinIx c.f_N (ls c.f_N i).f_From).toNat 0 - la.getD (basinIx c.f_N (ls c.f_N i).f_To).toNat 0))))) false) true
        (cond (decide ((w64 (la.getD (basinIx c.f_N (ls c.f_N i).f_From).toNat 0 - la.getD (basinIx c.f_N (ls c.f_N i).f_To).toNat 0)) < 0)) (cond (decide ((w64 (lb.getD (basinIx c.f_N (ls c.f_N i).f_From).toNat 0 - lb.getD (basinIx c.f_N (ls c.f_N i).f_To).toNat 0)) > 0)) true (decide ((w64 (lb.getD (basinIx c.f_N (ls c.f_N i).f_From).toNat 0 - lb.getD (basinIx c.f_N (ls c.f_N i).f_To).toNat 0)) < (w64 (la.getD (basinIx c.f_N (ls c.f_N i).f_From).toNat 0 - la.getD (basinIx c.f_N (ls c.f_N i).f_To).toNat 0))))) false)) _ _ = _
      rw [x1, x2, y1, y2, w64_eq (n := SL F 0 - SL T 0) (by omega) (by omega), w64_eq (n := SL F (-r) - SL T r) (by omega) (by omega)]
      have hg := hr.gate hkind
      have mono : ∀ q, 0 ≤ q → (q = r → SL F (-r) ≤ SL F 0 ∧ SL T 0 ≤ SL T r) ∧ (q = -r → SL F 0 ≤ SL F (-r) ∧ SL T r ≤ SL T 0) := by
        intro q hq
        refine ⟨fun h => ⟨SL_mono fT (by omega) hr.fitF (fits0 fT), SL_mono tT (by omega) (fits0 tT) hr.fitT⟩, fun h => ⟨SL_mono fT (by omega) (fits0 fT) hr.fitF, SL_mono tT (by omega) hr.fitT (fits0 tT)⟩⟩
      have hzero : r = 0 → SL F (-r) = SL F 0 ∧ SL T r = SL T 0 := fun h => by subst h; exact ⟨rfl, rfl⟩
      have hB : (SL F 0 - SL T 0 ≥ 0 → 0 ≤ SL F (-r) - SL T r ∧ SL F (-r) - SL T r ≤ SL F 0 - SL T 0) ∧ (SL F 0 - SL T 0 < 0 → SL F (-r) - SL T r ≤ 0 ∧ SL F 0 - SL T 0 ≤ SL F (-r) - SL T r) := by
        rcases Int.lt_trichotomy (SL T 0) (SL F 0) with hl | hl | hl
        · refine ⟨fun _ => ?_, fun h => by omega⟩
          rcases hg.1 hl with ⟨_, h⟩ | ⟨_, h1, h2, _⟩
          · have := hzero h; omega
          · by_cases hp : 0 < r
            · have := (h2 hp).2.2.2.2
              have := (mono r h1).1 rfl
              omega
            · have := hzero (by omega); omega
        · have := hzero (hg.2.2 hl.symm)
          exact ⟨fun _ => by omega, fun h => by omega⟩
        · refine ⟨fun h => by omega, fun _ => ?_⟩
          rcases hg.2.1 hl with ⟨_, h⟩ | ⟨_, h1, h2, _⟩
          · have := hzero (by omega); omega
          · by_cases hp : 0 < -r
            · have h3 := (h2 hp).2.2.2.2
              rw [Int.neg_neg] at h3
              have := (mono (-r) h1).2 rfl
              omega
            · have := hzero (by omega); omega
      by_cases hp : SL F 0 - SL T 0 ≥ 0
      · have := hB.1 hp
        rw [decide_eq_true hp, decide_eq_false (show ¬ SL F (-r) - SL T r < 0 by omega), decide_eq_false (show ¬ SL F (-r) - SL T r > SL F 0 - SL T 0 by omega), decide_eq_false (show ¬ SL F 0 - SL T 0 < 0 by omega)]; rfl
      · have := hB.2 (by omega)
        rw [decide_eq_false hp, decide_eq_true (show SL F 0 - SL T 0 < 0 by omega), decide_eq_false (show ¬ SL F (-r) - SL T r > 0 by omega), decide_eq_false (show ¬ SL F (-r) - SL T r < SL F 0 - SL T 0 by omega)]; rfl
  · simp only [g_keelblocktop_TopWaterKept_L1, dec_nlt, cond_false, wet_eq (show 20 < N by omega), Option.bind_some]
end

theorem topWaterKept_plain (c : Tkeelblocklaw05_Case) (minutes : Int) (hc : Tkeelblocklaw05_Case.wf c) (hmi : wI minutes) : ∃ N, g_keelblocktop_TopWaterKept N c minutes = some true := by
  refine ⟨2000002 + c.f_Turns.length, ?_⟩
  have hw : c.f_Turns.length ≤ 9223372036854775807 := hc.2.2.1
  have hT : c.f_Turns.length < 2000002 + c.f_Turns.length := by omega
  generalize hN : 2000002 + c.f_Turns.length = N at hT
  have hN : 2000001 < N := by omega
  unfold g_keelblocktop_TopWaterKept
  obtain ⟨s, hq, _⟩ := Short_some c (by omega) hT hw
  rw [hq, Option.bind_some, started_eq (by omega)]
  cases h1 : cond (cond (!s) true (decide (minutes < 0))) true (decide (minutes > 40)) with
  | true =>
    simp only [Bool.not_true, cond_false, Option.bind_some, cond_true, wet_eq (show 20 < N by omega)]
  | false =>
    have hmm : 0 ≤ minutes ∧ minutes ≤ 40 := by
      cases s with
      | false => cases h1
      | true =>
        simp only [Bool.not_true, cond_false] at h1
        cases a : decide (minutes < 0) with
        | true => rw [a] at h1; cases h1
        | false =>
          rw [a, cond_false] at h1
          have a := of_decide_eq_false a
          have h1 := of_decide_eq_false h1
          omega
    simp only [Bool.not_false, cond_true, Option.bind_some, cond_false]
    by_cases h0 : startCode c.f_N c.f_W c.f_Turns = 0
    · rw [h0]
      obtain ⟨hs, tk⟩ := start_of h0
      have v := state_of hs
      have hlo := v.lo
      have hhi := v.hi
      have hnb := v.net.nb
      have hnl := v.net.nl
      simp only [bne_self_eq_false, cond_false]
      rw [w64_eq (n := c.f_W.f_Minute + minutes) (by omega) (by omega), w64_eq (n := c.f_W.f_Minute + minutes + 1) (by omega) (by omega)]
      by_cases hd : c.f_W.f_Minute + minutes + 1 > 1000000
      · rw [decide_eq_true hd, cond_true, wet_eq (by omega)]; rfl
      · rw [decide_eq_false hd, cond_false]
        rcases Run_eq hN c.f_N c.f_W c.f_Turns minutes with ⟨k0, _⟩ | ⟨_, _, _, M, hM, hM1, hM2, w, i1, r1, _, vw, hwm⟩
        · exfalso
          apply k0
          unfold runCode
          rw [h0, ins_iff.2 ⟨by omega, by omega⟩, w64_eq (by omega) (by omega), decide_eq_false (by omega)]; rfl
        · obtain ⟨q, hq2, hq3⟩ := inland_eq (N := N) (n := c.f_N) (by omega) (by omega)
          have eL1 : g_keelblocktop_litres N w = some (w64 w.f_Litres.sum) := litres_eq w (by rw [vw.lit]; omega) (by rw [vw.lit]; omega)
          have eL2 : g_keelblocktop_litres N c.f_W = some (w64 c.f_W.f_Litres.sum) := litres_eq c.f_W (by rw [v.lit]; omega) (by rw [v.lit]; omega)
          have top := top_L1 (c := c) hN (code_of_state hs) vw (show w.f_Minute < 1000000 by omega)
          rw [r1]
          simp only [Option.bind_some, bne_self_eq_false, Bool.not_false, cond_true, Bool.true_and, hq2, eL1, eL2, cond_false]
          cases q with
          | false => exact top
          | true =>
            have e := iter_sum hN (hq3 rfl) M c.f_W w v (by omega) i1
            simp only [cond_true, Option.bind_some, e, bne_self_eq_false, cond_false]
            exact top
    · have hb : (startCode c.f_N c.f_W c.f_Turns != 0) = true := by simpa using h0
      rw [hb]
      simp only [cond_true, wet_eq (show 20 < N by omega), Option.bind_some]
end Go.Den
