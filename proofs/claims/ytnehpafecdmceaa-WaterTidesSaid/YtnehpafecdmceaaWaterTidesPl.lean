/- The plain law: the Lean function of the law returns true for every input, and what it needs. No conditions. -/
import Derived.Test.YtnehpafecdmceaaWaterTidesDen

set_option linter.unusedVariables false
set_option linter.unusedSimpArgs false
namespace Go.Den
open Go.Ab

theorem w64_def (n : Int) : w64 n = if n % 18446744073709551616 ≥ 9223372036854775808 then n % 18446744073709551616 - 18446744073709551616 else n % 18446744073709551616 := by
  have e : w64 n = (if (true && decide (n % 18446744073709551616 ≥ 9223372036854775808)) = true then n % 18446744073709551616 - 18446744073709551616 else n % 18446744073709551616) := rfl
  rw [e]; simp
theorem w64_eq {n : Int} (h1 : -9223372036854775808 ≤ n) (h2 : n ≤ 9223372036854775807) : w64 n = n := by
  rw [w64_def]; split <;> omega
theorem w64_nat {m : Nat} (h : m ≤ 9223372036854775807) : w64 (m : Int) = m := w64_eq (by omega) (by omega)
theorem w64_succ {m : Nat} (h : m < 9223372036854775807) : w64 ((m : Int) + 1) = ((m + 1 : Nat) : Int) := by rw [w64_eq (by omega) (by omega)]; simp

theorem toList_inj {a b : ByteArray} (h : a.toList = b.toList) : a = b := by
  have e : ∀ x : ByteArray, x.toList = x.data.toList := fun x => ByteArray.toList_eq x
  rw [e, e] at h
  cases a; cases b; simp_all [Array.toList_inj]
theorem streq_iff {a b : ByteArray} : streq a b = true ↔ a = b := by
  unfold streq; simp only [beq_iff_eq]
  exact ⟨toList_inj, fun h => h ▸ rfl⟩
theorem streq_comm (a b : ByteArray) : streq a b = streq b a := by
  rw [Bool.eq_iff_iff, streq_iff, streq_iff]; exact eq_comm

/-- The first answer of a row of questions, from m on, k of them; else z. -/
def scan {R : Type} (f : Nat → Option R) (z : R) : Nat → Nat → R
  | 0, _ => z
  | k + 1, m => match f m with
    | some r => r
    | none => scan f z k (m + 1)

theorem loop_scan {R : Type} {L : Nat → Int → Option R} (f : Nat → Option R) (z : R) {n : Nat}
    (hstep : ∀ fuel m, m < n → L (fuel + 1) (m : Int) = (match f m with | some r => some r | none => L fuel ((m + 1 : Nat) : Int)))
    (hend : ∀ fuel, L (fuel + 1) (n : Int) = some z) : ∀ k m fuel, m + k = n → k < fuel → L fuel (m : Int) = some (scan f z k m)
  | 0, m, fuel, h, hf => by
    obtain ⟨g, rfl⟩ : ∃ g, fuel = g + 1 := ⟨fuel - 1, by omega⟩
    have : m = n := by omega
    subst this; exact hend g
  | k + 1, m, fuel, h, hf => by
    obtain ⟨g, rfl⟩ : ∃ g, fuel = g + 1 := ⟨fuel - 1, by omega⟩
    rw [hstep g m (by omega)]
    unfold scan
    cases hfm : f m with
    | some r => rfl
    | none => exact loop_scan f z hstep hend k (m + 1) g (by omega) (by omega)

theorem loop_scan0 {R : Type} {L : Nat → Int → Option R} (f : Nat → Option R) (z : R) {n fuel : Nat} (hf : n < fuel)
    (hstep : ∀ fuel m, m < n → L (fuel + 1) (m : Int) = (match f m with | some r => some r | none => L fuel ((m + 1 : Nat) : Int)))
    (hend : ∀ fuel, L (fuel + 1) (n : Int) = some z) : L fuel 0 = some (scan f z n 0) :=
  loop_scan f z hstep hend n 0 fuel (by omega) hf

/-- As loop_scan0; at the end all questions have been answered with 'none'. -/
theorem loop_scanA {R : Type} {L : Nat → Int → R} (f : Nat → Option R) (z : R) {n fuel : Nat} (hf : n < fuel)
    (hstep : ∀ fuel m, m < n → (∀ i, i < m → f i = none) → L (fuel + 1) (m : Int) = (match f m with | some r => r | none => L fuel ((m + 1 : Nat) : Int)))
    (hend : (∀ i, i < n → f i = none) → ∀ fuel, L (fuel + 1) (n : Int) = z) : L fuel 0 = scan f z n 0 := by
  have key : ∀ k m fuel, m + k = n → k < fuel → (∀ i, i < m → f i = none) → L fuel (m : Int) = scan f z k m := by
    intro k
    induction k with
    | zero =>
      intro m fuel h hf hn
      obtain ⟨g, rfl⟩ : ∃ g, fuel = g + 1 := ⟨fuel - 1, by omega⟩
      have : m = n := by omega
      subst this; exact hend hn g
    | succ k ih =>
      intro m fuel h hf hn
      obtain ⟨g, rfl⟩ : ∃ g, fuel = g + 1 := ⟨fuel - 1, by omega⟩
      rw [hstep g m (by omega) hn]
      unfold scan
      cases hfm : f m with
      | some r => rfl
      | none =>
        refine ih (m + 1) g (by omega) (by omega) fun i hi => ?_
        by_cases him : i = m
        · subst him; exact hfm
        · exact hn i (by omega)
  exact key n 0 fuel (by omega) hf (fun i hi => absurd hi (Nat.not_lt_zero _))
theorem scan_map {R S : Type} (g : R → S) {f : Nat → Option R} {z : R} : ∀ (k m : Nat), scan (fun i => (f i).map g) (g z) k m = g (scan f z k m)
  | 0, _ => rfl
  | k + 1, m => by
    unfold scan
    cases f m with
    | some r => rfl
    | none => exact scan_map g k (m + 1)
theorem loop_scan0A {R : Type} {L : Nat → Int → Option R} (f : Nat → Option R) (z : R) {n fuel : Nat} (hf : n < fuel)
    (hstep : ∀ fuel m, m < n → (∀ i, i < m → f i = none) → L (fuel + 1) (m : Int) = (match f m with | some r => some r | none => L fuel ((m + 1 : Nat) : Int)))
    (hend : (∀ i, i < n → f i = none) → ∀ fuel, L (fuel + 1) (n : Int) = some z) : L fuel 0 = some (scan f z n 0) := by
  rw [← scan_map some]
  refine loop_scanA (fun i => (f i).map some) (some z) hf (fun g m hm hn => ?_) (fun hn => hend fun i hi => ?_)
  · have hn' : ∀ i, i < m → f i = none := fun i hi => by have := hn i hi; simpa using this
    rw [hstep g m hm hn']
    cases f m <;> rfl
  · have := hn i hi; simpa using this
theorem scan_congr {R : Type} {f g : Nat → Option R} {z : R} : ∀ (k m : Nat), (∀ i, m ≤ i → i < m + k → f i = g i) → scan f z k m = scan g z k m
  | 0, _, _ => rfl
  | k + 1, m, h => by
    unfold scan
    rw [h m (by omega) (by omega)]
    cases g m with
    | some r => rfl
    | none => exact scan_congr k (m + 1) fun i hi hi2 => h i (by omega) (by omega)

theorem scan_all {R : Type} {f : Nat → Option R} {z : R} : ∀ (k m : Nat), (∀ i, m ≤ i → i < m + k → f i = none) → scan f z k m = z
  | 0, _, _ => rfl
  | k + 1, m, h => by
    unfold scan
    rw [h m (by omega) (by omega)]
    exact scan_all k (m + 1) fun i hi hi2 => h i (by omega) (by omega)

theorem scan_inv {R : Type} {f : Nat → Option R} {z : R} : ∀ (k m : Nat), (∃ i r, m ≤ i ∧ i < m + k ∧ f i = some r ∧ (∀ j, m ≤ j → j < i → f j = none) ∧ scan f z k m = r) ∨ ((∀ i, m ≤ i → i < m + k → f i = none) ∧ scan f z k m = z)
  | 0, m => .inr ⟨fun i h1 h2 => by omega, rfl⟩
  | k + 1, m => by
    cases hm : f m with
    | some r => exact .inl ⟨m, r, Nat.le_refl _, by omega, hm, fun j h1 h2 => by omega, by unfold scan; rw [hm]⟩
    | none =>
      have e : scan f z (k + 1) m = scan f z k (m + 1) := by rw [scan, hm]
      rcases scan_inv (f := f) (z := z) k (m + 1) with ⟨i, r, h1, h2, h3, h4, h5⟩ | ⟨h1, h2⟩
      · refine .inl ⟨i, r, by omega, by omega, h3, fun j hj1 hj2 => ?_, e.trans h5⟩
        by_cases hj : j = m
        · subst hj; exact hm
        · exact h4 j (by omega) hj2
      · refine .inr ⟨fun i hi1 hi2 => ?_, e.trans h2⟩
        by_cases hj : i = m
        · subst hj; exact hm
        · exact h1 i (by omega) (by omega)

theorem loop_scanR {R : Type} {L : Nat → Int → R} (f : Nat → Option R) (z : R) {n : Nat}
    (hstep : ∀ fuel m, m < n → L (fuel + 1) (m : Int) = (match f m with | some r => r | none => L fuel ((m + 1 : Nat) : Int)))
    (hend : ∀ fuel, L (fuel + 1) (n : Int) = z) : ∀ k m fuel, m + k = n → k < fuel → L fuel (m : Int) = scan f z k m
  | 0, m, fuel, h, hf => by
    obtain ⟨g, rfl⟩ : ∃ g, fuel = g + 1 := ⟨fuel - 1, by omega⟩
    have : m = n := by omega
    subst this; exact hend g
  | k + 1, m, fuel, h, hf => by
    obtain ⟨g, rfl⟩ : ∃ g, fuel = g + 1 := ⟨fuel - 1, by omega⟩
    rw [hstep g m (by omega)]
    unfold scan
    cases hfm : f m with
    | some r => rfl
    | none => exact loop_scanR f z hstep hend k (m + 1) g (by omega) (by omega)
theorem loop_scanR0 {R : Type} {L : Nat → Int → R} (f : Nat → Option R) (z : R) {n fuel : Nat} (hf : n < fuel)
    (hstep : ∀ fuel m, m < n → L (fuel + 1) (m : Int) = (match f m with | some r => r | none => L fuel ((m + 1 : Nat) : Int)))
    (hend : ∀ fuel, L (fuel + 1) (n : Int) = z) : L fuel 0 = scan f z n 0 :=
  loop_scanR f z hstep hend n 0 fuel (by omega) hf
theorem loop_none {R : Type} {L : Nat → Int → R} (z : R) {n fuel : Nat} (hf : n < fuel) (hstep : ∀ fuel m, m < n → L (fuel + 1) (m : Int) = L fuel ((m + 1 : Nat) : Int))
    (hend : ∀ fuel, L (fuel + 1) (n : Int) = z) : L fuel 0 = z :=
  (loop_scanR0 (fun _ => none) z hf (fun g m hm => hstep g m hm) hend).trans (scan_all n 0 fun _ _ _ => rfl)
theorem scan_index {p : Nat → Bool} : ∀ (n m : Nat), decide (scan (fun k => cond (p k) (some (k : Int)) none) (-1) n m ≥ 0) = scan (fun k => cond (p k) (some true) none) false n m
  | 0, m => rfl
  | n + 1, m => by
    unfold scan
    cases p m with
    | true => simp
    | false => exact scan_index n (m + 1)
theorem scan_first {p : Nat → Bool} {i : Nat} (hi : p i = true) : ∀ (k m : Nat), m ≤ i → i < m + k → (scan (fun k => cond (p k) (some (k : Int)) none) (-1) k m != (i : Int)) = scan (fun k => cond (p k) (some true) none) false (i - m) m
  | 0, m, h1, h2 => by omega
  | k + 1, m, h1, h2 => by
    by_cases hm : m = i
    · subst hm
      rw [Nat.sub_self]
      unfold scan
      rw [hi]; simp
    · obtain ⟨j, hj⟩ : ∃ j, i - m = j + 1 := ⟨i - m - 1, by omega⟩
      rw [hj]
      cases hp : p m with
      | true =>
        unfold scan
        simp only [hp, cond_true]
        have : (m : Int) ≠ i := by omega
        simpa using this
      | false =>
        have e1 : scan (fun k => cond (p k) (some (k : Int)) none) (-1) (k + 1) m = scan (fun k => cond (p k) (some (k : Int)) none) (-1) k (m + 1) := by rw [scan]; simp only [hp, cond_false]
        have e2 : scan (fun k => cond (p k) (some true) none) false (j + 1) m = scan (fun k => cond (p k) (some true) none) false j (m + 1) := by rw [scan]; simp only [hp, cond_false]
        rw [e1, e2, scan_first hi k (m + 1) (by omega) (by omega)]
        congr 1; omega
theorem scan_bool {R : Type} {p : Nat → Bool} {a z : R} : ∀ (n m : Nat), scan (fun k => cond (p k) (some a) none) z n m = cond (scan (fun k => cond (p k) (some true) none) false n m) a z
  | 0, m => rfl
  | n + 1, m => by
    unfold scan
    cases p m with
    | true => rfl
    | false => exact scan_bool n (m + 1)
theorem bind_cond {α β : Type} (q : Bool) (a b : α) (f : α → Option β) : (cond q (some a) (some b)).bind f = f (cond q a b) := by cases q <;> rfl
theorem cond_some {α : Type} (q : Bool) (a b : α) : cond q (some a) (some b) = some (cond q a b) := by cases q <;> rfl
theorem getD_take {α : Type} (l : List α) (m k : Nat) (d : α) (h : k < m) : ((l.take m).drop 0).getD k d = l.getD k d := by
  simp [List.getD, h]
theorem drop_take_one {α : Type} (l : List α) (m : Nat) (d : α) (h : m < l.length) : (l.take (m + 1)).drop m = [l.getD m d] := by
  have e : (l.take (m + 1)).drop m = (l.drop m).take 1 := by rw [List.drop_take]; congr 1; omega
  rw [e, List.drop_eq_getElem_cons h, List.take_succ_cons, List.take_zero]
  simp [List.getD, h]
theorem getD_mem {α : Type} (l : List α) (m : Nat) (d : α) (h : m < l.length) : l.getD m d ∈ l := by
  simp [List.getD, h]
theorem sq_nonneg (x : Int) : 0 ≤ x * x := by
  by_cases h : 0 ≤ x
  · exact Int.mul_nonneg h h
  · have := Int.mul_nonneg (show 0 ≤ -x by omega) (show 0 ≤ -x by omega)
    rwa [Int.neg_mul_neg] at this
theorem sq_le {x M : Int} (h1 : -M ≤ x) (h2 : x ≤ M) : x * x ≤ M * M := by
  by_cases h : 0 ≤ x
  · exact Int.mul_le_mul h2 h2 h (by omega)
  · have := Int.mul_le_mul (show -x ≤ M by omega) (show -x ≤ M by omega) (by omega) (by omega)
    rwa [Int.neg_mul_neg] at this
theorem orI_nat {a b : Nat} (ha : a < 9223372036854775808) (hb : b < 9223372036854775808) : orI .i64 (a : Int) (b : Int) = ((a ||| b : Nat) : Int) := by
  have h : a ||| b < 2 ^ 63 := Nat.or_lt_two_pow (by omega) (by omega)
  have e : (BitVec.ofInt IntKind.i64.bits (a : Int) ||| BitVec.ofInt IntKind.i64.bits (b : Int)).toNat = a ||| b := by
    show (BitVec.ofInt 64 (a : Int) ||| BitVec.ofInt 64 (b : Int)).toNat = _
    rw [BitVec.ofInt_natCast, BitVec.ofInt_natCast, BitVec.toNat_or, BitVec.toNat_ofNat, BitVec.toNat_ofNat, Nat.mod_eq_of_lt (by omega), Nat.mod_eq_of_lt (by omega)]
  unfold orI
  rw [e]
  exact w64_nat (by omega)
theorem shlI_one {k : Nat} (hk : k < 63) : shlI .i64 1 (k : Int) = ((2 ^ k : Nat) : Int) := by
  have h : 2 ^ k < 2 ^ 63 := Nat.pow_lt_pow_right (by omega) hk
  have e : min ((k : Int).toNat) IntKind.i64.bits = k := by
    show min k 64 = k
    omega
  unfold shlI
  rw [e]
  have e2 : (1 : Int) * 2 ^ k = ((2 ^ k : Nat) : Int) := by simp
  rw [e2]
  exact w64_nat (by omega)

theorem toNat_nat (m : Nat) : ((m : Int)).toNat = m := rfl
theorem inb {m n : Nat} (h : m < n) : 0 ≤ (m : Int) ∧ (m : Int) < ((n : Nat) : Int) := ⟨by omega, by omega⟩
theorem dec_lt {m n : Nat} (h : m < n) : decide ((m : Int) < ((n : Nat) : Int)) = true := by simp; omega
theorem dec_nlt {n : Nat} : decide ((n : Int) < ((n : Nat) : Int)) = false := by simp
end Go.Den

namespace Go.Den
open Go.Ab

/-- A name that the document allows, as a loop over its bytes. -/
def nameBad (s : ByteArray) (m : Nat) : Bool :=
  cond (!(cond (cond (decide (byteAt s m ≥ 97)) (decide (byteAt s m ≤ 122)) false) true (cond (decide (byteAt s m ≥ 65)) (decide (byteAt s m ≤ 90)) false))) (cond ((m : Int) == 0) true (!(cond (cond (decide (byteAt s m ≥ 48)) (decide (byteAt s m ≤ 57)) false) true (byteAt s m == 45)))) false
def nameOk (s : ByteArray) : Bool :=
  cond (cond (streq s ByteArray.empty) true (decide (((s.size : Nat) : Int) > 12))) false (scan (fun m => cond (nameBad s m) (some false) none) true s.size 0)

theorem streq_empty (s : ByteArray) : streq s ByteArray.empty = decide (((s.size : Nat) : Int) < 1) := by
  rw [Bool.eq_iff_iff, streq_iff, decide_eq_true_eq]
  constructor
  · rintro rfl; decide
  · intro h
    have : s.size = 0 := by omega
    cases s with | mk d => 
    have : d.size = 0 := this
    simp [Array.size_eq_zero_iff.1 this]; rfl
theorem nameBad_eq (s : ByteArray) (m : Nat) : nameBad s m = cond (!(cond (cond (decide (byteAt s m ≥ 97)) (decide (byteAt s m ≤ 122)) false) true (cond (decide (byteAt s m ≥ 65)) (decide (byteAt s m ≤ 90)) false))) (cond ((m : Int) == 0) true (cond (byteAt s m != 45) (cond (decide (byteAt s m < 48)) true (decide (byteAt s m > 57))) false)) false := by
  unfold nameBad
  generalize byteAt s m = b
  rw [Bool.eq_iff_iff]
  simp [Bool.cond_eq_ite]
  omega
theorem bytesL_at (s : ByteArray) (m : Nat) (h : m < s.size) : (bytesL s).getD m 0 = byteAt s m := by
  have := bytesL_get s m (by rw [← bytesL_len]; exact h)
  simpa [cU] using this
end Go.Den

namespace Go.Den
open Go.Ab

theorem isName_eq {N : Nat} (hN : 12 < N) (s : ByteArray) : g_water_isName N s = some (nameOk s) := by
  unfold g_water_isName nameOk g_water_between
  rw [streq_empty, Option.bind_some]
  have e0 : (cond (decide (((s.size : Nat) : Int) < 1)) true (decide (((s.size : Nat) : Int) > 12))) = !(cond (decide (((s.size : Nat) : Int) ≥ 1)) (decide (((s.size : Nat) : Int) ≤ 12)) false) := by
    rw [Bool.eq_iff_iff]; simp [Bool.cond_eq_ite]
  rw [e0]
  cases h : (cond (decide (((s.size : Nat) : Int) ≥ 1)) (decide (((s.size : Nat) : Int) ≤ 12)) false)
  · rfl
  · have hs : s.size ≤ 12 := by
      simp [Bool.cond_eq_ite] at h; omega
    refine loop_scan0 (L := fun fuel => g_water_isName_L1 N s fuel) _ _ (by omega) (fun fuel m hm => ?_) (fun fuel => ?_)
    · have hl : m < (bytesL s).length := by rw [← bytesL_len]; exact hm
      simp only [g_water_isName_L1, dec_lt hm, cond_true, if_pos (inb hl), w64_succ (show m < 9223372036854775807 by omega), toNat_nat, bytesL_at s m hm]
      rw [← nameBad_eq]
      cases nameBad s m <;> rfl
    · simp only [g_water_isName_L1, dec_nlt, cond_false]
theorem IsName_eq {N : Nat} (hN : 12 < N) (s : ByteArray) : g_keelblockbase_IsName N s = some (nameOk s) := by
  unfold g_keelblockbase_IsName nameOk
  rw [streq_empty]
  cases h : cond (decide (((s.size : Nat) : Int) < 1)) true (decide (((s.size : Nat) : Int) > 12))
  · have hs : s.size ≤ 12 := by
      cases h2 : decide (((s.size : Nat) : Int) < 1) <;> rw [h2] at h <;> simp at h; omega
    refine loop_scan0 (L := fun fuel => g_keelblockbase_IsName_L1 N s fuel) _ _ (by omega) (fun fuel m hm => ?_) (fun fuel => ?_)
    · simp only [g_keelblockbase_IsName_L1, dec_lt hm, cond_true, if_pos (inb hm), w64_succ (show m < 9223372036854775807 by omega), toNat_nat]
      rw [← nameBad_eq]
      cases nameBad s m <;> rfl
    · simp only [g_keelblockbase_IsName_L1, dec_nlt, cond_false]
  · rfl

end Go.Den

namespace Go.Den
open Go.Ab

def ins (n lo hi : Int) : Bool := cond (decide (n ≥ lo)) (decide (n ≤ hi)) false
theorem ins_iff {n lo hi : Int} : ins n lo hi = true ↔ lo ≤ n ∧ n ≤ hi := by unfold ins; simp [Bool.cond_eq_ite]
theorem between_eq (N : Nat) (n lo hi : Int) : g_water_between N n lo hi = some (ins n lo hi) := rfl
theorem inside_eq (N : Nat) (n lo hi : Int) : g_keelblockref05_inside N n lo hi = some (ins n lo hi) := rfl

def ar (b : Tapi_Basin) (m : Nat) : Tapi_Area := b.f_Areas.getD m Tapi_Area.d
def areaStep (b : Tapi_Basin) (m : Nat) : Option Int :=
  cond (!(ins (ar b m).f_From (-1000000) 1000000 && ins (ar b m).f_Size 1 1000000)) (some 2) (cond (decide (0 < m) && decide ((ar b m).f_From ≤ (ar b (m - 1)).f_From)) (some 10) none)
def formCode (b : Tapi_Basin) : Int :=
  cond (!(ins (b.f_Areas.length : Int) 1 20)) 2 (scan (areaStep b) (cond (decide (b.f_Rim ≤ (ar b (b.f_Areas.length - 1)).f_From) || decide (b.f_Rim > 1000000)) 2 0) b.f_Areas.length 0)

theorem form_eq {N : Nat} (hN : 20 < N) (b : Tapi_Basin) : g_water_checkForm N b = some (formCode b) := by
  unfold g_water_checkForm formCode
  rw [between_eq, Option.bind_some]
  cases h : ins (b.f_Areas.length : Int) 1 20
  · rfl
  · obtain ⟨h1, h2⟩ := ins_iff.1 h
    simp only [Bool.not_true, cond_false]
    refine loop_scan0 (L := fun fuel => g_water_checkForm_L1 N b fuel) _ _ (by omega) (fun fuel m hm => ?_) (fun fuel => ?_)
    · simp only [g_water_checkForm_L1, dec_lt hm, cond_true, if_pos (inb hm), w64_succ (show m < 9223372036854775807 by omega), toNat_nat, between_eq, Option.bind_some]
      unfold areaStep ar
      cases h3 : ins (b.f_Areas.getD m Tapi_Area.d).f_From (-1000000) 1000000
      · rfl
      · simp only [Bool.not_true, Bool.not_false, cond_true, Option.bind_some, Bool.true_and, cond_false]
        cases h4 : ins (b.f_Areas.getD m Tapi_Area.d).f_Size 1 1000000
        · rfl
        · simp only [Bool.not_true, cond_false]
          cases m with
          | zero => rfl
          | succ k =>
            have e : w64 (((k + 1 : Nat) : Int) - 1) = (k : Int) := by rw [w64_eq (by omega) (by omega)]; omega
            rw [e, if_pos (fun _ => inb (show k < b.f_Areas.length by omega))]
            have e2 : decide (((k + 1 : Nat) : Int) > 0) = true := by rw [decide_eq_true_eq]; omega
            rw [e2, toNat_nat]
            simp only [cond_true, Nat.add_sub_cancel, show decide (0 < k + 1) = true by simp, Bool.true_and]
            cases decide ((b.f_Areas.getD (k + 1) Tapi_Area.d).f_From ≤ (b.f_Areas.getD k Tapi_Area.d).f_From) <;> rfl
    · have e : w64 (((b.f_Areas.length : Nat) : Int) - 1) = ((b.f_Areas.length - 1 : Nat) : Int) := by rw [w64_eq (by omega) (by omega)]; omega
      simp only [g_water_checkForm_L1, dec_nlt, cond_false, e, if_pos (inb (show b.f_Areas.length - 1 < b.f_Areas.length by omega)), toNat_nat]
      unfold ar
      cases decide (b.f_Rim ≤ (b.f_Areas.getD (b.f_Areas.length - 1) Tapi_Area.d).f_From) <;> cases decide (b.f_Rim > 1000000) <;> rfl
def basinCode (b : Tapi_Basin) : Int := cond (!nameOk b.f_Name) 4 (formCode b)
theorem checkBasin_eq {N : Nat} (hN : 20 < N) (b : Tapi_Basin) : g_water_CheckBasin N b = some (basinCode b) := by
  unfold g_water_CheckBasin basinCode
  rw [isName_eq (by omega), form_eq hN]
  simp only [Option.bind_some]
  cases nameOk b.f_Name <;> rfl
theorem refL1_eq (N : Nat) (b : Tapi_Basin) : ∀ (fuel : Nat) (x : Int), g_keelblockref05_CheckBasin_L1 N b fuel x = g_water_checkForm_L1 N b fuel x
  | 0, x => rfl
  | fuel + 1, x => by simp only [g_keelblockref05_CheckBasin_L1, g_water_checkForm_L1, inside_eq, between_eq, refL1_eq N b fuel]
theorem refBasin_eq {N : Nat} (hN : 20 < N) (b : Tapi_Basin) : g_keelblockref05_CheckBasin N b = some (basinCode b) := by
  rw [← checkBasin_eq hN]
  unfold g_keelblockref05_CheckBasin g_water_CheckBasin g_water_checkForm
  rw [IsName_eq (by omega), isName_eq (by omega)]
  simp only [Option.bind_some, between_eq, refL1_eq]
  cases nameOk b.f_Name
  · rfl
  · simp only [Bool.not_true, cond_false]
    have e : (cond (((b.f_Areas.length : Nat) : Int) == 0) true (decide (((b.f_Areas.length : Nat) : Int) > 20))) = !(ins (b.f_Areas.length : Int) 1 20) := by
      generalize b.f_Areas.length = c
      rw [Bool.eq_iff_iff]; simp [Bool.cond_eq_ite, ins]; omega
    rw [e]
    cases ins (b.f_Areas.length : Int) 1 20
    · rfl
    · simp only [Bool.not_true, cond_false, Option.bind_fun_some]

/-- A basin that the document allows (but for its name). -/
structure Valid (b : Tapi_Basin) : Prop where
  len : 1 ≤ b.f_Areas.length ∧ b.f_Areas.length ≤ 20
  frm : ∀ m, m < b.f_Areas.length → -1000000 ≤ (ar b m).f_From ∧ (ar b m).f_From ≤ 1000000
  sz : ∀ m, m < b.f_Areas.length → 1 ≤ (ar b m).f_Size ∧ (ar b m).f_Size ≤ 1000000
  ord : ∀ m, m + 1 < b.f_Areas.length → (ar b m).f_From < (ar b (m + 1)).f_From
  rim : (ar b (b.f_Areas.length - 1)).f_From < b.f_Rim ∧ b.f_Rim ≤ 1000000
theorem valid_of {b : Tapi_Basin} (h : formCode b = 0) : Valid b := by
  unfold formCode at h
  cases hl : ins (b.f_Areas.length : Int) 1 20
  · rw [hl] at h; cases h
  · rw [hl] at h
    obtain ⟨l1, l2⟩ := ins_iff.1 hl
    simp only [Bool.not_true, cond_false] at h
    rcases scan_inv (f := areaStep b) (z := cond (decide (b.f_Rim ≤ (ar b (b.f_Areas.length - 1)).f_From) || decide (b.f_Rim > 1000000)) 2 0) b.f_Areas.length 0 with ⟨i, r, _, _, h3, _, h5⟩ | ⟨h1, h2⟩
    · rw [h] at h5
      subst h5
      unfold areaStep at h3
      generalize (!(ins (ar b i).f_From (-1000000) 1000000 && ins (ar b i).f_Size 1 1000000)) = p at h3
      generalize (decide (0 < i) && decide ((ar b i).f_From ≤ (ar b (i - 1)).f_From)) = q at h3
      cases p <;> cases q <;> simp at h3
    · have hn : ∀ i, i < b.f_Areas.length → (ins (ar b i).f_From (-1000000) 1000000 && ins (ar b i).f_Size 1 1000000) = true ∧ (decide (0 < i) && decide ((ar b i).f_From ≤ (ar b (i - 1)).f_From)) = false := by
        intro i hi
        have h3 := h1 i (Nat.zero_le _) (by omega)
        unfold areaStep at h3
        generalize hp : (ins (ar b i).f_From (-1000000) 1000000 && ins (ar b i).f_Size 1 1000000) = p at h3
        generalize hq : (decide (0 < i) && decide ((ar b i).f_From ≤ (ar b (i - 1)).f_From)) = q at h3
        cases p <;> cases q <;> simp at h3 ⊢
      rw [h] at h2
      have hr : (decide (b.f_Rim ≤ (ar b (b.f_Areas.length - 1)).f_From) || decide (b.f_Rim > 1000000)) = false := by
        cases hr : (decide (b.f_Rim ≤ (ar b (b.f_Areas.length - 1)).f_From) || decide (b.f_Rim > 1000000))
        · rfl
        · rw [hr] at h2; cases h2
      refine ⟨⟨by omega, by omega⟩, fun m hm => ?_, fun m hm => ?_, fun m hm => ?_, ?_⟩
      · exact ins_iff.1 (Bool.and_eq_true_iff.1 (hn m hm).1).1
      · exact ins_iff.1 (Bool.and_eq_true_iff.1 (hn m hm).1).2
      · have := (hn (m + 1) hm).2
        simp at this
        exact this
      · simp at hr; omega
end Go.Den

namespace Go.Den
open Go.Ab

theorem half_eq {s : Int} (h1 : 0 ≤ s) (h2 : s ≤ 4611686018427387904) : w64 (shrI .u64 (IntKind.u64.wrap (w64 s)) 1) = s / 2 := by
  rw [w64_eq (n := s) (by omega) (by omega)]
  have e : IntKind.u64.wrap s = s % 18446744073709551616 := rfl
  rw [e, Int.emod_eq_of_lt h1 (by omega)]
  have e2 : shrI .u64 s 1 = s.fdiv 2 := rfl
  rw [e2, Int.fdiv_eq_ediv_of_nonneg _ (by omega)]
  exact w64_eq (by omega) (by omega)

def mk (m : List Tapi_Mark) (i : Nat) : Tapi_Mark := m.getD i Tapi_Mark.d
def seaStep (m : List Tapi_Mark) (i : Nat) : Option Int :=
  cond (!(ins (mk m i).f_Minute 0 1000000 && ins (mk m i).f_Level (-1000000) 1000000)) (some 2) (cond (decide (0 < i) && decide ((mk m i).f_Minute ≤ (mk m (i - 1)).f_Minute)) (some 10) none)
def seaCode (m : List Tapi_Mark) : Int := cond (decide (((m.length : Nat) : Int) > 400)) 8 (scan (seaStep m) 0 m.length 0)

theorem seaLoop {m : List Tapi_Mark} (hl : m.length ≤ 400) {i : Nat} (hi : i < m.length) : seaStep m i = cond (cond (!ins (mk m i).f_Minute 0 1000000) true (!ins (mk m i).f_Level (-1000000) 1000000)) (some 2) (cond (cond (decide ((i : Int) > 0)) (decide ((mk m i).f_Minute ≤ (mk m ((w64 ((i : Int) - 1)).toNat)).f_Minute)) false) (some 10) none) := by
  unfold seaStep
  cases i with
  | zero => cases ins (mk m 0).f_Minute 0 1000000 <;> cases ins (mk m 0).f_Level (-1000000) 1000000 <;> rfl
  | succ k =>
    have e : w64 (((k + 1 : Nat) : Int) - 1) = (k : Int) := by rw [w64_eq (by omega) (by omega)]; omega
    have e2 : decide (((k + 1 : Nat) : Int) > 0) = true := by rw [decide_eq_true_eq]; omega
    rw [e, e2, toNat_nat, Nat.add_sub_cancel, show decide (0 < k + 1) = true by simp]
    cases ins (mk m (k + 1)).f_Minute 0 1000000 <;> cases ins (mk m (k + 1)).f_Level (-1000000) 1000000 <;> rfl
theorem prev_bd {m : List Tapi_Mark} (hl : m.length ≤ 400) {i : Nat} (hi : i < m.length) : decide ((i : Int) > 0) = true → 0 ≤ w64 ((i : Int) - 1) ∧ w64 ((i : Int) - 1) < ((m.length : Nat) : Int) := by
  intro h
  have := of_decide_eq_true h
  rw [w64_eq (by omega) (by omega)]; omega
theorem checkSea_eq {N : Nat} (hN : 400 < N) (m : List Tapi_Mark) : g_water_CheckSea N m = some (seaCode m) := by
  unfold g_water_CheckSea seaCode
  cases h : decide (((m.length : Nat) : Int) > 400)
  · have hl : m.length ≤ 400 := by simp at h; omega
    rw [cond_false, cond_false]
    refine loop_scan0 (L := fun fuel => g_water_CheckSea_L1 N m fuel) _ _ (by omega) (fun fuel i hi => ?_) (fun fuel => ?_)
    · rw [seaLoop hl hi]
      simp only [g_water_CheckSea_L1, dec_lt hi, cond_true, if_pos (inb hi), toNat_nat, between_eq, Option.bind_some, if_pos (prev_bd hl hi), w64_succ (show i < 9223372036854775807 by omega)]
      unfold mk
      cases ins (m.getD i Tapi_Mark.d).f_Minute 0 1000000
      · rfl
      · simp only [Bool.not_true, Bool.not_false, cond_true, cond_false, Option.bind_some]
        cases ins (m.getD i Tapi_Mark.d).f_Level (-1000000) 1000000
        · rfl
        · simp only [Bool.not_true, cond_false]
          cases cond (decide ((i : Int) > 0)) (decide ((m.getD i Tapi_Mark.d).f_Minute ≤ (m.getD (w64 ((i : Int) - 1)).toNat Tapi_Mark.d).f_Minute)) false <;> rfl
    · simp only [g_water_CheckSea_L1, dec_nlt, cond_false]
  · rfl
theorem refSea_eq {N : Nat} (hN : 400 < N) (m : List Tapi_Mark) : g_keelblockref05_CheckSea N m = some (seaCode m) := by
  unfold g_keelblockref05_CheckSea seaCode
  cases h : decide (((m.length : Nat) : Int) > 400)
  · have hl : m.length ≤ 400 := by simp at h; omega
    rw [cond_false, cond_false]
    refine loop_scan0 (L := fun fuel => g_keelblockref05_CheckSea_L1 N m fuel) _ _ (by omega) (fun fuel i hi => ?_) (fun fuel => ?_)
    · rw [seaLoop hl hi]
      simp only [g_keelblockref05_CheckSea_L1, dec_lt hi, cond_true, if_pos (inb hi), if_pos (fun _ => inb hi), toNat_nat, inside_eq, Option.bind_some, if_pos (prev_bd hl hi), w64_succ (show i < 9223372036854775807 by omega)]
      unfold mk
      cases ins (m.getD i Tapi_Mark.d).f_Minute 0 1000000
      · rfl
      · simp only [Bool.not_true, Bool.not_false, cond_true, cond_false, Option.bind_some]
        cases ins (m.getD i Tapi_Mark.d).f_Level (-1000000) 1000000
        · rfl
        · simp only [Bool.not_true, cond_false]
          cases cond (decide ((i : Int) > 0)) (decide ((m.getD i Tapi_Mark.d).f_Minute ≤ (m.getD (w64 ((i : Int) - 1)).toNat Tapi_Mark.d).f_Minute)) false <;> rfl
    · simp only [g_keelblockref05_CheckSea_L1, dec_nlt, cond_false]
  · rfl

structure SeaOk (m : List Tapi_Mark) : Prop where
  len : m.length ≤ 400
  min : ∀ i, i < m.length → 0 ≤ (mk m i).f_Minute ∧ (mk m i).f_Minute ≤ 1000000
  lev : ∀ i, i < m.length → -1000000 ≤ (mk m i).f_Level ∧ (mk m i).f_Level ≤ 1000000
  ord : ∀ i, i + 1 < m.length → (mk m i).f_Minute < (mk m (i + 1)).f_Minute
theorem sea_of {m : List Tapi_Mark} (h : seaCode m = 0) : SeaOk m := by
  unfold seaCode at h
  cases hd : decide (((m.length : Nat) : Int) > 400) <;> rw [hd] at h
  · simp only [cond_false] at h
    rcases scan_inv (f := seaStep m) (z := 0) m.length 0 with ⟨i, r, _, _, h3, _, h5⟩ | ⟨h1, _⟩
    · rw [h] at h5
      subst h5
      unfold seaStep at h3
      generalize (!(ins (mk m i).f_Minute 0 1000000 && ins (mk m i).f_Level (-1000000) 1000000)) = p at h3
      generalize (decide (0 < i) && decide ((mk m i).f_Minute ≤ (mk m (i - 1)).f_Minute)) = q at h3
      cases p <;> cases q <;> simp at h3
    · have hn : ∀ i, i < m.length → (ins (mk m i).f_Minute 0 1000000 && ins (mk m i).f_Level (-1000000) 1000000) = true ∧ (decide (0 < i) && decide ((mk m i).f_Minute ≤ (mk m (i - 1)).f_Minute)) = false := by
        intro i hi
        have h3 := h1 i (Nat.zero_le _) (by omega)
        unfold seaStep at h3
        generalize (ins (mk m i).f_Minute 0 1000000 && ins (mk m i).f_Level (-1000000) 1000000) = p at h3 ⊢
        generalize (decide (0 < i) && decide ((mk m i).f_Minute ≤ (mk m (i - 1)).f_Minute)) = q at h3 ⊢
        cases p <;> cases q <;> simp at h3 ⊢
      refine ⟨by have := of_decide_eq_false hd; omega, fun i hi => ins_iff.1 (Bool.and_eq_true_iff.1 (hn i hi).1).1, fun i hi => ins_iff.1 (Bool.and_eq_true_iff.1 (hn i hi).1).2, fun i hi => ?_⟩
      have := (hn (i + 1) hi).2
      simp at this
      exact this
  · cases h
theorem min_mono {m : List Tapi_Mark} (v : SeaOk m) {i : Nat} : ∀ j, i ≤ j → j < m.length → (mk m i).f_Minute ≤ (mk m j).f_Minute
  | 0, h, _ => by have : i = 0 := by omega
                  subst this; exact Int.le_refl _
  | j + 1, h, hj => by
    by_cases he : i = j + 1
    · subst he; exact Int.le_refl _
    · have := min_mono (i := i) v j (by omega) (by omega)
      have := v.ord j hj
      omega

/-- The place of the first mark behind a minute. -/
structure Pos (m : List Tapi_Mark) (t : Int) (p : Nat) : Prop where
  le : p ≤ m.length
  lo : ∀ j, j < p → (mk m j).f_Minute ≤ t
  hi : ∀ j, p ≤ j → j < m.length → t < (mk m j).f_Minute
theorem search_eq {N : Nat} {m : List Tapi_Mark} (v : SeaOk m) (hN : 400 < N) (t : Int) : ∃ p : Nat, g_sort_Search N ((m.length : Nat) : Int) m t = some (p : Int) ∧ Pos m t p := by
  have hl := v.len
  have key : ∀ k fuel (i j : Nat), j - i = k → k < fuel → i ≤ j → j ≤ m.length → (∀ q, q < i → (mk m q).f_Minute ≤ t) → (∀ q, j ≤ q → q < m.length → t < (mk m q).f_Minute) →
      ∃ p : Nat, g_sort_Search_L1 N m t fuel (i : Int) (j : Int) = some (p : Int) ∧ Pos m t p := by
    intro k
    induction k using Nat.strongRecOn with
    | ind k ih =>
      intro fuel i j hk hf hij hj h1 h2
      obtain ⟨f, rfl⟩ : ∃ f, fuel = f + 1 := ⟨fuel - 1, by omega⟩
      simp only [g_sort_Search_L1]
      by_cases hlt : i < j
      · have hm : w64 (shrI .u64 (IntKind.u64.wrap (w64 ((i : Int) + (j : Int)))) 1) = (((i + j) / 2 : Nat) : Int) := by
          rw [half_eq (by omega) (by omega)]; omega
        have hmid : (i + j) / 2 < m.length := by omega
        rw [dec_lt hlt, cond_true]
        rw [hm]
        generalize hmm : (i + j) / 2 = mid at hmid ⊢
        rw [show g_water_tide_1 N (mid : Int) m t = some (decide ((mk m mid).f_Minute > t)) by unfold g_water_tide_1; rw [if_pos (inb hmid)]; rfl]
        rw [Option.bind_some]
        by_cases hc : (mk m mid).f_Minute > t
        · rw [decide_eq_true hc, Bool.not_true, cond_false]
          exact ih (mid - i) (by omega) f i mid rfl (by omega) (by omega) (by omega) h1 (fun q hq hq2 => by have := min_mono (i := mid) v q hq hq2; omega)
        · rw [decide_eq_false hc, Bool.not_false, cond_true, w64_succ (by omega)]
          exact ih (j - (mid + 1)) (by omega) f (mid + 1) j rfl (by omega) (by omega) hj (fun q hq => by have := min_mono (i := q) v mid (by omega) hmid; omega) h2
      · rw [show decide ((i : Int) < (j : Int)) = false from decide_eq_false (by omega), cond_false]
        have : i = j := by omega
        subst this
        exact ⟨i, rfl, hj, h1, h2⟩
  unfold g_sort_Search
  exact key m.length N 0 m.length (by omega) (by omega) (by omega) (Nat.le_refl _) (fun q hq => absurd hq (Nat.not_lt_zero _)) (fun q hq hq2 => by omega)
theorem Pos.unique {m : List Tapi_Mark} {t : Int} {p q : Nat} (h : Pos m t p) (k : Pos m t q) : p = q := by
  rcases Nat.lt_trichotomy p q with hl | hl | hl
  · have h1 := k.lo p hl
    have h2 := h.hi p (Nat.le_refl _) (by have := k.le; omega)
    omega
  · exact hl
  · have h1 := h.lo q hl
    have h2 := k.hi q (Nat.le_refl _) (by have := h.le; omega)
    omega

theorem down_eq {a b : Int} (hb : 0 < b) (h1 : -1000000000000000000 ≤ a) (h2 : a ≤ 1000000000000000000) : cond (decide (a.tmod b < 0)) (w64 (w64 (a.tdiv b) - 1)) (w64 (a.tdiv b)) = a / b := by
  have hm := Int.mul_tdiv_add_tmod a b
  have l1 := Int.tmod_lt_of_pos a hb
  have l2 := Int.lt_tmod_of_pos a hb
  have hn := Int.natAbs_tdiv_le_natAbs a b
  by_cases hr : a.tmod b < 0
  · have e : a / b = a.tdiv b - 1 := ((Int.ediv_emod_unique (r := a.tmod b + b) hb).2 ⟨by rw [Int.mul_sub, Int.mul_one]; omega, by omega, by omega⟩).1
    rw [decide_eq_true hr, cond_true, w64_eq (n := a.tdiv b) (by omega) (by omega), w64_eq (by omega) (by omega), e]
  · have e : a / b = a.tdiv b := ((Int.ediv_emod_unique (r := a.tmod b) hb).2 ⟨by omega, by omega, by omega⟩).1
    rw [decide_eq_false hr, cond_false, w64_eq (n := a.tdiv b) (by omega) (by omega), e]
end Go.Den

namespace Go.Den
open Go.Ab
variable {m : List Tapi_Mark}

/-- The level of the sea at a minute, by the place of the next mark. -/
def line (m : List Tapi_Mark) (t : Int) (i : Nat) : Int :=
  (mk m (i - 1)).f_Level + ((mk m i).f_Level - (mk m (i - 1)).f_Level) * (t - (mk m (i - 1)).f_Minute) / ((mk m i).f_Minute - (mk m (i - 1)).f_Minute)
def seaAt (m : List Tapi_Mark) (t : Int) (p : Nat) : Int :=
  if p = 0 then (mk m 0).f_Level else if p = m.length then (mk m (p - 1)).f_Level else line m t p

theorem prod_bd {x y X Y : Int} (h1 : -X ≤ x) (h2 : x ≤ X) (h3 : 0 ≤ y) (h4 : y ≤ Y) : -(X * Y) ≤ x * y ∧ x * y ≤ X * Y := by
  have hX : 0 ≤ X := by omega
  constructor
  · have := Int.mul_le_mul (show -x ≤ X by omega) h4 h3 hX
    rw [Int.neg_mul] at this; omega
  · exact Int.mul_le_mul h2 h4 h3 hX
theorem div_bd {a b A : Int} (hb : 0 < b) (h1 : -A ≤ a) (h2 : a ≤ A) : -A ≤ a / b ∧ a / b ≤ A := by
  have hA : 0 ≤ A := by omega
  constructor
  · rw [Int.le_ediv_iff_mul_le hb]
    have := Int.mul_le_mul_of_nonneg_left (show 1 ≤ b by omega) hA
    rw [Int.neg_mul]; omega
  · have : a / b < A + 1 := by
      rw [Int.ediv_lt_iff_lt_mul hb, Int.add_mul]
      have := Int.mul_le_mul_of_nonneg_left (show 1 ≤ b by omega) hA
      omega
    omega

/-- What the program computes between two marks. -/
theorem line_eq (v : SeaOk m) {t : Int} {i : Nat} (hi0 : 0 < i) (hi : i < m.length) (h1 : (mk m (i - 1)).f_Minute ≤ t) (h2 : t ≤ (mk m i).f_Minute) :
    w64 ((mk m i).f_Level - (mk m (i - 1)).f_Level) = (mk m i).f_Level - (mk m (i - 1)).f_Level ∧ w64 (t - (mk m (i - 1)).f_Minute) = t - (mk m (i - 1)).f_Minute ∧
    w64 ((mk m i).f_Minute - (mk m (i - 1)).f_Minute) = (mk m i).f_Minute - (mk m (i - 1)).f_Minute ∧ 0 < (mk m i).f_Minute - (mk m (i - 1)).f_Minute ∧
    w64 (((mk m i).f_Level - (mk m (i - 1)).f_Level) * (t - (mk m (i - 1)).f_Minute)) = ((mk m i).f_Level - (mk m (i - 1)).f_Level) * (t - (mk m (i - 1)).f_Minute) ∧
    -1000000000000000000 ≤ ((mk m i).f_Level - (mk m (i - 1)).f_Level) * (t - (mk m (i - 1)).f_Minute) ∧ ((mk m i).f_Level - (mk m (i - 1)).f_Level) * (t - (mk m (i - 1)).f_Minute) ≤ 1000000000000000000 ∧
    w64 ((mk m (i - 1)).f_Level + ((mk m i).f_Level - (mk m (i - 1)).f_Level) * (t - (mk m (i - 1)).f_Minute) / ((mk m i).f_Minute - (mk m (i - 1)).f_Minute)) = line m t i := by
  have a1 := v.min i hi
  have a2 := v.min (i - 1) (by omega)
  have a3 := v.lev i hi
  have a4 := v.lev (i - 1) (by omega)
  have a5 := v.ord (i - 1) (by omega)
  rw [show i - 1 + 1 = i by omega] at a5
  have hp := prod_bd (x := (mk m i).f_Level - (mk m (i - 1)).f_Level) (y := t - (mk m (i - 1)).f_Minute) (X := 2000000) (Y := 1000000) (by omega) (by omega) (by omega) (by omega)
  have hd := div_bd (a := ((mk m i).f_Level - (mk m (i - 1)).f_Level) * (t - (mk m (i - 1)).f_Minute)) (b := (mk m i).f_Minute - (mk m (i - 1)).f_Minute) (A := 2000000000000) (by omega) (by omega) (by omega)
  refine ⟨w64_eq (by omega) (by omega), w64_eq (by omega) (by omega), w64_eq (by omega) (by omega), by omega, w64_eq (by omega) (by omega), by omega, by omega, ?_⟩
  unfold line
  exact w64_eq (by omega) (by omega)

theorem tide_eq {N : Nat} (hN : 400 < N) (v : SeaOk m) (h0 : 0 < m.length) (t : Int) : ∃ p, Pos m t p ∧ g_water_tide N m t = some (seaAt m t p) := by
  obtain ⟨p, h1, hp⟩ := search_eq v hN t
  have hl := v.len
  have hpl := hp.le
  refine ⟨p, hp, ?_⟩
  unfold g_water_tide seaAt
  rw [h1, Option.bind_some]
  by_cases hp0 : p = 0
  · subst hp0
    rw [show (((0 : Nat) : Int) == 0) = true from rfl, cond_true, if_pos (show 0 ≤ (0 : Int) ∧ 0 < ((m.length : Nat) : Int) by omega), if_pos rfl]; rfl
  · have e0 : ((p : Int) == 0) = false := by simpa using hp0
    have ep : w64 ((p : Int) - 1) = ((p - 1 : Nat) : Int) := by rw [w64_eq (by omega) (by omega)]; omega
    have hpb : 0 ≤ ((p - 1 : Nat) : Int) ∧ ((p - 1 : Nat) : Int) < ((m.length : Nat) : Int) := by omega
    rw [e0, cond_false, ep, if_neg hp0]
    by_cases hpe : p = m.length
    · have e1 : ((p : Int) == ((m.length : Nat) : Int)) = true := by simp; omega
      rw [e1, cond_true, if_pos hpb, if_pos hpe]; rfl
    · have e1 : ((p : Int) == ((m.length : Nat) : Int)) = false := by simp; omega
      have hpi : 0 ≤ (p : Int) ∧ (p : Int) < ((m.length : Nat) : Int) := by omega
      obtain ⟨l1, l2, l3, l4, l5, l6, l7, l8⟩ := line_eq v (t := t) (i := p) (by omega) (by omega) (hp.lo _ (by omega)) (by have := hp.hi p (Nat.le_refl _) (by omega); omega)
      rw [e1, cond_false, if_pos hpb, if_pos hpi, if_neg hpe]
      simp only [toNat_nat]
      change (if w64 ((mk m p).f_Minute - (mk m (p - 1)).f_Minute) ≠ 0 then
        cond (decide ((w64 (w64 ((mk m p).f_Level - (mk m (p - 1)).f_Level) * w64 (t - (mk m (p - 1)).f_Minute))).tmod (w64 ((mk m p).f_Minute - (mk m (p - 1)).f_Minute)) < 0))
          (g_water_tide_J1 N m (p : Int) (w64 (w64 ((w64 (w64 ((mk m p).f_Level - (mk m (p - 1)).f_Level) * w64 (t - (mk m (p - 1)).f_Minute))).tdiv (w64 ((mk m p).f_Minute - (mk m (p - 1)).f_Minute))) - 1)))
          (g_water_tide_J1 N m (p : Int) (w64 ((w64 (w64 ((mk m p).f_Level - (mk m (p - 1)).f_Level) * w64 (t - (mk m (p - 1)).f_Minute))).tdiv (w64 ((mk m p).f_Minute - (mk m (p - 1)).f_Minute)))))
        else none) = _
      rw [l1, l2, l3, l5, if_pos (show _ ≠ _ by omega)]
      have hd := down_eq l4 l6 l7
      have push : ∀ (q : Bool) (x y : Int), cond q (g_water_tide_J1 N m (p : Int) x) (g_water_tide_J1 N m (p : Int) y) = g_water_tide_J1 N m (p : Int) (cond q x y) := fun q x y => by cases q <;> rfl
      rw [push, hd]
      unfold g_water_tide_J1
      rw [ep, toNat_nat]
      exact congrArg some l8

theorem line_end (v : SeaOk m) {i : Nat} (hi0 : 0 < i) (hi : i < m.length) : line m (mk m i).f_Minute i = (mk m i).f_Level := by
  have a5 := v.ord (i - 1) (by omega)
  rw [show i - 1 + 1 = i by omega] at a5
  unfold line
  rw [Int.mul_ediv_cancel _ (by omega)]; omega
theorem line_start {i : Nat} {t : Int} (h : t = (mk m (i - 1)).f_Minute) : line m t i = (mk m (i - 1)).f_Level := by
  unfold line
  rw [h, Int.sub_self, Int.mul_zero, Int.zero_ediv, Int.add_zero]
theorem at_eq {N : Nat} (hN : 400 < N) (v : SeaOk m) (h0 : 0 < m.length) {t : Int} {p : Nat} (hp : Pos m t p) : g_keelblockref05_At N m t = some (seaAt m t p) := by
  have hl := v.len
  unfold g_keelblockref05_At
  rw [if_pos (show 0 ≤ (0 : Int) ∧ 0 < ((m.length : Nat) : Int) by omega)]
  change cond (decide (t ≤ (mk m 0).f_Minute)) (some (mk m 0).f_Level) _ = _
  by_cases ht : t ≤ (mk m 0).f_Minute
  · rw [decide_eq_true ht, cond_true]
    unfold seaAt
    by_cases hp0 : p = 0
    · rw [if_pos hp0]
    · have he : t = (mk m 0).f_Minute := by have := hp.lo 0 (by omega); omega
      have hp1 : p = 1 := by
        rcases Nat.lt_trichotomy p 1 with h | h | h
        · omega
        · exact h
        · have := hp.lo 1 (by omega)
          have := v.ord 0 (by have := hp.le; omega)
          simp only [Nat.zero_add] at this
          omega
      subst hp1
      rw [if_neg (by omega)]
      split
      · rfl
      · rw [line_start he]
  · rw [decide_eq_false ht, cond_false]
    have key : ∀ d i fuel, i + d = m.length → d < fuel → 0 < i → (∀ j, j < i → (mk m j).f_Minute < t) → g_keelblockref05_At_L1 N m t fuel (i : Int) = some (seaAt m t p) := by
      intro d
      induction d with
      | zero =>
        intro i fuel h hf hi hb
        obtain ⟨f, rfl⟩ : ∃ f, fuel = f + 1 := ⟨fuel - 1, by omega⟩
        have : i = m.length := by omega
        subst this
        have ep : w64 (((m.length : Nat) : Int) - 1) = ((m.length - 1 : Nat) : Int) := by rw [w64_eq (by omega) (by omega)]; omega
        simp only [g_keelblockref05_At_L1, dec_nlt, cond_false, ep, if_pos (inb (show m.length - 1 < m.length by omega)), toNat_nat]
        have hpe : p = m.length := by
          rcases Nat.lt_or_ge p m.length with h | h
          · have := hp.hi p (Nat.le_refl _) h
            have := hb p h
            omega
          · have := hp.le; omega
        unfold seaAt
        rw [if_neg (by omega), if_pos hpe, hpe]; rfl
      | succ d ih =>
        intro i fuel h hf hi hb
        obtain ⟨f, rfl⟩ : ∃ f, fuel = f + 1 := ⟨fuel - 1, by omega⟩
        have hil : i < m.length := by omega
        have ep : w64 ((i : Int) - 1) = ((i - 1 : Nat) : Int) := by rw [w64_eq (by omega) (by omega)]; omega
        simp only [g_keelblockref05_At_L1, dec_lt hil, cond_true, if_pos (inb hil), toNat_nat, ep, if_pos (inb (show i - 1 < m.length by omega)), w64_succ (show i < 9223372036854775807 by omega)]
        by_cases hc : t ≤ (mk m i).f_Minute
        · have hc' : t ≤ (m.getD i Tapi_Mark.d).f_Minute := hc
          rw [decide_eq_true hc', cond_true]
          obtain ⟨l1, l2, l3, l4, l5, l6, l7, l8⟩ := line_eq v (t := t) (i := i) hi hil (by have := hb (i - 1) (by omega); omega) hc
          have hfd : g_keelblockref05_floorDiv N (((mk m i).f_Level - (mk m (i - 1)).f_Level) * (t - (mk m (i - 1)).f_Minute)) ((mk m i).f_Minute - (mk m (i - 1)).f_Minute) = some ((((mk m i).f_Level - (mk m (i - 1)).f_Level) * (t - (mk m (i - 1)).f_Minute)) / ((mk m i).f_Minute - (mk m (i - 1)).f_Minute)) := by
            unfold g_keelblockref05_floorDiv
            rw [if_pos (by omega), ← down_eq l4 l6 l7]
            unfold g_keelblockref05_floorDiv_J1
            rw [cond_some]
          change (g_keelblockref05_floorDiv N (w64 (w64 ((mk m i).f_Level - (mk m (i - 1)).f_Level) * w64 (t - (mk m (i - 1)).f_Minute))) (w64 ((mk m i).f_Minute - (mk m (i - 1)).f_Minute))).bind (fun r => some (w64 ((mk m (i - 1)).f_Level + r))) = _
          rw [l1, l2, l3, l5, hfd, Option.bind_some, l8]
          congr 1
          unfold seaAt
          rcases Int.lt_or_eq_of_le hc with hlt | heq
          · have hpi : p = i := hp.unique ⟨Nat.le_of_lt hil, fun j hj => by have := hb j hj; omega, fun j hj hj2 => by have := min_mono (i := i) v j hj hj2; omega⟩
            rw [if_neg (by omega), if_neg (by omega), hpi]
          · have hpi : p = i + 1 := hp.unique ⟨hil, fun j hj => by have := min_mono (i := j) v i (by omega) hil; omega, fun j hj hj2 => by have := min_mono (i := i + 1) v j hj hj2; have := v.ord i (by omega); omega⟩
            rw [heq, line_end v hi hil, if_neg (by omega), hpi]
            split
            · rfl
            · rw [line_start (by rfl)]; rfl
        · have hc' : ¬ t ≤ (m.getD i Tapi_Mark.d).f_Minute := hc
          rw [decide_eq_false hc', cond_false]
          exact ih (i + 1) f (by omega) (by omega) (by omega) (fun j hj => by
            by_cases hji : j = i
            · subst hji; omega
            · exact hb j (by omega))
    exact key (m.length - 1) 1 N (by omega) (by omega) (by omega) (fun j hj => by
      have : j = 0 := by omega
      subst this
      omega)

/-! ### High waters -/
def lv (m : List Tapi_Mark) (i : Nat) : Int := (mk m i).f_Level
/-- Whether the plateau that begins with the mark i ends lower, or with the last mark. -/
def fallsB (m : List Tapi_Mark) (i k j : Nat) : Bool := scan (fun q => cond (lv m q != lv m i) (some (decide (lv m q < lv m i))) none) true k j
def peakB (m : List Tapi_Mark) (i : Nat) : Bool := !(decide (0 < i) && decide (lv m i ≤ lv m (i - 1))) && fallsB m i (m.length - i) i
def highs (m : List Tapi_Mark) : Nat → Nat → List Tapi_Mark
  | 0, _ => []
  | k + 1, i => cond (peakB m i) (mk m i :: highs m k (i + 1)) (highs m k (i + 1))
theorem highs_len (m : List Tapi_Mark) : ∀ k i, (highs m k i).length ≤ k
  | 0, _ => Nat.le_refl _
  | k + 1, i => by
    unfold highs
    have := highs_len m k (i + 1)
    cases peakB m i
    · simp only [cond_false]; omega
    · simp only [cond_true, List.length_cons]; omega
theorem getD_drop {α : Type} (l : List α) (n i j : Nat) (d : α) (hn : l.length ≤ n) : ((l.take n).drop i).getD j d = l.getD (i + j) d := by
  rw [List.take_of_length_le hn]
  simp [List.getD_eq_getElem?_getD]
theorem idx_falls (m : List Tapi_Mark) (i : Nat) : ∀ (k j : Nat), 
    (scan (fun q => cond (lv m (i + q) != lv m i) (some (q : Int)) none) (-1) k j = -1 ∧ fallsB m i k (i + j) = true) ∨
      ∃ q : Nat, scan (fun q => cond (lv m (i + q) != lv m i) (some (q : Int)) none) (-1) k j = (q : Int) ∧ q < j + k ∧ fallsB m i k (i + j) = decide (lv m (i + q) < lv m i)
  | 0, j => .inl ⟨rfl, rfl⟩
  | k + 1, j => by
    have ih := idx_falls m i k (j + 1)
    unfold fallsB at ih ⊢
    rw [scan, scan]
    cases lv m (i + j) != lv m i
    · rcases ih with ⟨h1, h2⟩ | ⟨q, h1, h2, h3⟩
      · exact .inl ⟨h1, h2⟩
      · exact .inr ⟨q, h1, by omega, h3⟩
    · exact .inr ⟨j, rfl, by omega, rfl⟩

theorem indexMark_eq {N : Nat} (hN : 400 < N) (hl : m.length ≤ 400) {i : Nat} (hi : i < m.length) : g_slices_IndexFunc_api_Mark_api_Mark N ((m.take m.length).drop i) (mk m i) = some (scan (fun q => cond (lv m (i + q) != lv m i) (some (q : Int)) none) (-1) (m.length - i) 0) := by
  have hlen : ((m.take m.length).drop i).length = m.length - i := by simp
  unfold g_slices_IndexFunc_api_Mark_api_Mark
  refine loop_scan0 (L := fun fuel => g_slices_IndexFunc_api_Mark_api_Mark_L1 N ((m.take m.length).drop i) (mk m i) fuel) _ _ (by omega) (fun fuel k hk => ?_) (fun fuel => ?_)
  · simp only [g_slices_IndexFunc_api_Mark_api_Mark_L1, hlen, dec_lt hk, cond_true, if_pos (inb hk), w64_succ (show k < 9223372036854775807 by omega), toNat_nat, getD_drop m m.length i k _ (Nat.le_refl _), g_water_HighWaters_1, Option.bind_some]
    change cond (lv m (i + k) != lv m i) _ _ = _
    cases lv m (i + k) != lv m i <;> rfl
  · simp only [g_slices_IndexFunc_api_Mark_api_Mark_L1, hlen, dec_nlt, cond_false]

theorem high_eq {N : Nat} (hN : 400 < N) (v : SeaOk m) : g_water_HighWaters_L1 N m N [] 0 = some (highs m m.length 0, 0) := by
  have hl := v.len
  have key : ∀ d i fuel (out : List Tapi_Mark), i + d = m.length → d < fuel → out.length ≤ i → g_water_HighWaters_L1 N m fuel out (i : Int) = some (out ++ highs m d i, 0) := by
    intro d
    induction d with
    | zero =>
      intro i fuel out h hf ho
      obtain ⟨f, rfl⟩ : ∃ f, fuel = f + 1 := ⟨fuel - 1, by omega⟩
      have : i = m.length := by omega
      subst this
      simp only [g_water_HighWaters_L1, dec_nlt, cond_false, highs, List.append_nil]
    | succ d ih =>
      intro i fuel out h hf ho
      obtain ⟨f, rfl⟩ : ∃ f, fuel = f + 1 := ⟨fuel - 1, by omega⟩
      have hi : i < m.length := by omega
      have e1 : cond (decide ((i : Int) > 0)) (decide ((m.getD i Tapi_Mark.d).f_Level ≤ (m.getD (w64 ((i : Int) - 1)).toNat Tapi_Mark.d).f_Level)) false = (decide (0 < i) && decide (lv m i ≤ lv m (i - 1))) := by
        cases i with
        | zero => rfl
        | succ k =>
          have e : w64 (((k + 1 : Nat) : Int) - 1) = (k : Int) := by rw [w64_eq (by omega) (by omega)]; omega
          rw [e, decide_eq_true (show ((k + 1 : Nat) : Int) > 0 by omega), decide_eq_true (show 0 < k + 1 by omega)]; rfl
      simp only [g_water_HighWaters_L1, dec_lt hi, cond_true, if_pos (inb hi), toNat_nat, if_pos (prev_bd hl hi), e1, g_water_HighWaters_J2, w64_succ (show i < 9223372036854775807 by omega)]
      rw [highs]
      unfold peakB
      cases (decide (0 < i) && decide (lv m i ≤ lv m (i - 1)))
      · simp only [cond_false, Bool.not_false, Bool.true_and]
        rw [if_pos ⟨Nat.le_of_lt hi, Nat.le_refl _⟩, if_pos (Int.natCast_nonneg _)]
        have hix := indexMark_eq hN hl hi
        unfold mk at hix
        rw [hix, Option.bind_some]
        rcases idx_falls m i (m.length - i) 0 with ⟨f1, f2⟩ | ⟨q, f1, f3, f2⟩
        · rw [f1]
          rw [Nat.add_zero] at f2
          rw [f2, show decide ((-1 : Int) < 0) = true from rfl]
          simp only [Bool.not_true, Bool.false_eq_true, false_implies, if_true, cond_true]
          rw [if_pos (by omega), ih (i + 1) f _ (by omega) (by omega) (by simp; omega), List.append_assoc]; rfl
        · have hw : w64 ((i : Int) + (q : Int)) = ((i + q : Nat) : Int) := by rw [w64_eq (by omega) (by omega)]; omega
          rw [f1, hw]
          rw [Nat.add_zero] at f2
          rw [f2, show decide ((q : Int) < 0) = false from decide_eq_false (by omega)]
          simp only [Bool.not_false, forall_const, cond_false, toNat_nat]
          rw [if_pos (inb (show i + q < m.length by omega))]
          change cond (decide (lv m (i + q) < lv m i)) _ _ = some (out ++ cond (decide (lv m (i + q) < lv m i)) _ _, 0)
          cases decide (lv m (i + q) < lv m i)
          · simp only [cond_false]; exact ih (i + 1) f _ (by omega) (by omega) (by omega)
          · simp only [cond_true]
            rw [if_pos (by omega), ih (i + 1) f _ (by omega) (by omega) (by simp; omega), List.append_assoc]; rfl
      · simp only [cond_true, Bool.not_true, Bool.false_and, cond_false]
        exact ih (i + 1) f _ (by omega) (by omega) (by omega)
  have := key m.length 0 N [] (by omega) (by omega) (by simp)
  simpa using this
theorem refHigh_eq {N : Nat} (hN : 400 < N) (v : SeaOk m) : g_keelblockref05_HighWaters_L1 N m N [] 0 = some (highs m m.length 0) := by
  have hl := v.len
  have key : ∀ d i fuel (out : List Tapi_Mark), i + d = m.length → d < fuel → out.length ≤ i → g_keelblockref05_HighWaters_L1 N m fuel out (i : Int) = some (out ++ highs m d i) := by
    intro d
    induction d with
    | zero =>
      intro i fuel out h hf ho
      obtain ⟨f, rfl⟩ : ∃ f, fuel = f + 1 := ⟨fuel - 1, by omega⟩
      have : i = m.length := by omega
      subst this
      simp only [g_keelblockref05_HighWaters_L1, dec_nlt, cond_false, highs, List.append_nil]
    | succ d ih =>
      intro i fuel out h hf ho
      obtain ⟨f, rfl⟩ : ∃ f, fuel = f + 1 := ⟨fuel - 1, by omega⟩
      have hi : i < m.length := by omega
      have e1 : cond (decide ((i : Int) > 0)) (decide ((m.getD (w64 ((i : Int) - 1)).toNat Tapi_Mark.d).f_Level ≥ (m.getD i Tapi_Mark.d).f_Level)) false = (decide (0 < i) && decide (lv m i ≤ lv m (i - 1))) := by
        cases i with
        | zero => rfl
        | succ k =>
          have e : w64 (((k + 1 : Nat) : Int) - 1) = (k : Int) := by rw [w64_eq (by omega) (by omega)]; omega
          rw [e, decide_eq_true (show ((k + 1 : Nat) : Int) > 0 by omega), decide_eq_true (show 0 < k + 1 by omega)]; rfl
      have inner : ∀ e j fu, j + e = m.length → e < fu → g_keelblockref05_HighWaters_L3 N m out (i : Int) (g_keelblockref05_HighWaters_L1 N m f) fu (j : Int) = some (out ++ cond (fallsB m i e j) (mk m i :: highs m d (i + 1)) (highs m d (i + 1))) := by
        intro e
        induction e with
        | zero =>
          intro j fu hj hfu
          obtain ⟨g, rfl⟩ : ∃ g, fu = g + 1 := ⟨fu - 1, by omega⟩
          have : j = m.length := by omega
          subst this
          simp only [g_keelblockref05_HighWaters_L3, dec_nlt, Bool.false_eq_true, false_implies, if_true, cond_false, beq_self_eq_true, Bool.not_true, cond_true, if_pos (inb hi), toNat_nat, g_keelblockref05_HighWaters_J2, w64_succ (show i < 9223372036854775807 by omega)]
          rw [if_pos (by omega), ih (i + 1) f _ (by omega) (by omega) (by simp; omega), List.append_assoc]; rfl
        | succ e ihe =>
          intro j fu hj hfu
          obtain ⟨g, rfl⟩ : ∃ g, fu = g + 1 := ⟨fu - 1, by omega⟩
          have hjl : j < m.length := by omega
          have hne : (((j : Nat) : Int) == ((m.length : Nat) : Int)) = false := by simp; omega
          simp only [g_keelblockref05_HighWaters_L3, dec_lt hjl, hne, forall_const, if_pos (inb hjl), if_pos (inb hi), if_pos (fun _ => inb hjl), if_pos (fun _ => inb hi), cond_true, cond_false, toNat_nat, g_keelblockref05_HighWaters_J2, w64_succ (show i < 9223372036854775807 by omega), w64_succ (show j < 9223372036854775807 by omega), Bool.not_false]
          change cond (lv m j == lv m i) _ (cond (decide (lv m j < lv m i)) _ _) = _
          unfold fallsB
          rw [scan]
          have hb : (lv m j != lv m i) = !(lv m j == lv m i) := rfl
          rw [hb]
          cases lv m j == lv m i
          · simp only [cond_false, Bool.not_false, cond_true]
            cases decide (lv m j < lv m i)
            · simp only [cond_false]; exact ih (i + 1) f _ (by omega) (by omega) (by omega)
            · simp only [cond_true]
              rw [if_pos (by omega), ih (i + 1) f _ (by omega) (by omega) (by simp; omega), List.append_assoc]; rfl
          · simp only [cond_true, Bool.not_true, cond_false]
            have := ihe (j + 1) g (by omega) (by omega)
            unfold fallsB at this
            exact this
      simp only [g_keelblockref05_HighWaters_L1, dec_lt hi, cond_true, if_pos (fun _ => inb hi), toNat_nat, if_pos (prev_bd hl hi), e1, g_keelblockref05_HighWaters_J2, w64_succ (show i < 9223372036854775807 by omega)]
      rw [highs]
      unfold peakB
      cases (decide (0 < i) && decide (lv m i ≤ lv m (i - 1)))
      · simp only [cond_false, Bool.not_false, Bool.true_and]
        rw [inner d (i + 1) N (by omega) (by omega)]
        have e2 : fallsB m i (m.length - i) i = fallsB m i d (i + 1) := by
          rw [show m.length - i = d + 1 by omega]
          unfold fallsB
          rw [scan]
          simp
        rw [e2]
      · simp only [cond_true, Bool.not_true, Bool.false_and, cond_false]
        exact ih (i + 1) f _ (by omega) (by omega) (by omega)
  have := key m.length 0 N [] (by omega) (by omega) (by simp)
  simpa using this
end Go.Den

namespace Go.Den
open Go.Ab

/-- The volume below a level in the parts from m on. -/
def volS (b : Tapi_Basin) (l : Int) : Nat → Nat → Int
  | 0, _ => 0
  | k + 1, m => (ar b m).f_Size * max 0 ((if m + 1 < b.f_Areas.length then min l (ar b (m + 1)).f_From else l) - (ar b m).f_From) + volS b l k (m + 1)
def vol (b : Tapi_Basin) (l : Int) : Int := volS b l b.f_Areas.length 0

theorem mul_bd {a c A C : Int} (h1 : 0 ≤ a) (h2 : a ≤ A) (h3 : 0 ≤ c) (h4 : c ≤ C) : 0 ≤ a * c ∧ a * c ≤ A * C :=
  ⟨Int.mul_nonneg h1 h3, Int.mul_le_mul h2 h4 h3 (Int.le_trans h1 h2)⟩

theorem volS_bd {b : Tapi_Basin} (v : Valid b) {l : Int} (h1 : -1000000 ≤ l) (h2 : l ≤ 1000001) : ∀ k m, m + k = b.f_Areas.length → 0 ≤ volS b l k m ∧ volS b l k m ≤ 2000001000000 * k
  | 0, m, _ => ⟨Int.le_refl _, by simp [volS]⟩
  | k + 1, m, h => by
    have ih := volS_bd v h1 h2 k (m + 1) (by omega)
    have hs := v.sz m (by omega)
    have hf := v.frm m (by omega)
    unfold volS
    generalize ht : (if m + 1 < b.f_Areas.length then min l (ar b (m + 1)).f_From else l) = t
    have ht2 : t ≤ 1000001 := by rw [← ht]; split <;> omega
    have := mul_bd (a := (ar b m).f_Size) (c := max 0 (t - (ar b m).f_From)) (A := 1000000) (C := 2000001) (by omega) hs.2 (by omega) (by omega)
    omega

theorem volume_eq {N : Nat} (hN : 20 < N) {b : Tapi_Basin} (v : Valid b) {l : Int} (h1 : -1000000 ≤ l) (h2 : l ≤ 1000001) : g_water_volume N b l = some (vol b l) := by
  have key : ∀ k m fuel (s : Int), m + k = b.f_Areas.length → k < fuel → 0 ≤ s → s ≤ 2000001000000 * m → g_water_volume_L1 N b l fuel s (m : Int) = some (s + volS b l k m) := by
    intro k
    induction k with
    | zero =>
      intro m fuel s h hf hs1 hs2
      obtain ⟨f, rfl⟩ : ∃ f, fuel = f + 1 := ⟨fuel - 1, by omega⟩
      have : m = b.f_Areas.length := by omega
      subst this
      simp only [g_water_volume_L1, dec_nlt, cond_false, volS, Int.add_zero]
    | succ k ih =>
      intro m fuel s h hf hs1 hs2
      obtain ⟨f, rfl⟩ : ∃ f, fuel = f + 1 := ⟨fuel - 1, by omega⟩
      have hm : m < b.f_Areas.length := by omega
      have hv := v.len
      have hsz := v.sz m hm
      have hfr := v.frm m hm
      have step : ∀ t : Int, -1000000 ≤ t → t ≤ 1000001 → t = (if m + 1 < b.f_Areas.length then min l (ar b (m + 1)).f_From else l) →
          g_water_volume_J2 N b l s (m : Int) (g_water_volume_L1 N b l f) t = some (s + volS b l (k + 1) m) := by
        intro t ht1 ht2 ht
        unfold g_water_volume_J2
        rw [toNat_nat]
        change g_water_volume_L1 N b l f (w64 (s + w64 ((ar b m).f_Size * (if w64 (t - (ar b m).f_From) > 0 then w64 (t - (ar b m).f_From) else 0)))) (w64 ((m : Int) + 1)) = _
        rw [w64_eq (n := t - (ar b m).f_From) (by omega) (by omega)]
        have e : (if t - (ar b m).f_From > 0 then t - (ar b m).f_From else 0) = max 0 (t - (ar b m).f_From) := by split <;> omega
        rw [e]
        have hb := mul_bd (a := (ar b m).f_Size) (c := max 0 (t - (ar b m).f_From)) (A := 1000000) (C := 2000001) (by omega) hsz.2 (by omega) (by omega)
        rw [w64_eq (n := (ar b m).f_Size * _) (by omega) (by omega), w64_eq (n := s + _) (by omega) (by omega), w64_succ (show m < 9223372036854775807 by omega),
          ih (m + 1) f _ (by omega) (by omega) (by omega) (by omega)]
        congr 1
        rw [volS, ← ht]
        omega
      simp only [g_water_volume_L1, dec_lt hm, cond_true, if_pos (inb hm), w64_succ (show m < 9223372036854775807 by omega)]
      by_cases hm1 : m + 1 < b.f_Areas.length
      · simp only [dec_lt hm1, cond_true, if_pos (inb hm1), toNat_nat]
        change g_water_volume_J2 N b l s (m : Int) _ (if (ar b (m + 1)).f_From < l then (ar b (m + 1)).f_From else l) = _
        have hfr1 := v.frm (m + 1) hm1
        refine step _ ?_ ?_ ?_
        · split <;> omega
        · split <;> omega
        · rw [if_pos hm1]; split <;> omega
      · have hd : decide (((m + 1 : Nat) : Int) < ((b.f_Areas.length : Nat) : Int)) = false := by rw [decide_eq_false_iff_not]; omega
        simp only [hd, cond_false]
        exact step l h1 h2 (by rw [if_neg hm1])
  have := key b.f_Areas.length 0 N 0 (by omega) (by have := v.len; omega) (by omega) (by omega)
  unfold g_water_volume vol
  rw [Int.zero_add] at this
  exact this

theorem below_eq {N : Nat} (hN : 20 < N) {b : Tapi_Basin} (v : Valid b) {l : Int} (h1 : -1000000 ≤ l) (h2 : l ≤ 1000001) : g_keelblockref05_Below N b l = some (vol b l) := by
  have key : ∀ k m fuel (s : Int), m + k = b.f_Areas.length → k < fuel → 0 ≤ s → s ≤ 2000001000000 * m → g_keelblockref05_Below_L1 N b l fuel s (m : Int) = some (s + volS b l k m) := by
    intro k
    induction k with
    | zero =>
      intro m fuel s h hf hs1 hs2
      obtain ⟨f, rfl⟩ : ∃ f, fuel = f + 1 := ⟨fuel - 1, by omega⟩
      have : m = b.f_Areas.length := by omega
      subst this
      simp only [g_keelblockref05_Below_L1, dec_nlt, cond_false, volS, Int.add_zero]
    | succ k ih =>
      intro m fuel s h hf hs1 hs2
      obtain ⟨f, rfl⟩ : ∃ f, fuel = f + 1 := ⟨fuel - 1, by omega⟩
      have hm : m < b.f_Areas.length := by omega
      have hv := v.len
      have hsz := v.sz m hm
      have hfr := v.frm m hm
      have step : ∀ t : Int, -1000000 ≤ t → t ≤ 1000001 → t = (if m + 1 < b.f_Areas.length then min l (ar b (m + 1)).f_From else l) →
          g_keelblockref05_Below_J2 N b l s (m : Int) (g_keelblockref05_Below_L1 N b l f) t = some (s + volS b l (k + 1) m) := by
        intro t ht1 ht2 ht
        unfold g_keelblockref05_Below_J2 g_keelblockref05_Below_J3
        rw [toNat_nat, if_pos (inb hm)]
        change cond (decide (t > (ar b m).f_From)) (g_keelblockref05_Below_L1 N b l f (w64 (s + w64 ((ar b m).f_Size * w64 (t - (ar b m).f_From)))) (w64 ((m : Int) + 1))) (g_keelblockref05_Below_L1 N b l f s (w64 ((m : Int) + 1))) = _
        rw [w64_succ (show m < 9223372036854775807 by omega), w64_eq (n := t - (ar b m).f_From) (by omega) (by omega)]
        by_cases hgt : t > (ar b m).f_From
        · have hb := mul_bd (a := (ar b m).f_Size) (c := t - (ar b m).f_From) (A := 1000000) (C := 2000001) (by omega) hsz.2 (by omega) (by omega)
          rw [decide_eq_true hgt, cond_true, w64_eq (n := (ar b m).f_Size * _) (by omega) (by omega), w64_eq (n := s + _) (by omega) (by omega), ih (m + 1) f _ (by omega) (by omega) (by omega) (by omega)]
          congr 1
          rw [volS, ← ht, show max 0 (t - (ar b m).f_From) = t - (ar b m).f_From by omega]
          omega
        · rw [decide_eq_false hgt, cond_false, ih (m + 1) f _ (by omega) (by omega) (by omega) (by omega)]
          congr 1
          rw [volS, ← ht, show max 0 (t - (ar b m).f_From) = 0 by omega]
          simp
      simp only [g_keelblockref05_Below_L1, dec_lt hm, cond_true, w64_succ (show m < 9223372036854775807 by omega)]
      by_cases hm1 : m + 1 < b.f_Areas.length
      · simp only [dec_lt hm1, cond_true, if_pos (inb hm1), toNat_nat]
        change g_keelblockref05_Below_J2 N b l s (m : Int) _ (if (ar b (m + 1)).f_From < l then (ar b (m + 1)).f_From else l) = _
        have hfr1 := v.frm (m + 1) hm1
        refine step _ ?_ ?_ ?_
        · split <;> omega
        · split <;> omega
        · rw [if_pos hm1]; split <;> omega
      · have hd : decide (((m + 1 : Nat) : Int) < ((b.f_Areas.length : Nat) : Int)) = false := by rw [decide_eq_false_iff_not]; omega
        simp only [hd, cond_false]
        exact step l h1 h2 (by rw [if_neg hm1])
  have := key b.f_Areas.length 0 N 0 (by omega) (by have := v.len; omega) (by omega) (by omega)
  unfold g_keelblockref05_Below vol
  rw [Int.zero_add] at this
  exact this
end Go.Den

namespace Go.Den
open Go.Ab
variable {b : Tapi_Basin}

def topR (b : Tapi_Basin) (m : Nat) : Int := if m + 1 < b.f_Areas.length then (ar b (m + 1)).f_From else b.f_Rim
def pre (b : Tapi_Basin) : Nat → Int
  | 0 => 0
  | m + 1 => pre b m + (ar b m).f_Size * (topR b m - (ar b m).f_From)
theorem from_mono (v : Valid b) {i : Nat} : ∀ j, i ≤ j → j < b.f_Areas.length → (ar b i).f_From ≤ (ar b j).f_From
  | 0, h, _ => by have : i = 0 := by omega
                  subst this; exact Int.le_refl _
  | j + 1, h, hj => by
    by_cases he : i = j + 1
    · subst he; exact Int.le_refl _
    · have := from_mono (i := i) v j (by omega) (by omega)
      have := v.ord j hj
      omega
theorem vol_tail {l : Int} (v : Valid b) : ∀ k m, m + k = b.f_Areas.length → (0 < k → l ≤ (ar b m).f_From) → volS b l k m = 0
  | 0, m, _, _ => rfl
  | k + 1, m, h, hl => by
    have hl := hl (by omega)
    unfold volS
    have ih := vol_tail (l := l) v k (m + 1) (by omega) (fun hk => by have := v.ord m (by omega); omega)
    rw [ih]
    generalize ht : (if m + 1 < b.f_Areas.length then min l (ar b (m + 1)).f_From else l) = t
    have : t ≤ l := by rw [← ht]; split <;> omega
    rw [show max 0 (t - (ar b m).f_From) = 0 by omega]; simp
theorem vol_head {l : Int} (v : Valid b) {m : Nat} (hm : m < b.f_Areas.length) (hl : (ar b m).f_From ≤ l) : ∀ d j, j + d = m → volS b l (b.f_Areas.length - j) j = pre b m - pre b j + volS b l (b.f_Areas.length - m) m
  | 0, j, h => by
    have : j = m := by omega
    subst this; omega
  | d + 1, j, h => by
    have ih := vol_head v hm hl d (j + 1) (by omega)
    obtain ⟨k, hk⟩ : ∃ k, b.f_Areas.length - j = k + 1 := ⟨b.f_Areas.length - j - 1, by omega⟩
    have hk2 : b.f_Areas.length - (j + 1) = k := by omega
    rw [hk, volS, ← hk2, ih, pre, topR, if_pos (show j + 1 < b.f_Areas.length by omega), if_pos (show j + 1 < b.f_Areas.length by omega)]
    have h1 := from_mono v m (show j + 1 ≤ m by omega) hm
    have h2 := v.ord j (by omega)
    rw [show min l (ar b (j + 1)).f_From = (ar b (j + 1)).f_From by omega, show max 0 ((ar b (j + 1)).f_From - (ar b j).f_From) = (ar b (j + 1)).f_From - (ar b j).f_From by omega]
    omega
theorem vol_at {l : Int} (v : Valid b) {m : Nat} (hm : m < b.f_Areas.length) (hl : (ar b m).f_From ≤ l) (hl2 : m + 1 < b.f_Areas.length → l ≤ (ar b (m + 1)).f_From) :
    vol b l = pre b m + (ar b m).f_Size * (l - (ar b m).f_From) := by
  have h1 := vol_head v hm hl m 0 (by omega)
  obtain ⟨k, hk⟩ : ∃ k, b.f_Areas.length - m = k + 1 := ⟨b.f_Areas.length - m - 1, by omega⟩
  have h2 := vol_tail (l := l) v k (m + 1) (by omega) (fun h => hl2 (by omega))
  rw [hk, volS, h2] at h1
  have e : (if m + 1 < b.f_Areas.length then min l (ar b (m + 1)).f_From else l) = l := by
    split
    · rename_i h; have := hl2 h; omega
    · rfl
  rw [e, show max 0 (l - (ar b m).f_From) = l - (ar b m).f_From by omega] at h1
  unfold vol
  rw [Nat.sub_zero] at h1
  rw [h1, pre]; omega
theorem part_of {l : Int} (v : Valid b) (hl : (ar b 0).f_From ≤ l) : ∃ m, m < b.f_Areas.length ∧ (ar b m).f_From ≤ l ∧ (m + 1 < b.f_Areas.length → l < (ar b (m + 1)).f_From) := by
  have key : ∀ d m, m + d = b.f_Areas.length → m < b.f_Areas.length → (ar b m).f_From ≤ l → ∃ m, m < b.f_Areas.length ∧ (ar b m).f_From ≤ l ∧ (m + 1 < b.f_Areas.length → l < (ar b (m + 1)).f_From) := by
    intro d
    induction d with
    | zero => intro m h1 h2; omega
    | succ d ih =>
      intro m h1 h2 h3
      by_cases h : m + 1 < b.f_Areas.length ∧ (ar b (m + 1)).f_From ≤ l
      · exact ih (m + 1) (by omega) h.1 h.2
      · exact ⟨m, h2, h3, fun hh => by omega⟩
  exact key b.f_Areas.length 0 (by omega) (by have := v.len; omega) hl
theorem vol_succ {l : Int} (v : Valid b) (hl : (ar b 0).f_From ≤ l) : vol b l < vol b (l + 1) := by
  obtain ⟨m, h1, h2, h3⟩ := part_of v hl
  rw [vol_at v h1 h2 (fun h => by have := h3 h; omega), vol_at v h1 (show (ar b m).f_From ≤ l + 1 by omega) (fun h => by have := h3 h; omega)]
  have := v.sz m h1
  have e : (ar b m).f_Size * (l + 1 - (ar b m).f_From) = (ar b m).f_Size * (l - (ar b m).f_From) + (ar b m).f_Size := by
    rw [show l + 1 - (ar b m).f_From = (l - (ar b m).f_From) + 1 by omega, Int.mul_add, Int.mul_one]
  omega
theorem vol_mono {l : Int} (v : Valid b) (hl : (ar b 0).f_From ≤ l) : ∀ d : Nat, vol b l ≤ vol b (l + d)
  | 0 => by simp
  | d + 1 => by
    have h1 := vol_mono v hl d
    have h2 := vol_succ (l := l + d) v (by omega)
    rw [show l + ((d + 1 : Nat) : Int) = l + d + 1 by omega]; omega
theorem vol_le {l l' : Int} (v : Valid b) (hl : (ar b 0).f_From ≤ l) (h : l ≤ l') : vol b l ≤ vol b l' := by
  have := vol_mono v hl (l' - l).toNat
  rwa [show l + ((l' - l).toNat : Int) = l' by omega] at this
theorem vol_lt {l l' : Int} (v : Valid b) (hl : (ar b 0).f_From ≤ l) (h : l < l') : vol b l < vol b l' := by
  have := vol_le (l := l + 1) (l' := l') v (by omega) (by omega)
  have := vol_succ v hl
  omega
theorem vol_floor (v : Valid b) : vol b (ar b 0).f_From = 0 := by
  rw [vol_at v (show 0 < b.f_Areas.length by have := v.len; omega) (Int.le_refl _) (fun h => by have := v.ord 0 h; omega)]
  simp [pre]
theorem floor_lt (v : Valid b) : (ar b 0).f_From < b.f_Rim := by
  have := v.len
  have := from_mono v (b.f_Areas.length - 1) (Nat.zero_le _) (by omega)
  have := v.rim
  omega

/-- L is the level of the volume w. -/
structure Lev (b : Tapi_Basin) (w L : Int) : Prop where
  lo : (ar b 0).f_From ≤ L
  hi : L ≤ b.f_Rim
  le : vol b L ≤ w
  gt : L < b.f_Rim → w < vol b (L + 1)
theorem Lev.unique (v : Valid b) {w L L' : Int} (h : Lev b w L) (h' : Lev b w L') : L = L' := by
  have key : ∀ {L L' : Int}, Lev b w L → Lev b w L' → ¬ L < L' := by
    intro L L' h h' hlt
    have h1 := h.gt (by have := h'.hi; omega)
    have h2 := vol_le (l := L + 1) (l' := L') v (by have := h.lo; omega) (by omega)
    have h3 := h'.le
    omega
  have := key h h'
  have := key h' h
  omega
theorem top_bd (v : Valid b) {m : Nat} (hm : m < b.f_Areas.length) : (ar b m).f_From < topR b m ∧ topR b m ≤ 1000000 := by
  unfold topR
  split
  · rename_i h; exact ⟨v.ord m h, (v.frm _ h).2⟩
  · have : m = b.f_Areas.length - 1 := by omega
    subst this; exact v.rim
theorem top_le_rim (v : Valid b) {m : Nat} (hm : m < b.f_Areas.length) : topR b m ≤ b.f_Rim := by
  unfold topR
  split
  · rename_i h
    have := from_mono v (b.f_Areas.length - 1) (show m + 1 ≤ b.f_Areas.length - 1 by omega) (by omega)
    have := v.rim
    omega
  · exact Int.le_refl _
theorem vol_rim (v : Valid b) : vol b b.f_Rim = pre b b.f_Areas.length := by
  have := v.len
  obtain ⟨k, hk⟩ : ∃ k, b.f_Areas.length = k + 1 := ⟨b.f_Areas.length - 1, by omega⟩
  have hr := v.rim
  rw [show b.f_Areas.length - 1 = k by omega] at hr
  rw [vol_at v (show k < b.f_Areas.length by omega) (by omega) (fun h => by omega), hk, pre, topR, if_neg (by omega)]

theorem levelOf_eq {N : Nat} (hN : 20 < N) (v : Valid b) {w : Int} (h1 : 0 ≤ w) (h2 : w ≤ vol b b.f_Rim) : ∃ L, g_water_levelOf N b w = some L ∧ Lev b w L := by
  have hw : vol b b.f_Rim ≤ 40000020000000 := by
    have hr := v.rim
    have := volS_bd v (l := b.f_Rim) (by have := floor_lt v; have := v.frm 0 (by have := v.len; omega); omega) (by omega) b.f_Areas.length 0 (by omega)
    have := v.len
    unfold vol; omega
  have hrim := floor_lt v
  have hlen := v.len
  have key : ∀ k m fuel (r lev : Int), m + k = b.f_Areas.length → k < fuel → 0 ≤ r → w = pre b m + r → r ≤ w → (0 < k → lev = (ar b m).f_From) → (k = 0 → lev = b.f_Rim) →
      ∃ L, g_water_levelOf_L1 N b fuel r lev (m : Int) = some L ∧ Lev b w L := by
    intro k
    induction k with
    | zero =>
      intro m fuel r lev h hf hr hp hrw _ hlev
      obtain ⟨f, rfl⟩ : ∃ f, fuel = f + 1 := ⟨fuel - 1, by omega⟩
      have : m = b.f_Areas.length := by omega
      subst this
      have hlev := hlev rfl
      subst hlev
      simp only [g_water_levelOf_L1, dec_nlt, cond_false]
      exact ⟨_, rfl, by omega, by omega, by rw [vol_rim v]; omega, by omega⟩
    | succ k ih =>
      intro m fuel r lev h hf hr hp hrw hlev _
      obtain ⟨f, rfl⟩ : ∃ f, fuel = f + 1 := ⟨fuel - 1, by omega⟩
      have hm : m < b.f_Areas.length := by omega
      have hlev := hlev (by omega)
      subst hlev
      have hsz := v.sz m hm
      have hfr := v.frm m hm
      have htb := top_bd v hm
      have htr := top_le_rim v hm
      have h0 := from_mono v m (Nat.zero_le _) hm
      have step : ∃ L, g_water_levelOf_J2 N b r (m : Int) (g_water_levelOf_L1 N b f) (topR b m) = some L ∧ Lev b w L := by
        unfold g_water_levelOf_J2
        rw [toNat_nat]
        change ∃ L, cond (decide (r < w64 ((ar b m).f_Size * w64 (topR b m - (ar b m).f_From)))) (if ((ar b m).f_Size : Int) ≠ 0 then some (w64 ((ar b m).f_From + w64 (r.tdiv (ar b m).f_Size))) else none)
          (g_water_levelOf_L1 N b f (w64 (r - w64 ((ar b m).f_Size * w64 (topR b m - (ar b m).f_From)))) (topR b m) (w64 ((m : Int) + 1))) = some L ∧ Lev b w L
        have hb := mul_bd (a := (ar b m).f_Size) (c := topR b m - (ar b m).f_From) (A := 1000000) (C := 2000001) (by omega) hsz.2 (by omega) (by omega)
        rw [w64_eq (n := topR b m - _) (by omega) (by omega), w64_eq (n := (ar b m).f_Size * _) (by omega) (by omega), w64_succ (show m < 9223372036854775807 by omega)]
        by_cases hlt : r < (ar b m).f_Size * (topR b m - (ar b m).f_From)
        · have hs0 : (ar b m).f_Size ≠ 0 := by omega
          have hq := Int.mul_ediv_add_emod r (ar b m).f_Size
          have hq1 := Int.emod_nonneg r hs0
          have hq2 := Int.emod_lt_of_pos r (show 0 < (ar b m).f_Size by omega)
          have hq3 : 0 ≤ r / (ar b m).f_Size := Int.ediv_nonneg hr (by omega)
          have hq4 : r / (ar b m).f_Size < topR b m - (ar b m).f_From := by
            apply Int.ediv_lt_of_lt_mul (by omega)
            rw [Int.mul_comm]; exact hlt
          rw [decide_eq_true hlt, cond_true, if_pos hs0, Int.tdiv_eq_ediv_of_nonneg hr, w64_eq (n := r / _) (by omega) (by omega), w64_eq (n := (ar b m).f_From + _) (by omega) (by omega)]
          generalize r / (ar b m).f_Size = q at *
          have hL : ∀ l : Int, l = q ∨ l = q + 1 → vol b ((ar b m).f_From + l) = pre b m + (ar b m).f_Size * l := by
            intro l hl
            rw [vol_at v hm (by omega) (fun hh => by unfold topR at hq4; rw [if_pos hh] at hq4; omega)]
            congr 2; omega
          refine ⟨_, rfl, by omega, by omega, ?_, fun _ => ?_⟩
          · rw [hL q (.inl rfl)]; omega
          · rw [Int.add_assoc, hL (q + 1) (.inr rfl), Int.mul_add, Int.mul_one]; omega
        · rw [decide_eq_false hlt, cond_false, w64_eq (n := r - _) (by omega) (by omega)]
          refine ih (m + 1) f _ _ (by omega) (by omega) (by omega) (by rw [pre]; omega) (by omega) (fun hk => ?_) (fun hk => ?_)
          · unfold topR; rw [if_pos (by omega)]
          · unfold topR; rw [if_neg (by omega)]
      simp only [g_water_levelOf_L1, dec_lt hm, cond_true, if_pos (inb hm), w64_succ (show m < 9223372036854775807 by omega)]
      by_cases hm1 : m + 1 < b.f_Areas.length
      · simp only [dec_lt hm1, cond_true, if_pos (inb hm1), toNat_nat]
        unfold topR at step
        rw [if_pos hm1] at step
        exact step
      · have hd : decide (((m + 1 : Nat) : Int) < ((b.f_Areas.length : Nat) : Int)) = false := by rw [decide_eq_false_iff_not]; omega
        simp only [hd, cond_false]
        unfold topR at step
        rw [if_neg hm1] at step
        exact step
  unfold g_water_levelOf g_water_floor
  rw [if_pos (show 0 ≤ (0 : Int) ∧ 0 < ((b.f_Areas.length : Nat) : Int) by omega)]
  exact key b.f_Areas.length 0 N w _ (by omega) (by omega) h1 (by simp [pre]) (Int.le_refl _) (fun _ => rfl) (fun h => by omega)

theorem refLevelOf_eq {N : Nat} (hN : 2000001 < N) (v : Valid b) {w : Int} (h1 : 0 ≤ w) : ∃ L, g_keelblockref05_LevelOf N b w = some L ∧ Lev b w L := by
  have hfl := v.frm 0 (by have := v.len; omega)
  have hrim := v.rim
  have key : ∀ k fuel (lo hi : Int), (hi - lo).toNat = k → k < fuel → (ar b 0).f_From ≤ lo → lo ≤ hi → hi ≤ b.f_Rim → vol b lo ≤ w → (hi < b.f_Rim → w < vol b (hi + 1)) → ∃ L, g_keelblockref05_LevelOf_L1 N b w fuel lo hi = some L ∧ Lev b w L := by
    intro k
    induction k using Nat.strongRecOn with
    | ind k ih =>
      intro fuel lo hi hk hf hl hlh hh hv hg
      obtain ⟨f, rfl⟩ : ∃ f, fuel = f + 1 := ⟨fuel - 1, by omega⟩
      simp only [g_keelblockref05_LevelOf_L1]
      by_cases hlt : lo < hi
      · rw [decide_eq_true hlt, cond_true]
        rw [w64_eq (n := hi - lo) (by omega) (by omega), w64_eq (n := hi - lo + 1) (by omega) (by omega), Int.tdiv_eq_ediv_of_nonneg (by omega), w64_eq (n := (hi - lo + 1) / 2) (by omega) (by omega), w64_eq (n := lo + _) (by omega) (by omega)]
        generalize hmid : lo + (hi - lo + 1) / 2 = mid
        rw [below_eq (by omega) v (by omega) (by omega), Option.bind_some]
        by_cases hc : vol b mid ≤ w
        · rw [decide_eq_true hc, cond_true]
          exact ih (hi - mid).toNat (by omega) f mid hi rfl (by omega) (by omega) (by omega) hh hc hg
        · rw [decide_eq_false hc, cond_false, w64_eq (n := mid - 1) (by omega) (by omega)]
          exact ih (mid - 1 - lo).toNat (by omega) f lo (mid - 1) rfl (by omega) hl (by omega) (by omega) hv (fun _ => by rw [show mid - 1 + 1 = mid by omega]; omega)
      · rw [decide_eq_false hlt, cond_false]
        have : lo = hi := by omega
        subst this
        exact ⟨_, rfl, hl, hh, hv, hg⟩
  unfold g_keelblockref05_LevelOf g_keelblockref05_Floor
  rw [if_pos (show 0 ≤ (0 : Int) ∧ 0 < ((b.f_Areas.length : Nat) : Int) by have := v.len; omega)]
  have hfr := floor_lt v
  refine key _ N _ _ rfl ?_ (Int.le_refl _) (Int.le_of_lt hfr) (Int.le_refl _) ?_ (by omega)
  · change (b.f_Rim - (ar b 0).f_From).toNat < N; omega
  · change vol b (ar b 0).f_From ≤ w; rw [vol_floor v]; exact h1
end Go.Den

namespace Go.Den
open Go.Ab

theorem basinValid {b : Tapi_Basin} (h : basinCode b = 0) : Valid b := by
  unfold basinCode at h
  cases hn : nameOk b.f_Name <;> rw [hn] at h
  · cases h
  · exact valid_of h
theorem floor_eq (N : Nat) {b : Tapi_Basin} (v : Valid b) : g_water_floor N b = some (ar b 0).f_From := by
  unfold g_water_floor
  rw [if_pos (by have := v.len; omega)]; rfl
theorem refFloor_eq (N : Nat) {b : Tapi_Basin} (v : Valid b) : g_keelblockref05_Floor N b = some (ar b 0).f_From := by
  unfold g_keelblockref05_Floor
  rw [if_pos (by have := v.len; omega)]; rfl

def volR (b : Tapi_Basin) (l : Int) : Int × Int :=
  cond (basinCode b != 0) (0, basinCode b) (cond (!ins l (ar b 0).f_From b.f_Rim) (0, 2) (vol b l, 0))
theorem Volume_eq {N : Nat} (hN : 20 < N) (b : Tapi_Basin) (l : Int) : g_water_Volume N b l = some (volR b l) := by
  unfold g_water_Volume volR
  rw [checkBasin_eq hN, Option.bind_some]
  cases h : basinCode b != 0
  · have v := basinValid (b := b) (by simpa using h)
    have h0 := v.frm 0 (by have := v.len; omega)
    have hr := v.rim
    simp only [cond_false, floor_eq N v, Option.bind_some, between_eq]
    cases hi : ins l (ar b 0).f_From b.f_Rim
    · rfl
    · obtain ⟨i1, i2⟩ := ins_iff.1 hi
      simp only [Bool.not_true, cond_false]
      rw [volume_eq hN v (by omega) (by omega)]; rfl
  · rfl
theorem refVolume_eq {N : Nat} (hN : 20 < N) (b : Tapi_Basin) (l : Int) : g_keelblockref05_Volume N b l = some (volR b l) := by
  unfold g_keelblockref05_Volume volR
  rw [refBasin_eq hN, Option.bind_some]
  cases h : basinCode b != 0
  · have v := basinValid (b := b) (by simpa using h)
    have h0 := v.frm 0 (by have := v.len; omega)
    have hr := v.rim
    simp only [cond_false, refFloor_eq N v, Option.bind_some, inside_eq]
    cases hi : ins l (ar b 0).f_From b.f_Rim
    · rfl
    · obtain ⟨i1, i2⟩ := ins_iff.1 hi
      simp only [Bool.not_true, cond_false]
      rw [below_eq hN v (by omega) (by omega)]; rfl
  · rfl

/-- What Level returns. -/
def LevR (b : Tapi_Basin) (w : Int) (r : Int × Int) : Prop :=
  if basinCode b = 0 then (if 0 ≤ w ∧ w ≤ vol b b.f_Rim then r.2 = 0 ∧ Lev b w r.1 else r = (0, 2)) else r = (0, basinCode b)
theorem LevR.unique {b : Tapi_Basin} {w : Int} {r r' : Int × Int} (h : LevR b w r) (h' : LevR b w r') : r = r' := by
  unfold LevR at h h'
  split at h
  · rename_i h0
    rw [if_pos h0] at h'
    split at h
    · rename_i h1
      rw [if_pos h1] at h'
      have := h.2.unique (basinValid h0) h'.2
      exact Prod.ext this (h.1.trans h'.1.symm)
    · rename_i h1
      rw [if_neg h1] at h'
      exact h.trans h'.symm
  · rename_i h0
    rw [if_neg h0] at h'
    exact h.trans h'.symm
theorem Level_eq {N : Nat} (hN : 20 < N) (b : Tapi_Basin) (w : Int) : ∃ r, g_water_Level N b w = some r ∧ LevR b w r := by
  unfold g_water_Level LevR
  rw [checkBasin_eq hN, Option.bind_some]
  by_cases h0 : basinCode b = 0
  · have v := basinValid h0
    have hf := v.frm 0 (by have := v.len; omega)
    have hr := v.rim
    have hr2 := floor_lt v
    rw [h0]
    simp only [bne_self_eq_false, cond_false, if_true]
    rw [volume_eq hN v (by omega) (by omega)]
    simp only [Option.bind_some, between_eq]
    cases hi : ins w 0 (vol b b.f_Rim)
    · exact ⟨_, rfl, by rw [if_neg (fun h => by rw [ins_iff.2 h] at hi; cases hi)]⟩
    · have hi := ins_iff.1 hi
      simp only [if_pos hi]
      obtain ⟨L, h1, h2⟩ := levelOf_eq hN v hi.1 hi.2
      simp only [Bool.not_true, cond_false, h1, Option.bind_some]
      exact ⟨_, rfl, rfl, h2⟩
  · have : (basinCode b != 0) = true := by simpa using h0
    rw [this]; exact ⟨_, rfl, by rw [if_neg h0]⟩
theorem refLevel_eq {N : Nat} (hN : 2000001 < N) (b : Tapi_Basin) (w : Int) : ∃ r, g_keelblockref05_Level N b w = some r ∧ LevR b w r := by
  unfold g_keelblockref05_Level LevR g_keelblockref05_Capacity
  rw [refBasin_eq (by omega), Option.bind_some]
  by_cases h0 : basinCode b = 0
  · have v := basinValid h0
    have hf := v.frm 0 (by have := v.len; omega)
    have hr := v.rim
    have hr2 := floor_lt v
    rw [h0]
    simp only [bne_self_eq_false, cond_false, if_true]
    rw [below_eq (by omega) v (by omega) (by omega)]
    simp only [Option.bind_some, inside_eq]
    cases hi : ins w 0 (vol b b.f_Rim)
    · exact ⟨_, rfl, by rw [if_neg (fun h => by rw [ins_iff.2 h] at hi; cases hi)]⟩
    · have hi := ins_iff.1 hi
      simp only [if_pos hi]
      obtain ⟨L, h1, h2⟩ := refLevelOf_eq hN v hi.1
      simp only [Bool.not_true, cond_false, h1, Option.bind_some]
      exact ⟨_, rfl, rfl, h2⟩
  · have : (basinCode b != 0) = true := by simpa using h0
    rw [this]; exact ⟨_, rfl, by rw [if_neg h0]⟩

def tubV : Tapi_Basin := ⟨⟨#[65]⟩, [⟨0, 100⟩, ⟨1000, 200⟩], 3000⟩
theorem tub_eq (N : Nat) : g_keelblocklaw05_tub N = some tubV := rfl
theorem tub_ok : basinCode tubV = 0 := by decide +kernel
theorem awake5_eq {N : Nat} (hN : 20 < N) : g_keelblocklaw05_awake N = some true := by
  unfold g_keelblocklaw05_awake
  rw [tub_eq, Option.bind_some, Volume_eq hN, Option.bind_some, Option.bind_some]
  obtain ⟨r, h1, h2⟩ := Level_eq hN tubV 100199
  have h3 : LevR tubV 100199 (1000, 0) := by
    unfold LevR
    rw [if_pos tub_ok, if_pos (by decide +kernel)]
    exact ⟨rfl, by decide +kernel, by decide +kernel, by decide +kernel, fun _ => by decide +kernel⟩
  have := h2.unique h3
  subst this
  rw [h1, Option.bind_some]
  rw [show volR tubV 1500 = (200000, 0) by decide +kernel]
  rfl
end Go.Den

namespace Go.Den
open Go.Ab

def tideR (m : List Tapi_Mark) (t : Int) (p : Nat) : Int × Int :=
  cond (seaCode m != 0) (0, seaCode m) (cond (!ins t 0 1000000) (0, 2) (cond (((m.length : Nat) : Int) == 0) (0, 29) (seaAt m t p, 0)))
theorem Tides_eq {N : Nat} (hN : 400 < N) (m : List Tapi_Mark) (t : Int) : ∃ r, g_water_Tide N m t = some r ∧ g_keelblockref05_Tide N m t = some r := by
  unfold g_water_Tide g_keelblockref05_Tide
  rw [checkSea_eq hN, refSea_eq hN]
  simp only [Option.bind_some, between_eq, inside_eq]
  cases h : seaCode m != 0
  · have v := sea_of (m := m) (by simpa using h)
    simp only [cond_false]
    cases ins t 0 1000000
    · exact ⟨_, rfl, rfl⟩
    · simp only [Bool.not_true, cond_false]
      cases h0 : ((m.length : Nat) : Int) == 0
      · have hl : 0 < m.length := by
          have : ((m.length : Nat) : Int) ≠ 0 := by simpa using h0
          omega
        obtain ⟨p, hp, h1⟩ := tide_eq hN v hl t
        rw [h1, at_eq hN v hl hp]
        exact ⟨_, rfl, rfl⟩
      · exact ⟨_, rfl, rfl⟩
  · exact ⟨_, rfl, rfl⟩

theorem waterTides_plain (m : List Tapi_Mark) (minute : Int) (_ : wL Tapi_Mark.wf m) (_ : wI minute) : ∃ N, g_keelblocklaw05_WaterTides N m minute = some true := by
  refine ⟨401, ?_⟩
  have hN : 400 < 401 := by omega
  unfold g_keelblocklaw05_WaterTides
  rw [awake5_eq (by omega)]
  simp only [Option.bind_some, Bool.not_true, cond_false]
  cases cond (decide (((m.length : Nat) : Int) > 40)) (decide (((m.length : Nat) : Int) ≤ 400)) false
  · obtain ⟨r, h1, h2⟩ := Tides_eq hN m minute
    unfold g_water_HighWaters g_keelblockref05_HighWaters
    rw [h1, h2, checkSea_eq hN, refSea_eq hN]
    simp only [Option.bind_some, cond_false]
    by_cases h0 : seaCode m = 0
    · have v := sea_of h0
      have hlen := highs_len m m.length 0
      have hl := v.len
      rw [h0, high_eq hN v, refHigh_eq hN v]
      simp only [bne_self_eq_false, cond_false, Option.bind_some]
      refine loop_none (L := fun fuel => g_keelblocklaw05_WaterTides_L1 401 (highs m m.length 0, 0) (highs m m.length 0) fuel) (some true) (show (highs m m.length 0).length < 401 by omega) (fun fuel i hi => ?_) (fun fuel => ?_)
      · simp only [g_keelblocklaw05_WaterTides_L1, dec_lt hi, cond_true, if_pos (inb hi), w64_succ (show i < 9223372036854775807 by omega), beq_self_eq_true, Bool.true_and, Bool.not_true, cond_false]
      · simp only [g_keelblocklaw05_WaterTides_L1, dec_nlt, cond_false]
    · have hb : (seaCode m != 0) = true := by simpa using h0
      rw [hb]
      simp only [cond_true, Option.bind_some, bne_self_eq_false, cond_false, hb]; rfl
  · rfl
end Go.Den
