/- The plain law: the Lean function of the law returns true for every input, and what it needs. No conditions. -/
import Derived.Test.YtnehpafecdmceaaWaterNetworksDen

set_option linter.unusedVariables false
set_option linter.unusedSimpArgs false
namespace Go.Den
open Go.Ab

theorem w64_def (n : Int) : w64 n = if n % 18446744073709551616 ≥ 9223372036854775808 then n % 18446744073709551616 - 18446744073709551616 else n % 18446744073709551616 := by
  have e : w64 n = (if (true && decide (n % 18446744073709551616 ≥ 9223372036854775808)) = true then n % 18446744073709551616 - 18446744073709551616 else n % 18446744073709551616) := rfl
  rw [e]; simp
theorem w64_eq {n : Int} (h1 : -9223372036854775808 ≤ n) (h2 : n ≤ 9223372036854775807) : w64 n = n := by
  rw [w64_def]; split <;> omega
theorem w64_nat {m : Nat} (h : m ≤ 9223372036854775807) : w64 (m : Int) = m := w64_eq (by omega) (by omega)
theorem w64_succ {m : Nat} (h : m < 9223372036854775807) : w64 ((m : Int) + 1) = ((m + 1 : Nat) : Int) := by rw [w64_eq (by omega) (by omega)]; simp

theorem toList_inj {a b : ByteArray} (h : a.toList = b.toList) : a = b := by
  have e : ∀ x : ByteArray, x.toList = x.data.toList := fun x => ByteArray.toList_eq x
  rw [e, e] at h
  cases a; cases b; simp_all [Array.toList_inj]
theorem streq_iff {a b : ByteArray} : streq a b = true ↔ a = b := by
  unfold streq; simp only [beq_iff_eq]
  exact ⟨toList_inj, fun h => h ▸ rfl⟩
theorem streq_comm (a b : ByteArray) : streq a b = streq b a := by
  rw [Bool.eq_iff_iff, streq_iff, streq_iff]; exact eq_comm

/-- The first answer of a row of questions, from m on, k of them; else z. -/
def scan {R : Type} (f : Nat → Option R) (z : R) : Nat → Nat → R
  | 0, _ => z
  | k + 1, m => match f m with
    | some r => r
    | none => scan f z k (m + 1)

theorem loop_scan {R : Type} {L : Nat → Int → Option R} (f : Nat → Option R) (z : R) {n : Nat}
    (hstep : ∀ fuel m, m < n → L (fuel + 1) (m : Int) = (match f m with | some r => some r | none => L fuel ((m + 1 : Nat) : Int)))
    (hend : ∀ fuel, L (fuel + 1) (n : Int) = some z) : ∀ k m fuel, m + k = n → k < fuel → L fuel (m : Int) = some (scan f z k m)
  | 0, m, fuel, h, hf => by
    obtain ⟨g, rfl⟩ : ∃ g, fuel = g + 1 := ⟨fuel - 1, by omega⟩
    have : m = n := by omega
    subst this; exact hend g
  | k + 1, m, fuel, h, hf => by
    obtain ⟨g, rfl⟩ : ∃ g, fuel = g + 1 := ⟨fuel - 1, by omega⟩
    rw [hstep g m (by omega)]
    unfold scan
    cases hfm : f m with
    | some r => rfl
    | none => exact loop_scan f z hstep hend k (m + 1) g (by omega) (by omega)

theorem loop_scan0 {R : Type} {L : Nat → Int → Option R} (f : Nat → Option R) (z : R) {n fuel : Nat} (hf : n < fuel)
    (hstep : ∀ fuel m, m < n → L (fuel + 1) (m : Int) = (match f m with | some r => some r | none => L fuel ((m + 1 : Nat) : Int)))
    (hend : ∀ fuel, L (fuel + 1) (n : Int) = some z) : L fuel 0 = some (scan f z n 0) :=
  loop_scan f z hstep hend n 0 fuel (by omega) hf

/-- As loop_scan0; at the end all questions have been answered with 'none'. -/
theorem loop_scanA {R : Type} {L : Nat → Int → R} (f : Nat → Option R) (z : R) {n fuel : Nat} (hf : n < fuel)
    (hstep : ∀ fuel m, m < n → (∀ i, i < m → f i = none) → L (fuel + 1) (m : Int) = (match f m with | some r => r | none => L fuel ((m + 1 : Nat) : Int)))
    (hend : (∀ i, i < n → f i = none) → ∀ fuel, L (fuel + 1) (n : Int) = z) : L fuel 0 = scan f z n 0 := by
  have key : ∀ k m fuel, m + k = n → k < fuel → (∀ i, i < m → f i = none) → L fuel (m : Int) = scan f z k m := by
    intro k
    induction k with
    | zero =>
      intro m fuel h hf hn
      obtain ⟨g, rfl⟩ : ∃ g, fuel = g + 1 := ⟨fuel - 1, by omega⟩
      have : m = n := by omega
      subst this; exact hend hn g
    | succ k ih =>
      intro m fuel h hf hn
      obtain ⟨g, rfl⟩ : ∃ g, fuel = g + 1 := ⟨fuel - 1, by omega⟩
      rw [hstep g m (by omega) hn]
      unfold scan
      cases hfm : f m with
      | some r => rfl
      | none =>
        refine ih (m + 1) g (by omega) (by omega) fun i hi => ?_
        by_cases him : i = m
        · subst him; exact hfm
        · exact hn i (by omega)
  exact key n 0 fuel (by omega) hf (fun i hi => absurd hi (Nat.not_lt_zero _))
theorem scan_map {R S : Type} (g : R → S) {f : Nat → Option R} {z : R} : ∀ (k m : Nat), scan (fun i => (f i).map g) (g z) k m = g (scan f z k m)
  | 0, _ => rfl
  | k + 1, m => by
    unfold scan
    cases f m with
    | some r => rfl
    | none => exact scan_map g k (m + 1)
theorem loop_scan0A {R : Type} {L : Nat → Int → Option R} (f : Nat → Option R) (z : R) {n fuel : Nat} (hf : n < fuel)
    (hstep : ∀ fuel m, m < n → (∀ i, i < m → f i = none) → L (fuel + 1) (m : Int) = (match f m with | some r => some r | none => L fuel ((m + 1 : Nat) : Int)))
    (hend : (∀ i, i < n → f i = none) → ∀ fuel, L (fuel + 1) (n : Int) = some z) : L fuel 0 = some (scan f z n 0) := by
  rw [← scan_map some]
  refine loop_scanA (fun i => (f i).map some) (some z) hf (fun g m hm hn => ?_) (fun hn => hend fun i hi => ?_)
  · have hn' : ∀ i, i < m → f i = none := fun i hi => by have := hn i hi; simpa using this
    rw [hstep g m hm hn']
    cases f m <;> rfl
  · have := hn i hi; simpa using this
theorem scan_congr {R : Type} {f g : Nat → Option R} {z : R} : ∀ (k m : Nat), (∀ i, m ≤ i → i < m + k → f i = g i) → scan f z k m = scan g z k m
  | 0, _, _ => rfl
  | k + 1, m, h => by
    unfold scan
    rw [h m (by omega) (by omega)]
    cases g m with
    | some r => rfl
    | none => exact scan_congr k (m + 1) fun i hi hi2 => h i (by omega) (by omega)

theorem scan_all {R : Type} {f : Nat → Option R} {z : R} : ∀ (k m : Nat), (∀ i, m ≤ i → i < m + k → f i = none) → scan f z k m = z
  | 0, _, _ => rfl
  | k + 1, m, h => by
    unfold scan
    rw [h m (by omega) (by omega)]
    exact scan_all k (m + 1) fun i hi hi2 => h i (by omega) (by omega)

theorem scan_inv {R : Type} {f : Nat → Option R} {z : R} : ∀ (k m : Nat), (∃ i r, m ≤ i ∧ i < m + k ∧ f i = some r ∧ (∀ j, m ≤ j → j < i → f j = none) ∧ scan f z k m = r) ∨ ((∀ i, m ≤ i → i < m + k → f i = none) ∧ scan f z k m = z)
  | 0, m => .inr ⟨fun i h1 h2 => by omega, rfl⟩
  | k + 1, m => by
    cases hm : f m with
    | some r => exact .inl ⟨m, r, Nat.le_refl _, by omega, hm, fun j h1 h2 => by omega, by unfold scan; rw [hm]⟩
    | none =>
      have e : scan f z (k + 1) m = scan f z k (m + 1) := by rw [scan, hm]
      rcases scan_inv (f := f) (z := z) k (m + 1) with ⟨i, r, h1, h2, h3, h4, h5⟩ | ⟨h1, h2⟩
      · refine .inl ⟨i, r, by omega, by omega, h3, fun j hj1 hj2 => ?_, e.trans h5⟩
        by_cases hj : j = m
        · subst hj; exact hm
        · exact h4 j (by omega) hj2
      · refine .inr ⟨fun i hi1 hi2 => ?_, e.trans h2⟩
        by_cases hj : i = m
        · subst hj; exact hm
        · exact h1 i (by omega) (by omega)

theorem loop_scanR {R : Type} {L : Nat → Int → R} (f : Nat → Option R) (z : R) {n : Nat}
    (hstep : ∀ fuel m, m < n → L (fuel + 1) (m : Int) = (match f m with | some r => r | none => L fuel ((m + 1 : Nat) : Int)))
    (hend : ∀ fuel, L (fuel + 1) (n : Int) = z) : ∀ k m fuel, m + k = n → k < fuel → L fuel (m : Int) = scan f z k m
  | 0, m, fuel, h, hf => by
    obtain ⟨g, rfl⟩ : ∃ g, fuel = g + 1 := ⟨fuel - 1, by omega⟩
    have : m = n := by omega
    subst this; exact hend g
  | k + 1, m, fuel, h, hf => by
    obtain ⟨g, rfl⟩ : ∃ g, fuel = g + 1 := ⟨fuel - 1, by omega⟩
    rw [hstep g m (by omega)]
    unfold scan
    cases hfm : f m with
    | some r => rfl
    | none => exact loop_scanR f z hstep hend k (m + 1) g (by omega) (by omega)
theorem loop_scanR0 {R : Type} {L : Nat → Int → R} (f : Nat → Option R) (z : R) {n fuel : Nat} (hf : n < fuel)
    (hstep : ∀ fuel m, m < n → L (fuel + 1) (m : Int) = (match f m with | some r => r | none => L fuel ((m + 1 : Nat) : Int)))
    (hend : ∀ fuel, L (fuel + 1) (n : Int) = z) : L fuel 0 = scan f z n 0 :=
  loop_scanR f z hstep hend n 0 fuel (by omega) hf
theorem loop_none {R : Type} {L : Nat → Int → R} (z : R) {n fuel : Nat} (hf : n < fuel) (hstep : ∀ fuel m, m < n → L (fuel + 1) (m : Int) = L fuel ((m + 1 : Nat) : Int))
    (hend : ∀ fuel, L (fuel + 1) (n : Int) = z) : L fuel 0 = z :=
  (loop_scanR0 (fun _ => none) z hf (fun g m hm => hstep g m hm) hend).trans (scan_all n 0 fun _ _ _ => rfl)
theorem scan_index {p : Nat → Bool} : ∀ (n m : Nat), decide (scan (fun k => cond (p k) (some (k : Int)) none) (-1) n m ≥ 0) = scan (fun k => cond (p k) (some true) none) false n m
  | 0, m => rfl
  | n + 1, m => by
    unfold scan
    cases p m with
    | true => simp
    | false => exact scan_index n (m + 1)
theorem scan_first {p : Nat → Bool} {i : Nat} (hi : p i = true) : ∀ (k m : Nat), m ≤ i → i < m + k → (scan (fun k => cond (p k) (some (k : Int)) none) (-1) k m != (i : Int)) = scan (fun k => cond (p k) (some true) none) false (i - m) m
  | 0, m, h1, h2 => by omega
  | k + 1, m, h1, h2 => by
    by_cases hm : m = i
    · subst hm
      rw [Nat.sub_self]
      unfold scan
      rw [hi]; simp
    · obtain ⟨j, hj⟩ : ∃ j, i - m = j + 1 := ⟨i - m - 1, by omega⟩
      rw [hj]
      cases hp : p m with
      | true =>
        unfold scan
        simp only [hp, cond_true]
        have : (m : Int) ≠ i := by omega
        simpa using this
      | false =>
        have e1 : scan (fun k => cond (p k) (some (k : Int)) none) (-1) (k + 1) m = scan (fun k => cond (p k) (some (k : Int)) none) (-1) k (m + 1) := by rw [scan]; simp only [hp, cond_false]
        have e2 : scan (fun k => cond (p k) (some true) none) false (j + 1) m = scan (fun k => cond (p k) (some true) none) false j (m + 1) := by rw [scan]; simp only [hp, cond_false]
        rw [e1, e2, scan_first hi k (m + 1) (by omega) (by omega)]
        congr 1; omega
theorem scan_bool {R : Type} {p : Nat → Bool} {a z : R} : ∀ (n m : Nat), scan (fun k => cond (p k) (some a) none) z n m = cond (scan (fun k => cond (p k) (some true) none) false n m) a z
  | 0, m => rfl
  | n + 1, m => by
    unfold scan
    cases p m with
    | true => rfl
    | false => exact scan_bool n (m + 1)
theorem bind_cond {α β : Type} (q : Bool) (a b : α) (f : α → Option β) : (cond q (some a) (some b)).bind f = f (cond q a b) := by cases q <;> rfl
theorem cond_some {α : Type} (q : Bool) (a b : α) : cond q (some a) (some b) = some (cond q a b) := by cases q <;> rfl
theorem getD_take {α : Type} (l : List α) (m k : Nat) (d : α) (h : k < m) : ((l.take m).drop 0).getD k d = l.getD k d := by
  simp [List.getD, h]
theorem drop_take_one {α : Type} (l : List α) (m : Nat) (d : α) (h : m < l.length) : (l.take (m + 1)).drop m = [l.getD m d] := by
  have e : (l.take (m + 1)).drop m = (l.drop m).take 1 := by rw [List.drop_take]; congr 1; omega
  rw [e, List.drop_eq_getElem_cons h, List.take_succ_cons, List.take_zero]
  simp [List.getD, h]
theorem getD_mem {α : Type} (l : List α) (m : Nat) (d : α) (h : m < l.length) : l.getD m d ∈ l := by
  simp [List.getD, h]
theorem sq_nonneg (x : Int) : 0 ≤ x * x := by
  by_cases h : 0 ≤ x
  · exact Int.mul_nonneg h h
  · have := Int.mul_nonneg (show 0 ≤ -x by omega) (show 0 ≤ -x by omega)
    rwa [Int.neg_mul_neg] at this
theorem sq_le {x M : Int} (h1 : -M ≤ x) (h2 : x ≤ M) : x * x ≤ M * M := by
  by_cases h : 0 ≤ x
  · exact Int.mul_le_mul h2 h2 h (by omega)
  · have := Int.mul_le_mul (show -x ≤ M by omega) (show -x ≤ M by omega) (by omega) (by omega)
    rwa [Int.neg_mul_neg] at this
theorem orI_nat {a b : Nat} (ha : a < 9223372036854775808) (hb : b < 9223372036854775808) : orI .i64 (a : Int) (b : Int) = ((a ||| b : Nat) : Int) := by
  have h : a ||| b < 2 ^ 63 := Nat.or_lt_two_pow (by omega) (by omega)
  have e : (BitVec.ofInt IntKind.i64.bits (a : Int) ||| BitVec.ofInt IntKind.i64.bits (b : Int)).toNat = a ||| b := by
    show (BitVec.ofInt 64 (a : Int) ||| BitVec.ofInt 64 (b : Int)).toNat = _
    rw [BitVec.ofInt_natCast, BitVec.ofInt_natCast, BitVec.toNat_or, BitVec.toNat_ofNat, BitVec.toNat_ofNat, Nat.mod_eq_of_lt (by omega), Nat.mod_eq_of_lt (by omega)]
  unfold orI
  rw [e]
  exact w64_nat (by omega)
theorem shlI_one {k : Nat} (hk : k < 63) : shlI .i64 1 (k : Int) = ((2 ^ k : Nat) : Int) := by
  have h : 2 ^ k < 2 ^ 63 := Nat.pow_lt_pow_right (by omega) hk
  have e : min ((k : Int).toNat) IntKind.i64.bits = k := by
    show min k 64 = k
    omega
  unfold shlI
  rw [e]
  have e2 : (1 : Int) * 2 ^ k = ((2 ^ k : Nat) : Int) := by simp
  rw [e2]
  exact w64_nat (by omega)

theorem toNat_nat (m : Nat) : ((m : Int)).toNat = m := rfl
theorem inb {m n : Nat} (h : m < n) : 0 ≤ (m : Int) ∧ (m : Int) < ((n : Nat) : Int) := ⟨by omega, by omega⟩
theorem dec_lt {m n : Nat} (h : m < n) : decide ((m : Int) < ((n : Nat) : Int)) = true := by simp; omega
theorem dec_nlt {n : Nat} : decide ((n : Int) < ((n : Nat) : Int)) = false := by simp
end Go.Den

namespace Go.Den
open Go.Ab

/-- A name that the document allows, as a loop over its bytes. -/
def nameBad (s : ByteArray) (m : Nat) : Bool :=
  cond (!(cond (cond (decide (byteAt s m ≥ 97)) (decide (byteAt s m ≤ 122)) false) true (cond (decide (byteAt s m ≥ 65)) (decide (byteAt s m ≤ 90)) false))) (cond ((m : Int) == 0) true (!(cond (cond (decide (byteAt s m ≥ 48)) (decide (byteAt s m ≤ 57)) false) true (byteAt s m == 45)))) false
def nameOk (s : ByteArray) : Bool :=
  cond (cond (streq s ByteArray.empty) true (decide (((s.size : Nat) : Int) > 12))) false (scan (fun m => cond (nameBad s m) (some false) none) true s.size 0)

theorem streq_empty (s : ByteArray) : streq s ByteArray.empty = decide (((s.size : Nat) : Int) < 1) := by
  rw [Bool.eq_iff_iff, streq_iff, decide_eq_true_eq]
  constructor
  · rintro rfl; decide
  · intro h
    have : s.size = 0 := by omega
    cases s with | mk d => 
    have : d.size = 0 := this
    simp [Array.size_eq_zero_iff.1 this]; rfl
theorem nameBad_eq (s : ByteArray) (m : Nat) : nameBad s m = cond (!(cond (cond (decide (byteAt s m ≥ 97)) (decide (byteAt s m ≤ 122)) false) true (cond (decide (byteAt s m ≥ 65)) (decide (byteAt s m ≤ 90)) false))) (cond ((m : Int) == 0) true (cond (byteAt s m != 45) (cond (decide (byteAt s m < 48)) true (decide (byteAt s m > 57))) false)) false := by
  unfold nameBad
  generalize byteAt s m = b
  rw [Bool.eq_iff_iff]
  simp [Bool.cond_eq_ite]
  omega
theorem bytesL_at (s : ByteArray) (m : Nat) (h : m < s.size) : (bytesL s).getD m 0 = byteAt s m := by
  have := bytesL_get s m (by rw [← bytesL_len]; exact h)
  simpa [cU] using this
end Go.Den

namespace Go.Den
open Go.Ab

theorem isName_eq {N : Nat} (hN : 12 < N) (s : ByteArray) : g_water_isName N s = some (nameOk s) := by
  unfold g_water_isName nameOk g_water_between
  rw [streq_empty, Option.bind_some]
  have e0 : (cond (decide (((s.size : Nat) : Int) < 1)) true (decide (((s.size : Nat) : Int) > 12))) = !(cond (decide (((s.size : Nat) : Int) ≥ 1)) (decide (((s.size : Nat) : Int) ≤ 12)) false) := by
    rw [Bool.eq_iff_iff]; simp [Bool.cond_eq_ite]
  rw [e0]
  cases h : (cond (decide (((s.size : Nat) : Int) ≥ 1)) (decide (((s.size : Nat) : Int) ≤ 12)) false)
  · rfl
  · have hs : s.size ≤ 12 := by
      simp [Bool.cond_eq_ite] at h; omega
    refine loop_scan0 (L := fun fuel => g_water_isName_L1 N s fuel) _ _ (by omega) (fun fuel m hm => ?_) (fun fuel => ?_)
    · have hl : m < (bytesL s).length := by rw [← bytesL_len]; exact hm
      simp only [g_water_isName_L1, dec_lt hm, cond_true, if_pos (inb hl), w64_succ (show m < 9223372036854775807 by omega), toNat_nat, bytesL_at s m hm]
      rw [← nameBad_eq]
      cases nameBad s m <;> rfl
    · simp only [g_water_isName_L1, dec_nlt, cond_false]
theorem IsName_eq {N : Nat} (hN : 12 < N) (s : ByteArray) : g_keelblockbase_IsName N s = some (nameOk s) := by
  unfold g_keelblockbase_IsName nameOk
  rw [streq_empty]
  cases h : cond (decide (((s.size : Nat) : Int) < 1)) true (decide (((s.size : Nat) : Int) > 12))
  · have hs : s.size ≤ 12 := by
      cases h2 : decide (((s.size : Nat) : Int) < 1) <;> rw [h2] at h <;> simp at h; omega
    refine loop_scan0 (L := fun fuel => g_keelblockbase_IsName_L1 N s fuel) _ _ (by omega) (fun fuel m hm => ?_) (fun fuel => ?_)
    · simp only [g_keelblockbase_IsName_L1, dec_lt hm, cond_true, if_pos (inb hm), w64_succ (show m < 9223372036854775807 by omega), toNat_nat]
      rw [← nameBad_eq]
      cases nameBad s m <;> rfl
    · simp only [g_keelblockbase_IsName_L1, dec_nlt, cond_false]
  · rfl

end Go.Den

namespace Go.Den
open Go.Ab

def ins (n lo hi : Int) : Bool := cond (decide (n ≥ lo)) (decide (n ≤ hi)) false
theorem ins_iff {n lo hi : Int} : ins n lo hi = true ↔ lo ≤ n ∧ n ≤ hi := by unfold ins; simp [Bool.cond_eq_ite]
theorem between_eq (N : Nat) (n lo hi : Int) : g_water_between N n lo hi = some (ins n lo hi) := rfl
theorem inside_eq (N : Nat) (n lo hi : Int) : g_keelblockref05_inside N n lo hi = some (ins n lo hi) := rfl

def ar (b : Tapi_Basin) (m : Nat) : Tapi_Area := b.f_Areas.getD m Tapi_Area.d
def areaStep (b : Tapi_Basin) (m : Nat) : Option Int :=
  cond (!(ins (ar b m).f_From (-1000000) 1000000 && ins (ar b m).f_Size 1 1000000)) (some 2) (cond (decide (0 < m) && decide ((ar b m).f_From ≤ (ar b (m - 1)).f_From)) (some 10) none)
def formCode (b : Tapi_Basin) : Int :=
  cond (!(ins (b.f_Areas.length : Int) 1 20)) 2 (scan (areaStep b) (cond (decide (b.f_Rim ≤ (ar b (b.f_Areas.length - 1)).f_From) || decide (b.f_Rim > 1000000)) 2 0) b.f_Areas.length 0)

theorem form_eq {N : Nat} (hN : 20 < N) (b : Tapi_Basin) : g_water_checkForm N b = some (formCode b) := by
  unfold g_water_checkForm formCode
  rw [between_eq, Option.bind_some]
  cases h : ins (b.f_Areas.length : Int) 1 20
  · rfl
  · obtain ⟨h1, h2⟩ := ins_iff.1 h
    simp only [Bool.not_true, cond_false]
    refine loop_scan0 (L := fun fuel => g_water_checkForm_L1 N b fuel) _ _ (by omega) (fun fuel m hm => ?_) (fun fuel => ?_)
    · simp only [g_water_checkForm_L1, dec_lt hm, cond_true, if_pos (inb hm), w64_succ (show m < 9223372036854775807 by omega), toNat_nat, between_eq, Option.bind_some]
      unfold areaStep ar
      cases h3 : ins (b.f_Areas.getD m Tapi_Area.d).f_From (-1000000) 1000000
      · rfl
      · simp only [Bool.not_true, Bool.not_false, cond_true, Option.bind_some, Bool.true_and, cond_false]
        cases h4 : ins (b.f_Areas.getD m Tapi_Area.d).f_Size 1 1000000
        · rfl
        · simp only [Bool.not_true, cond_false]
          cases m with
          | zero => rfl
          | succ k =>
            have e : w64 (((k + 1 : Nat) : Int) - 1) = (k : Int) := by rw [w64_eq (by omega) (by omega)]; omega
            rw [e, if_pos (fun _ => inb (show k < b.f_Areas.length by omega))]
            have e2 : decide (((k + 1 : Nat) : Int) > 0) = true := by rw [decide_eq_true_eq]; omega
            rw [e2, toNat_nat]
            simp only [cond_true, Nat.add_sub_cancel, show decide (0 < k + 1) = true by simp, Bool.true_and]
            cases decide ((b.f_Areas.getD (k + 1) Tapi_Area.d).f_From ≤ (b.f_Areas.getD k Tapi_Area.d).f_From) <;> rfl
    · have e : w64 (((b.f_Areas.length : Nat) : Int) - 1) = ((b.f_Areas.length - 1 : Nat) : Int) := by rw [w64_eq (by omega) (by omega)]; omega
      simp only [g_water_checkForm_L1, dec_nlt, cond_false, e, if_pos (inb (show b.f_Areas.length - 1 < b.f_Areas.length by omega)), toNat_nat]
      unfold ar
      cases decide (b.f_Rim ≤ (b.f_Areas.getD (b.f_Areas.length - 1) Tapi_Area.d).f_From) <;> cases decide (b.f_Rim > 1000000) <;> rfl
def basinCode (b : Tapi_Basin) : Int := cond (!nameOk b.f_Name) 4 (formCode b)
theorem checkBasin_eq {N : Nat} (hN : 20 < N) (b : Tapi_Basin) : g_water_CheckBasin N b = some (basinCode b) := by
  unfold g_water_CheckBasin basinCode
  rw [isName_eq (by omega), form_eq hN]
  simp only [Option.bind_some]
  cases nameOk b.f_Name <;> rfl
theorem refL1_eq (N : Nat) (b : Tapi_Basin) : ∀ (fuel : Nat) (x : Int), g_keelblockref05_CheckBasin_L1 N b fuel x = g_water_checkForm_L1 N b fuel x
  | 0, x => rfl
  | fuel + 1, x => by simp only [g_keelblockref05_CheckBasin_L1, g_water_checkForm_L1, inside_eq, between_eq, refL1_eq N b fuel]
theorem refBasin_eq {N : Nat} (hN : 20 < N) (b : Tapi_Basin) : g_keelblockref05_CheckBasin N b = some (basinCode b) := by
  rw [← checkBasin_eq hN]
  unfold g_keelblockref05_CheckBasin g_water_CheckBasin g_water_checkForm
  rw [IsName_eq (by omega), isName_eq (by omega)]
  simp only [Option.bind_some, between_eq, refL1_eq]
  cases nameOk b.f_Name
  · rfl
  · simp only [Bool.not_true, cond_false]
    have e : (cond (((b.f_Areas.length : Nat) : Int) == 0) true (decide (((b.f_Areas.length : Nat) : Int) > 20))) = !(ins (b.f_Areas.length : Int) 1 20) := by
      generalize b.f_Areas.length = c
      rw [Bool.eq_iff_iff]; simp [Bool.cond_eq_ite, ins]; omega
    rw [e]
    cases ins (b.f_Areas.length : Int) 1 20
    · rfl
    · simp only [Bool.not_true, cond_false, Option.bind_fun_some]

/-- A basin that the document allows (but for its name). -/
structure Valid (b : Tapi_Basin) : Prop where
  len : 1 ≤ b.f_Areas.length ∧ b.f_Areas.length ≤ 20
  frm : ∀ m, m < b.f_Areas.length → -1000000 ≤ (ar b m).f_From ∧ (ar b m).f_From ≤ 1000000
  sz : ∀ m, m < b.f_Areas.length → 1 ≤ (ar b m).f_Size ∧ (ar b m).f_Size ≤ 1000000
  ord : ∀ m, m + 1 < b.f_Areas.length → (ar b m).f_From < (ar b (m + 1)).f_From
  rim : (ar b (b.f_Areas.length - 1)).f_From < b.f_Rim ∧ b.f_Rim ≤ 1000000
theorem valid_of {b : Tapi_Basin} (h : formCode b = 0) : Valid b := by
  unfold formCode at h
  cases hl : ins (b.f_Areas.length : Int) 1 20
  · rw [hl] at h; cases h
  · rw [hl] at h
    obtain ⟨l1, l2⟩ := ins_iff.1 hl
    simp only [Bool.not_true, cond_false] at h
    rcases scan_inv (f := areaStep b) (z := cond (decide (b.f_Rim ≤ (ar b (b.f_Areas.length - 1)).f_From) || decide (b.f_Rim > 1000000)) 2 0) b.f_Areas.length 0 with ⟨i, r, _, _, h3, _, h5⟩ | ⟨h1, h2⟩
    · rw [h] at h5
      subst h5
      unfold areaStep at h3
      generalize (!(ins (ar b i).f_From (-1000000) 1000000 && ins (ar b i).f_Size 1 1000000)) = p at h3
      generalize (decide (0 < i) && decide ((ar b i).f_From ≤ (ar b (i - 1)).f_From)) = q at h3
      cases p <;> cases q <;> simp at h3
    · have hn : ∀ i, i < b.f_Areas.length → (ins (ar b i).f_From (-1000000) 1000000 && ins (ar b i).f_Size 1 1000000) = true ∧ (decide (0 < i) && decide ((ar b i).f_From ≤ (ar b (i - 1)).f_From)) = false := by
        intro i hi
        have h3 := h1 i (Nat.zero_le _) (by omega)
        unfold areaStep at h3
        generalize hp : (ins (ar b i).f_From (-1000000) 1000000 && ins (ar b i).f_Size 1 1000000) = p at h3
        generalize hq : (decide (0 < i) && decide ((ar b i).f_From ≤ (ar b (i - 1)).f_From)) = q at h3
        cases p <;> cases q <;> simp at h3 ⊢
      rw [h] at h2
      have hr : (decide (b.f_Rim ≤ (ar b (b.f_Areas.length - 1)).f_From) || decide (b.f_Rim > 1000000)) = false := by
        cases hr : (decide (b.f_Rim ≤ (ar b (b.f_Areas.length - 1)).f_From) || decide (b.f_Rim > 1000000))
        · rfl
        · rw [hr] at h2; cases h2
      refine ⟨⟨by omega, by omega⟩, fun m hm => ?_, fun m hm => ?_, fun m hm => ?_, ?_⟩
      · exact ins_iff.1 (Bool.and_eq_true_iff.1 (hn m hm).1).1
      · exact ins_iff.1 (Bool.and_eq_true_iff.1 (hn m hm).1).2
      · have := (hn (m + 1) hm).2
        simp at this
        exact this
      · simp at hr; omega
end Go.Den

namespace Go.Den
open Go.Ab

/-- The volume below a level in the parts from m on. -/
def volS (b : Tapi_Basin) (l : Int) : Nat → Nat → Int
  | 0, _ => 0
  | k + 1, m => (ar b m).f_Size * max 0 ((if m + 1 < b.f_Areas.length then min l (ar b (m + 1)).f_From else l) - (ar b m).f_From) + volS b l k (m + 1)
def vol (b : Tapi_Basin) (l : Int) : Int := volS b l b.f_Areas.length 0

theorem mul_bd {a c A C : Int} (h1 : 0 ≤ a) (h2 : a ≤ A) (h3 : 0 ≤ c) (h4 : c ≤ C) : 0 ≤ a * c ∧ a * c ≤ A * C :=
  ⟨Int.mul_nonneg h1 h3, Int.mul_le_mul h2 h4 h3 (Int.le_trans h1 h2)⟩

theorem volS_bd {b : Tapi_Basin} (v : Valid b) {l : Int} (h1 : -1000000 ≤ l) (h2 : l ≤ 1000001) : ∀ k m, m + k = b.f_Areas.length → 0 ≤ volS b l k m ∧ volS b l k m ≤ 2000001000000 * k
  | 0, m, _ => ⟨Int.le_refl _, by simp [volS]⟩
  | k + 1, m, h => by
    have ih := volS_bd v h1 h2 k (m + 1) (by omega)
    have hs := v.sz m (by omega)
    have hf := v.frm m (by omega)
    unfold volS
    generalize ht : (if m + 1 < b.f_Areas.length then min l (ar b (m + 1)).f_From else l) = t
    have ht2 : t ≤ 1000001 := by rw [← ht]; split <;> omega
    have := mul_bd (a := (ar b m).f_Size) (c := max 0 (t - (ar b m).f_From)) (A := 1000000) (C := 2000001) (by omega) hs.2 (by omega) (by omega)
    omega

theorem volume_eq {N : Nat} (hN : 20 < N) {b : Tapi_Basin} (v : Valid b) {l : Int} (h1 : -1000000 ≤ l) (h2 : l ≤ 1000001) : g_water_volume N b l = some (vol b l) := by
  have key : ∀ k m fuel (s : Int), m + k = b.f_Areas.length → k < fuel → 0 ≤ s → s ≤ 2000001000000 * m → g_water_volume_L1 N b l fuel s (m : Int) = some (s + volS b l k m) := by
    intro k
    induction k with
    | zero =>
      intro m fuel s h hf hs1 hs2
      obtain ⟨f, rfl⟩ : ∃ f, fuel = f + 1 := ⟨fuel - 1, by omega⟩
      have : m = b.f_Areas.length := by omega
      subst this
      simp only [g_water_volume_L1, dec_nlt, cond_false, volS, Int.add_zero]
    | succ k ih =>
      intro m fuel s h hf hs1 hs2
      obtain ⟨f, rfl⟩ : ∃ f, fuel = f + 1 := ⟨fuel - 1, by omega⟩
      have hm : m < b.f_Areas.length := by omega
      have hv := v.len
      have hsz := v.sz m hm
      have hfr := v.frm m hm
      have step : ∀ t : Int, -1000000 ≤ t → t ≤ 1000001 → t = (if m + 1 < b.f_Areas.length then min l (ar b (m + 1)).f_From else l) →
          g_water_volume_J2 N b l s (m : Int) (g_water_volume_L1 N b l f) t = some (s + volS b l (k + 1) m) := by
        intro t ht1 ht2 ht
        unfold g_water_volume_J2
        rw [toNat_nat]
        change g_water_volume_L1 N b l f (w64 (s + w64 ((ar b m).f_Size * (if w64 (t - (ar b m).f_From) > 0 then w64 (t - (ar b m).f_From) else 0)))) (w64 ((m : Int) + 1)) = _
        rw [w64_eq (n := t - (ar b m).f_From) (by omega) (by omega)]
        have e : (if t - (ar b m).f_From > 0 then t - (ar b m).f_From else 0) = max 0 (t - (ar b m).f_From) := by split <;> omega
        rw [e]
        have hb := mul_bd (a := (ar b m).f_Size) (c := max 0 (t - (ar b m).f_From)) (A := 1000000) (C := 2000001) (by omega) hsz.2 (by omega) (by omega)
        rw [w64_eq (n := (ar b m).f_Size * _) (by omega) (by omega), w64_eq (n := s + _) (by omega) (by omega), w64_succ (show m < 9223372036854775807 by omega),
          ih (m + 1) f _ (by omega) (by omega) (by omega) (by omega)]
        congr 1
        rw [volS, ← ht]
        omega
      simp only [g_water_volume_L1, dec_lt hm, cond_true, if_pos (inb hm), w64_succ (show m < 9223372036854775807 by omega)]
      by_cases hm1 : m + 1 < b.f_Areas.length
      · simp only [dec_lt hm1, cond_true, if_pos (inb hm1), toNat_nat]
        change g_water_volume_J2 N b l s (m : Int) _ (if (ar b (m + 1)).f_From < l then (ar b (m + 1)).f_From else l) = _
        have hfr1 := v.frm (m + 1) hm1
        refine step _ ?_ ?_ ?_
        · split <;> omega
        · split <;> omega
        · rw [if_pos hm1]; split <;> omega
      · have hd : decide (((m + 1 : Nat) : Int) < ((b.f_Areas.length : Nat) : Int)) = false := by rw [decide_eq_false_iff_not]; omega
        simp only [hd, cond_false]
        exact step l h1 h2 (by rw [if_neg hm1])
  have := key b.f_Areas.length 0 N 0 (by omega) (by have := v.len; omega) (by omega) (by omega)
  unfold g_water_volume vol
  rw [Int.zero_add] at this
  exact this

theorem below_eq {N : Nat} (hN : 20 < N) {b : Tapi_Basin} (v : Valid b) {l : Int} (h1 : -1000000 ≤ l) (h2 : l ≤ 1000001) : g_keelblockref05_Below N b l = some (vol b l) := by
  have key : ∀ k m fuel (s : Int), m + k = b.f_Areas.length → k < fuel → 0 ≤ s → s ≤ 2000001000000 * m → g_keelblockref05_Below_L1 N b l fuel s (m : Int) = some (s + volS b l k m) := by
    intro k
    induction k with
    | zero =>
      intro m fuel s h hf hs1 hs2
      obtain ⟨f, rfl⟩ : ∃ f, fuel = f + 1 := ⟨fuel - 1, by omega⟩
      have : m = b.f_Areas.length := by omega
      subst this
      simp only [g_keelblockref05_Below_L1, dec_nlt, cond_false, volS, Int.add_zero]
    | succ k ih =>
      intro m fuel s h hf hs1 hs2
      obtain ⟨f, rfl⟩ : ∃ f, fuel = f + 1 := ⟨fuel - 1, by omega⟩
      have hm : m < b.f_Areas.length := by omega
      have hv := v.len
      have hsz := v.sz m hm
      have hfr := v.frm m hm
      have step : ∀ t : Int, -1000000 ≤ t → t ≤ 1000001 → t = (if m + 1 < b.f_Areas.length then min l (ar b (m + 1)).f_From else l) →
          g_keelblockref05_Below_J2 N b l s (m : Int) (g_keelblockref05_Below_L1 N b l f) t = some (s + volS b l (k + 1) m) := by
        intro t ht1 ht2 ht
        unfold g_keelblockref05_Below_J2 g_keelblockref05_Below_J3
        rw [toNat_nat, if_pos (inb hm)]
        change cond (decide (t > (ar b m).f_From)) (g_keelblockref05_Below_L1 N b l f (w64 (s + w64 ((ar b m).f_Size * w64 (t - (ar b m).f_From)))) (w64 ((m : Int) + 1))) (g_keelblockref05_Below_L1 N b l f s (w64 ((m : Int) + 1))) = _
        rw [w64_succ (show m < 9223372036854775807 by omega), w64_eq (n := t - (ar b m).f_From) (by omega) (by omega)]
        by_cases hgt : t > (ar b m).f_From
        · have hb := mul_bd (a := (ar b m).f_Size) (c := t - (ar b m).f_From) (A := 1000000) (C := 2000001) (by omega) hsz.2 (by omega) (by omega)
          rw [decide_eq_true hgt, cond_true, w64_eq (n := (ar b m).f_Size * _) (by omega) (by omega), w64_eq (n := s + _) (by omega) (by omega), ih (m + 1) f _ (by omega) (by omega) (by omega) (by omega)]
          congr 1
          rw [volS, ← ht, show max 0 (t - (ar b m).f_From) = t - (ar b m).f_From by omega]
          omega
        · rw [decide_eq_false hgt, cond_false, ih (m + 1) f _ (by omega) (by omega) (by omega) (by omega)]
          congr 1
          rw [volS, ← ht, show max 0 (t - (ar b m).f_From) = 0 by omega]
          simp
      simp only [g_keelblockref05_Below_L1, dec_lt hm, cond_true, w64_succ (show m < 9223372036854775807 by omega)]
      by_cases hm1 : m + 1 < b.f_Areas.length
      · simp only [dec_lt hm1, cond_true, if_pos (inb hm1), toNat_nat]
        change g_keelblockref05_Below_J2 N b l s (m : Int) _ (if (ar b (m + 1)).f_From < l then (ar b (m + 1)).f_From else l) = _
        have hfr1 := v.frm (m + 1) hm1
        refine step _ ?_ ?_ ?_
        · split <;> omega
        · split <;> omega
        · rw [if_pos hm1]; split <;> omega
      · have hd : decide (((m + 1 : Nat) : Int) < ((b.f_Areas.length : Nat) : Int)) = false := by rw [decide_eq_false_iff_not]; omega
        simp only [hd, cond_false]
        exact step l h1 h2 (by rw [if_neg hm1])
  have := key b.f_Areas.length 0 N 0 (by omega) (by have := v.len; omega) (by omega) (by omega)
  unfold g_keelblockref05_Below vol
  rw [Int.zero_add] at this
  exact this
end Go.Den

namespace Go.Den
open Go.Ab
variable {b : Tapi_Basin}

def topR (b : Tapi_Basin) (m : Nat) : Int := if m + 1 < b.f_Areas.length then (ar b (m + 1)).f_From else b.f_Rim
def pre (b : Tapi_Basin) : Nat → Int
  | 0 => 0
  | m + 1 => pre b m + (ar b m).f_Size * (topR b m - (ar b m).f_From)
theorem from_mono (v : Valid b) {i : Nat} : ∀ j, i ≤ j → j < b.f_Areas.length → (ar b i).f_From ≤ (ar b j).f_From
  | 0, h, _ => by have : i = 0 := by omega
                  subst this; exact Int.le_refl _
  | j + 1, h, hj => by
    by_cases he : i = j + 1
    · subst he; exact Int.le_refl _
    · have := from_mono (i := i) v j (by omega) (by omega)
      have := v.ord j hj
      omega
theorem vol_tail {l : Int} (v : Valid b) : ∀ k m, m + k = b.f_Areas.length → (0 < k → l ≤ (ar b m).f_From) → volS b l k m = 0
  | 0, m, _, _ => rfl
  | k + 1, m, h, hl => by
    have hl := hl (by omega)
    unfold volS
    have ih := vol_tail (l := l) v k (m + 1) (by omega) (fun hk => by have := v.ord m (by omega); omega)
    rw [ih]
    generalize ht : (if m + 1 < b.f_Areas.length then min l (ar b (m + 1)).f_From else l) = t
    have : t ≤ l := by rw [← ht]; split <;> omega
    rw [show max 0 (t - (ar b m).f_From) = 0 by omega]; simp
theorem vol_head {l : Int} (v : Valid b) {m : Nat} (hm : m < b.f_Areas.length) (hl : (ar b m).f_From ≤ l) : ∀ d j, j + d = m → volS b l (b.f_Areas.length - j) j = pre b m - pre b j + volS b l (b.f_Areas.length - m) m
  | 0, j, h => by
    have : j = m := by omega
    subst this; omega
  | d + 1, j, h => by
    have ih := vol_head v hm hl d (j + 1) (by omega)
    obtain ⟨k, hk⟩ : ∃ k, b.f_Areas.length - j = k + 1 := ⟨b.f_Areas.length - j - 1, by omega⟩
    have hk2 : b.f_Areas.length - (j + 1) = k := by omega
    rw [hk, volS, ← hk2, ih, pre, topR, if_pos (show j + 1 < b.f_Areas.length by omega), if_pos (show j + 1 < b.f_Areas.length by omega)]
    have h1 := from_mono v m (show j + 1 ≤ m by omega) hm
    have h2 := v.ord j (by omega)
    rw [show min l (ar b (j + 1)).f_From = (ar b (j + 1)).f_From by omega, show max 0 ((ar b (j + 1)).f_From - (ar b j).f_From) = (ar b (j + 1)).f_From - (ar b j).f_From by omega]
    omega
theorem vol_at {l : Int} (v : Valid b) {m : Nat} (hm : m < b.f_Areas.length) (hl : (ar b m).f_From ≤ l) (hl2 : m + 1 < b.f_Areas.length → l ≤ (ar b (m + 1)).f_From) :
    vol b l = pre b m + (ar b m).f_Size * (l - (ar b m).f_From) := by
  have h1 := vol_head v hm hl m 0 (by omega)
  obtain ⟨k, hk⟩ : ∃ k, b.f_Areas.length - m = k + 1 := ⟨b.f_Areas.length - m - 1, by omega⟩
  have h2 := vol_tail (l := l) v k (m + 1) (by omega) (fun h => hl2 (by omega))
  rw [hk, volS, h2] at h1
  have e : (if m + 1 < b.f_Areas.length then min l (ar b (m + 1)).f_From else l) = l := by
    split
    · rename_i h; have := hl2 h; omega
    · rfl
  rw [e, show max 0 (l - (ar b m).f_From) = l - (ar b m).f_From by omega] at h1
  unfold vol
  rw [Nat.sub_zero] at h1
  rw [h1, pre]; omega
theorem part_of {l : Int} (v : Valid b) (hl : (ar b 0).f_From ≤ l) : ∃ m, m < b.f_Areas.length ∧ (ar b m).f_From ≤ l ∧ (m + 1 < b.f_Areas.length → l < (ar b (m + 1)).f_From) := by
  have key : ∀ d m, m + d = b.f_Areas.length → m < b.f_Areas.length → (ar b m).f_From ≤ l → ∃ m, m < b.f_Areas.length ∧ (ar b m).f_From ≤ l ∧ (m + 1 < b.f_Areas.length → l < (ar b (m + 1)).f_From) := by
    intro d
    induction d with
    | zero => intro m h1 h2; omega
    | succ d ih =>
      intro m h1 h2 h3
      by_cases h : m + 1 < b.f_Areas.length ∧ (ar b (m + 1)).f_From ≤ l
      · exact ih (m + 1) (by omega) h.1 h.2
      · exact ⟨m, h2, h3, fun hh => by omega⟩
  exact key b.f_Areas.length 0 (by omega) (by have := v.len; omega) hl
theorem vol_succ {l : Int} (v : Valid b) (hl : (ar b 0).f_From ≤ l) : vol b l < vol b (l + 1) := by
  obtain ⟨m, h1, h2, h3⟩ := part_of v hl
  rw [vol_at v h1 h2 (fun h => by have := h3 h; omega), vol_at v h1 (show (ar b m).f_From ≤ l + 1 by omega) (fun h => by have := h3 h; omega)]
  have := v.sz m h1
  have e : (ar b m).f_Size * (l + 1 - (ar b m).f_From) = (ar b m).f_Size * (l - (ar b m).f_From) + (ar b m).f_Size := by
    rw [show l + 1 - (ar b m).f_From = (l - (ar b m).f_From) + 1 by omega, Int.mul_add, Int.mul_one]
  omega
theorem vol_mono {l : Int} (v : Valid b) (hl : (ar b 0).f_From ≤ l) : ∀ d : Nat, vol b l ≤ vol b (l + d)
  | 0 => by simp
  | d + 1 => by
    have h1 := vol_mono v hl d
    have h2 := vol_succ (l := l + d) v (by omega)
    rw [show l + ((d + 1 : Nat) : Int) = l + d + 1 by omega]; omega
theorem vol_le {l l' : Int} (v : Valid b) (hl : (ar b 0).f_From ≤ l) (h : l ≤ l') : vol b l ≤ vol b l' := by
  have := vol_mono v hl (l' - l).toNat
  rwa [show l + ((l' - l).toNat : Int) = l' by omega] at this
theorem vol_lt {l l' : Int} (v : Valid b) (hl : (ar b 0).f_From ≤ l) (h : l < l') : vol b l < vol b l' := by
  have := vol_le (l := l + 1) (l' := l') v (by omega) (by omega)
  have := vol_succ v hl
  omega
theorem vol_floor (v : Valid b) : vol b (ar b 0).f_From = 0 := by
  rw [vol_at v (show 0 < b.f_Areas.length by have := v.len; omega) (Int.le_refl _) (fun h => by have := v.ord 0 h; omega)]
  simp [pre]
theorem floor_lt (v : Valid b) : (ar b 0).f_From < b.f_Rim := by
  have := v.len
  have := from_mono v (b.f_Areas.length - 1) (Nat.zero_le _) (by omega)
  have := v.rim
  omega

/-- L is the level of the volume w. -/
structure Lev (b : Tapi_Basin) (w L : Int) : Prop where
  lo : (ar b 0).f_From ≤ L
  hi : L ≤ b.f_Rim
  le : vol b L ≤ w
  gt : L < b.f_Rim → w < vol b (L + 1)
theorem Lev.unique (v : Valid b) {w L L' : Int} (h : Lev b w L) (h' : Lev b w L') : L = L' := by
  have key : ∀ {L L' : Int}, Lev b w L → Lev b w L' → ¬ L < L' := by
    intro L L' h h' hlt
    have h1 := h.gt (by have := h'.hi; omega)
    have h2 := vol_le (l := L + 1) (l' := L') v (by have := h.lo; omega) (by omega)
    have h3 := h'.le
    omega
  have := key h h'
  have := key h' h
  omega
theorem top_bd (v : Valid b) {m : Nat} (hm : m < b.f_Areas.length) : (ar b m).f_From < topR b m ∧ topR b m ≤ 1000000 := by
  unfold topR
  split
  · rename_i h; exact ⟨v.ord m h, (v.frm _ h).2⟩
  · have : m = b.f_Areas.length - 1 := by omega
    subst this; exact v.rim
theorem top_le_rim (v : Valid b) {m : Nat} (hm : m < b.f_Areas.length) : topR b m ≤ b.f_Rim := by
  unfold topR
  split
  · rename_i h
    have := from_mono v (b.f_Areas.length - 1) (show m + 1 ≤ b.f_Areas.length - 1 by omega) (by omega)
    have := v.rim
    omega
  · exact Int.le_refl _
theorem vol_rim (v : Valid b) : vol b b.f_Rim = pre b b.f_Areas.length := by
  have := v.len
  obtain ⟨k, hk⟩ : ∃ k, b.f_Areas.length = k + 1 := ⟨b.f_Areas.length - 1, by omega⟩
  have hr := v.rim
  rw [show b.f_Areas.length - 1 = k by omega] at hr
  rw [vol_at v (show k < b.f_Areas.length by omega) (by omega) (fun h => by omega), hk, pre, topR, if_neg (by omega)]

theorem levelOf_eq {N : Nat} (hN : 20 < N) (v : Valid b) {w : Int} (h1 : 0 ≤ w) (h2 : w ≤ vol b b.f_Rim) : ∃ L, g_water_levelOf N b w = some L ∧ Lev b w L := by
  have hw : vol b b.f_Rim ≤ 40000020000000 := by
    have hr := v.rim
    have := volS_bd v (l := b.f_Rim) (by have := floor_lt v; have := v.frm 0 (by have := v.len; omega); omega) (by omega) b.f_Areas.length 0 (by omega)
    have := v.len
    unfold vol; omega
  have hrim := floor_lt v
  have hlen := v.len
  have key : ∀ k m fuel (r lev : Int), m + k = b.f_Areas.length → k < fuel → 0 ≤ r → w = pre b m + r → r ≤ w → (0 < k → lev = (ar b m).f_From) → (k = 0 → lev = b.f_Rim) →
      ∃ L, g_water_levelOf_L1 N b fuel r lev (m : Int) = some L ∧ Lev b w L := by
    intro k
    induction k with
    | zero =>
      intro m fuel r lev h hf hr hp hrw _ hlev
      obtain ⟨f, rfl⟩ : ∃ f, fuel = f + 1 := ⟨fuel - 1, by omega⟩
      have : m = b.f_Areas.length := by omega
      subst this
      have hlev := hlev rfl
      subst hlev
      simp only [g_water_levelOf_L1, dec_nlt, cond_false]
      exact ⟨_, rfl, by omega, by omega, by rw [vol_rim v]; omega, by omega⟩
    | succ k ih =>
      intro m fuel r lev h hf hr hp hrw hlev _
      obtain ⟨f, rfl⟩ : ∃ f, fuel = f + 1 := ⟨fuel - 1, by omega⟩
      have hm : m < b.f_Areas.length := by omega
      have hlev := hlev (by omega)
      subst hlev
      have hsz := v.sz m hm
      have hfr := v.frm m hm
      have htb := top_bd v hm
      have htr := top_le_rim v hm
      have h0 := from_mono v m (Nat.zero_le _) hm
      have step : ∃ L, g_water_levelOf_J2 N b r (m : Int) (g_water_levelOf_L1 N b f) (topR b m) = some L ∧ Lev b w L := by
        unfold g_water_levelOf_J2
        rw [toNat_nat]
        change ∃ L, cond (decide (r < w64 ((ar b m).f_Size * w64 (topR b m - (ar b m).f_From)))) (if ((ar b m).f_Size : Int) ≠ 0 then some (w64 ((ar b m).f_From + w64 (r.tdiv (ar b m).f_Size))) else none)
          (g_water_levelOf_L1 N b f (w64 (r - w64 ((ar b m).f_Size * w64 (topR b m - (ar b m).f_From)))) (topR b m) (w64 ((m : Int) + 1))) = some L ∧ Lev b w L
        have hb := mul_bd (a := (ar b m).f_Size) (c := topR b m - (ar b m).f_From) (A := 1000000) (C := 2000001) (by omega) hsz.2 (by omega) (by omega)
        rw [w64_eq (n := topR b m - _) (by omega) (by omega), w64_eq (n := (ar b m).f_Size * _) (by omega) (by omega), w64_succ (show m < 9223372036854775807 by omega)]
        by_cases hlt : r < (ar b m).f_Size * (topR b m - (ar b m).f_From)
        · have hs0 : (ar b m).f_Size ≠ 0 := by omega
          have hq := Int.mul_ediv_add_emod r (ar b m).f_Size
          have hq1 := Int.emod_nonneg r hs0
          have hq2 := Int.emod_lt_of_pos r (show 0 < (ar b m).f_Size by omega)
          have hq3 : 0 ≤ r / (ar b m).f_Size := Int.ediv_nonneg hr (by omega)
          have hq4 : r / (ar b m).f_Size < topR b m - (ar b m).f_From := by
            apply Int.ediv_lt_of_lt_mul (by omega)
            rw [Int.mul_comm]; exact hlt
          rw [decide_eq_true hlt, cond_true, if_pos hs0, Int.tdiv_eq_ediv_of_nonneg hr, w64_eq (n := r / _) (by omega) (by omega), w64_eq (n := (ar b m).f_From + _) (by omega) (by omega)]
          generalize r / (ar b m).f_Size = q at *
          have hL : ∀ l : Int, l = q ∨ l = q + 1 → vol b ((ar b m).f_From + l) = pre b m + (ar b m).f_Size * l := by
            intro l hl
            rw [vol_at v hm (by omega) (fun hh => by unfold topR at hq4; rw [if_pos hh] at hq4; omega)]
            congr 2; omega
          refine ⟨_, rfl, by omega, by omega, ?_, fun _ => ?_⟩
          · rw [hL q (.inl rfl)]; omega
          · rw [Int.add_assoc, hL (q + 1) (.inr rfl), Int.mul_add, Int.mul_one]; omega
        · rw [decide_eq_false hlt, cond_false, w64_eq (n := r - _) (by omega) (by omega)]
          refine ih (m + 1) f _ _ (by omega) (by omega) (by omega) (by rw [pre]; omega) (by omega) (fun hk => ?_) (fun hk => ?_)
          · unfold topR; rw [if_pos (by omega)]
          · unfold topR; rw [if_neg (by omega)]
      simp only [g_water_levelOf_L1, dec_lt hm, cond_true, if_pos (inb hm), w64_succ (show m < 9223372036854775807 by omega)]
      by_cases hm1 : m + 1 < b.f_Areas.length
      · simp only [dec_lt hm1, cond_true, if_pos (inb hm1), toNat_nat]
        unfold topR at step
        rw [if_pos hm1] at step
        exact step
      · have hd : decide (((m + 1 : Nat) : Int) < ((b.f_Areas.length : Nat) : Int)) = false := by rw [decide_eq_false_iff_not]; omega
        simp only [hd, cond_false]
        unfold topR at step
        rw [if_neg hm1] at step
        exact step
  unfold g_water_levelOf g_water_floor
  rw [if_pos (show 0 ≤ (0 : Int) ∧ 0 < ((b.f_Areas.length : Nat) : Int) by omega)]
  exact key b.f_Areas.length 0 N w _ (by omega) (by omega) h1 (by simp [pre]) (Int.le_refl _) (fun _ => rfl) (fun h => by omega)

theorem refLevelOf_eq {N : Nat} (hN : 2000001 < N) (v : Valid b) {w : Int} (h1 : 0 ≤ w) : ∃ L, g_keelblockref05_LevelOf N b w = some L ∧ Lev b w L := by
  have hfl := v.frm 0 (by have := v.len; omega)
  have hrim := v.rim
  have key : ∀ k fuel (lo hi : Int), (hi - lo).toNat = k → k < fuel → (ar b 0).f_From ≤ lo → lo ≤ hi → hi ≤ b.f_Rim → vol b lo ≤ w → (hi < b.f_Rim → w < vol b (hi + 1)) → ∃ L, g_keelblockref05_LevelOf_L1 N b w fuel lo hi = some L ∧ Lev b w L := by
    intro k
    induction k using Nat.strongRecOn with
    | ind k ih =>
      intro fuel lo hi hk hf hl hlh hh hv hg
      obtain ⟨f, rfl⟩ : ∃ f, fuel = f + 1 := ⟨fuel - 1, by omega⟩
      simp only [g_keelblockref05_LevelOf_L1]
      by_cases hlt : lo < hi
      · rw [decide_eq_true hlt, cond_true]
        rw [w64_eq (n := hi - lo) (by omega) (by omega), w64_eq (n := hi - lo + 1) (by omega) (by omega), Int.tdiv_eq_ediv_of_nonneg (by omega), w64_eq (n := (hi - lo + 1) / 2) (by omega) (by omega), w64_eq (n := lo + _) (by omega) (by omega)]
        generalize hmid : lo + (hi - lo + 1) / 2 = mid
        rw [below_eq (by omega) v (by omega) (by omega), Option.bind_some]
        by_cases hc : vol b mid ≤ w
        · rw [decide_eq_true hc, cond_true]
          exact ih (hi - mid).toNat (by omega) f mid hi rfl (by omega) (by omega) (by omega) hh hc hg
        · rw [decide_eq_false hc, cond_false, w64_eq (n := mid - 1) (by omega) (by omega)]
          exact ih (mid - 1 - lo).toNat (by omega) f lo (mid - 1) rfl (by omega) hl (by omega) (by omega) hv (fun _ => by rw [show mid - 1 + 1 = mid by omega]; omega)
      · rw [decide_eq_false hlt, cond_false]
        have : lo = hi := by omega
        subst this
        exact ⟨_, rfl, hl, hh, hv, hg⟩
  unfold g_keelblockref05_LevelOf g_keelblockref05_Floor
  rw [if_pos (show 0 ≤ (0 : Int) ∧ 0 < ((b.f_Areas.length : Nat) : Int) by have := v.len; omega)]
  have hfr := floor_lt v
  refine key _ N _ _ rfl ?_ (Int.le_refl _) (Int.le_of_lt hfr) (Int.le_refl _) ?_ (by omega)
  · change (b.f_Rim - (ar b 0).f_From).toNat < N; omega
  · change vol b (ar b 0).f_From ≤ w; rw [vol_floor v]; exact h1
end Go.Den

namespace Go.Den
open Go.Ab

theorem basinValid {b : Tapi_Basin} (h : basinCode b = 0) : Valid b := by
  unfold basinCode at h
  cases hn : nameOk b.f_Name <;> rw [hn] at h
  · cases h
  · exact valid_of h
theorem floor_eq (N : Nat) {b : Tapi_Basin} (v : Valid b) : g_water_floor N b = some (ar b 0).f_From := by
  unfold g_water_floor
  rw [if_pos (by have := v.len; omega)]; rfl
theorem refFloor_eq (N : Nat) {b : Tapi_Basin} (v : Valid b) : g_keelblockref05_Floor N b = some (ar b 0).f_From := by
  unfold g_keelblockref05_Floor
  rw [if_pos (by have := v.len; omega)]; rfl

def volR (b : Tapi_Basin) (l : Int) : Int × Int :=
  cond (basinCode b != 0) (0, basinCode b) (cond (!ins l (ar b 0).f_From b.f_Rim) (0, 2) (vol b l, 0))
theorem Volume_eq {N : Nat} (hN : 20 < N) (b : Tapi_Basin) (l : Int) : g_water_Volume N b l = some (volR b l) := by
  unfold g_water_Volume volR
  rw [checkBasin_eq hN, Option.bind_some]
  cases h : basinCode b != 0
  · have v := basinValid (b := b) (by simpa using h)
    have h0 := v.frm 0 (by have := v.len; omega)
    have hr := v.rim
    simp only [cond_false, floor_eq N v, Option.bind_some, between_eq]
    cases hi : ins l (ar b 0).f_From b.f_Rim
    · rfl
    · obtain ⟨i1, i2⟩ := ins_iff.1 hi
      simp only [Bool.not_true, cond_false]
      rw [volume_eq hN v (by omega) (by omega)]; rfl
  · rfl
theorem refVolume_eq {N : Nat} (hN : 20 < N) (b : Tapi_Basin) (l : Int) : g_keelblockref05_Volume N b l = some (volR b l) := by
  unfold g_keelblockref05_Volume volR
  rw [refBasin_eq hN, Option.bind_some]
  cases h : basinCode b != 0
  · have v := basinValid (b := b) (by simpa using h)
    have h0 := v.frm 0 (by have := v.len; omega)
    have hr := v.rim
    simp only [cond_false, refFloor_eq N v, Option.bind_some, inside_eq]
    cases hi : ins l (ar b 0).f_From b.f_Rim
    · rfl
    · obtain ⟨i1, i2⟩ := ins_iff.1 hi
      simp only [Bool.not_true, cond_false]
      rw [below_eq hN v (by omega) (by omega)]; rfl
  · rfl

/-- What Level returns. -/
def LevR (b : Tapi_Basin) (w : Int) (r : Int × Int) : Prop :=
  if basinCode b = 0 then (if 0 ≤ w ∧ w ≤ vol b b.f_Rim then r.2 = 0 ∧ Lev b w r.1 else r = (0, 2)) else r = (0, basinCode b)
theorem LevR.unique {b : Tapi_Basin} {w : Int} {r r' : Int × Int} (h : LevR b w r) (h' : LevR b w r') : r = r' := by
  unfold LevR at h h'
  split at h
  · rename_i h0
    rw [if_pos h0] at h'
    split at h
    · rename_i h1
      rw [if_pos h1] at h'
      have := h.2.unique (basinValid h0) h'.2
      exact Prod.ext this (h.1.trans h'.1.symm)
    · rename_i h1
      rw [if_neg h1] at h'
      exact h.trans h'.symm
  · rename_i h0
    rw [if_neg h0] at h'
    exact h.trans h'.symm
theorem Level_eq {N : Nat} (hN : 20 < N) (b : Tapi_Basin) (w : Int) : ∃ r, g_water_Level N b w = some r ∧ LevR b w r := by
  unfold g_water_Level LevR
  rw [checkBasin_eq hN, Option.bind_some]
  by_cases h0 : basinCode b = 0
  · have v := basinValid h0
    have hf := v.frm 0 (by have := v.len; omega)
    have hr := v.rim
    have hr2 := floor_lt v
    rw [h0]
    simp only [bne_self_eq_false, cond_false, if_true]
    rw [volume_eq hN v (by omega) (by omega)]
    simp only [Option.bind_some, between_eq]
    cases hi : ins w 0 (vol b b.f_Rim)
    · exact ⟨_, rfl, by rw [if_neg (fun h => by rw [ins_iff.2 h] at hi; cases hi)]⟩
    · have hi := ins_iff.1 hi
      simp only [if_pos hi]
      obtain ⟨L, h1, h2⟩ := levelOf_eq hN v hi.1 hi.2
      simp only [Bool.not_true, cond_false, h1, Option.bind_some]
      exact ⟨_, rfl, rfl, h2⟩
  · have : (basinCode b != 0) = true := by simpa using h0
    rw [this]; exact ⟨_, rfl, by rw [if_neg h0]⟩
theorem refLevel_eq {N : Nat} (hN : 2000001 < N) (b : Tapi_Basin) (w : Int) : ∃ r, g_keelblockref05_Level N b w = some r ∧ LevR b w r := by
  unfold g_keelblockref05_Level LevR g_keelblockref05_Capacity
  rw [refBasin_eq (by omega), Option.bind_some]
  by_cases h0 : basinCode b = 0
  · have v := basinValid h0
    have hf := v.frm 0 (by have := v.len; omega)
    have hr := v.rim
    have hr2 := floor_lt v
    rw [h0]
    simp only [bne_self_eq_false, cond_false, if_true]
    rw [below_eq (by omega) v (by omega) (by omega)]
    simp only [Option.bind_some, inside_eq]
    cases hi : ins w 0 (vol b b.f_Rim)
    · exact ⟨_, rfl, by rw [if_neg (fun h => by rw [ins_iff.2 h] at hi; cases hi)]⟩
    · have hi := ins_iff.1 hi
      simp only [if_pos hi]
      obtain ⟨L, h1, h2⟩ := refLevelOf_eq hN v hi.1
      simp only [Bool.not_true, cond_false, h1, Option.bind_some]
      exact ⟨_, rfl, rfl, h2⟩
  · have : (basinCode b != 0) = true := by simpa using h0
    rw [this]; exact ⟨_, rfl, by rw [if_neg h0]⟩

def tubV : Tapi_Basin := ⟨⟨#[65]⟩, [⟨0, 100⟩, ⟨1000, 200⟩], 3000⟩
theorem tub_eq (N : Nat) : g_keelblocklaw05_tub N = some tubV := rfl
theorem tub_ok : basinCode tubV = 0 := by decide +kernel
theorem awake5_eq {N : Nat} (hN : 20 < N) : g_keelblocklaw05_awake N = some true := by
  unfold g_keelblocklaw05_awake
  rw [tub_eq, Option.bind_some, Volume_eq hN, Option.bind_some, Option.bind_some]
  obtain ⟨r, h1, h2⟩ := Level_eq hN tubV 100199
  have h3 : LevR tubV 100199 (1000, 0) := by
    unfold LevR
    rw [if_pos tub_ok, if_pos (by decide +kernel)]
    exact ⟨rfl, by decide +kernel, by decide +kernel, by decide +kernel, fun _ => by decide +kernel⟩
  have := h2.unique h3
  subst this
  rw [h1, Option.bind_some]
  rw [show volR tubV 1500 = (200000, 0) by decide +kernel]
  rfl
end Go.Den

namespace Go.Den
open Go.Ab

theorem half_eq {s : Int} (h1 : 0 ≤ s) (h2 : s ≤ 4611686018427387904) : w64 (shrI .u64 (IntKind.u64.wrap (w64 s)) 1) = s / 2 := by
  rw [w64_eq (n := s) (by omega) (by omega)]
  have e : IntKind.u64.wrap s = s % 18446744073709551616 := rfl
  rw [e, Int.emod_eq_of_lt h1 (by omega)]
  have e2 : shrI .u64 s 1 = s.fdiv 2 := rfl
  rw [e2, Int.fdiv_eq_ediv_of_nonneg _ (by omega)]
  exact w64_eq (by omega) (by omega)

def mk (m : List Tapi_Mark) (i : Nat) : Tapi_Mark := m.getD i Tapi_Mark.d
def seaStep (m : List Tapi_Mark) (i : Nat) : Option Int :=
  cond (!(ins (mk m i).f_Minute 0 1000000 && ins (mk m i).f_Level (-1000000) 1000000)) (some 2) (cond (decide (0 < i) && decide ((mk m i).f_Minute ≤ (mk m (i - 1)).f_Minute)) (some 10) none)
def seaCode (m : List Tapi_Mark) : Int := cond (decide (((m.length : Nat) : Int) > 400)) 8 (scan (seaStep m) 0 m.length 0)

theorem seaLoop {m : List Tapi_Mark} (hl : m.length ≤ 400) {i : Nat} (hi : i < m.length) : seaStep m i = cond (cond (!ins (mk m i).f_Minute 0 1000000) true (!ins (mk m i).f_Level (-1000000) 1000000)) (some 2) (cond (cond (decide ((i : Int) > 0)) (decide ((mk m i).f_Minute ≤ (mk m ((w64 ((i : Int) - 1)).toNat)).f_Minute)) false) (some 10) none) := by
  unfold seaStep
  cases i with
  | zero => cases ins (mk m 0).f_Minute 0 1000000 <;> cases ins (mk m 0).f_Level (-1000000) 1000000 <;> rfl
  | succ k =>
    have e : w64 (((k + 1 : Nat) : Int) - 1) = (k : Int) := by rw [w64_eq (by omega) (by omega)]; omega
    have e2 : decide (((k + 1 : Nat) : Int) > 0) = true := by rw [decide_eq_true_eq]; omega
    rw [e, e2, toNat_nat, Nat.add_sub_cancel, show decide (0 < k + 1) = true by simp]
    cases ins (mk m (k + 1)).f_Minute 0 1000000 <;> cases ins (mk m (k + 1)).f_Level (-1000000) 1000000 <;> rfl
theorem prev_bd {m : List Tapi_Mark} (hl : m.length ≤ 400) {i : Nat} (hi : i < m.length) : decide ((i : Int) > 0) = true → 0 ≤ w64 ((i : Int) - 1) ∧ w64 ((i : Int) - 1) < ((m.length : Nat) : Int) := by
  intro h
  have := of_decide_eq_true h
  rw [w64_eq (by omega) (by omega)]; omega
theorem checkSea_eq {N : Nat} (hN : 400 < N) (m : List Tapi_Mark) : g_water_CheckSea N m = some (seaCode m) := by
  unfold g_water_CheckSea seaCode
  cases h : decide (((m.length : Nat) : Int) > 400)
  · have hl : m.length ≤ 400 := by simp at h; omega
    rw [cond_false, cond_false]
    refine loop_scan0 (L := fun fuel => g_water_CheckSea_L1 N m fuel) _ _ (by omega) (fun fuel i hi => ?_) (fun fuel => ?_)
    · rw [seaLoop hl hi]
      simp only [g_water_CheckSea_L1, dec_lt hi, cond_true, if_pos (inb hi), toNat_nat, between_eq, Option.bind_some, if_pos (prev_bd hl hi), w64_succ (show i < 9223372036854775807 by omega)]
      unfold mk
      cases ins (m.getD i Tapi_Mark.d).f_Minute 0 1000000
      · rfl
      · simp only [Bool.not_true, Bool.not_false, cond_true, cond_false, Option.bind_some]
        cases ins (m.getD i Tapi_Mark.d).f_Level (-1000000) 1000000
        · rfl
        · simp only [Bool.not_true, cond_false]
          cases cond (decide ((i : Int) > 0)) (decide ((m.getD i Tapi_Mark.d).f_Minute ≤ (m.getD (w64 ((i : Int) - 1)).toNat Tapi_Mark.d).f_Minute)) false <;> rfl
    · simp only [g_water_CheckSea_L1, dec_nlt, cond_false]
  · rfl
theorem refSea_eq {N : Nat} (hN : 400 < N) (m : List Tapi_Mark) : g_keelblockref05_CheckSea N m = some (seaCode m) := by
  unfold g_keelblockref05_CheckSea seaCode
  cases h : decide (((m.length : Nat) : Int) > 400)
  · have hl : m.length ≤ 400 := by simp at h; omega
    rw [cond_false, cond_false]
    refine loop_scan0 (L := fun fuel => g_keelblockref05_CheckSea_L1 N m fuel) _ _ (by omega) (fun fuel i hi => ?_) (fun fuel => ?_)
    · rw [seaLoop hl hi]
      simp only [g_keelblockref05_CheckSea_L1, dec_lt hi, cond_true, if_pos (inb hi), if_pos (fun _ => inb hi), toNat_nat, inside_eq, Option.bind_some, if_pos (prev_bd hl hi), w64_succ (show i < 9223372036854775807 by omega)]
      unfold mk
      cases ins (m.getD i Tapi_Mark.d).f_Minute 0 1000000
      · rfl
      · simp only [Bool.not_true, Bool.not_false, cond_true, cond_false, Option.bind_some]
        cases ins (m.getD i Tapi_Mark.d).f_Level (-1000000) 1000000
        · rfl
        · simp only [Bool.not_true, cond_false]
          cases cond (decide ((i : Int) > 0)) (decide ((m.getD i Tapi_Mark.d).f_Minute ≤ (m.getD (w64 ((i : Int) - 1)).toNat Tapi_Mark.d).f_Minute)) false <;> rfl
    · simp only [g_keelblockref05_CheckSea_L1, dec_nlt, cond_false]
  · rfl

structure SeaOk (m : List Tapi_Mark) : Prop where
  len : m.length ≤ 400
  min : ∀ i, i < m.length → 0 ≤ (mk m i).f_Minute ∧ (mk m i).f_Minute ≤ 1000000
  lev : ∀ i, i < m.length → -1000000 ≤ (mk m i).f_Level ∧ (mk m i).f_Level ≤ 1000000
  ord : ∀ i, i + 1 < m.length → (mk m i).f_Minute < (mk m (i + 1)).f_Minute
theorem sea_of {m : List Tapi_Mark} (h : seaCode m = 0) : SeaOk m := by
  unfold seaCode at h
  cases hd : decide (((m.length : Nat) : Int) > 400) <;> rw [hd] at h
  · simp only [cond_false] at h
    rcases scan_inv (f := seaStep m) (z := 0) m.length 0 with ⟨i, r, _, _, h3, _, h5⟩ | ⟨h1, _⟩
    · rw [h] at h5
      subst h5
      unfold seaStep at h3
      generalize (!(ins (mk m i).f_Minute 0 1000000 && ins (mk m i).f_Level (-1000000) 1000000)) = p at h3
      generalize (decide (0 < i) && decide ((mk m i).f_Minute ≤ (mk m (i - 1)).f_Minute)) = q at h3
      cases p <;> cases q <;> simp at h3
    · have hn : ∀ i, i < m.length → (ins (mk m i).f_Minute 0 1000000 && ins (mk m i).f_Level (-1000000) 1000000) = true ∧ (decide (0 < i) && decide ((mk m i).f_Minute ≤ (mk m (i - 1)).f_Minute)) = false := by
        intro i hi
        have h3 := h1 i (Nat.zero_le _) (by omega)
        unfold seaStep at h3
        generalize (ins (mk m i).f_Minute 0 1000000 && ins (mk m i).f_Level (-1000000) 1000000) = p at h3 ⊢
        generalize (decide (0 < i) && decide ((mk m i).f_Minute ≤ (mk m (i - 1)).f_Minute)) = q at h3 ⊢
        cases p <;> cases q <;> simp at h3 ⊢
      refine ⟨by have := of_decide_eq_false hd; omega, fun i hi => ins_iff.1 (Bool.and_eq_true_iff.1 (hn i hi).1).1, fun i hi => ins_iff.1 (Bool.and_eq_true_iff.1 (hn i hi).1).2, fun i hi => ?_⟩
      have := (hn (i + 1) hi).2
      simp at this
      exact this
  · cases h
theorem min_mono {m : List Tapi_Mark} (v : SeaOk m) {i : Nat} : ∀ j, i ≤ j → j < m.length → (mk m i).f_Minute ≤ (mk m j).f_Minute
  | 0, h, _ => by have : i = 0 := by omega
                  subst this; exact Int.le_refl _
  | j + 1, h, hj => by
    by_cases he : i = j + 1
    · subst he; exact Int.le_refl _
    · have := min_mono (i := i) v j (by omega) (by omega)
      have := v.ord j hj
      omega

/-- The place of the first mark behind a minute. -/
structure Pos (m : List Tapi_Mark) (t : Int) (p : Nat) : Prop where
  le : p ≤ m.length
  lo : ∀ j, j < p → (mk m j).f_Minute ≤ t
  hi : ∀ j, p ≤ j → j < m.length → t < (mk m j).f_Minute
theorem search_eq {N : Nat} {m : List Tapi_Mark} (v : SeaOk m) (hN : 400 < N) (t : Int) : ∃ p : Nat, g_sort_Search N ((m.length : Nat) : Int) m t = some (p : Int) ∧ Pos m t p := by
  have hl := v.len
  have key : ∀ k fuel (i j : Nat), j - i = k → k < fuel → i ≤ j → j ≤ m.length → (∀ q, q < i → (mk m q).f_Minute ≤ t) → (∀ q, j ≤ q → q < m.length → t < (mk m q).f_Minute) →
      ∃ p : Nat, g_sort_Search_L1 N m t fuel (i : Int) (j : Int) = some (p : Int) ∧ Pos m t p := by
    intro k
    induction k using Nat.strongRecOn with
    | ind k ih =>
      intro fuel i j hk hf hij hj h1 h2
      obtain ⟨f, rfl⟩ : ∃ f, fuel = f + 1 := ⟨fuel - 1, by omega⟩
      simp only [g_sort_Search_L1]
      by_cases hlt : i < j
      · have hm : w64 (shrI .u64 (IntKind.u64.wrap (w64 ((i : Int) + (j : Int)))) 1) = (((i + j) / 2 : Nat) : Int) := by
          rw [half_eq (by omega) (by omega)]; omega
        have hmid : (i + j) / 2 < m.length := by omega
        rw [dec_lt hlt, cond_true]
        rw [hm]
        generalize hmm : (i + j) / 2 = mid at hmid ⊢
        rw [show g_water_tide_1 N (mid : Int) m t = some (decide ((mk m mid).f_Minute > t)) by unfold g_water_tide_1; rw [if_pos (inb hmid)]; rfl]
        rw [Option.bind_some]
        by_cases hc : (mk m mid).f_Minute > t
        · rw [decide_eq_true hc, Bool.not_true, cond_false]
          exact ih (mid - i) (by omega) f i mid rfl (by omega) (by omega) (by omega) h1 (fun q hq hq2 => by have := min_mono (i := mid) v q hq hq2; omega)
        · rw [decide_eq_false hc, Bool.not_false, cond_true, w64_succ (by omega)]
          exact ih (j - (mid + 1)) (by omega) f (mid + 1) j rfl (by omega) (by omega) hj (fun q hq => by have := min_mono (i := q) v mid (by omega) hmid; omega) h2
      · rw [show decide ((i : Int) < (j : Int)) = false from decide_eq_false (by omega), cond_false]
        have : i = j := by omega
        subst this
        exact ⟨i, rfl, hj, h1, h2⟩
  unfold g_sort_Search
  exact key m.length N 0 m.length (by omega) (by omega) (by omega) (Nat.le_refl _) (fun q hq => absurd hq (Nat.not_lt_zero _)) (fun q hq hq2 => by omega)
theorem Pos.unique {m : List Tapi_Mark} {t : Int} {p q : Nat} (h : Pos m t p) (k : Pos m t q) : p = q := by
  rcases Nat.lt_trichotomy p q with hl | hl | hl
  · have h1 := k.lo p hl
    have h2 := h.hi p (Nat.le_refl _) (by have := k.le; omega)
    omega
  · exact hl
  · have h1 := h.lo q hl
    have h2 := k.hi q (Nat.le_refl _) (by have := h.le; omega)
    omega

theorem down_eq {a b : Int} (hb : 0 < b) (h1 : -1000000000000000000 ≤ a) (h2 : a ≤ 1000000000000000000) : cond (decide (a.tmod b < 0)) (w64 (w64 (a.tdiv b) - 1)) (w64 (a.tdiv b)) = a / b := by
  have hm := Int.mul_tdiv_add_tmod a b
  have l1 := Int.tmod_lt_of_pos a hb
  have l2 := Int.lt_tmod_of_pos a hb
  have hn := Int.natAbs_tdiv_le_natAbs a b
  by_cases hr : a.tmod b < 0
  · have e : a / b = a.tdiv b - 1 := ((Int.ediv_emod_unique (r := a.tmod b + b) hb).2 ⟨by rw [Int.mul_sub, Int.mul_one]; omega, by omega, by omega⟩).1
    rw [decide_eq_true hr, cond_true, w64_eq (n := a.tdiv b) (by omega) (by omega), w64_eq (by omega) (by omega), e]
  · have e : a / b = a.tdiv b := ((Int.ediv_emod_unique (r := a.tmod b) hb).2 ⟨by omega, by omega, by omega⟩).1
    rw [decide_eq_false hr, cond_false, w64_eq (n := a.tdiv b) (by omega) (by omega), e]
end Go.Den

namespace Go.Den
open Go.Ab

theorem mGet_mPut (x z : ByteArray) (y : Bool) : ∀ l : List (ByteArray × Bool), mGet streq (mPut streq l x y) z = cond (streq x z) (some y) (mGet streq l z)
  | [] => rfl
  | p :: r => by
    have ih := mGet_mPut x z y r
    simp only [mPut, mGet]
    cases hx : streq p.1 x with
    | true =>
      have := streq_iff.1 hx
      simp only [cond_true, mGet, this]
      cases streq x z <;> rfl
    | false =>
      simp only [cond_false, mGet, ih]
      cases hz : streq p.1 z with
      | true =>
        have hne : streq x z = false := by
          cases h2 : streq x z with
          | false => rfl
          | true =>
            rw [streq_iff.1 h2, hz] at hx
            cases hx
        rw [hne]; rfl
      | false => rfl

/-- Whether a name stands ahead of a place. -/
def dup (nm : Nat → ByteArray) (m : Nat) (s : ByteArray) : Bool := (List.range m).any fun j => streq (nm j) s
theorem dup_succ (nm : Nat → ByteArray) (m : Nat) (s : ByteArray) : dup nm (m + 1) s = (dup nm m s || streq (nm m) s) := by
  unfold dup
  rw [List.range_succ, List.any_append]; simp
theorem scan_any {p : Nat → Bool} : ∀ (n m : Nat), scan (fun k => cond (p k) (some true) none) false n m = (List.range' m n).any p
  | 0, m => rfl
  | n + 1, m => by
    rw [List.range'_succ, List.any_cons, scan]
    cases p m with
    | true => rfl
    | false => exact scan_any n (m + 1)
theorem dup_scan (nm : Nat → ByteArray) (m : Nat) (s : ByteArray) : scan (fun k => cond (streq (nm k) s) (some true) none) false m 0 = dup nm m s := by
  rw [scan_any (p := fun k => streq (nm k) s), dup, List.range_eq_range']

def namedStep (nm : Nat → ByteArray) (code : Nat → Int) (m : Nat) : Option Int :=
  cond (!nameOk (nm m)) (some 4) (cond (dup nm m (nm m)) (some 5) (cond (code m != 0) (some (code m)) none))
theorem named_eq {L : Nat → List (ByteArray × Bool) → Int → Option Int} (nm : Nat → ByteArray) (code : Nat → Int) {n : Nat}
    (hstep : ∀ fuel names m, m < n → L (fuel + 1) names (m : Int) = cond (!nameOk (nm m)) (some 4) (cond ((mGet streq names (nm m)).getD false) (some 5) (cond (code m != 0) (some (code m)) (L fuel (mPut streq names (nm m) true) ((m + 1 : Nat) : Int)))))
    (hend : ∀ fuel names, L (fuel + 1) names (n : Int) = some 0) : ∀ k m names fuel, m + k = n → k < fuel → (∀ s, (mGet streq names s).getD false = dup nm m s) → L fuel names (m : Int) = some (scan (namedStep nm code) 0 k m)
  | 0, m, names, fuel, h, hf, _ => by
    obtain ⟨g, rfl⟩ : ∃ g, fuel = g + 1 := ⟨fuel - 1, by omega⟩
    have : m = n := by omega
    subst this; exact hend g names
  | k + 1, m, names, fuel, h, hf, hd => by
    obtain ⟨g, rfl⟩ : ∃ g, fuel = g + 1 := ⟨fuel - 1, by omega⟩
    rw [hstep g names m (by omega), hd, scan]
    unfold namedStep
    cases nameOk (nm m) with
    | false => rfl
    | true =>
      simp only [Bool.not_true, cond_false]
      cases dup nm m (nm m) with
      | true => rfl
      | false =>
        simp only [cond_false]
        cases code m != 0 with
        | true => rfl
        | false =>
          simp only [cond_false]
          refine named_eq nm code hstep hend k (m + 1) _ g (by omega) (by omega) fun s => ?_
          rw [mGet_mPut, dup_succ, ← hd s]
          cases streq (nm m) s <;> simp

def bs (n : Tapi_Network) (m : Nat) : Tapi_Basin := n.f_Basins.getD m Tapi_Basin.d
def ls (n : Tapi_Network) (m : Nat) : Tapi_Link := n.f_Links.getD m Tapi_Link.d
def basinIx (n : Tapi_Network) (s : ByteArray) : Int := scan (fun k => cond (streq (bs n k).f_Name s) (some (k : Int)) none) (-1) n.f_Basins.length 0
def linkIx (n : Tapi_Network) (s : ByteArray) : Int := scan (fun k => cond (streq (ls n k).f_Name s) (some (k : Int)) none) (-1) n.f_Links.length 0
theorem refBasinIx_eq {N : Nat} {n : Tapi_Network} (hN : n.f_Basins.length < N) (hl : n.f_Basins.length < 1000) (s : ByteArray) : g_keelblockref05_Basin N n s = some (basinIx n s) := by
  unfold g_keelblockref05_Basin
  refine loop_scan0 (L := fun fuel => g_keelblockref05_Basin_L1 N n s fuel) _ _ hN (fun fuel k hk => ?_) (fun fuel => ?_)
  · simp only [g_keelblockref05_Basin_L1, dec_lt hk, cond_true, if_pos (inb hk), w64_succ (show k < 9223372036854775807 by omega), toNat_nat]
    change cond (streq (bs n k).f_Name s) _ _ = _
    cases streq (bs n k).f_Name s <;> rfl
  · simp only [g_keelblockref05_Basin_L1, dec_nlt, cond_false]
theorem refLinkIx_eq {N : Nat} {n : Tapi_Network} (hN : n.f_Links.length < N) (hl : n.f_Links.length < 1000) (s : ByteArray) : g_keelblockref05_Link N n s = some (linkIx n s) := by
  unfold g_keelblockref05_Link
  refine loop_scan0 (L := fun fuel => g_keelblockref05_Link_L1 N n s fuel) _ _ hN (fun fuel k hk => ?_) (fun fuel => ?_)
  · simp only [g_keelblockref05_Link_L1, dec_lt hk, cond_true, if_pos (inb hk), w64_succ (show k < 9223372036854775807 by omega), toNat_nat]
    change cond (streq (ls n k).f_Name s) _ _ = _
    cases streq (ls n k).f_Name s <;> rfl
  · simp only [g_keelblockref05_Link_L1, dec_nlt, cond_false]
theorem basinIx_eq {N : Nat} {n : Tapi_Network} (hN : n.f_Basins.length < N) (hl : n.f_Basins.length < 1000) (s : ByteArray) : g_water_basinOf N n s = some (basinIx n s) := by
  unfold g_water_basinOf g_slices_IndexFunc_api_Basin_api_Basin
  rw [loop_scan0 (L := fun fuel => g_slices_IndexFunc_api_Basin_api_Basin_L1 N n.f_Basins s fuel) (fun k => cond (streq (bs n k).f_Name s) (some (k : Int)) none) (-1) hN (fun fuel k hk => ?_) (fun fuel => ?_)]
  · rfl
  · simp only [g_slices_IndexFunc_api_Basin_api_Basin_L1, g_water_basinOf_1, dec_lt hk, cond_true, if_pos (inb hk), w64_succ (show k < 9223372036854775807 by omega), toNat_nat, Option.bind_some]
    change cond (streq (bs n k).f_Name s) _ _ = _
    cases streq (bs n k).f_Name s <;> rfl
  · simp only [g_slices_IndexFunc_api_Basin_api_Basin_L1, dec_nlt, cond_false]

/-- A side of a link is the sea or a basin. -/
def sideOk (n : Tapi_Network) (s : ByteArray) : Bool := cond (streq s ByteArray.empty) true (decide (basinIx n s ≥ 0))
def linkTail (n : Tapi_Network) (l : Tapi_Link) : Int :=
  cond (streq l.f_From l.f_To) 3 (cond (cond (cond (streq l.f_From ByteArray.empty) true (streq l.f_To ByteArray.empty)) (((n.f_Sea.length : Nat) : Int) == 0) false) 29
    (cond (!ins l.f_Rate 0 1000000000) 2 (cond (cond (l.f_Kind == 0) (cond (!ins l.f_Sill (-1000000) 1000000) true (!ins l.f_Factor 0 1000000000)) false) 2
      (cond (cond (l.f_Kind == 1) (!ins l.f_Lift 0 1000000) false) 2 0))))
def linkCode (n : Tapi_Network) (l : Tapi_Link) : Int :=
  cond (cond (l.f_Kind != 0) (l.f_Kind != 1) false) 3 (cond (!(sideOk n l.f_From && sideOk n l.f_To)) 6 (linkTail n l))
theorem refSide_eq {N : Nat} {n : Tapi_Network} (hN : n.f_Basins.length < N) (hl : n.f_Basins.length < 1000) (s : ByteArray) : g_keelblockref05_side N n s = some (sideOk n s) := by
  unfold g_keelblockref05_side sideOk
  rw [refBasinIx_eq hN hl]
  cases streq s ByteArray.empty <;> rfl
theorem refLink_eq {N : Nat} {n : Tapi_Network} (hN : n.f_Basins.length < N) (hl : n.f_Basins.length < 1000) (l : Tapi_Link) : g_keelblockref05_checkLink N n l = some (linkCode n l) := by
  unfold g_keelblockref05_checkLink linkCode linkTail
  simp only [refSide_eq hN hl, inside_eq, Option.bind_some]
  cases cond (l.f_Kind != 0) (l.f_Kind != 1) false with
  | true => rfl
  | false =>
    cases sideOk n l.f_From with
    | false => rfl
    | true =>
      cases sideOk n l.f_To with
      | false => rfl
      | true =>
        cases streq l.f_From l.f_To with
        | true => rfl
        | false =>
          simp only [Bool.not_true, Bool.not_false, cond_true, cond_false, Option.bind_some, Bool.and_self]
          cases cond (cond (streq l.f_From ByteArray.empty) true (streq l.f_To ByteArray.empty)) (((n.f_Sea.length : Nat) : Int) == 0) false with
          | true => rfl
          | false =>
            simp only [cond_false]
            cases ins l.f_Rate 0 1000000000 with
            | false => rfl
            | true =>
              cases l.f_Kind == 0 <;> cases l.f_Kind == 1 <;> cases ins l.f_Sill (-1000000) 1000000 <;> cases ins l.f_Factor 0 1000000000 <;> cases ins l.f_Lift 0 1000000 <;> rfl
theorem linkEnd (N : Nat) (n : Tapi_Network) (l : Tapi_Link) (fuel : Nat) : g_water_checkLink_L1 N n l (fuel + 1) ((2 : Nat) : Int) = some (linkTail n l) := by
  unfold linkTail
  simp only [g_water_checkLink_L1, dec_nlt, cond_false, between_eq, Option.bind_some]
  cases streq l.f_From l.f_To with
  | true => rfl
  | false =>
    simp only [cond_false]
    cases cond (cond (streq l.f_From ByteArray.empty) true (streq l.f_To ByteArray.empty)) (((n.f_Sea.length : Nat) : Int) == 0) false with
    | true => rfl
    | false =>
      simp only [cond_false]
      cases ins l.f_Rate 0 1000000000 with
      | false => rfl
      | true =>
        cases l.f_Kind == 0 <;> cases l.f_Kind == 1 <;> cases ins l.f_Sill (-1000000) 1000000 <;> cases ins l.f_Factor 0 1000000000 <;> cases ins l.f_Lift 0 1000000 <;> rfl
theorem linkStep {N : Nat} {n : Tapi_Network} (hN : n.f_Basins.length < N) (hl : n.f_Basins.length < 1000) (l : Tapi_Link) (fuel m : Nat) (hm : m < 2) : g_water_checkLink_L1 N n l (fuel + 1) (m : Int) =
    cond (!sideOk n ([l.f_From, l.f_To].getD m ByteArray.empty)) (some 6) (g_water_checkLink_L1 N n l fuel ((m + 1 : Nat) : Int)) := by
  have hlen : (([l.f_From, l.f_To] : List ByteArray).length) = 2 := rfl
  rw [g_water_checkLink_L1]
  simp only [hlen, dec_lt hm, cond_true, if_pos (inb hm), toNat_nat, basinIx_eq hN hl, w64_succ (show m < 9223372036854775807 by omega)]
  unfold sideOk
  generalize [l.f_From, l.f_To].getD m ByteArray.empty = s
  cases streq s ByteArray.empty with
  | true => rfl
  | false =>
    simp only [Bool.not_false, cond_true, cond_false, Option.bind_some]
    rw [show decide (basinIx n s < 0) = !decide (basinIx n s ≥ 0) by rw [Bool.eq_iff_iff]; simp]
theorem checkLink_eq {N : Nat} {n : Tapi_Network} (h2 : 2 < N) (hN : n.f_Basins.length < N) (hl : n.f_Basins.length < 1000) (l : Tapi_Link) : g_water_checkLink N n l = some (linkCode n l) := by
  unfold g_water_checkLink linkCode
  obtain ⟨M, hM⟩ : ∃ M, N = M + 3 := ⟨N - 3, by omega⟩
  have e1 := linkStep hN hl l (M + 2) 0 (by omega)
  have e2 := linkStep hN hl l (M + 1) 1 (by omega)
  have e3 := linkEnd N n l M
  have e0 : g_water_checkLink_L1 N n l N 0 = g_water_checkLink_L1 N n l (M + 2 + 1) ((0 : Nat) : Int) := by rw [show M + 2 + 1 = N by omega]; rfl
  rw [e0, e1, e2, e3]
  cases cond (l.f_Kind != 0) (l.f_Kind != 1) false with
  | true => rfl
  | false =>
    simp only [cond_false, List.getD_cons_zero, List.getD_cons_succ]
    cases sideOk n l.f_From <;> cases sideOk n l.f_To <;> rfl

def bCode (n : Tapi_Network) : Nat → Option Int := namedStep (fun m => (bs n m).f_Name) fun m => formCode (bs n m)
def lCode (n : Tapi_Network) : Nat → Option Int := namedStep (fun m => (ls n m).f_Name) fun m => linkCode n (ls n m)
def linksCode (n : Tapi_Network) : Int := cond (decide (((n.f_Links.length : Nat) : Int) > 12)) 8 (scan (lCode n) 0 n.f_Links.length 0)
def netCode (n : Tapi_Network) : Int :=
  cond (decide (((n.f_Basins.length : Nat) : Int) > 8)) 8 (scan (bCode n) (cond (seaCode n.f_Sea != 0) (seaCode n.f_Sea) (linksCode n)) n.f_Basins.length 0)
theorem named_nz {nm : Nat → ByteArray} {code : Nat → Int} {m : Nat} {r : Int} (h : namedStep nm code m = some r) : r ≠ 0 := by
  unfold namedStep at h
  intro h0
  subst h0
  generalize hc : (code m != 0) = c at h
  generalize nameOk (nm m) = a at h
  generalize dup nm m (nm m) = b at h
  cases a <;> cases b <;> cases c <;> simp at h
  rw [h] at hc; cases hc
theorem scan_rest {f : Nat → Option Int} (hf : ∀ m r, f m = some r → r ≠ 0) (z : Int) (k m : Nat) : scan f z k m = cond (scan f 0 k m != 0) (scan f 0 k m) z := by
  rcases scan_inv (f := f) (z := z) k m with ⟨i, r, h1, h2, h3, h4, h5⟩ | ⟨h1, h2⟩
  · rcases scan_inv (f := f) (z := 0) k m with ⟨i', r', k1, k2, k3, k4, k5⟩ | ⟨k1, k2⟩
    · have : i = i' := by
        rcases Nat.lt_trichotomy i i' with h | h | h
        · rw [k4 i h1 h] at h3; cases h3
        · exact h
        · rw [h4 i' k1 h] at k3; cases k3
      subst this
      rw [h3] at k3; cases k3
      rw [h5, k5]
      have : (r != 0) = true := by simpa using hf i r h3
      rw [this]; rfl
    · rw [k1 i h1 h2] at h3; cases h3
  · rw [h2, scan_all k m h1]; rfl
theorem checkNet_eq {N : Nat} (hN : 400 < N) (n : Tapi_Network) : g_water_CheckNetwork N n = some (netCode n) := by
  unfold g_water_CheckNetwork netCode g_water_checkNamed
  rw [checkSea_eq hN]
  cases hb : decide (((n.f_Basins.length : Nat) : Int) > 8) with
  | true => rfl
  | false =>
    have hb : n.f_Basins.length ≤ 8 := by simp at hb; omega
    have e1 : g_water_checkNamed_L1 N ((n.f_Basins.length : Nat) : Int) n N [] ((0 : Nat) : Int) = some (scan (bCode n) 0 n.f_Basins.length 0) := by
      refine named_eq (n := n.f_Basins.length) (L := fun fuel names x => g_water_checkNamed_L1 N ((n.f_Basins.length : Nat) : Int) n fuel names x) (fun m => (bs n m).f_Name) (fun m => formCode (bs n m)) (fun fuel names m hm => ?_) (fun fuel names => ?_) n.f_Basins.length 0 [] N (by omega) (by omega) (fun s => rfl)
      · simp only [g_water_checkNamed_L1, g_water_CheckNetwork_1, g_water_CheckNetwork_2, dec_lt hm, cond_true, if_pos (inb hm), toNat_nat, Option.bind_some, isName_eq (show 12 < N by omega), form_eq (show 20 < N by omega), w64_succ (show m < 9223372036854775807 by omega)]
        rfl
      · simp only [g_water_checkNamed_L1, dec_nlt, cond_false]
    have e1 : g_water_checkNamed_L1 N ((n.f_Basins.length : Nat) : Int) n N [] 0 = some (scan (bCode n) 0 n.f_Basins.length 0) := e1
    have e2 : g_water_checkNamed_v2 N ((n.f_Links.length : Nat) : Int) 12 n = some (linksCode n) := by
      unfold g_water_checkNamed_v2 linksCode
      cases hl : decide (((n.f_Links.length : Nat) : Int) > 12) with
      | true => rfl
      | false =>
        have hl : n.f_Links.length ≤ 12 := by simp at hl; omega
        rw [cond_false, cond_false]
        have := named_eq (n := n.f_Links.length) (L := fun fuel names x => g_water_checkNamed_v2_L1 N ((n.f_Links.length : Nat) : Int) n fuel names x) (fun m => (ls n m).f_Name) (fun m => linkCode n (ls n m)) (fun fuel names m hm => ?_) (fun fuel names => ?_) n.f_Links.length 0 [] N (by omega) (by omega) (fun s => rfl)
        · exact this
        · simp only [g_water_checkNamed_v2_L1, g_water_CheckNetwork_3, g_water_CheckNetwork_4, dec_lt hm, cond_true, if_pos (inb hm), toNat_nat, Option.bind_some, isName_eq (show 12 < N by omega), checkLink_eq (show 2 < N by omega) (show n.f_Basins.length < N by omega) (by omega), w64_succ (show m < 9223372036854775807 by omega)]
          rfl
        · simp only [g_water_checkNamed_v2_L1, dec_nlt, cond_false]
    rw [cond_false, cond_false, e1, e2, scan_rest (f := bCode n) (fun m r h => named_nz h) (cond (seaCode n.f_Sea != 0) (seaCode n.f_Sea) (linksCode n))]
    simp only [Option.bind_some]
    cases scan (bCode n) 0 n.f_Basins.length 0 != 0 <;> cases seaCode n.f_Sea != 0 <;> rfl
theorem refNet_eq {N : Nat} (hN : 400 < N) (n : Tapi_Network) : g_keelblockref05_CheckNetwork N n = some (netCode n) := by
  unfold g_keelblockref05_CheckNetwork netCode
  cases hb : decide (((n.f_Basins.length : Nat) : Int) > 8) with
  | true => rfl
  | false =>
    have hb : n.f_Basins.length ≤ 8 := by simp at hb; omega
    rw [cond_false, cond_false]
    have ix : ∀ {i : Nat} {nm : Nat → ByteArray} {k : Nat}, i < k → (scan (fun j => cond (streq (nm j) (nm i)) (some (j : Int)) none) (-1) k 0 != (i : Int)) = dup nm i (nm i) := by
      intro i nm k hi
      rw [scan_first (p := fun j => streq (nm j) (nm i)) (streq_iff.2 rfl) k 0 (by omega) (by omega), Nat.sub_zero, dup_scan]
    refine loop_scan0 (L := fun fuel => g_keelblockref05_CheckNetwork_L1 N n fuel) _ _ (by omega) (fun fuel m hm => ?_) (fun fuel => ?_)
    · simp only [g_keelblockref05_CheckNetwork_L1, dec_lt hm, cond_true, if_pos (inb hm), toNat_nat, IsName_eq (show 12 < N by omega), Option.bind_some, refBasinIx_eq (show n.f_Basins.length < N by omega) (by omega), refBasin_eq (show 20 < N by omega), w64_succ (show m < 9223372036854775807 by omega)]
      have e := ix (nm := fun j => (bs n j).f_Name) hm
      change cond (!nameOk (bs n m).f_Name) _ (cond (basinIx n (bs n m).f_Name != (m : Int)) _ (cond (basinCode (bs n m) != 0) (some (basinCode (bs n m))) _)) = _
      unfold basinIx bCode namedStep basinCode
      rw [e]
      cases nameOk (bs n m).f_Name with
      | false => rfl
      | true =>
        simp only [Bool.not_true, cond_false]
        cases dup (fun j => (bs n j).f_Name) m (bs n m).f_Name with
        | true => rfl
        | false => cases formCode (bs n m) != 0 <;> rfl
    · simp only [g_keelblockref05_CheckNetwork_L1, dec_nlt, cond_false, refSea_eq hN, Option.bind_some]
      cases seaCode n.f_Sea != 0 with
      | true => rfl
      | false =>
        simp only [cond_false]
        unfold linksCode
        cases hl : decide (((n.f_Links.length : Nat) : Int) > 12) with
        | true => rfl
        | false =>
          have hl : n.f_Links.length ≤ 12 := by simp at hl; omega
          rw [cond_false, cond_false]
          refine loop_scan0 (L := fun fuel => g_keelblockref05_CheckNetwork_L2 N n fuel) _ _ (by omega) (fun fuel m hm => ?_) (fun fuel => ?_)
          · simp only [g_keelblockref05_CheckNetwork_L2, dec_lt hm, cond_true, if_pos (inb hm), toNat_nat, IsName_eq (show 12 < N by omega), Option.bind_some, refLinkIx_eq (show n.f_Links.length < N by omega) (by omega), refLink_eq (show n.f_Basins.length < N by omega) (by omega), w64_succ (show m < 9223372036854775807 by omega)]
            have e := ix (nm := fun j => (ls n j).f_Name) hm
            change cond (!nameOk (ls n m).f_Name) _ (cond (linkIx n (ls n m).f_Name != (m : Int)) _ (cond (linkCode n (ls n m) != 0) (some (linkCode n (ls n m))) _)) = _
            unfold linkIx lCode namedStep
            rw [e]
            cases nameOk (ls n m).f_Name with
            | false => rfl
            | true =>
              simp only [Bool.not_true, cond_false]
              cases dup (fun j => (ls n j).f_Name) m (ls n m).f_Name with
              | true => rfl
              | false => cases linkCode n (ls n m) != 0 <;> rfl
          · simp only [g_keelblockref05_CheckNetwork_L2, dec_nlt, cond_false]

/-- A network that the document allows. -/
structure NetOk (n : Tapi_Network) : Prop where
  nb : n.f_Basins.length ≤ 8
  nl : n.f_Links.length ≤ 12
  nm : ∀ i, i < n.f_Basins.length → nameOk (bs n i).f_Name = true
  form : ∀ i, i < n.f_Basins.length → formCode (bs n i) = 0
  sea : seaCode n.f_Sea = 0
  lnm : ∀ i, i < n.f_Links.length → nameOk (ls n i).f_Name = true
  link : ∀ i, i < n.f_Links.length → linkCode n (ls n i) = 0
theorem named_all {nm : Nat → ByteArray} {code : Nat → Int} {k : Nat} (h : scan (namedStep nm code) 0 k 0 = 0) (i : Nat) (hi : i < k) : nameOk (nm i) = true ∧ code i = 0 := by
  rcases scan_inv (f := namedStep nm code) (z := 0) k 0 with ⟨j, r, _, _, h3, _, h5⟩ | ⟨h1, _⟩
  · exact absurd (h5.symm.trans h) (named_nz h3)
  · have := h1 i (Nat.zero_le _) (by omega)
    unfold namedStep at this
    cases hn : nameOk (nm i) <;> cases hd : dup nm i (nm i) <;> cases hc : (code i != 0) <;> rw [hn, hd, hc] at this <;> simp at this
    exact ⟨rfl, by simpa using hc⟩
theorem net_of {n : Tapi_Network} (h : netCode n = 0) : NetOk n := by
  unfold netCode at h
  cases hb : decide (((n.f_Basins.length : Nat) : Int) > 8) with
  | true => rw [hb] at h; cases h
  | false =>
    rw [hb, cond_false, scan_rest (f := bCode n) (fun m r h => named_nz h)] at h
    have hb : n.f_Basins.length ≤ 8 := by simp at hb; omega
    cases hs : (scan (bCode n) 0 n.f_Basins.length 0 != 0) with
    | true => rw [hs, cond_true] at h; rw [h] at hs; cases hs
    | false =>
      rw [hs, cond_false] at h
      have hs : scan (bCode n) 0 n.f_Basins.length 0 = 0 := by simpa using hs
      cases hsea : (seaCode n.f_Sea != 0) with
      | true => rw [hsea, cond_true] at h; rw [h] at hsea; cases hsea
      | false =>
        rw [hsea, cond_false] at h
        unfold linksCode at h
        cases hl : decide (((n.f_Links.length : Nat) : Int) > 12) with
        | true => rw [hl] at h; cases h
        | false =>
          rw [hl, cond_false] at h
          have hl : n.f_Links.length ≤ 12 := by simp at hl; omega
          exact ⟨hb, hl, fun i hi => (named_all hs i hi).1, fun i hi => (named_all hs i hi).2, by simpa using hsea, fun i hi => (named_all h i hi).1, fun i hi => (named_all h i hi).2⟩
theorem NetOk.valid {n : Tapi_Network} (v : NetOk n) {i : Nat} (hi : i < n.f_Basins.length) : Valid (bs n i) := valid_of (v.form i hi)
theorem NetOk.basin {n : Tapi_Network} (v : NetOk n) {i : Nat} (hi : i < n.f_Basins.length) : basinCode (bs n i) = 0 := by
  unfold basinCode
  rw [v.nm i hi, v.form i hi]; rfl
end Go.Den

namespace Go.Den
open Go.Ab

def zeroW : Tapi_Water := ⟨0, [], []⟩
def fillOk (n : Tapi_Network) (levels : List Int) (m : Nat) : Bool := ins (levels.getD m 0) (ar (bs n m) 0).f_From (bs n m).f_Rim
def allOk (n : Tapi_Network) (levels : List Int) : Nat → Nat → Bool
  | 0, _ => true
  | k + 1, m => cond (fillOk n levels m) (allOk n levels k (m + 1)) false
def vols (n : Tapi_Network) (levels : List Int) (m : Nat) : List Int := (List.range m).map fun i => vol (bs n i) (levels.getD i 0)
theorem vols_succ (n : Tapi_Network) (levels : List Int) (m : Nat) : vols n levels (m + 1) = vols n levels m ++ [vol (bs n m) (levels.getD m 0)] := by
  unfold vols
  rw [List.range_succ, List.map_append]; rfl
theorem vols_len (n : Tapi_Network) (levels : List Int) (m : Nat) : (vols n levels m).length = m := by simp [vols]
theorem vols_get (n : Tapi_Network) (levels : List Int) {m i : Nat} (h : i < m) : (vols n levels m).getD i 0 = vol (bs n i) (levels.getD i 0) := by
  simp [vols, List.getD_eq_getElem?_getD, h]
theorem allOk_get {n : Tapi_Network} {levels : List Int} : ∀ {k m : Nat}, allOk n levels k m = true → ∀ i, m ≤ i → i < m + k → fillOk n levels i = true
  | 0, m, _, i, h1, h2 => by omega
  | k + 1, m, h, i, h1, h2 => by
    unfold allOk at h
    cases hf : fillOk n levels m with
    | false => rw [hf] at h; cases h
    | true =>
      rw [hf, cond_true] at h
      by_cases hi : i = m
      · subst hi; exact hf
      · exact allOk_get h i (by omega) (by omega)
def fullW (n : Tapi_Network) (minute : Int) (levels : List Int) : Tapi_Water := ⟨minute, vols n levels n.f_Basins.length, List.replicate n.f_Links.length false⟩
def fillR (n : Tapi_Network) (minute : Int) (levels : List Int) : Tapi_Water × Int := cond (allOk n levels n.f_Basins.length 0) (fullW n minute levels, 0) (zeroW, 2)

theorem fillL1 {N : Nat} (hN : 400 < N) {n : Tapi_Network} (v : NetOk n) (minute : Int) {levels : List Int} (hlen : levels.length = n.f_Basins.length) : ∀ k m fuel, m + k = n.f_Basins.length → k < fuel →
    g_water_Fill_L1 N n minute levels fuel (vols n levels m) (m : Int) = some (cond (allOk n levels k m) (fullW n minute levels, 0) (zeroW, 2))
  | 0, m, fuel, h, hf => by
    obtain ⟨g, rfl⟩ : ∃ g, fuel = g + 1 := ⟨fuel - 1, by omega⟩
    have hm : m = n.f_Basins.length := by omega
    subst hm
    simp only [g_water_Fill_L1, dec_nlt, cond_false, allOk, cond_true]; rfl
  | k + 1, m, fuel, h, hf => by
    obtain ⟨g, rfl⟩ : ∃ g, fuel = g + 1 := ⟨fuel - 1, by omega⟩
    have hm : m < n.f_Basins.length := by omega
    have hnb := v.nb
    have vb := v.valid hm
    have e1 : g_water_floor N (n.f_Basins.getD m Tapi_Basin.d) = some (ar (bs n m) 0).f_From := floor_eq N vb
    have hm2 : m < levels.length := by omega
    rw [g_water_Fill_L1]
    simp only [dec_lt hm, cond_true, if_pos (inb hm), if_pos (inb hm2), toNat_nat, e1, Option.bind_some, between_eq, w64_succ (show m < 9223372036854775807 by omega), vols_len]
    rw [allOk]
    change cond (!fillOk n levels m) _ _ = _
    cases hfo : fillOk n levels m with
    | false => rfl
    | true =>
      obtain ⟨i1, i2⟩ := ins_iff.1 hfo
      have h0 := vb.frm 0 (by have := vb.len; omega)
      have hr := vb.rim
      simp only [Bool.not_true, cond_false, cond_true]
      rw [show g_water_volume N (n.f_Basins.getD m Tapi_Basin.d) (levels.getD m 0) = some (vol (bs n m) (levels.getD m 0)) from volume_eq (by omega) vb (by omega) (by omega)]
      simp only [Option.bind_some]
      rw [if_pos (by omega), ← vols_succ]
      exact fillL1 hN v minute hlen k (m + 1) g (by omega) (by omega)
def fillCode (n : Tapi_Network) (minute : Int) (levels : List Int) : Int :=
  cond (netCode n != 0) (netCode n) (cond (!ins minute 0 1000000) 2 (cond (((levels.length : Nat) : Int) != ((n.f_Basins.length : Nat) : Int)) 11 0))
theorem Fill_eq {N : Nat} (hN : 400 < N) (n : Tapi_Network) (minute : Int) (levels : List Int) :
    g_water_Fill N n minute levels = some (cond (fillCode n minute levels != 0) (zeroW, fillCode n minute levels) (fillR n minute levels)) := by
  unfold g_water_Fill fillCode
  rw [checkNet_eq hN, Option.bind_some]
  cases h : netCode n != 0 with
  | true => simp only [cond_true, h]; rfl
  | false =>
    have v := net_of (n := n) (by simpa using h)
    simp only [cond_false, between_eq, Option.bind_some]
    cases ins minute 0 1000000 with
    | false => rfl
    | true =>
      simp only [Bool.not_true, cond_false]
      cases hl : ((levels.length : Nat) : Int) != ((n.f_Basins.length : Nat) : Int) with
      | true => rfl
      | false =>
        have hl : levels.length = n.f_Basins.length := by simp at hl; omega
        have hnl := v.nl
        have hnb := v.nb
        rw [cond_false, if_pos (by omega)]
        exact fillL1 hN v minute hl n.f_Basins.length 0 N (by omega) (by omega)

theorem ints_self {N : Nat} {l : List Int} (h : l.length < N) (h2 : l.length < 1000) : g_keelblockbase_Ints N l l = some true := by
  unfold g_keelblockbase_Ints
  rw [bne_self_eq_false, cond_false]
  refine loop_none (L := fun fuel => g_keelblockbase_Ints_L1 N l l fuel) (some true) h (fun fuel i hi => ?_) (fun fuel => ?_)
  · simp only [g_keelblockbase_Ints_L1, dec_lt hi, cond_true, if_pos (inb hi), bne_self_eq_false, cond_false, w64_succ (show i < 9223372036854775807 by omega)]
  · simp only [g_keelblockbase_Ints_L1, dec_nlt, cond_false]
theorem same_self {N : Nat} {w : Tapi_Water} (h1 : w.f_Litres.length < N) (h2 : w.f_Open.length < N) (h3 : w.f_Litres.length < 1000) (h4 : w.f_Open.length < 1000) : g_keelblocklaw05_SameWater N w w = some true := by
  unfold g_keelblocklaw05_SameWater
  rw [ints_self h1 h3]
  simp only [bne_self_eq_false, Bool.not_false, Bool.not_true, cond_true, cond_false, Option.bind_some]
  refine loop_none (L := fun fuel => g_keelblocklaw05_SameWater_L1 N w w fuel) (some true) h2 (fun fuel i hi => ?_) (fun fuel => ?_)
  · simp only [g_keelblocklaw05_SameWater_L1, dec_lt hi, cond_true, if_pos (inb hi), beq_self_eq_true, Bool.not_true, cond_false, w64_succ (show i < 9223372036854775807 by omega)]
  · simp only [g_keelblocklaw05_SameWater_L1, dec_nlt, cond_false]
theorem none_zero {N : Nat} (h : 0 < N) : g_keelblocklaw05_none N zeroW = some true := by
  unfold g_keelblocklaw05_none
  have := same_self (N := N) (w := zeroW) h h (by decide) (by decide)
  rw [show (⟨0, ([] : List Int), ([] : List Bool)⟩ : Tapi_Water) = zeroW from rfl, this]; rfl

/-- The state of a network is what the document allows. -/
def litresStep (n : Tapi_Network) (w : Tapi_Water) (m : Nat) : Option Int := cond (!ins (w.f_Litres.getD m 0) 0 (vol (bs n m) (bs n m).f_Rim)) (some 2) none
def stateCode (n : Tapi_Network) (w : Tapi_Water) : Int :=
  cond (netCode n != 0) (netCode n) (cond (!ins w.f_Minute 0 1000000) 2 (cond (cond (((w.f_Litres.length : Nat) : Int) != ((n.f_Basins.length : Nat) : Int)) true (((w.f_Open.length : Nat) : Int) != ((n.f_Links.length : Nat) : Int))) 11
    (scan (litresStep n w) 0 n.f_Basins.length 0)))
theorem checkState_eq {N : Nat} (hN : 400 < N) (n : Tapi_Network) (w : Tapi_Water) : g_water_checkState N n w = some (stateCode n w) := by
  unfold g_water_checkState stateCode
  rw [checkNet_eq hN, Option.bind_some]
  cases h : netCode n != 0 with
  | true => rfl
  | false =>
    have v := net_of (n := n) (by simpa using h)
    have hnb := v.nb
    simp only [cond_false, between_eq, Option.bind_some]
    cases ins w.f_Minute 0 1000000 with
    | false => rfl
    | true =>
      simp only [Bool.not_true, cond_false]
      cases hl : cond (((w.f_Litres.length : Nat) : Int) != ((n.f_Basins.length : Nat) : Int)) true (((w.f_Open.length : Nat) : Int) != ((n.f_Links.length : Nat) : Int)) with
      | true => rfl
      | false =>
        have hl : w.f_Litres.length = n.f_Basins.length := by
          cases h2 : ((w.f_Litres.length : Nat) : Int) != ((n.f_Basins.length : Nat) : Int) with
          | true => rw [h2] at hl; cases hl
          | false => simp at h2; omega
        rw [cond_false, cond_false]
        refine loop_scan0 (L := fun fuel => g_water_checkState_L1 N n w fuel) _ _ (by omega) (fun fuel m hm => ?_) (fun fuel => ?_)
        · have hm2 : m < w.f_Litres.length := by omega
          have vb := v.valid hm
          have h0 := vb.frm 0 (by have := vb.len; omega)
          have hr := vb.rim
          have hfl := floor_lt vb
          simp only [g_water_checkState_L1, dec_lt hm, cond_true, if_pos (inb hm), if_pos (inb hm2), toNat_nat, w64_succ (show m < 9223372036854775807 by omega), between_eq]
          rw [show g_water_volume N (n.f_Basins.getD m Tapi_Basin.d) (n.f_Basins.getD m Tapi_Basin.d).f_Rim = some (vol (bs n m) (bs n m).f_Rim) from volume_eq (by omega) vb (show -1000000 ≤ (bs n m).f_Rim by omega) (show (bs n m).f_Rim ≤ 1000001 by omega)]
          simp only [Option.bind_some, litresStep]
          cases ins (w.f_Litres.getD m 0) 0 (vol (bs n m) (bs n m).f_Rim) <;> rfl
        · simp only [g_water_checkState_L1, dec_nlt, cond_false]
structure StateOk (n : Tapi_Network) (w : Tapi_Water) : Prop where
  net : NetOk n
  lo : 0 ≤ w.f_Minute
  hi : w.f_Minute ≤ 1000000
  lit : w.f_Litres.length = n.f_Basins.length
  opn : w.f_Open.length = n.f_Links.length
  vol : ∀ m, m < n.f_Basins.length → 0 ≤ w.f_Litres.getD m 0 ∧ w.f_Litres.getD m 0 ≤ vol (bs n m) (bs n m).f_Rim
theorem state_of {n : Tapi_Network} {w : Tapi_Water} (h : stateCode n w = 0) : StateOk n w := by
  unfold stateCode at h
  cases hn : netCode n != 0 with
  | true => rw [hn, cond_true] at h; rw [h] at hn; cases hn
  | false =>
    rw [hn, cond_false] at h
    cases hi : ins w.f_Minute 0 1000000 with
    | false => rw [hi] at h; cases h
    | true =>
      rw [hi, Bool.not_true, cond_false] at h
      cases hl : cond (((w.f_Litres.length : Nat) : Int) != ((n.f_Basins.length : Nat) : Int)) true (((w.f_Open.length : Nat) : Int) != ((n.f_Links.length : Nat) : Int)) with
      | true => rw [hl] at h; cases h
      | false =>
        rw [hl, cond_false] at h
        have h2 : w.f_Litres.length = n.f_Basins.length ∧ w.f_Open.length = n.f_Links.length := by
          cases h2 : ((w.f_Litres.length : Nat) : Int) != ((n.f_Basins.length : Nat) : Int) with
          | true => rw [h2] at hl; cases hl
          | false =>
            rw [h2, cond_false] at hl
            simp at h2 hl; omega
        obtain ⟨i1, i2⟩ := ins_iff.1 hi
        refine ⟨net_of (by simpa using hn), i1, i2, h2.1, h2.2, fun m hm => ?_⟩
        rcases scan_inv (f := litresStep n w) (z := 0) n.f_Basins.length 0 with ⟨j, r, _, _, h3, _, h5⟩ | ⟨h1, _⟩
        · rw [h] at h5; subst h5
          unfold litresStep at h3
          generalize ins (w.f_Litres.getD j 0) 0 (Go.Den.vol (bs n j) (bs n j).f_Rim) = q at h3
          cases q <;> simp at h3
        · have := h1 m (Nat.zero_le _) (by omega)
          unfold litresStep at this
          cases hj : ins (w.f_Litres.getD m 0) 0 (Go.Den.vol (bs n m) (bs n m).f_Rim) with
          | false => rw [hj] at this; cases this
          | true => exact ins_iff.1 hj
/-- The levels of a state. -/
def Levs (n : Tapi_Network) (w : Tapi_Water) (out : List Int) : Prop := out.length = n.f_Basins.length ∧ ∀ m, m < n.f_Basins.length → Lev (bs n m) (w.f_Litres.getD m 0) (out.getD m 0)
theorem Levs.unique {n : Tapi_Network} {w : Tapi_Water} (v : NetOk n) {l l' : List Int} (h : Levs n w l) (h' : Levs n w l') : l = l' := by
  refine List.ext_getElem (h.1.trans h'.1.symm) fun i h1 h2 => ?_
  have hi : i < n.f_Basins.length := h.1 ▸ h1
  have := (h.2 i hi).unique (v.valid hi) (h'.2 i hi)
  simpa [List.getD_eq_getElem?_getD, h1, h2] using this
theorem levelsL1 {N : Nat} (hN : 400 < N) {n : Tapi_Network} {w : Tapi_Water} (v : StateOk n w) : ∀ k m fuel (out : List Int), m + k = n.f_Basins.length → k < fuel → out.length = m → (∀ i, i < m → Lev (bs n i) (w.f_Litres.getD i 0) (out.getD i 0)) →
    ∃ l, g_water_Levels_L1 N n w fuel out (m : Int) = some (l, 0) ∧ Levs n w l
  | 0, m, fuel, out, h, hf, ho, hl => by
    obtain ⟨g, rfl⟩ : ∃ g, fuel = g + 1 := ⟨fuel - 1, by omega⟩
    have hm : m = n.f_Basins.length := by omega
    subst hm
    exact ⟨out, by simp only [g_water_Levels_L1, dec_nlt, cond_false], ho, hl⟩
  | k + 1, m, fuel, out, h, hf, ho, hl => by
    obtain ⟨g, rfl⟩ : ∃ g, fuel = g + 1 := ⟨fuel - 1, by omega⟩
    have hm : m < n.f_Basins.length := by omega
    have hm2 : m < w.f_Litres.length := by rw [v.lit]; exact hm
    have hnb := v.net.nb
    obtain ⟨b1, b2⟩ := v.vol m hm
    obtain ⟨L, e1, e2⟩ := levelOf_eq (N := N) (by omega) (v.net.valid hm) b1 b2
    have e1 : g_water_levelOf N (n.f_Basins.getD m Tapi_Basin.d) (w.f_Litres.getD m 0) = some L := e1
    simp only [g_water_Levels_L1, dec_lt hm, cond_true, if_pos (inb hm), if_pos (inb hm2), toNat_nat, e1, Option.bind_some, w64_succ (show m < 9223372036854775807 by omega)]
    rw [if_pos (by omega)]
    refine levelsL1 hN v k (m + 1) g (out ++ [L]) (by omega) (by omega) (by simp [ho]) fun i hi => ?_
    by_cases him : i = m
    · subst him
      have : (out ++ [L]).getD i 0 = L := by simp [List.getD_eq_getElem?_getD, ← ho]
      rw [this]; exact e2
    · have : (out ++ [L]).getD i 0 = out.getD i 0 := by simp [List.getD_eq_getElem?_getD, List.getElem?_append_left (show i < out.length by omega)]
      rw [this]; exact hl i (by omega)
theorem Levels_eq {N : Nat} (hN : 400 < N) (n : Tapi_Network) (w : Tapi_Water) : (stateCode n w ≠ 0 ∧ g_water_Levels N n w = some ([], stateCode n w)) ∨ (stateCode n w = 0 ∧ ∃ l, g_water_Levels N n w = some (l, 0) ∧ Levs n w l) := by
  unfold g_water_Levels
  rw [checkState_eq hN, Option.bind_some]
  by_cases h : stateCode n w = 0
  · right
    have v := state_of h
    have hnb := v.net.nb
    obtain ⟨l, h1, h2⟩ := levelsL1 hN v n.f_Basins.length 0 N [] (by omega) (by omega) rfl (fun i hi => by omega)
    refine ⟨h, l, ?_, h2⟩
    rw [h, bne_self_eq_false, cond_false]; exact h1
  · left
    refine ⟨h, ?_⟩
    have : (stateCode n w != 0) = true := by simpa using h
    rw [this]; rfl
end Go.Den

namespace Go.Den
open Go.Ab

theorem short_some {N : Nat} {n : Tapi_Network} (hN : 400 < N) : ∃ q, g_keelblocklaw05_short N n = some q := by
  unfold g_keelblocklaw05_short
  cases h : cond (cond (decide (((n.f_Basins.length : Nat) : Int) > 10)) true (decide (((n.f_Links.length : Nat) : Int) > 14))) true (cond (decide (((n.f_Sea.length : Nat) : Int) > 30)) (decide (((n.f_Sea.length : Nat) : Int) ≤ 400)) false) with
  | true => exact ⟨false, rfl⟩
  | false =>
    have hl : n.f_Basins.length ≤ 10 ∧ n.f_Links.length ≤ 14 := by
      cases h1 : decide (((n.f_Basins.length : Nat) : Int) > 10) with
      | true => rw [h1] at h; cases h
      | false =>
        cases h2 : decide (((n.f_Links.length : Nat) : Int) > 14) with
        | true => rw [h1, h2] at h; cases h
        | false => simp at h1 h2; omega
    have e2 : ∃ q, g_keelblocklaw05_short_L2 N n N 0 = some q := by
      refine ⟨_, loop_scan0 (L := fun fuel => g_keelblocklaw05_short_L2 N n fuel) (fun i => cond (cond (cond (decide (((((n.f_Links.getD i Tapi_Link.d).f_Name).size : Nat) : Int) > 40)) true (decide (((((n.f_Links.getD i Tapi_Link.d).f_From).size : Nat) : Int) > 40))) true (decide (((((n.f_Links.getD i Tapi_Link.d).f_To).size : Nat) : Int) > 40))) (some false) none) true (show n.f_Links.length < N by omega) (fun fuel i hi => ?_) (fun fuel => ?_)⟩
      · simp only [g_keelblocklaw05_short_L2, dec_lt hi, cond_true, if_pos (inb hi), if_pos (fun _ => inb hi), toNat_nat, w64_succ (show i < 9223372036854775807 by omega)]
        cases cond (cond (decide (((((n.f_Links.getD i Tapi_Link.d).f_Name).size : Nat) : Int) > 40)) true (decide (((((n.f_Links.getD i Tapi_Link.d).f_From).size : Nat) : Int) > 40))) true (decide (((((n.f_Links.getD i Tapi_Link.d).f_To).size : Nat) : Int) > 40)) <;> rfl
      · simp only [g_keelblocklaw05_short_L2, dec_nlt, cond_false]
    obtain ⟨q2, e2⟩ := e2
    refine ⟨_, loop_scan0 (L := fun fuel => g_keelblocklaw05_short_L1 N n fuel) (fun i => cond (cond (decide (((((n.f_Basins.getD i Tapi_Basin.d).f_Areas).length : Nat) : Int) > 30)) true (decide (((((n.f_Basins.getD i Tapi_Basin.d).f_Name).size : Nat) : Int) > 40))) (some false) none) q2 (show n.f_Basins.length < N by omega) (fun fuel i hi => ?_) (fun fuel => ?_)⟩
    · simp only [g_keelblocklaw05_short_L1, dec_lt hi, cond_true, if_pos (inb hi), if_pos (fun _ => inb hi), toNat_nat, w64_succ (show i < 9223372036854775807 by omega)]
      cases cond (decide (((((n.f_Basins.getD i Tapi_Basin.d).f_Areas).length : Nat) : Int) > 30)) true (decide (((((n.f_Basins.getD i Tapi_Basin.d).f_Name).size : Nat) : Int) > 40)) <;> rfl
    · simp only [g_keelblocklaw05_short_L1, dec_nlt, cond_false, e2]

section
variable {N : Nat} {n : Tapi_Network} {minute : Int} {levels : List Int}
theorem L3_bad (h0 : 0 < N) {c : Int} (hc : c ≠ 0) (fuel : Nat) (want : List Int) (i : Int) : g_keelblocklaw05_WaterNetworks_L3 N n minute levels (zeroW, c) (fuel + 1) c want i = some true := by
  have e1 : (c == 0) = false := by simpa using hc
  have e2 : (c != 0) = true := by simpa using hc
  rw [g_keelblocklaw05_WaterNetworks_L3]
  simp only [e1, e2, beq_self_eq_true, cond_true, none_zero h0, Option.bind_some]
  cases decide (i < ((levels.length : Nat) : Int)) <;> rfl

theorem full_ok (hnet : netCode n = 0) (hm : ins minute 0 1000000 = true) (hl : levels.length = n.f_Basins.length) (ha : allOk n levels n.f_Basins.length 0 = true) : stateCode n (fullW n minute levels) = 0 ∧ Levs n (fullW n minute levels) levels := by
  have v := net_of hnet
  have hf : ∀ i, i < n.f_Basins.length → (ar (bs n i) 0).f_From ≤ levels.getD i 0 ∧ levels.getD i 0 ≤ (bs n i).f_Rim := fun i hi => ins_iff.1 (allOk_get ha i (Nat.zero_le _) (by omega))
  have hg : ∀ i, i < n.f_Basins.length → (fullW n minute levels).f_Litres.getD i 0 = vol (bs n i) (levels.getD i 0) := fun i hi => vols_get n levels hi
  have hv : ∀ i, i < n.f_Basins.length → 0 ≤ vol (bs n i) (levels.getD i 0) ∧ vol (bs n i) (levels.getD i 0) ≤ vol (bs n i) (bs n i).f_Rim := fun i hi => by
    obtain ⟨f1, f2⟩ := hf i hi
    refine ⟨?_, vol_le (v.valid hi) f1 f2⟩
    have := vol_le (v.valid hi) (Int.le_refl _) f1
    rw [vol_floor (v.valid hi)] at this
    exact this
  refine ⟨?_, hl, fun i hi => ?_⟩
  · have e1 : (((fullW n minute levels).f_Litres.length : Nat) : Int) = ((n.f_Basins.length : Nat) : Int) := by simp [fullW, vols_len]
    have e2 : (((fullW n minute levels).f_Open.length : Nat) : Int) = ((n.f_Links.length : Nat) : Int) := by simp [fullW]
    have e3 : (fullW n minute levels).f_Minute = minute := rfl
    unfold stateCode
    rw [hnet, e1, e2, e3, hm]
    simp only [bne_self_eq_false, cond_false, Bool.not_true]
    refine scan_all _ _ fun i h1 h2 => ?_
    unfold litresStep
    rw [hg i (by omega), ins_iff.2 (hv i (by omega))]; rfl
  · rw [hg i hi]
    obtain ⟨f1, f2⟩ := hf i hi
    exact ⟨f1, f2, Int.le_refl _, fun _ => vol_succ (v.valid hi) f1⟩

theorem L3_loop (hN : 400 < N) (hnet : netCode n = 0) (hm : ins minute 0 1000000 = true) (hl : levels.length = n.f_Basins.length) (r : Tapi_Water × Int) (hall : allOk n levels n.f_Basins.length 0 = true → r = (fullW n minute levels, 0)) :
    ∀ k m fuel, m + k = n.f_Basins.length → k + 1 < fuel → (∀ i, i < m → fillOk n levels i = true) → (allOk n levels k m = true → allOk n levels n.f_Basins.length 0 = true) → (allOk n levels k m = false → r = (zeroW, 2)) →
    g_keelblocklaw05_WaterNetworks_L3 N n minute levels r fuel 0 (vols n levels m) (m : Int) = some true
  | 0, m, fuel, h, hf, _, hk, _ => by
    obtain ⟨g, rfl⟩ : ∃ g, fuel = g + 1 := ⟨fuel - 1, by omega⟩
    have v := net_of hnet
    have hnb := v.nb
    have hnl := v.nl
    have hmm : m = levels.length := by omega
    have ha := hk rfl
    rw [hall ha]
    obtain ⟨f1, f2⟩ := full_ok hnet hm hl ha
    rw [show m = n.f_Basins.length by omega] at *
    rw [g_keelblocklaw05_WaterNetworks_L3, ← hl]
    simp only [dec_nlt, cond_false, bne_self_eq_false]
    rw [hl]
    rcases Levels_eq hN n (fullW n minute levels) with ⟨h1, _⟩ | ⟨_, l, h1, h2⟩
    · exact (h1 f1).elim
    · have := h2.unique v f2
      subst this
      have hsame : g_keelblocklaw05_SameWater N (fullW n minute l) (⟨minute, vols n l n.f_Basins.length, List.replicate n.f_Links.length false⟩ : Tapi_Water) = some true :=
        same_self (w := fullW n minute l) (by simp [fullW, vols_len]; omega) (by simp [fullW]; omega) (by simp [fullW, vols_len]; omega) (by simp [fullW]; omega)
      have hints : g_keelblockbase_Ints N l l = some true := ints_self (by omega) (by omega)
      simp only [h1, Option.bind_some, beq_self_eq_true, cond_true, hsame, hints]
  | k + 1, m, fuel, h, hf, hlo, hk, hb => by
    obtain ⟨g, rfl⟩ : ∃ g, fuel = g + 1 := ⟨fuel - 1, by omega⟩
    have v := net_of hnet
    have hnb := v.nb
    have hmb : m < n.f_Basins.length := by omega
    have hml : m < levels.length := by omega
    have vb := v.valid hmb
    have e1 : g_keelblockref05_Volume N (n.f_Basins.getD m Tapi_Basin.d) (levels.getD m 0) = some (volR (bs n m) (levels.getD m 0)) := refVolume_eq (by omega) _ _
    rw [g_keelblocklaw05_WaterNetworks_L3]
    simp only [dec_lt hml, cond_true, beq_self_eq_true, if_pos (inb hmb), if_pos (inb hml), toNat_nat, e1, Option.bind_some, vols_len, w64_succ (show m < 9223372036854775807 by omega)]
    rw [if_pos (by omega)]
    cases hfo : fillOk n levels m with
    | true =>
      have e2 : volR (bs n m) (levels.getD m 0) = (vol (bs n m) (levels.getD m 0), 0) := by
        unfold volR
        rw [v.basin hmb, show ins (levels.getD m 0) (ar (bs n m) 0).f_From (bs n m).f_Rim = true from hfo]; rfl
      have e3 : allOk n levels (k + 1) m = allOk n levels k (m + 1) := by rw [allOk, hfo, cond_true]
      rw [e2, ← vols_succ]
      exact L3_loop hN hnet hm hl r hall k (m + 1) g (by omega) (by omega) (fun i hi => by
        by_cases him : i = m
        · subst him; exact hfo
        · exact hlo i (by omega)) (fun h => hk (e3.trans h)) (fun h => hb (e3.trans h))
    | false =>
      have e2 : volR (bs n m) (levels.getD m 0) = (0, 2) := by
        unfold volR
        rw [v.basin hmb, show ins (levels.getD m 0) (ar (bs n m) 0).f_From (bs n m).f_Rim = false from hfo]; rfl
      rw [e2, hb (by rw [allOk, hfo, cond_false])]
      obtain ⟨g', rfl⟩ : ∃ g', g = g' + 1 := ⟨g - 1, by omega⟩
      exact L3_bad (by omega) (by decide) g' _ _

theorem J2_bad (hN : 400 < N) {c : Int} (hc : c ≠ 0) (hl : n.f_Links.length ≤ 1000000) : g_keelblocklaw05_WaterNetworks_J2 N n minute levels (zeroW, c) c = some true := by
  unfold g_keelblocklaw05_WaterNetworks_J2
  rw [if_pos (by omega)]
  obtain ⟨M, rfl⟩ : ∃ M, N = M + 1 := ⟨N - 1, by omega⟩
  exact L3_bad (by omega) hc M _ _
end

theorem short_links {N : Nat} {n : Tapi_Network} (h : g_keelblocklaw05_short N n = some true) : n.f_Links.length ≤ 14 := by
  unfold g_keelblocklaw05_short at h
  cases h1 : decide (((n.f_Links.length : Nat) : Int) > 14) with
  | true =>
    rw [h1] at h
    generalize decide (((n.f_Basins.length : Nat) : Int) > 10) = q at h
    cases q <;> exact absurd (Option.some.inj h) (by decide)
  | false => simp at h1; omega

theorem waterNetworks_plain (n : Tapi_Network) (minute : Int) (levels : List Int) (_ : Tapi_Network.wf n) (_ : wI minute) (_ : wL wI levels) : ∃ N, g_keelblocklaw05_WaterNetworks N n minute levels = some true := by
  refine ⟨401, ?_⟩
  generalize hN : (401 : Nat) = N
  have hN : 400 < N := by omega
  unfold g_keelblocklaw05_WaterNetworks
  rw [awake5_eq (by omega)]
  obtain ⟨q, hq⟩ := short_some (n := n) hN
  simp only [Option.bind_some, Bool.not_true, cond_false, hq]
  cases q with
  | false => rfl
  | true =>
    have hlk := short_links hq
    cases decide (((levels.length : Nat) : Int) > 20) with
    | true => rfl
    | false =>
      simp only [Bool.not_true, cond_false, refNet_eq hN, Fill_eq hN, checkNet_eq hN, Option.bind_some, bne_self_eq_false]
      unfold fillCode
      by_cases h0 : netCode n = 0
      · rw [h0]
        have v := net_of h0
        have hins : cond (decide (minute < 0)) true (decide (minute > 1000000)) = !ins minute 0 1000000 := by
          rw [Bool.eq_iff_iff]; simp [Bool.cond_eq_ite, ins]
        simp only [bne_self_eq_false, cond_false, beq_self_eq_true, cond_true, hins]
        cases hm : ins minute 0 1000000 with
        | false =>
          simp only [Bool.not_false, cond_true]
          unfold g_keelblocklaw05_WaterNetworks_J1
          exact J2_bad hN (by decide) (by omega)
        | true =>
          simp only [Bool.not_true, cond_false]
          unfold g_keelblocklaw05_WaterNetworks_J1
          cases hl : ((levels.length : Nat) : Int) != ((n.f_Basins.length : Nat) : Int) with
          | true => exact J2_bad hN (by decide) (by omega)
          | false =>
            have hl : levels.length = n.f_Basins.length := by simp at hl; omega
            simp only [bne_self_eq_false, cond_false, beq_self_eq_true, cond_true]
            unfold g_keelblocklaw05_WaterNetworks_J2
            rw [if_pos (by omega)]
            have hnb := v.nb
            refine L3_loop hN h0 hm hl _ (fun ha => ?_) n.f_Basins.length 0 N (by omega) (by omega) (fun i hi => by omega) id (fun hb => ?_)
            · unfold fillR; rw [ha]; rfl
            · unfold fillR; rw [hb]; rfl
      · have e1 : (netCode n != 0) = true := by simpa using h0
        have e2 : (netCode n == 0) = false := by simpa using h0
        simp only [e1, e2, cond_true, cond_false]
        unfold g_keelblocklaw05_WaterNetworks_J1
        simp only [e2, cond_false]
        exact J2_bad hN h0 (by omega)
end Go.Den
