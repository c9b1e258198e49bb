/- The plain law: the Lean function of the law returns true for every input, and what it needs. No conditions. -/
import Derived.Test.YtlpbfdpgchbhoaaBerthLinesDen

namespace Go.Den
open Go.Ab

theorem w64_def (n : Int) : w64 n = if n % 18446744073709551616 ≥ 9223372036854775808 then n % 18446744073709551616 - 18446744073709551616 else n % 18446744073709551616 := by
  have e : w64 n = (if (true && decide (n % 18446744073709551616 ≥ 9223372036854775808)) = true then n % 18446744073709551616 - 18446744073709551616 else n % 18446744073709551616) := rfl
  rw [e]; simp
theorem w64_eq {n : Int} (h1 : -9223372036854775808 ≤ n) (h2 : n ≤ 9223372036854775807) : w64 n = n := by
  rw [w64_def]; split <;> omega
theorem w64_nat {m : Nat} (h : m ≤ 9223372036854775807) : w64 (m : Int) = m := w64_eq (by omega) (by omega)
theorem w64_succ {m : Nat} (h : m < 9223372036854775807) : w64 ((m : Int) + 1) = ((m + 1 : Nat) : Int) := by rw [w64_eq (by omega) (by omega)]; simp

theorem toList_inj {a b : ByteArray} (h : a.toList = b.toList) : a = b := by
  have e : ∀ x : ByteArray, x.toList = x.data.toList := fun x => ByteArray.toList_eq x
  rw [e, e] at h
  cases a; cases b; simp_all [Array.toList_inj]
theorem streq_iff {a b : ByteArray} : streq a b = true ↔ a = b := by
  unfold streq; simp only [beq_iff_eq]
  exact ⟨toList_inj, fun h => h ▸ rfl⟩
theorem streq_comm (a b : ByteArray) : streq a b = streq b a := by
  rw [Bool.eq_iff_iff, streq_iff, streq_iff]; exact eq_comm

/-- The first answer of a row of questions, from m on, k of them; else z. -/
def scan {R : Type} (f : Nat → Option R) (z : R) : Nat → Nat → R
  | 0, _ => z
  | k + 1, m => match f m with
    | some r => r
    | none => scan f z k (m + 1)

theorem loop_scan {R : Type} {L : Nat → Int → Option R} (f : Nat → Option R) (z : R) {n : Nat}
    (hstep : ∀ fuel m, m < n → L (fuel + 1) (m : Int) = (match f m with | some r => some r | none => L fuel ((m + 1 : Nat) : Int)))
    (hend : ∀ fuel, L (fuel + 1) (n : Int) = some z) : ∀ k m fuel, m + k = n → k < fuel → L fuel (m : Int) = some (scan f z k m)
  | 0, m, fuel, h, hf => by
    obtain ⟨g, rfl⟩ : ∃ g, fuel = g + 1 := ⟨fuel - 1, by omega⟩
    have : m = n := by omega
    subst this; exact hend g
  | k + 1, m, fuel, h, hf => by
    obtain ⟨g, rfl⟩ : ∃ g, fuel = g + 1 := ⟨fuel - 1, by omega⟩
    rw [hstep g m (by omega)]
    unfold scan
    cases hfm : f m with
    | some r => rfl
    | none => exact loop_scan f z hstep hend k (m + 1) g (by omega) (by omega)

theorem loop_scan0 {R : Type} {L : Nat → Int → Option R} (f : Nat → Option R) (z : R) {n fuel : Nat} (hf : n < fuel)
    (hstep : ∀ fuel m, m < n → L (fuel + 1) (m : Int) = (match f m with | some r => some r | none => L fuel ((m + 1 : Nat) : Int)))
    (hend : ∀ fuel, L (fuel + 1) (n : Int) = some z) : L fuel 0 = some (scan f z n 0) :=
  loop_scan f z hstep hend n 0 fuel (by omega) hf

theorem scan_congr {R : Type} {f g : Nat → Option R} {z : R} : ∀ (k m : Nat), (∀ i, m ≤ i → i < m + k → f i = g i) → scan f z k m = scan g z k m
  | 0, _, _ => rfl
  | k + 1, m, h => by
    unfold scan
    rw [h m (by omega) (by omega)]
    cases g m with
    | some r => rfl
    | none => exact scan_congr k (m + 1) fun i hi hi2 => h i (by omega) (by omega)

theorem scan_all {R : Type} {f : Nat → Option R} {z : R} : ∀ (k m : Nat), (∀ i, m ≤ i → i < m + k → f i = none) → scan f z k m = z
  | 0, _, _ => rfl
  | k + 1, m, h => by
    unfold scan
    rw [h m (by omega) (by omega)]
    exact scan_all k (m + 1) fun i hi hi2 => h i (by omega) (by omega)

theorem scan_inv {R : Type} {f : Nat → Option R} {z : R} : ∀ (k m : Nat), (∃ i r, m ≤ i ∧ i < m + k ∧ f i = some r ∧ (∀ j, m ≤ j → j < i → f j = none) ∧ scan f z k m = r) ∨ ((∀ i, m ≤ i → i < m + k → f i = none) ∧ scan f z k m = z)
  | 0, m => .inr ⟨fun i h1 h2 => by omega, rfl⟩
  | k + 1, m => by
    cases hm : f m with
    | some r => exact .inl ⟨m, r, Nat.le_refl _, by omega, hm, fun j h1 h2 => by omega, by unfold scan; rw [hm]⟩
    | none =>
      have e : scan f z (k + 1) m = scan f z k (m + 1) := by rw [scan, hm]
      rcases scan_inv (f := f) (z := z) k (m + 1) with ⟨i, r, h1, h2, h3, h4, h5⟩ | ⟨h1, h2⟩
      · refine .inl ⟨i, r, by omega, by omega, h3, fun j hj1 hj2 => ?_, e.trans h5⟩
        by_cases hj : j = m
        · subst hj; exact hm
        · exact h4 j (by omega) hj2
      · refine .inr ⟨fun i hi1 hi2 => ?_, e.trans h2⟩
        by_cases hj : i = m
        · subst hj; exact hm
        · exact h1 i (by omega) (by omega)

theorem loop_scanR {R : Type} {L : Nat → Int → R} (f : Nat → Option R) (z : R) {n : Nat}
    (hstep : ∀ fuel m, m < n → L (fuel + 1) (m : Int) = (match f m with | some r => r | none => L fuel ((m + 1 : Nat) : Int)))
    (hend : ∀ fuel, L (fuel + 1) (n : Int) = z) : ∀ k m fuel, m + k = n → k < fuel → L fuel (m : Int) = scan f z k m
  | 0, m, fuel, h, hf => by
    obtain ⟨g, rfl⟩ : ∃ g, fuel = g + 1 := ⟨fuel - 1, by omega⟩
    have : m = n := by omega
    subst this; exact hend g
  | k + 1, m, fuel, h, hf => by
    obtain ⟨g, rfl⟩ : ∃ g, fuel = g + 1 := ⟨fuel - 1, by omega⟩
    rw [hstep g m (by omega)]
    unfold scan
    cases hfm : f m with
    | some r => rfl
    | none => exact loop_scanR f z hstep hend k (m + 1) g (by omega) (by omega)
theorem loop_scanR0 {R : Type} {L : Nat → Int → R} (f : Nat → Option R) (z : R) {n fuel : Nat} (hf : n < fuel)
    (hstep : ∀ fuel m, m < n → L (fuel + 1) (m : Int) = (match f m with | some r => r | none => L fuel ((m + 1 : Nat) : Int)))
    (hend : ∀ fuel, L (fuel + 1) (n : Int) = z) : L fuel 0 = scan f z n 0 :=
  loop_scanR f z hstep hend n 0 fuel (by omega) hf
theorem loop_none {R : Type} {L : Nat → Int → R} (z : R) {n fuel : Nat} (hf : n < fuel) (hstep : ∀ fuel m, m < n → L (fuel + 1) (m : Int) = L fuel ((m + 1 : Nat) : Int))
    (hend : ∀ fuel, L (fuel + 1) (n : Int) = z) : L fuel 0 = z :=
  (loop_scanR0 (fun _ => none) z hf (fun g m hm => hstep g m hm) hend).trans (scan_all n 0 fun _ _ _ => rfl)
theorem scan_index {p : Nat → Bool} : ∀ (n m : Nat), decide (scan (fun k => cond (p k) (some (k : Int)) none) (-1) n m ≥ 0) = scan (fun k => cond (p k) (some true) none) false n m
  | 0, m => rfl
  | n + 1, m => by
    unfold scan
    cases p m with
    | true => simp
    | false => exact scan_index n (m + 1)
theorem scan_bool {R : Type} {p : Nat → Bool} {a z : R} : ∀ (n m : Nat), scan (fun k => cond (p k) (some a) none) z n m = cond (scan (fun k => cond (p k) (some true) none) false n m) a z
  | 0, m => rfl
  | n + 1, m => by
    unfold scan
    cases p m with
    | true => rfl
    | false => exact scan_bool n (m + 1)
theorem bind_cond {α β : Type} (q : Bool) (a b : α) (f : α → Option β) : (cond q (some a) (some b)).bind f = f (cond q a b) := by cases q <;> rfl
theorem cond_some {α : Type} (q : Bool) (a b : α) : cond q (some a) (some b) = some (cond q a b) := by cases q <;> rfl
theorem getD_take {α : Type} (l : List α) (m k : Nat) (d : α) (h : k < m) : ((l.take m).drop 0).getD k d = l.getD k d := by
  simp [List.getD, h]
theorem drop_take_one {α : Type} (l : List α) (m : Nat) (d : α) (h : m < l.length) : (l.take (m + 1)).drop m = [l.getD m d] := by
  have e : (l.take (m + 1)).drop m = (l.drop m).take 1 := by rw [List.drop_take]; congr 1; omega
  rw [e, List.drop_eq_getElem_cons h, List.take_succ_cons, List.take_zero]
  simp [List.getD, h]
theorem getD_mem {α : Type} (l : List α) (m : Nat) (d : α) (h : m < l.length) : l.getD m d ∈ l := by
  simp [List.getD, h]
theorem sq_nonneg (x : Int) : 0 ≤ x * x := by
  by_cases h : 0 ≤ x
  · exact Int.mul_nonneg h h
  · have := Int.mul_nonneg (show 0 ≤ -x by omega) (show 0 ≤ -x by omega)
    rwa [Int.neg_mul_neg] at this
theorem sq_le {x M : Int} (h1 : -M ≤ x) (h2 : x ≤ M) : x * x ≤ M * M := by
  by_cases h : 0 ≤ x
  · exact Int.mul_le_mul h2 h2 h (by omega)
  · have := Int.mul_le_mul (show -x ≤ M by omega) (show -x ≤ M by omega) (by omega) (by omega)
    rwa [Int.neg_mul_neg] at this
theorem orI_nat {a b : Nat} (ha : a < 9223372036854775808) (hb : b < 9223372036854775808) : orI .i64 (a : Int) (b : Int) = ((a ||| b : Nat) : Int) := by
  have h : a ||| b < 2 ^ 63 := Nat.or_lt_two_pow (by omega) (by omega)
  have e : (BitVec.ofInt IntKind.i64.bits (a : Int) ||| BitVec.ofInt IntKind.i64.bits (b : Int)).toNat = a ||| b := by
    show (BitVec.ofInt 64 (a : Int) ||| BitVec.ofInt 64 (b : Int)).toNat = _
    rw [BitVec.ofInt_natCast, BitVec.ofInt_natCast, BitVec.toNat_or, BitVec.toNat_ofNat, BitVec.toNat_ofNat, Nat.mod_eq_of_lt (by omega), Nat.mod_eq_of_lt (by omega)]
  unfold orI
  rw [e]
  exact w64_nat (by omega)
theorem shlI_one {k : Nat} (hk : k < 63) : shlI .i64 1 (k : Int) = ((2 ^ k : Nat) : Int) := by
  have h : 2 ^ k < 2 ^ 63 := Nat.pow_lt_pow_right (by omega) hk
  have e : min ((k : Int).toNat) IntKind.i64.bits = k := by
    show min k 64 = k
    omega
  unfold shlI
  rw [e]
  have e2 : (1 : Int) * 2 ^ k = ((2 ^ k : Nat) : Int) := by simp
  rw [e2]
  exact w64_nat (by omega)

theorem toNat_nat (m : Nat) : ((m : Int)).toNat = m := rfl
theorem inb {m n : Nat} (h : m < n) : 0 ≤ (m : Int) ∧ (m : Int) < ((n : Nat) : Int) := ⟨by omega, by omega⟩
theorem dec_lt {m n : Nat} (h : m < n) : decide ((m : Int) < ((n : Nat) : Int)) = true := by simp; omega
theorem dec_nlt {n : Nat} : decide ((n : Int) < ((n : Nat) : Int)) = false := by simp
end Go.Den

namespace Go.Den
open Go.Ab

/-- A name that the document allows, as a loop over its bytes. -/
def nameBad (s : ByteArray) (m : Nat) : Bool :=
  cond (!(cond (cond (decide (byteAt s m ≥ 97)) (decide (byteAt s m ≤ 122)) false) true (cond (decide (byteAt s m ≥ 65)) (decide (byteAt s m ≤ 90)) false))) (cond ((m : Int) == 0) true (!(cond (cond (decide (byteAt s m ≥ 48)) (decide (byteAt s m ≤ 57)) false) true (byteAt s m == 45)))) false
def nameOk (s : ByteArray) : Bool :=
  cond (cond (streq s ByteArray.empty) true (decide (((s.size : Nat) : Int) > 12))) false (scan (fun m => cond (nameBad s m) (some false) none) true s.size 0)

theorem streq_empty (s : ByteArray) : streq s ByteArray.empty = decide (((s.size : Nat) : Int) < 1) := by
  rw [Bool.eq_iff_iff, streq_iff, decide_eq_true_eq]
  constructor
  · rintro rfl; decide
  · intro h
    have : s.size = 0 := by omega
    cases s with | mk d => 
    have : d.size = 0 := this
    simp [Array.size_eq_zero_iff.1 this]; rfl

theorem named_eq {N : Nat} (hN : 12 < N) (s : ByteArray) : g_berth_named N s = some (nameOk s) := by
  unfold g_berth_named nameOk
  cases h : cond (streq s ByteArray.empty) true (decide (((s.size : Nat) : Int) > 12))
  · have hs : s.size ≤ 12 := by
      cases h2 : streq s ByteArray.empty <;> rw [h2] at h <;> simp at h; omega
    refine loop_scan0 (L := fun fuel => g_berth_named_L1 N s fuel) _ _ (by omega) (fun fuel m hm => ?_) (fun fuel => ?_)
    · simp only [g_berth_named_L1, dec_lt hm, cond_true, if_pos (inb hm), w64_succ (show m < 9223372036854775807 by omega), toNat_nat]
      show cond (nameBad s m) _ _ = _
      cases nameBad s m <;> rfl
    · simp only [g_berth_named_L1, dec_nlt, cond_false]
  · rfl
theorem IsName_eq {N : Nat} (hN : 12 < N) (s : ByteArray) : g_keelblockbase_IsName N s = some (nameOk s) := by
  unfold g_keelblockbase_IsName nameOk
  rw [streq_empty]
  cases h : cond (decide (((s.size : Nat) : Int) < 1)) true (decide (((s.size : Nat) : Int) > 12))
  · have hs : s.size ≤ 12 := by
      cases h2 : decide (((s.size : Nat) : Int) < 1) <;> rw [h2] at h <;> simp at h; omega
    refine loop_scan0 (L := fun fuel => g_keelblockbase_IsName_L1 N s fuel) _ _ (by omega) (fun fuel m hm => ?_) (fun fuel => ?_)
    · simp only [g_keelblockbase_IsName_L1, dec_lt hm, cond_true, if_pos (inb hm), w64_succ (show m < 9223372036854775807 by omega), toNat_nat]
      have e : nameBad s m = cond (!(cond (cond (decide (byteAt s m ≥ 97)) (decide (byteAt s m ≤ 122)) false) true (cond (decide (byteAt s m ≥ 65)) (decide (byteAt s m ≤ 90)) false))) (cond ((m : Int) == 0) true (cond (byteAt s m != 45) (cond (decide (byteAt s m < 48)) true (decide (byteAt s m > 57))) false)) false := by
        unfold nameBad
        generalize byteAt s m = b
        rw [Bool.eq_iff_iff]
        simp [Bool.cond_eq_ite]
        omega
      rw [← e]
      cases nameBad s m <;> rfl
    · simp only [g_keelblockbase_IsName_L1, dec_nlt, cond_false]
  · rfl

/-! ### Lines -/
def lineCode (x : Tapi_Line) : Int :=
  if -1000000 ≤ x.f_X ∧ x.f_X ≤ 1000000 ∧ -1000000 ≤ x.f_Y ∧ x.f_Y ≤ 1000000 ∧ -1000000 ≤ x.f_ToX ∧ x.f_ToX ≤ 1000000 ∧ -1000000 ≤ x.f_ToY ∧ x.f_ToY ≤ 1000000 ∧ 1 ≤ x.f_Most ∧ x.f_Most ≤ 1000000000 then
    if x.f_X = x.f_ToX ∧ x.f_Y = x.f_ToY then 9 else 0
  else 2

theorem checkLine_eq (N : Nat) (x : Tapi_Line) : g_berth_checkLine N x = some (lineCode x) := by
  unfold g_berth_checkLine g_berth_outside lineCode
  simp only [Option.bind_some, cond_some, Option.some.injEq]
  simp only [Bool.cond_eq_ite]
  generalize x.f_X = a, x.f_Y = b, x.f_ToX = c, x.f_ToY = d, x.f_Most = e
  simp
  split <;> split <;> try omega
  all_goals split <;> simp_all <;> try omega
theorem refLine_eq (N : Nat) (x : Tapi_Line) : g_keelblockref06_checkLine N x = some (lineCode x) := by
  unfold g_keelblockref06_checkLine g_keelblockref06_inside lineCode
  simp only [Option.bind_some, cond_some, Option.some.injEq]
  simp only [Bool.cond_eq_ite]
  generalize x.f_X = a, x.f_Y = b, x.f_ToX = c, x.f_ToY = d, x.f_Most = e
  simp
  split <;> split <;> try omega
  all_goals split <;> simp_all <;> try omega

def dupLine (l : List Tapi_Line) (m : Nat) : Bool := scan (fun k => cond (streq (l.getD k Tapi_Line.d).f_Name (l.getD m Tapi_Line.d).f_Name) (some true) none) false m 0
def stepLine (l : List Tapi_Line) (m : Nat) : Option Int :=
  cond (!nameOk (l.getD m Tapi_Line.d).f_Name) (some 4) (cond (dupLine l m) (some 5) (cond (lineCode (l.getD m Tapi_Line.d) != 0) (some (lineCode (l.getD m Tapi_Line.d))) none))
def linesCode (l : List Tapi_Line) : Int := cond (decide (((l.length : Nat) : Int) > 12)) 8 (scan (stepLine l) 0 l.length 0)

theorem contains_line {N : Nat} (l : List Tapi_Line) (m : Nat) (hm : m < l.length) (hN : l.length < N) (hl : l.length ≤ 12) : g_slices_ContainsFunc_api_Line_api_Line N ((l.take m).drop 0) (l.getD m Tapi_Line.d) = some (dupLine l m) := by
  have hlen : ((l.take m).drop 0).length = m := by simp; omega
  have e : g_slices_IndexFunc_api_Line_api_Line N ((l.take m).drop 0) (l.getD m Tapi_Line.d) = some (scan (fun k => cond (streq (l.getD k Tapi_Line.d).f_Name (l.getD m Tapi_Line.d).f_Name) (some (k : Int)) none) (-1) m 0) := by
    unfold g_slices_IndexFunc_api_Line_api_Line
    refine loop_scan0 (L := fun fuel => g_slices_IndexFunc_api_Line_api_Line_L1 N ((l.take m).drop 0) (l.getD m Tapi_Line.d) fuel) _ _ (by omega) (fun fuel k hk => ?_) (fun fuel => ?_)
    · simp only [g_slices_IndexFunc_api_Line_api_Line_L1, hlen, dec_lt hk, cond_true, if_pos (inb hk), w64_succ (show k < 9223372036854775807 by omega), toNat_nat, getD_take l m k _ hk, g_berth_check_Line_1, g_berth_CheckLines_1, Option.bind_some]
      cases streq (l.getD k Tapi_Line.d).f_Name (l.getD m Tapi_Line.d).f_Name <;> rfl
    · simp only [g_slices_IndexFunc_api_Line_api_Line_L1, hlen, dec_nlt, cond_false]
  unfold g_slices_ContainsFunc_api_Line_api_Line
  rw [e, Option.bind_some, scan_index]
  rfl

theorem checkLines_eq {N : Nat} (hN : 13 < N) (l : List Tapi_Line) : g_berth_CheckLines N l = some (linesCode l) := by
  unfold g_berth_CheckLines g_berth_check_Line linesCode
  cases h : decide (((l.length : Nat) : Int) > 12)
  · have hl : l.length ≤ 12 := by simp at h; omega
    have e : g_berth_check_Line_L1 N l N 0 = some (scan (stepLine l) 0 l.length 0) := by
      refine loop_scan0 (L := fun fuel => g_berth_check_Line_L1 N l fuel) _ _ (by omega) (fun fuel m hm => ?_) (fun fuel => ?_)
      · simp only [g_berth_check_Line_L1, dec_lt hm, cond_true, if_pos (inb hm), w64_succ (show m < 9223372036854775807 by omega), toNat_nat, g_berth_CheckLines_1, Option.bind_some, named_eq (show 12 < N by omega), contains_line l m hm (show l.length < N by omega) hl, checkLine_eq,
          if_pos (show 0 ≤ m ∧ m ≤ l.length from ⟨Nat.zero_le _, by omega⟩), if_pos (show 0 ≤ (m : Int) from Int.natCast_nonneg _)]
        unfold stepLine
        cases nameOk (l.getD m Tapi_Line.d).f_Name <;> cases dupLine l m <;> cases (lineCode (l.getD m Tapi_Line.d) != 0) <;> rfl
      · simp only [g_berth_check_Line_L1, dec_nlt, cond_false]
    rw [cond_false, cond_false, e]; rfl
  · rfl

theorem refLines_eq {N : Nat} (hN : 13 < N) (l : List Tapi_Line) : g_keelblockref06_CheckLines N l = some (linesCode l) := by
  unfold g_keelblockref06_CheckLines linesCode
  cases h : decide (((l.length : Nat) : Int) > 12)
  · have hl : l.length ≤ 12 := by simp at h; omega
    rw [cond_false, cond_false]
    refine loop_scan0 (L := fun fuel => g_keelblockref06_CheckLines_L1 N l fuel) _ _ (by omega) (fun fuel m hm => ?_) (fun fuel => ?_)
    · have e : ∀ K, g_keelblockref06_CheckLines_L2 N l (m : Int) K N 0 = scan (fun k => cond (streq (l.getD k Tapi_Line.d).f_Name (l.getD m Tapi_Line.d).f_Name) (some (some 5)) none) (cond (lineCode (l.getD m Tapi_Line.d) != 0) (some (lineCode (l.getD m Tapi_Line.d))) (K ((m + 1 : Nat) : Int))) m 0 := fun K => by
        refine loop_scanR0 (L := fun fuel => g_keelblockref06_CheckLines_L2 N l (m : Int) K fuel) _ _ (by omega) (fun fuel k hk => ?_) (fun fuel => ?_)
        · simp only [g_keelblockref06_CheckLines_L2, dec_lt hk, cond_true, if_pos (inb (show k < l.length by omega)), if_pos (inb hm), w64_succ (show k < 9223372036854775807 by omega), toNat_nat]
          cases streq (l.getD k Tapi_Line.d).f_Name (l.getD m Tapi_Line.d).f_Name <;> rfl
        · simp only [g_keelblockref06_CheckLines_L2, dec_nlt, cond_false, if_pos (inb hm), toNat_nat, refLine_eq, Option.bind_some, w64_succ (show m < 9223372036854775807 by omega)]
      simp only [g_keelblockref06_CheckLines_L1, dec_lt hm, cond_true, if_pos (inb hm), toNat_nat, IsName_eq (show 12 < N by omega), Option.bind_some, e]
      rw [scan_bool]
      unfold stepLine dupLine
      cases nameOk (l.getD m Tapi_Line.d).f_Name <;> cases scan (fun k => cond (streq (l.getD k Tapi_Line.d).f_Name (l.getD m Tapi_Line.d).f_Name) (some true) none) false m 0 <;> cases (lineCode (l.getD m Tapi_Line.d) != 0) <;> rfl
    · simp only [g_keelblockref06_CheckLines_L1, dec_nlt, cond_false]
  · rfl
end Go.Den

namespace Go.Den
open Go.Ab

theorem span_loop (N : Nat) (l : Tapi_Line) (D : Nat) (hD : (w64 ((w64 ((w64 (l.f_ToX - l.f_X)) * (w64 (l.f_ToX - l.f_X)))) + (w64 ((w64 (l.f_ToY - l.f_Y)) * (w64 (l.f_ToY - l.f_Y)))))) = (D : Int)) :
    ∀ (k m fuel R : Nat), m + k = 23 → k < fuel → 2 ^ k ∣ R → R < 2 ^ 23 → R * R < D → D ≤ (R + 2 ^ k) * (R + 2 ^ k) → ∃ n : Nat, g_berth_span_L1 N l fuel (R : Int) (m : Int) = some ((n + 1 : Nat) : Int) ∧ n * n < D ∧ D ≤ (n + 1) * (n + 1)
  | 0, m, fuel, R, hm, hf, hd, hR, h1, h2 => by
    obtain ⟨g, rfl⟩ : ∃ g, fuel = g + 1 := ⟨fuel - 1, by omega⟩
    refine ⟨R, ?_, h1, by simpa using h2⟩
    have : ¬ ((m : Int) < 23) := by omega
    simp only [g_berth_span_L1, this, decide_false, cond_false, w64_succ (show R < 9223372036854775807 by omega)]
  | k + 1, m, fuel, R, hm, hf, hd, hR, h1, h2 => by
    obtain ⟨g, rfl⟩ : ∃ g, fuel = g + 1 := ⟨fuel - 1, by omega⟩
    have hk : k ≤ 22 := by omega
    have hp : 2 ^ k ≤ 2 ^ 22 := Nat.pow_le_pow_right (by omega) hk
    have e22 : w64 (22 - (m : Int)) = (k : Int) := by rw [w64_eq (by omega) (by omega)]; omega
    obtain ⟨q, rfl⟩ := hd
    have hpk : 2 ^ (k + 1) = 2 * 2 ^ k := by rw [Nat.pow_succ]; omega
    have hor : 2 ^ (k + 1) * q ||| 2 ^ k = 2 ^ (k + 1) * q + 2 ^ k := (Nat.two_pow_add_eq_or_of_lt (Nat.pow_lt_pow_right (by omega) (by omega)) q).symm
    have hq : q < 2 ^ (22 - k) := by
      have e : 2 ^ 23 = 2 ^ (k + 1) * 2 ^ (22 - k) := by rw [← Nat.pow_add]; congr 1; omega
      rw [e] at hR
      exact Nat.lt_of_mul_lt_mul_left hR
    have hle : 2 ^ (k + 1) * q + 2 ^ (k + 1) ≤ 2 ^ 23 := by
      have e : 2 ^ 23 = 2 ^ (k + 1) * 2 ^ (22 - k) := by rw [← Nat.pow_add]; congr 1; omega
      rw [e, ← Nat.mul_succ]
      exact Nat.mul_le_mul_left _ hq
    generalize hRR : 2 ^ (k + 1) * q = R at *
    have ec : orI .i64 (R : Int) (shlI .i64 1 (k : Int)) = ((R + 2 ^ k : Nat) : Int) := by
      rw [shlI_one (by omega), orI_nat (by omega) (by omega), hor]
    have hc : (R + 2 ^ k) * (R + 2 ^ k) ≤ 2 ^ 23 * 2 ^ 23 := Nat.mul_le_mul (by omega) (by omega)
    have ecc : w64 (((R + 2 ^ k : Nat) : Int) * ((R + 2 ^ k : Nat) : Int)) = (((R + 2 ^ k) * (R + 2 ^ k) : Nat) : Int) := by
      rw [← Int.natCast_mul]; exact w64_nat (by omega)
    have hm2 : (m : Int) < 23 := by omega
    simp only [g_berth_span_L1, hm2, decide_true, cond_true, e22, if_pos (Int.natCast_nonneg k), ec, ecc, hD, g_berth_span_J2, w64_succ (show m < 9223372036854775807 by omega)]
    by_cases hlt : (R + 2 ^ k) * (R + 2 ^ k) < D
    · rw [show decide ((((R + 2 ^ k) * (R + 2 ^ k) : Nat) : Int) < (D : Int)) = true from decide_eq_true (by exact_mod_cast hlt), cond_true]
      refine span_loop N l D hD k (m + 1) g (R + 2 ^ k) (by omega) (by omega) ?_ (by omega) hlt ?_
      · rw [← hRR, hpk, Nat.mul_assoc]
        exact ⟨2 * q + 1, by rw [Nat.mul_add, Nat.mul_one, Nat.mul_left_comm]⟩
      · have : R + 2 ^ k + 2 ^ k = R + 2 ^ (k + 1) := by omega
        rw [this]; exact h2
    · rw [show decide ((((R + 2 ^ k) * (R + 2 ^ k) : Nat) : Int) < (D : Int)) = false from decide_eq_false (by exact_mod_cast hlt), cond_false]
      refine span_loop N l D hD k (m + 1) g R (by omega) (by omega) ?_ hR h1 (by omega)
      rw [← hRR, hpk, Nat.mul_assoc]
      exact ⟨2 * q, by rw [Nat.mul_left_comm]⟩

theorem lineCode_zero {x : Tapi_Line} (h : lineCode x = 0) : -1000000 ≤ x.f_X ∧ x.f_X ≤ 1000000 ∧ -1000000 ≤ x.f_Y ∧ x.f_Y ≤ 1000000 ∧ -1000000 ≤ x.f_ToX ∧ x.f_ToX ≤ 1000000 ∧ -1000000 ≤ x.f_ToY ∧ x.f_ToY ≤ 1000000 ∧ ¬ (x.f_X = x.f_ToX ∧ x.f_Y = x.f_ToY) := by
  unfold lineCode at h
  split at h
  · split at h
    · cases h
    · omega
  · cases h

theorem span_eq {N : Nat} (hN : 23 < N) (l : Tapi_Line) (h : lineCode l = 0) :
    ∃ n : Nat, g_berth_span N l = some ((n + 1 : Nat) : Int) ∧ (n : Int) * n < (l.f_ToX - l.f_X) * (l.f_ToX - l.f_X) + (l.f_ToY - l.f_Y) * (l.f_ToY - l.f_Y) ∧
      (l.f_ToX - l.f_X) * (l.f_ToX - l.f_X) + (l.f_ToY - l.f_Y) * (l.f_ToY - l.f_Y) ≤ ((n : Int) + 1) * (n + 1) ∧ n < 3000000 ∧
      (l.f_ToX - l.f_X) * (l.f_ToX - l.f_X) ≤ 4000000000000 ∧ (l.f_ToY - l.f_Y) * (l.f_ToY - l.f_Y) ≤ 4000000000000 := by
  obtain ⟨a1, a2, a3, a4, a5, a6, a7, a8, a9⟩ := lineCode_zero h
  have hX := sq_le (x := l.f_ToX - l.f_X) (M := 2000000) (by omega) (by omega)
  have hY := sq_le (x := l.f_ToY - l.f_Y) (M := 2000000) (by omega) (by omega)
  have hX0 := sq_nonneg (l.f_ToX - l.f_X)
  have hY0 := sq_nonneg (l.f_ToY - l.f_Y)
  have hpos : 0 < (l.f_ToX - l.f_X) * (l.f_ToX - l.f_X) + (l.f_ToY - l.f_Y) * (l.f_ToY - l.f_Y) := by
    by_cases hx : l.f_ToX - l.f_X = 0
    · have hy : l.f_ToY - l.f_Y ≠ 0 := by omega
      have : (l.f_ToY - l.f_Y) * (l.f_ToY - l.f_Y) ≠ 0 := Int.mul_ne_zero hy hy
      omega
    · have : (l.f_ToX - l.f_X) * (l.f_ToX - l.f_X) ≠ 0 := Int.mul_ne_zero hx hx
      omega
  have e1 : w64 (l.f_ToX - l.f_X) = l.f_ToX - l.f_X := w64_eq (by omega) (by omega)
  have e2 : w64 (l.f_ToY - l.f_Y) = l.f_ToY - l.f_Y := w64_eq (by omega) (by omega)
  generalize hXX : (l.f_ToX - l.f_X) * (l.f_ToX - l.f_X) = XX at *
  generalize hYY : (l.f_ToY - l.f_Y) * (l.f_ToY - l.f_Y) = YY at *
  have e3 : w64 XX = XX := w64_eq (by omega) (by omega)
  have e4 : w64 YY = YY := w64_eq (by omega) (by omega)
  have e5 : w64 (XX + YY) = XX + YY := w64_eq (by omega) (by omega)
  obtain ⟨n, h1, h2, h3⟩ := span_loop N l (XX + YY).toNat (by rw [e1, e2, hXX, hYY, e3, e4, e5]; omega) 23 0 N 0 rfl hN ⟨0, rfl⟩ (by decide) (by omega) (by omega)
  refine ⟨n, h1, ?_, ?_, ?_, by omega, by omega⟩
  · have : ((n * n : Nat) : Int) < ((XX + YY).toNat : Int) := by exact_mod_cast h2
    rw [Int.natCast_mul] at this; omega
  · have : ((XX + YY).toNat : Int) ≤ (((n + 1) * (n + 1) : Nat) : Int) := by exact_mod_cast h3
    rw [Int.natCast_mul] at this; simp at this ⊢; omega
  · apply Nat.lt_of_not_le
    intro hn
    have := Nat.mul_le_mul hn hn
    omega

theorem Span_eq {N : Nat} (hN : 23 < N) (l : Tapi_Line) (hl : linesCode [l] = 0) :
    ∃ n : Nat, g_berth_Span N l = some (((n + 1 : Nat) : Int), 0) ∧ (n : Int) * n < (l.f_ToX - l.f_X) * (l.f_ToX - l.f_X) + (l.f_ToY - l.f_Y) * (l.f_ToY - l.f_Y) ∧
      (l.f_ToX - l.f_X) * (l.f_ToX - l.f_X) + (l.f_ToY - l.f_Y) * (l.f_ToY - l.f_Y) ≤ ((n : Int) + 1) * (n + 1) ∧ n < 3000000 ∧
      (l.f_ToX - l.f_X) * (l.f_ToX - l.f_X) ≤ 4000000000000 ∧ (l.f_ToY - l.f_Y) * (l.f_ToY - l.f_Y) ≤ 4000000000000 ∧ lineCode l = 0 := by
  have hc : lineCode l = 0 := by
    unfold linesCode at hl
    simp only [List.length_singleton, scan, stepLine, List.getD_cons_zero] at hl
    cases h1 : nameOk l.f_Name
    · rw [h1] at hl; simp at hl
    · rw [h1] at hl
      rw [show dupLine [l] 0 = false from rfl] at hl
      by_cases h : lineCode l = 0
      · exact h
      · rw [show (lineCode l != 0) = true by simpa using h] at hl
        exact absurd hl h
  obtain ⟨n, h1, h2, h3, h4, h5, h6⟩ := span_eq hN l hc
  refine ⟨n, ?_, h2, h3, h4, h5, h6, hc⟩
  unfold g_berth_Span
  rw [checkLines_eq (by omega), hl, h1]; rfl
theorem Span_bad {N : Nat} (hN : 23 < N) (l : Tapi_Line) (hl : linesCode [l] ≠ 0) : g_berth_Span N l = some (0, linesCode [l]) := by
  unfold g_berth_Span
  rw [checkLines_eq (by omega), Option.bind_some]
  have : (linesCode [l] != 0) = true := by simpa using hl
  rw [this]; rfl

theorem spans_eq {N : Nat} (hN : 23 < N) : g_keelblocklaw06_spans N = some true := by
  have hz : linesCode [(⟨(⟨#[108]⟩ : ByteArray), 0, 0, 3000, 4000, 1000⟩ : Tapi_Line)] = 0 := by
    have hn : nameOk (⟨#[108]⟩ : ByteArray) = true := by unfold nameOk; rw [streq_empty]; decide
    unfold linesCode
    simp only [List.length_singleton, scan, stepLine, List.getD_cons_zero, hn]
    decide
  obtain ⟨n, h1, h2, h3, h4, -, -⟩ := Span_eq hN _ hz
  unfold g_keelblocklaw06_spans
  rw [h1, Option.bind_some]
  have : n = 4999 := by
    simp only at h2 h3
    have a : n < 5000 := by
      apply Nat.lt_of_not_le
      intro hn
      have := Nat.mul_le_mul hn hn
      have h2' : ((n * n : Nat) : Int) < 25000000 := by rw [Int.natCast_mul]; omega
      omega
    have b : 4999 ≤ n := by
      apply Nat.le_of_not_lt
      intro hn
      have := Nat.mul_le_mul (show n + 1 ≤ 4999 by omega) (show n + 1 ≤ 4999 by omega)
      have h3' : (25000000 : Int) ≤ (((n + 1) * (n + 1) : Nat) : Int) := by rw [Int.natCast_mul]; simp only [Int.natCast_add, Int.natCast_one]; omega
      omega
    omega
  subst this; rfl

def slackV (l : List Tapi_Line) : Bool := scan (fun m => cond (decide ((((l.getD m Tapi_Line.d).f_Name.size : Nat) : Int) > 40)) (some false) none) (decide (((l.length : Nat) : Int) ≤ 14)) l.length 0
theorem slack_eq {N : Nat} (l : List Tapi_Line) (hN : l.length < N) (hl : l.length ≤ 9223372036854775807) : g_keelblocklaw06_slack N l = some (slackV l) := by
  unfold g_keelblocklaw06_slack slackV
  refine loop_scan0 (L := fun fuel => g_keelblocklaw06_slack_L1 N l fuel) _ _ hN (fun fuel m hm => ?_) (fun fuel => ?_)
  · simp only [g_keelblocklaw06_slack_L1, dec_lt hm, cond_true, if_pos (inb hm), w64_succ (show m < 9223372036854775807 by omega), toNat_nat]
    cases decide ((((l.getD m Tapi_Line.d).f_Name.size : Nat) : Int) > 40) <;> rfl
  · simp only [g_keelblocklaw06_slack_L1, dec_nlt, cond_false]

theorem berthLines_plain (l : List Tapi_Line) (h : wL Tapi_Line.wf l) : ∃ N, g_keelblocklaw06_BerthLines N l = some true := by
  refine ⟨l.length + 30, ?_⟩
  have hlen := h.1
  unfold g_keelblocklaw06_BerthLines
  rw [spans_eq (by omega), slack_eq l (by omega) hlen, checkLines_eq (by omega), refLines_eq (by omega)]
  simp only [Option.bind_some, Bool.not_true, cond_false]
  cases hs : slackV l
  · rfl
  · simp only [Bool.not_true, Bool.not_false, cond_true, cond_false, Option.bind_some, bne_self_eq_false]
    refine loop_none (n := l.length) (L := fun fuel => g_keelblocklaw06_BerthLines_L1 (l.length + 30) l fuel) _ (by omega) (fun fuel m hm => ?_) (fun fuel => ?_)
    · have em : w64 ((m : Int) + 1) = ((m + 1 : Nat) : Int) := w64_succ (by omega)
      simp only [g_keelblocklaw06_BerthLines_L1, dec_lt hm, cond_true, if_pos (inb hm), em, toNat_nat, g_keelblocklaw06_BerthLines_J2,
        if_pos (show m ≤ m + 1 ∧ m + 1 ≤ l.length from ⟨by omega, by omega⟩), if_pos (Int.natCast_nonneg m), if_pos (Int.natCast_nonneg (m + 1)), drop_take_one l m Tapi_Line.d hm, refLines_eq (show 13 < l.length + 30 by omega)]
      by_cases hz : linesCode [(l.getD m Tapi_Line.d)] = 0
      · obtain ⟨n, h1, h2, h3, h4, h5, h6, h7⟩ := Span_eq (show 23 < l.length + 30 by omega) (l.getD m Tapi_Line.d) hz
        obtain ⟨a1, a2, a3, a4, a5, a6, a7, a8, -⟩ := lineCode_zero h7
        have hX0 := sq_nonneg ((l.getD m Tapi_Line.d).f_ToX - (l.getD m Tapi_Line.d).f_X)
        have hY0 := sq_nonneg ((l.getD m Tapi_Line.d).f_ToY - (l.getD m Tapi_Line.d).f_Y)
        have e1 : w64 ((l.getD m Tapi_Line.d).f_ToX - (l.getD m Tapi_Line.d).f_X) = (l.getD m Tapi_Line.d).f_ToX - (l.getD m Tapi_Line.d).f_X := w64_eq (by omega) (by omega)
        have e2 : w64 ((l.getD m Tapi_Line.d).f_ToY - (l.getD m Tapi_Line.d).f_Y) = (l.getD m Tapi_Line.d).f_ToY - (l.getD m Tapi_Line.d).f_Y := w64_eq (by omega) (by omega)
        have e3 := w64_eq (n := ((l.getD m Tapi_Line.d).f_ToX - (l.getD m Tapi_Line.d).f_X) * ((l.getD m Tapi_Line.d).f_ToX - (l.getD m Tapi_Line.d).f_X)) (by omega) (by omega)
        have e4 := w64_eq (n := ((l.getD m Tapi_Line.d).f_ToY - (l.getD m Tapi_Line.d).f_Y) * ((l.getD m Tapi_Line.d).f_ToY - (l.getD m Tapi_Line.d).f_Y)) (by omega) (by omega)
        have e5 := w64_eq (n := ((l.getD m Tapi_Line.d).f_ToX - (l.getD m Tapi_Line.d).f_X) * ((l.getD m Tapi_Line.d).f_ToX - (l.getD m Tapi_Line.d).f_X) + ((l.getD m Tapi_Line.d).f_ToY - (l.getD m Tapi_Line.d).f_Y) * ((l.getD m Tapi_Line.d).f_ToY - (l.getD m Tapi_Line.d).f_Y)) (by omega) (by omega)
        have hnn := Nat.mul_le_mul (show n + 1 ≤ 3000000 by omega) (show n + 1 ≤ 3000000 by omega)
        have hn2 := Nat.mul_le_mul (show n ≤ 3000000 by omega) (show n ≤ 3000000 by omega)
        have e6 : w64 (((n + 1 : Nat) : Int) * ((n + 1 : Nat) : Int)) = ((n : Int) + 1) * (n + 1) := by
          rw [← Int.natCast_mul, w64_nat (by omega), Int.natCast_mul]; rfl
        have e7 : w64 (((n + 1 : Nat) : Int) - 1) = (n : Int) := by
          rw [w64_eq (by omega) (by omega)]; omega
        have e8 : w64 ((n : Int) * n) = (n : Int) * n := by rw [← Int.natCast_mul, w64_nat (by omega)]
        rw [h1, hz]
        simp only [Option.bind_some, e1, e2, e3, e4, e5, e6, e7, e8]
        have b1 : decide (((n + 1 : Nat) : Int) < 1) = false := decide_eq_false (by omega)
        have b2 : decide (((n + 1 : Nat) : Int) > 3000000) = false := decide_eq_false (by omega)
        have b3 : decide (((n : Int) + 1) * (n + 1) < ((l.getD m Tapi_Line.d).f_ToX - (l.getD m Tapi_Line.d).f_X) * ((l.getD m Tapi_Line.d).f_ToX - (l.getD m Tapi_Line.d).f_X) + ((l.getD m Tapi_Line.d).f_ToY - (l.getD m Tapi_Line.d).f_Y) * ((l.getD m Tapi_Line.d).f_ToY - (l.getD m Tapi_Line.d).f_Y)) = false := decide_eq_false (by omega)
        have b4 : decide ((n : Int) * n ≥ ((l.getD m Tapi_Line.d).f_ToX - (l.getD m Tapi_Line.d).f_X) * ((l.getD m Tapi_Line.d).f_ToX - (l.getD m Tapi_Line.d).f_X) + ((l.getD m Tapi_Line.d).f_ToY - (l.getD m Tapi_Line.d).f_Y) * ((l.getD m Tapi_Line.d).f_ToY - (l.getD m Tapi_Line.d).f_Y)) = false := decide_eq_false (by omega)
        rw [b1, b2, b3, b4]; rfl
      · rw [Span_bad (by omega) (l.getD m Tapi_Line.d) hz]
        have : (linesCode [(l.getD m Tapi_Line.d)] != 0) = true := by simpa using hz
        simp only [Option.bind_some, this, cond_true, bne_self_eq_false, cond_false]
    · simp only [g_keelblocklaw06_BerthLines_L1, dec_nlt, cond_false]
end Go.Den
