/- The plain law: the Lean function of the law returns true for every input, and what it needs. No conditions. -/
import Derived.Test.YtlpbfdpgchbhoaaBerthDocksDen

namespace Go.Den
open Go.Ab

theorem w64_def (n : Int) : w64 n = if n % 18446744073709551616 ≥ 9223372036854775808 then n % 18446744073709551616 - 18446744073709551616 else n % 18446744073709551616 := by
  have e : w64 n = (if (true && decide (n % 18446744073709551616 ≥ 9223372036854775808)) = true then n % 18446744073709551616 - 18446744073709551616 else n % 18446744073709551616) := rfl
  rw [e]; simp
theorem w64_eq {n : Int} (h1 : -9223372036854775808 ≤ n) (h2 : n ≤ 9223372036854775807) : w64 n = n := by
  rw [w64_def]; split <;> omega
theorem w64_nat {m : Nat} (h : m ≤ 9223372036854775807) : w64 (m : Int) = m := w64_eq (by omega) (by omega)
theorem w64_succ {m : Nat} (h : m < 9223372036854775807) : w64 ((m : Int) + 1) = ((m + 1 : Nat) : Int) := by rw [w64_eq (by omega) (by omega)]; simp

theorem toList_inj {a b : ByteArray} (h : a.toList = b.toList) : a = b := by
  have e : ∀ x : ByteArray, x.toList = x.data.toList := fun x => ByteArray.toList_eq x
  rw [e, e] at h
  cases a; cases b; simp_all [Array.toList_inj]
theorem streq_iff {a b : ByteArray} : streq a b = true ↔ a = b := by
  unfold streq; simp only [beq_iff_eq]
  exact ⟨toList_inj, fun h => h ▸ rfl⟩
theorem streq_comm (a b : ByteArray) : streq a b = streq b a := by
  rw [Bool.eq_iff_iff, streq_iff, streq_iff]; exact eq_comm

/-- The first answer of a row of questions, from m on, k of them; else z. -/
def scan {R : Type} (f : Nat → Option R) (z : R) : Nat → Nat → R
  | 0, _ => z
  | k + 1, m => match f m with
    | some r => r
    | none => scan f z k (m + 1)

theorem loop_scan {R : Type} {L : Nat → Int → Option R} (f : Nat → Option R) (z : R) {n : Nat}
    (hstep : ∀ fuel m, m < n → L (fuel + 1) (m : Int) = (match f m with | some r => some r | none => L fuel ((m + 1 : Nat) : Int)))
    (hend : ∀ fuel, L (fuel + 1) (n : Int) = some z) : ∀ k m fuel, m + k = n → k < fuel → L fuel (m : Int) = some (scan f z k m)
  | 0, m, fuel, h, hf => by
    obtain ⟨g, rfl⟩ : ∃ g, fuel = g + 1 := ⟨fuel - 1, by omega⟩
    have : m = n := by omega
    subst this; exact hend g
  | k + 1, m, fuel, h, hf => by
    obtain ⟨g, rfl⟩ : ∃ g, fuel = g + 1 := ⟨fuel - 1, by omega⟩
    rw [hstep g m (by omega)]
    unfold scan
    cases hfm : f m with
    | some r => rfl
    | none => exact loop_scan f z hstep hend k (m + 1) g (by omega) (by omega)

theorem loop_scan0 {R : Type} {L : Nat → Int → Option R} (f : Nat → Option R) (z : R) {n fuel : Nat} (hf : n < fuel)
    (hstep : ∀ fuel m, m < n → L (fuel + 1) (m : Int) = (match f m with | some r => some r | none => L fuel ((m + 1 : Nat) : Int)))
    (hend : ∀ fuel, L (fuel + 1) (n : Int) = some z) : L fuel 0 = some (scan f z n 0) :=
  loop_scan f z hstep hend n 0 fuel (by omega) hf

theorem scan_congr {R : Type} {f g : Nat → Option R} {z : R} : ∀ (k m : Nat), (∀ i, m ≤ i → i < m + k → f i = g i) → scan f z k m = scan g z k m
  | 0, _, _ => rfl
  | k + 1, m, h => by
    unfold scan
    rw [h m (by omega) (by omega)]
    cases g m with
    | some r => rfl
    | none => exact scan_congr k (m + 1) fun i hi hi2 => h i (by omega) (by omega)

theorem scan_all {R : Type} {f : Nat → Option R} {z : R} : ∀ (k m : Nat), (∀ i, m ≤ i → i < m + k → f i = none) → scan f z k m = z
  | 0, _, _ => rfl
  | k + 1, m, h => by
    unfold scan
    rw [h m (by omega) (by omega)]
    exact scan_all k (m + 1) fun i hi hi2 => h i (by omega) (by omega)

theorem scan_inv {R : Type} {f : Nat → Option R} {z : R} : ∀ (k m : Nat), (∃ i r, m ≤ i ∧ i < m + k ∧ f i = some r ∧ (∀ j, m ≤ j → j < i → f j = none) ∧ scan f z k m = r) ∨ ((∀ i, m ≤ i → i < m + k → f i = none) ∧ scan f z k m = z)
  | 0, m => .inr ⟨fun i h1 h2 => by omega, rfl⟩
  | k + 1, m => by
    cases hm : f m with
    | some r => exact .inl ⟨m, r, Nat.le_refl _, by omega, hm, fun j h1 h2 => by omega, by unfold scan; rw [hm]⟩
    | none =>
      have e : scan f z (k + 1) m = scan f z k (m + 1) := by rw [scan, hm]
      rcases scan_inv (f := f) (z := z) k (m + 1) with ⟨i, r, h1, h2, h3, h4, h5⟩ | ⟨h1, h2⟩
      · refine .inl ⟨i, r, by omega, by omega, h3, fun j hj1 hj2 => ?_, e.trans h5⟩
        by_cases hj : j = m
        · subst hj; exact hm
        · exact h4 j (by omega) hj2
      · refine .inr ⟨fun i hi1 hi2 => ?_, e.trans h2⟩
        by_cases hj : i = m
        · subst hj; exact hm
        · exact h1 i (by omega) (by omega)

theorem loop_scanR {R : Type} {L : Nat → Int → R} (f : Nat → Option R) (z : R) {n : Nat}
    (hstep : ∀ fuel m, m < n → L (fuel + 1) (m : Int) = (match f m with | some r => r | none => L fuel ((m + 1 : Nat) : Int)))
    (hend : ∀ fuel, L (fuel + 1) (n : Int) = z) : ∀ k m fuel, m + k = n → k < fuel → L fuel (m : Int) = scan f z k m
  | 0, m, fuel, h, hf => by
    obtain ⟨g, rfl⟩ : ∃ g, fuel = g + 1 := ⟨fuel - 1, by omega⟩
    have : m = n := by omega
    subst this; exact hend g
  | k + 1, m, fuel, h, hf => by
    obtain ⟨g, rfl⟩ : ∃ g, fuel = g + 1 := ⟨fuel - 1, by omega⟩
    rw [hstep g m (by omega)]
    unfold scan
    cases hfm : f m with
    | some r => rfl
    | none => exact loop_scanR f z hstep hend k (m + 1) g (by omega) (by omega)
theorem loop_scanR0 {R : Type} {L : Nat → Int → R} (f : Nat → Option R) (z : R) {n fuel : Nat} (hf : n < fuel)
    (hstep : ∀ fuel m, m < n → L (fuel + 1) (m : Int) = (match f m with | some r => r | none => L fuel ((m + 1 : Nat) : Int)))
    (hend : ∀ fuel, L (fuel + 1) (n : Int) = z) : L fuel 0 = scan f z n 0 :=
  loop_scanR f z hstep hend n 0 fuel (by omega) hf
theorem loop_none {R : Type} {L : Nat → Int → R} (z : R) {n fuel : Nat} (hf : n < fuel) (hstep : ∀ fuel m, m < n → L (fuel + 1) (m : Int) = L fuel ((m + 1 : Nat) : Int))
    (hend : ∀ fuel, L (fuel + 1) (n : Int) = z) : L fuel 0 = z :=
  (loop_scanR0 (fun _ => none) z hf (fun g m hm => hstep g m hm) hend).trans (scan_all n 0 fun _ _ _ => rfl)
theorem scan_index {p : Nat → Bool} : ∀ (n m : Nat), decide (scan (fun k => cond (p k) (some (k : Int)) none) (-1) n m ≥ 0) = scan (fun k => cond (p k) (some true) none) false n m
  | 0, m => rfl
  | n + 1, m => by
    unfold scan
    cases p m with
    | true => simp
    | false => exact scan_index n (m + 1)
theorem scan_first {p : Nat → Bool} {i : Nat} (hi : p i = true) : ∀ (k m : Nat), m ≤ i → i < m + k → (scan (fun k => cond (p k) (some (k : Int)) none) (-1) k m != (i : Int)) = scan (fun k => cond (p k) (some true) none) false (i - m) m
  | 0, m, h1, h2 => by omega
  | k + 1, m, h1, h2 => by
    by_cases hm : m = i
    · subst hm
      rw [Nat.sub_self]
      unfold scan
      rw [hi]; simp
    · obtain ⟨j, hj⟩ : ∃ j, i - m = j + 1 := ⟨i - m - 1, by omega⟩
      rw [hj]
      cases hp : p m with
      | true =>
        unfold scan
        simp only [hp, cond_true]
        have : (m : Int) ≠ i := by omega
        simpa using this
      | false =>
        have e1 : scan (fun k => cond (p k) (some (k : Int)) none) (-1) (k + 1) m = scan (fun k => cond (p k) (some (k : Int)) none) (-1) k (m + 1) := by rw [scan]; simp only [hp, cond_false]
        have e2 : scan (fun k => cond (p k) (some true) none) false (j + 1) m = scan (fun k => cond (p k) (some true) none) false j (m + 1) := by rw [scan]; simp only [hp, cond_false]
        rw [e1, e2, scan_first hi k (m + 1) (by omega) (by omega)]
        congr 1; omega
theorem scan_bool {R : Type} {p : Nat → Bool} {a z : R} : ∀ (n m : Nat), scan (fun k => cond (p k) (some a) none) z n m = cond (scan (fun k => cond (p k) (some true) none) false n m) a z
  | 0, m => rfl
  | n + 1, m => by
    unfold scan
    cases p m with
    | true => rfl
    | false => exact scan_bool n (m + 1)
theorem bind_cond {α β : Type} (q : Bool) (a b : α) (f : α → Option β) : (cond q (some a) (some b)).bind f = f (cond q a b) := by cases q <;> rfl
theorem cond_some {α : Type} (q : Bool) (a b : α) : cond q (some a) (some b) = some (cond q a b) := by cases q <;> rfl
theorem getD_take {α : Type} (l : List α) (m k : Nat) (d : α) (h : k < m) : ((l.take m).drop 0).getD k d = l.getD k d := by
  simp [List.getD, h]
theorem drop_take_one {α : Type} (l : List α) (m : Nat) (d : α) (h : m < l.length) : (l.take (m + 1)).drop m = [l.getD m d] := by
  have e : (l.take (m + 1)).drop m = (l.drop m).take 1 := by rw [List.drop_take]; congr 1; omega
  rw [e, List.drop_eq_getElem_cons h, List.take_succ_cons, List.take_zero]
  simp [List.getD, h]
theorem getD_mem {α : Type} (l : List α) (m : Nat) (d : α) (h : m < l.length) : l.getD m d ∈ l := by
  simp [List.getD, h]
theorem sq_nonneg (x : Int) : 0 ≤ x * x := by
  by_cases h : 0 ≤ x
  · exact Int.mul_nonneg h h
  · have := Int.mul_nonneg (show 0 ≤ -x by omega) (show 0 ≤ -x by omega)
    rwa [Int.neg_mul_neg] at this
theorem sq_le {x M : Int} (h1 : -M ≤ x) (h2 : x ≤ M) : x * x ≤ M * M := by
  by_cases h : 0 ≤ x
  · exact Int.mul_le_mul h2 h2 h (by omega)
  · have := Int.mul_le_mul (show -x ≤ M by omega) (show -x ≤ M by omega) (by omega) (by omega)
    rwa [Int.neg_mul_neg] at this
theorem orI_nat {a b : Nat} (ha : a < 9223372036854775808) (hb : b < 9223372036854775808) : orI .i64 (a : Int) (b : Int) = ((a ||| b : Nat) : Int) := by
  have h : a ||| b < 2 ^ 63 := Nat.or_lt_two_pow (by omega) (by omega)
  have e : (BitVec.ofInt IntKind.i64.bits (a : Int) ||| BitVec.ofInt IntKind.i64.bits (b : Int)).toNat = a ||| b := by
    show (BitVec.ofInt 64 (a : Int) ||| BitVec.ofInt 64 (b : Int)).toNat = _
    rw [BitVec.ofInt_natCast, BitVec.ofInt_natCast, BitVec.toNat_or, BitVec.toNat_ofNat, BitVec.toNat_ofNat, Nat.mod_eq_of_lt (by omega), Nat.mod_eq_of_lt (by omega)]
  unfold orI
  rw [e]
  exact w64_nat (by omega)
theorem shlI_one {k : Nat} (hk : k < 63) : shlI .i64 1 (k : Int) = ((2 ^ k : Nat) : Int) := by
  have h : 2 ^ k < 2 ^ 63 := Nat.pow_lt_pow_right (by omega) hk
  have e : min ((k : Int).toNat) IntKind.i64.bits = k := by
    show min k 64 = k
    omega
  unfold shlI
  rw [e]
  have e2 : (1 : Int) * 2 ^ k = ((2 ^ k : Nat) : Int) := by simp
  rw [e2]
  exact w64_nat (by omega)

theorem toNat_nat (m : Nat) : ((m : Int)).toNat = m := rfl
theorem inb {m n : Nat} (h : m < n) : 0 ≤ (m : Int) ∧ (m : Int) < ((n : Nat) : Int) := ⟨by omega, by omega⟩
theorem dec_lt {m n : Nat} (h : m < n) : decide ((m : Int) < ((n : Nat) : Int)) = true := by simp; omega
theorem dec_nlt {n : Nat} : decide ((n : Int) < ((n : Nat) : Int)) = false := by simp
end Go.Den

namespace Go.Den
open Go.Ab

/-- A name that the document allows, as a loop over its bytes. -/
def nameBad (s : ByteArray) (m : Nat) : Bool :=
  cond (!(cond (cond (decide (byteAt s m ≥ 97)) (decide (byteAt s m ≤ 122)) false) true (cond (decide (byteAt s m ≥ 65)) (decide (byteAt s m ≤ 90)) false))) (cond ((m : Int) == 0) true (!(cond (cond (decide (byteAt s m ≥ 48)) (decide (byteAt s m ≤ 57)) false) true (byteAt s m == 45)))) false
def nameOk (s : ByteArray) : Bool :=
  cond (cond (streq s ByteArray.empty) true (decide (((s.size : Nat) : Int) > 12))) false (scan (fun m => cond (nameBad s m) (some false) none) true s.size 0)

theorem streq_empty (s : ByteArray) : streq s ByteArray.empty = decide (((s.size : Nat) : Int) < 1) := by
  rw [Bool.eq_iff_iff, streq_iff, decide_eq_true_eq]
  constructor
  · rintro rfl; decide
  · intro h
    have : s.size = 0 := by omega
    cases s with | mk d => 
    have : d.size = 0 := this
    simp [Array.size_eq_zero_iff.1 this]; rfl

theorem named_eq {N : Nat} (hN : 12 < N) (s : ByteArray) : g_berth_named N s = some (nameOk s) := by
  unfold g_berth_named nameOk
  cases h : cond (streq s ByteArray.empty) true (decide (((s.size : Nat) : Int) > 12))
  · have hs : s.size ≤ 12 := by
      cases h2 : streq s ByteArray.empty <;> rw [h2] at h <;> simp at h; omega
    refine loop_scan0 (L := fun fuel => g_berth_named_L1 N s fuel) _ _ (by omega) (fun fuel m hm => ?_) (fun fuel => ?_)
    · simp only [g_berth_named_L1, dec_lt hm, cond_true, if_pos (inb hm), w64_succ (show m < 9223372036854775807 by omega), toNat_nat]
      show cond (nameBad s m) _ _ = _
      cases nameBad s m <;> rfl
    · simp only [g_berth_named_L1, dec_nlt, cond_false]
  · rfl
theorem IsName_eq {N : Nat} (hN : 12 < N) (s : ByteArray) : g_keelblockbase_IsName N s = some (nameOk s) := by
  unfold g_keelblockbase_IsName nameOk
  rw [streq_empty]
  cases h : cond (decide (((s.size : Nat) : Int) < 1)) true (decide (((s.size : Nat) : Int) > 12))
  · have hs : s.size ≤ 12 := by
      cases h2 : decide (((s.size : Nat) : Int) < 1) <;> rw [h2] at h <;> simp at h; omega
    refine loop_scan0 (L := fun fuel => g_keelblockbase_IsName_L1 N s fuel) _ _ (by omega) (fun fuel m hm => ?_) (fun fuel => ?_)
    · simp only [g_keelblockbase_IsName_L1, dec_lt hm, cond_true, if_pos (inb hm), w64_succ (show m < 9223372036854775807 by omega), toNat_nat]
      have e : nameBad s m = cond (!(cond (cond (decide (byteAt s m ≥ 97)) (decide (byteAt s m ≤ 122)) false) true (cond (decide (byteAt s m ≥ 65)) (decide (byteAt s m ≤ 90)) false))) (cond ((m : Int) == 0) true (cond (byteAt s m != 45) (cond (decide (byteAt s m < 48)) true (decide (byteAt s m > 57))) false)) false := by
        unfold nameBad
        generalize byteAt s m = b
        rw [Bool.eq_iff_iff]
        simp [Bool.cond_eq_ite]
        omega
      rw [← e]
      cases nameBad s m <;> rfl
    · simp only [g_keelblockbase_IsName_L1, dec_nlt, cond_false]
  · rfl

end Go.Den

namespace Go.Den
open Go.Ab

def ins (n lo hi : Int) : Bool := cond (decide (n ≥ lo)) (decide (n ≤ hi)) false
theorem inside_eq (N : Nat) (n lo hi : Int) : g_keelblockref06_inside N n lo hi = some (ins n lo hi) := rfl
theorem outside_eq (N : Nat) (n lo hi : Int) : g_berth_outside N n lo hi = some (!ins n lo hi) := by
  unfold g_berth_outside ins
  congr 1
  rw [Bool.eq_iff_iff]; simp [Bool.cond_eq_ite]


/-! ### Dock -/
def dockCode (x : Tapi_Dock) : Int := cond (ins x.f_Length 1 1000000 && ins x.f_Width 1 1000000 && ins x.f_Sill (-1000000) 1000000 && ins x.f_Floor (-1000000) 1000000 && ins x.f_Gap 0 1000000) 0 2

theorem dockCheck_eq (N : Nat) (x : Tapi_Dock) : g_berth_CheckDocks_2 N x = some (dockCode x) := by
  unfold g_berth_CheckDocks_2 dockCode
  simp only [outside_eq, g_berth_ranged]
  generalize ins x.f_Length 1 1000000 = b0, ins x.f_Width 1 1000000 = b1, ins x.f_Sill (-1000000) 1000000 = b2, ins x.f_Floor (-1000000) 1000000 = b3, ins x.f_Gap 0 1000000 = b4
  cases b0 <;> cases b1 <;> cases b2 <;> cases b3 <;> cases b4 <;> rfl
def dupDock (l : List Tapi_Dock) (m : Nat) : Bool := scan (fun k => cond (streq (l.getD k Tapi_Dock.d).f_Name (l.getD m Tapi_Dock.d).f_Name) (some true) none) false m 0
def stepDock (l : List Tapi_Dock) (m : Nat) : Option Int :=
  cond (!nameOk (l.getD m Tapi_Dock.d).f_Name) (some 4) (cond (dupDock l m) (some 5) (cond (dockCode (l.getD m Tapi_Dock.d) != 0) (some (dockCode (l.getD m Tapi_Dock.d))) none))
def docksCode (l : List Tapi_Dock) : Int := cond (decide (((l.length : Nat) : Int) > 4)) 8 (scan (stepDock l) 0 l.length 0)

theorem contains_dock {N : Nat} (l : List Tapi_Dock) (m : Nat) (hm : m < l.length) (hN : l.length < N) (hl : l.length ≤ 4) : g_slices_ContainsFunc_api_Dock_api_Dock N ((l.take m).drop 0) (l.getD m Tapi_Dock.d) = some (dupDock l m) := by
  have hlen : ((l.take m).drop 0).length = m := by simp; omega
  have e : g_slices_IndexFunc_api_Dock_api_Dock N ((l.take m).drop 0) (l.getD m Tapi_Dock.d) = some (scan (fun k => cond (streq (l.getD k Tapi_Dock.d).f_Name (l.getD m Tapi_Dock.d).f_Name) (some (k : Int)) none) (-1) m 0) := by
    unfold g_slices_IndexFunc_api_Dock_api_Dock
    refine loop_scan0 (L := fun fuel => g_slices_IndexFunc_api_Dock_api_Dock_L1 N ((l.take m).drop 0) (l.getD m Tapi_Dock.d) fuel) _ _ (by omega) (fun fuel k hk => ?_) (fun fuel => ?_)
    · simp only [g_slices_IndexFunc_api_Dock_api_Dock_L1, hlen, dec_lt hk, cond_true, if_pos (inb hk), w64_succ (show k < 9223372036854775807 by omega), toNat_nat, getD_take l m k _ hk, g_berth_check_Dock_1, g_berth_CheckDocks_1, Option.bind_some]
      cases streq (l.getD k Tapi_Dock.d).f_Name (l.getD m Tapi_Dock.d).f_Name <;> rfl
    · simp only [g_slices_IndexFunc_api_Dock_api_Dock_L1, hlen, dec_nlt, cond_false]
  unfold g_slices_ContainsFunc_api_Dock_api_Dock
  rw [e, Option.bind_some, scan_index]
  rfl

theorem checkDocks_eq {N : Nat} (hN : 13 < N) (l : List Tapi_Dock) : g_berth_CheckDocks N l = some (docksCode l) := by
  unfold g_berth_CheckDocks g_berth_check_Dock docksCode
  cases h : decide (((l.length : Nat) : Int) > 4)
  · have hl : l.length ≤ 4 := by simp at h; omega
    have e : g_berth_check_Dock_L1 N l N 0 = some (scan (stepDock l) 0 l.length 0) := by
      refine loop_scan0 (L := fun fuel => g_berth_check_Dock_L1 N l fuel) _ _ (by omega) (fun fuel m hm => ?_) (fun fuel => ?_)
      · simp only [g_berth_check_Dock_L1, dec_lt hm, cond_true, if_pos (inb hm), w64_succ (show m < 9223372036854775807 by omega), toNat_nat, g_berth_CheckDocks_1, Option.bind_some, named_eq (show 12 < N by omega), contains_dock l m hm (show l.length < N by omega) hl, dockCheck_eq,
          if_pos (show 0 ≤ m ∧ m ≤ l.length from ⟨Nat.zero_le _, by omega⟩), if_pos (show 0 ≤ (m : Int) from Int.natCast_nonneg _)]
        unfold stepDock
        cases nameOk (l.getD m Tapi_Dock.d).f_Name <;> cases dupDock l m <;> cases (dockCode (l.getD m Tapi_Dock.d) != 0) <;> rfl
      · simp only [g_berth_check_Dock_L1, dec_nlt, cond_false]
    rw [cond_false, cond_false, e]; rfl
  · rfl

theorem dockOf_eq {N : Nat} (l : List Tapi_Dock) (s : ByteArray) (hN : l.length < N) (hl : l.length < 9223372036854775807) : g_keelblockref06_DockOf N l s = some (scan (fun k => cond (streq (l.getD k Tapi_Dock.d).f_Name s) (some (k : Int)) none) (-1) l.length 0) := by
  unfold g_keelblockref06_DockOf
  refine loop_scan0 (L := fun fuel => g_keelblockref06_DockOf_L1 N l s fuel) _ _ hN (fun fuel m hm => ?_) (fun fuel => ?_)
  · simp only [g_keelblockref06_DockOf_L1, dec_lt hm, cond_true, if_pos (inb hm), w64_succ (show m < 9223372036854775807 by omega), toNat_nat]
    cases streq (l.getD m Tapi_Dock.d).f_Name s <;> rfl
  · simp only [g_keelblockref06_DockOf_L1, dec_nlt, cond_false]

theorem refDocks_eq {N : Nat} (hN : 13 < N) (l : List Tapi_Dock) : g_keelblockref06_CheckDocks N l = some (docksCode l) := by
  unfold g_keelblockref06_CheckDocks docksCode
  cases h : decide (((l.length : Nat) : Int) > 4)
  · have hl : l.length ≤ 4 := by simp at h; omega
    rw [cond_false, cond_false]
    refine loop_scan0 (L := fun fuel => g_keelblockref06_CheckDocks_L1 N l fuel) _ _ (by omega) (fun fuel m hm => ?_) (fun fuel => ?_)
    · have hd : (scan (fun k => cond (streq (l.getD k Tapi_Dock.d).f_Name (l.getD m Tapi_Dock.d).f_Name) (some (k : Int)) none) (-1) l.length 0 != (m : Int)) = dupDock l m :=
        scan_first (p := fun k => streq (l.getD k Tapi_Dock.d).f_Name (l.getD m Tapi_Dock.d).f_Name) (streq_iff.2 rfl) l.length 0 (Nat.zero_le _) (by omega)
      simp only [g_keelblockref06_CheckDocks_L1, dec_lt hm, cond_true, if_pos (inb hm), toNat_nat, IsName_eq (show 12 < N by omega), Option.bind_some, dockOf_eq l _ (show l.length < N by omega) (by omega), w64_succ (show m < 9223372036854775807 by omega), hd, if_pos (fun _ => inb hm), inside_eq]
      unfold stepDock
      cases nameOk (l.getD m Tapi_Dock.d).f_Name
      · rfl
      · cases dupDock l m
        · simp only [Bool.not_true, cond_false]
          unfold dockCode
          generalize ins (l.getD m Tapi_Dock.d).f_Length 1 1000000 = b0, ins (l.getD m Tapi_Dock.d).f_Width 1 1000000 = b1, ins (l.getD m Tapi_Dock.d).f_Sill (-1000000) 1000000 = b2, ins (l.getD m Tapi_Dock.d).f_Floor (-1000000) 1000000 = b3, ins (l.getD m Tapi_Dock.d).f_Gap 0 1000000 = b4
          cases b0 <;> cases b1 <;> cases b2 <;> cases b3 <;> cases b4 <;> rfl
        · rfl
    · simp only [g_keelblockref06_CheckDocks_L1, dec_nlt, cond_false]
  · rfl


/-! ### Call -/
def callCode (x : Tapi_Call) : Int := cond (ins x.f_Length 1 1000000 && ins x.f_Beam 1 1000000 && ins x.f_Draught 0 1000000 && ins x.f_Under 0 1000000 && ins x.f_Arrive 0 400 && ins x.f_Due 0 400 && ins x.f_Work 1 1000 && ins x.f_Late 0 1000000000) 0 2

theorem callCheck_eq (N : Nat) (x : Tapi_Call) : g_berth_CheckCalls_2 N x = some (callCode x) := by
  unfold g_berth_CheckCalls_2 callCode
  simp only [outside_eq, g_berth_ranged]
  generalize ins x.f_Length 1 1000000 = b0, ins x.f_Beam 1 1000000 = b1, ins x.f_Draught 0 1000000 = b2, ins x.f_Under 0 1000000 = b3, ins x.f_Arrive 0 400 = b4, ins x.f_Due 0 400 = b5, ins x.f_Work 1 1000 = b6, ins x.f_Late 0 1000000000 = b7
  cases b0 <;> cases b1 <;> cases b2 <;> cases b3 <;> cases b4 <;> cases b5 <;> cases b6 <;> cases b7 <;> rfl
def dupCall (l : List Tapi_Call) (m : Nat) : Bool := scan (fun k => cond (streq (l.getD k Tapi_Call.d).f_Name (l.getD m Tapi_Call.d).f_Name) (some true) none) false m 0
def stepCall (l : List Tapi_Call) (m : Nat) : Option Int :=
  cond (!nameOk (l.getD m Tapi_Call.d).f_Name) (some 4) (cond (dupCall l m) (some 5) (cond (callCode (l.getD m Tapi_Call.d) != 0) (some (callCode (l.getD m Tapi_Call.d))) none))
def callsCode (l : List Tapi_Call) : Int := cond (decide (((l.length : Nat) : Int) > 8)) 8 (scan (stepCall l) 0 l.length 0)

theorem contains_call {N : Nat} (l : List Tapi_Call) (m : Nat) (hm : m < l.length) (hN : l.length < N) (hl : l.length ≤ 8) : g_slices_ContainsFunc_api_Call_api_Call N ((l.take m).drop 0) (l.getD m Tapi_Call.d) = some (dupCall l m) := by
  have hlen : ((l.take m).drop 0).length = m := by simp; omega
  have e : g_slices_IndexFunc_api_Call_api_Call N ((l.take m).drop 0) (l.getD m Tapi_Call.d) = some (scan (fun k => cond (streq (l.getD k Tapi_Call.d).f_Name (l.getD m Tapi_Call.d).f_Name) (some (k : Int)) none) (-1) m 0) := by
    unfold g_slices_IndexFunc_api_Call_api_Call
    refine loop_scan0 (L := fun fuel => g_slices_IndexFunc_api_Call_api_Call_L1 N ((l.take m).drop 0) (l.getD m Tapi_Call.d) fuel) _ _ (by omega) (fun fuel k hk => ?_) (fun fuel => ?_)
    · simp only [g_slices_IndexFunc_api_Call_api_Call_L1, hlen, dec_lt hk, cond_true, if_pos (inb hk), w64_succ (show k < 9223372036854775807 by omega), toNat_nat, getD_take l m k _ hk, g_berth_check_Call_1, g_berth_CheckCalls_1, Option.bind_some]
      cases streq (l.getD k Tapi_Call.d).f_Name (l.getD m Tapi_Call.d).f_Name <;> rfl
    · simp only [g_slices_IndexFunc_api_Call_api_Call_L1, hlen, dec_nlt, cond_false]
  unfold g_slices_ContainsFunc_api_Call_api_Call
  rw [e, Option.bind_some, scan_index]
  rfl

theorem checkCalls_eq {N : Nat} (hN : 13 < N) (l : List Tapi_Call) : g_berth_CheckCalls N l = some (callsCode l) := by
  unfold g_berth_CheckCalls g_berth_check_Call callsCode
  cases h : decide (((l.length : Nat) : Int) > 8)
  · have hl : l.length ≤ 8 := by simp at h; omega
    have e : g_berth_check_Call_L1 N l N 0 = some (scan (stepCall l) 0 l.length 0) := by
      refine loop_scan0 (L := fun fuel => g_berth_check_Call_L1 N l fuel) _ _ (by omega) (fun fuel m hm => ?_) (fun fuel => ?_)
      · simp only [g_berth_check_Call_L1, dec_lt hm, cond_true, if_pos (inb hm), w64_succ (show m < 9223372036854775807 by omega), toNat_nat, g_berth_CheckCalls_1, Option.bind_some, named_eq (show 12 < N by omega), contains_call l m hm (show l.length < N by omega) hl, callCheck_eq,
          if_pos (show 0 ≤ m ∧ m ≤ l.length from ⟨Nat.zero_le _, by omega⟩), if_pos (show 0 ≤ (m : Int) from Int.natCast_nonneg _)]
        unfold stepCall
        cases nameOk (l.getD m Tapi_Call.d).f_Name <;> cases dupCall l m <;> cases (callCode (l.getD m Tapi_Call.d) != 0) <;> rfl
      · simp only [g_berth_check_Call_L1, dec_nlt, cond_false]
    rw [cond_false, cond_false, e]; rfl
  · rfl

theorem callOf_eq {N : Nat} (l : List Tapi_Call) (s : ByteArray) (hN : l.length < N) (hl : l.length < 9223372036854775807) : g_keelblockref06_CallOf N l s = some (scan (fun k => cond (streq (l.getD k Tapi_Call.d).f_Name s) (some (k : Int)) none) (-1) l.length 0) := by
  unfold g_keelblockref06_CallOf
  refine loop_scan0 (L := fun fuel => g_keelblockref06_CallOf_L1 N l s fuel) _ _ hN (fun fuel m hm => ?_) (fun fuel => ?_)
  · simp only [g_keelblockref06_CallOf_L1, dec_lt hm, cond_true, if_pos (inb hm), w64_succ (show m < 9223372036854775807 by omega), toNat_nat]
    cases streq (l.getD m Tapi_Call.d).f_Name s <;> rfl
  · simp only [g_keelblockref06_CallOf_L1, dec_nlt, cond_false]

theorem refCalls_eq {N : Nat} (hN : 13 < N) (l : List Tapi_Call) : g_keelblockref06_CheckCalls N l = some (callsCode l) := by
  unfold g_keelblockref06_CheckCalls callsCode
  cases h : decide (((l.length : Nat) : Int) > 8)
  · have hl : l.length ≤ 8 := by simp at h; omega
    rw [cond_false, cond_false]
    refine loop_scan0 (L := fun fuel => g_keelblockref06_CheckCalls_L1 N l fuel) _ _ (by omega) (fun fuel m hm => ?_) (fun fuel => ?_)
    · have hd : (scan (fun k => cond (streq (l.getD k Tapi_Call.d).f_Name (l.getD m Tapi_Call.d).f_Name) (some (k : Int)) none) (-1) l.length 0 != (m : Int)) = dupCall l m :=
        scan_first (p := fun k => streq (l.getD k Tapi_Call.d).f_Name (l.getD m Tapi_Call.d).f_Name) (streq_iff.2 rfl) l.length 0 (Nat.zero_le _) (by omega)
      simp only [g_keelblockref06_CheckCalls_L1, dec_lt hm, cond_true, if_pos (inb hm), toNat_nat, IsName_eq (show 12 < N by omega), Option.bind_some, callOf_eq l _ (show l.length < N by omega) (by omega), w64_succ (show m < 9223372036854775807 by omega), hd, if_pos (fun _ => inb hm), inside_eq]
      unfold stepCall
      cases nameOk (l.getD m Tapi_Call.d).f_Name
      · rfl
      · cases dupCall l m
        · simp only [Bool.not_true, cond_false]
          unfold callCode
          generalize ins (l.getD m Tapi_Call.d).f_Length 1 1000000 = b0, ins (l.getD m Tapi_Call.d).f_Beam 1 1000000 = b1, ins (l.getD m Tapi_Call.d).f_Draught 0 1000000 = b2, ins (l.getD m Tapi_Call.d).f_Under 0 1000000 = b3, ins (l.getD m Tapi_Call.d).f_Arrive 0 400 = b4, ins (l.getD m Tapi_Call.d).f_Due 0 400 = b5, ins (l.getD m Tapi_Call.d).f_Work 1 1000 = b6, ins (l.getD m Tapi_Call.d).f_Late 0 1000000000 = b7
          cases b0 <;> cases b1 <;> cases b2 <;> cases b3 <;> cases b4 <;> cases b5 <;> cases b6 <;> cases b7 <;> rfl
        · rfl
    · simp only [g_keelblockref06_CheckCalls_L1, dec_nlt, cond_false]
  · rfl

end Go.Den

namespace Go.Den
open Go.Ab

def bothCode (d : Tapi_Dock) (c : List Tapi_Call) : Int := cond (docksCode [d] != 0) (docksCode [d]) (callsCode c)
theorem both_eq {N : Nat} (hN : 13 < N) (d : Tapi_Dock) (c : List Tapi_Call) : g_berth_both N d c = some (bothCode d c) := by
  unfold g_berth_both bothCode
  rw [checkDocks_eq hN, checkCalls_eq hN]
  simp only [Option.bind_some, cond_some]
theorem refBoth_eq {N : Nat} (hN : 13 < N) (d : Tapi_Dock) (c : List Tapi_Call) : g_keelblockref06_CheckBoth N d c = some (bothCode d c) := by
  unfold g_keelblockref06_CheckBoth bothCode
  rw [refDocks_eq hN, refCalls_eq hN]
  simp only [Option.bind_some, cond_some]
def fitsV (d : Tapi_Dock) (c : Tapi_Call) : Bool := cond (decide ((w64 (c.f_Length + (w64 (2 * d.f_Gap)))) ≤ d.f_Length)) (decide ((w64 (c.f_Beam + (w64 (2 * d.f_Gap)))) ≤ d.f_Width)) false
theorem Fits_eq {N : Nat} (hN : 13 < N) (d : Tapi_Dock) (c : Tapi_Call) : g_berth_Fits N d c = some (cond (bothCode d [c] != 0) (false, bothCode d [c]) (fitsV d c, 0)) := by
  unfold g_berth_Fits
  rw [both_eq hN]
  simp only [Option.bind_some, g_berth_fits, cond_some]
  rfl

theorem nameOk_one (b : UInt8) (h : (97 ≤ b.toNat ∧ b.toNat ≤ 122)) : nameOk (⟨#[b]⟩ : ByteArray) = true := by
  unfold nameOk
  rw [streq_empty]
  have hs : (⟨#[b]⟩ : ByteArray).size = 1 := rfl
  have hb : byteAt (⟨#[b]⟩ : ByteArray) 0 = (b.toNat : Int) := rfl
  rw [hs]
  simp only [scan, nameBad, hb]
  have h1 : decide ((b.toNat : Int) ≥ 97) = true := decide_eq_true (by omega)
  have h2 : decide ((b.toNat : Int) ≤ 122) = true := decide_eq_true (by omega)
  rw [h1, h2]; rfl

theorem docks_one (x : Tapi_Dock) (h : nameOk x.f_Name = true) : docksCode [x] = dockCode x := by
  unfold docksCode
  simp only [List.length_singleton, scan, stepDock, List.getD_cons_zero, h]
  rw [show dupDock [x] 0 = false from rfl]
  simp only [Bool.not_true, cond_false]
  by_cases hz : dockCode x = 0
  · rw [hz]; rfl
  · have : (dockCode x != 0) = true := by simpa using hz
    rw [this]; rfl
theorem calls_one (x : Tapi_Call) (h : nameOk x.f_Name = true) : callsCode [x] = callCode x := by
  unfold callsCode
  simp only [List.length_singleton, scan, stepCall, List.getD_cons_zero, h]
  rw [show dupCall [x] 0 = false from rfl]
  simp only [Bool.not_true, cond_false]
  by_cases hz : callCode x = 0
  · rw [hz]; rfl
  · have : (callCode x != 0) = true := by simpa using hz
    rw [this]; rfl

theorem awake_eq {N : Nat} (hN : 13 < N) : g_keelblocklaw06_awake N = some true := by
  unfold g_keelblocklaw06_awake
  rw [Fits_eq hN, Fits_eq hN]
  unfold bothCode
  rw [docks_one _ (nameOk_one _ (by decide)), calls_one _ (nameOk_one _ (by decide)), calls_one _ (nameOk_one _ (by decide))]
  decide

theorem Names_total {N : Nat} (d : List Tapi_Dock) (c : List Tapi_Call) (hN : 13 < N) : ∃ b, g_keelblocklaw06_Names N d c = some b := by
  unfold g_keelblocklaw06_Names
  cases h : cond (decide (((d.length : Nat) : Int) > 6)) true (decide (((c.length : Nat) : Int) > 10))
  · have hl : d.length ≤ 6 ∧ c.length ≤ 10 := by
      cases h2 : decide (((d.length : Nat) : Int) > 6) <;> rw [h2] at h <;> simp at h h2; omega
    have e2 : g_keelblocklaw06_Names_L2 N c N 0 = some (scan (fun m => cond (decide ((((c.getD m Tapi_Call.d).f_Name.size : Nat) : Int) > 40)) (some false) none) true c.length 0) := by
      refine loop_scan0 (L := fun fuel => g_keelblocklaw06_Names_L2 N c fuel) _ _ (by omega) (fun fuel m hm => ?_) (fun fuel => ?_)
      · simp only [g_keelblocklaw06_Names_L2, dec_lt hm, cond_true, if_pos (inb hm), w64_succ (show m < 9223372036854775807 by omega), toNat_nat]
        cases decide ((((c.getD m Tapi_Call.d).f_Name.size : Nat) : Int) > 40) <;> rfl
      · simp only [g_keelblocklaw06_Names_L2, dec_nlt, cond_false]
    refine ⟨scan (fun m => cond (decide ((((d.getD m Tapi_Dock.d).f_Name.size : Nat) : Int) > 40)) (some false) none) (scan (fun m => cond (decide ((((c.getD m Tapi_Call.d).f_Name.size : Nat) : Int) > 40)) (some false) none) true c.length 0) d.length 0, ?_⟩
    rw [cond_false]
    refine loop_scan0 (L := fun fuel => g_keelblocklaw06_Names_L1 N d c fuel) _ _ (by omega) (fun fuel m hm => ?_) (fun fuel => ?_)
    · simp only [g_keelblocklaw06_Names_L1, dec_lt hm, cond_true, if_pos (inb hm), w64_succ (show m < 9223372036854775807 by omega), toNat_nat]
      cases decide ((((d.getD m Tapi_Dock.d).f_Name.size : Nat) : Int) > 40) <;> rfl
    · simp only [g_keelblocklaw06_Names_L1, dec_nlt, cond_false, e2]
  · exact ⟨false, rfl⟩

theorem berthDocks_plain (d : List Tapi_Dock) (c : List Tapi_Call) (_ : wL Tapi_Dock.wf d) (_ : wL Tapi_Call.wf c) : ∃ N, g_keelblocklaw06_BerthDocks N d c = some true := by
  refine ⟨14, ?_⟩
  obtain ⟨b, hb⟩ := Names_total d c (show 13 < 14 by omega)
  have hN : 13 < 14 := by omega
  unfold g_keelblocklaw06_BerthDocks
  rw [awake_eq hN, hb, checkDocks_eq hN, refDocks_eq hN, checkCalls_eq hN, refCalls_eq hN]
  simp only [Option.bind_some, Bool.not_true, cond_false, bne_self_eq_false, Bool.not_false, cond_true]
  cases b
  · rfl
  · simp only [Bool.not_true, cond_false]
    cases h : cond (((d.length : Nat) : Int) == 0) true (((c.length : Nat) : Int) == 0)
    · have hl : 0 < d.length ∧ 0 < c.length := by
        cases h2 : (((d.length : Nat) : Int) == 0) <;> rw [h2] at h <;> simp at h h2
        exact ⟨by cases d <;> simp_all, by cases c <;> simp_all⟩
      have h1 : 0 ≤ (0 : Int) ∧ 0 < ((d.length : Nat) : Int) := ⟨by omega, by omega⟩
      have h2 : 0 ≤ (0 : Int) ∧ 0 < ((c.length : Nat) : Int) := ⟨by omega, by omega⟩
      have e : (c.take 1).drop 0 = [c.getD 0 Tapi_Call.d] := by
        have := drop_take_one c 0 Tapi_Call.d hl.2
        simpa using this
      rw [if_pos h1, if_pos h2, Fits_eq hN]
      simp only [Option.bind_some, cond_false]
      rw [if_pos (show 0 ≤ 1 ∧ 1 ≤ c.length from ⟨by omega, hl.2⟩), e, refBoth_eq hN]
      simp only [Option.bind_some]
      generalize bothCode (d.getD 0 Tapi_Dock.d) [c.getD 0 Tapi_Call.d] = z
      cases hz : z != 0
      · simp only [cond_false, if_pos (fun _ => h1), if_pos (fun _ => h2)]
        show (some (fitsV _ _)).bind _ = _
        simp [fitsV]
      · simp
    · rfl
end Go.Den
