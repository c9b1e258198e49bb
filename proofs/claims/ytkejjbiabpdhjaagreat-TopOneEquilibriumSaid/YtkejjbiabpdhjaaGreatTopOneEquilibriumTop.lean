/- The law TopOneEquilibrium holds: the given statement. No conditions. -/
import Derived.Test.YtkejjbiabpdhjaaGreatTopOneEquilibriumSc
import Derived.Test.YtkejjbiabpdhjaaGreatTopOneEquilibriumPl
import Derived.Test.YtkejjbiabpdhjaaGreatRows
set_option linter.unusedVariables false
set_option maxRecDepth 100000
namespace Go.Proofs.YtkejjbiabpdhjaaGreat
open Go.Ab Go.Den Go.ChangeShapes Go.WideShapes Go.ChangeAt Go.RowKit
theorem Tryz.own : ownKnob Tryz.prog.godebug = none := by kernel_rfl
theorem Tryz.laidOut : laidOutB Tryz.prog = true := by kernel_rfl
theorem Wi : si Tryz.prog 37 cj.wf TIc := by
  intro H enc w n cs x h;obtain ⟨d, m, a⟩ := BG Tryz.underlying37 h;obtain ⟨b, e, f⟩ := Ah a 0 (te := 4) 0 1 (si.bool Tryz.underlying4) (by kernel_rfl) (by kernel_rfl);obtain ⟨c, g, i⟩ := Ah a 1 (te := 35) 1 1 (si.slice 0 Tryz.underlying35 (si.au6 Tryz.underlying209) (sz := 1) (by kernel_rfl) ay (fun _ => rfl)) (by kernel_rfl) (by kernel_rfl);have j : NF w (cs.drop 0) (cB b ++ ((fun x => [cA (cU .u16) 0 x]) c ++ [])) := .step f (.step i (.done (d.trans (by kernel_rfl))));exact ⟨⟨b, c⟩, ⟨e, g⟩, j⟩
theorem Pc : si Tryz.prog 39 ab.wf bH := by
  intro H enc w n cs x h;obtain ⟨d, m, a⟩ := BG Tryz.underlying39 h;obtain ⟨b, e, f⟩ := Ah a 0 (te := 37) 0 2 Wi (by kernel_rfl) (by kernel_rfl);obtain ⟨c, g, i⟩ := Ah a 1 (te := 37) 2 2 Wi (by kernel_rfl) (by kernel_rfl);have j : NF w (cs.drop 0) (TIc b ++ (TIc c ++ [])) := .step f (.step i (.done (d.trans (by kernel_rfl))));exact ⟨⟨b, c⟩, ⟨e, g⟩, j⟩
theorem aa0 : si Tryz.prog 120 cO.wf zx := by
  intro H enc w n cs x h;obtain ⟨d, m, a⟩ := BG Tryz.underlying120 h;obtain ⟨b, e, f⟩ := Ah a 0 (te := 46) 0 1 (si.slice 0 Tryz.underlying46 (si.int Tryz.underlying3) (sz := 1) (by kernel_rfl) ay (fun _ => rfl)) (by kernel_rfl) (by kernel_rfl);obtain ⟨c, g, i⟩ := Ah a 1 (te := 34) 1 1 (si.slice ab.d Tryz.underlying34 Pc (sz := 4) (by kernel_rfl) ay (fun _ => rfl)) (by kernel_rfl) (by kernel_rfl);have j : NF w (cs.drop 0) ((fun x => [cA cI 0 x]) b ++ ((fun x => [cA bH ab.d x]) c ++ [])) := .step f (.step i (.done (d.trans (by kernel_rfl))));exact ⟨⟨b, c⟩, ⟨e, g⟩, j⟩
theorem UW : si Tryz.prog 128 af.wf af.cells := by
  intro H enc w n cs x h;obtain ⟨e, m, a⟩ := BG Tryz.underlying128 h;obtain ⟨b, f, g⟩ := Ah a 0 (te := 3) 0 1 (si.int Tryz.underlying3) (by kernel_rfl) (by kernel_rfl);obtain ⟨c, i, j⟩ := Ah a 1 (te := 39) 1 4 Pc (by kernel_rfl) (by kernel_rfl);obtain ⟨d, k, l⟩ := Ah a 2 (te := 120) 5 2 aa0 (by kernel_rfl) (by kernel_rfl);have o : NF w (cs.drop 0) (cI b ++ (bH c ++ (zx d ++ []))) := .step g (.step j (.step l (.done (e.trans (by kernel_rfl)))));exact ⟨⟨b, c, d⟩, ⟨f, i, k⟩, o⟩
theorem adn : si Tryz.prog 59 cW.wf cW.cells := by
  intro H enc w n cs x h;obtain ⟨e, m, a⟩ := BG Tryz.underlying59 h;obtain ⟨b, f, g⟩ := Ah a 0 (te := 3) 0 1 (si.int Tryz.underlying3) (by kernel_rfl) (by kernel_rfl);obtain ⟨c, i, j⟩ := Ah a 1 (te := 39) 1 4 Pc (by kernel_rfl) (by kernel_rfl);obtain ⟨d, k, l⟩ := Ah a 2 (te := 57) 5 1 (si.slice af.d Tryz.underlying57 UW (sz := 7) (by kernel_rfl) ay (fun _ => rfl)) (by kernel_rfl) (by kernel_rfl);have o : NF w (cs.drop 0) (cI b ++ (bH c ++ ((fun x => [cA af.cells af.d x]) d ++ []))) := .step g (.step j (.step l (.done (e.trans (by kernel_rfl)))));exact ⟨⟨b, c, d⟩, ⟨f, i, k⟩, o⟩
theorem DY (plain : ∀ (b : cW), cW.wf b -> ∃ N, fz N b = some true) (os : Os) (started : os.Started) (H : Type) (enc : TypeId × Value -> H) :
    ReturnsInHanded {} Tryz.checked os 4 .any (Rows.topOneEquilibriumSpec.pre6 enc Tryz.prog Tryz.f4 Rows.topOneEquilibriumRow.domain false) (Rows.topOneEquilibriumSpec.post enc Tryz.prog Tryz.f4 false true false false) := by
  refine returnsInHanded_of_change (C := Tryz.checked) Tryz.own started (by kernel_rfl) Tryz.func4
    (ChangeSpec.witness6 (enc := enc) (C := Tryz.checked) false ⟨#[], #[.agg #[.int .i64 0, .bool false, .slice none 0 0, .bool false, .slice none 0 0, .slice none 0 0]], []⟩ 16 (by kernel_rfl) (by kernel_rfl) (by kernel_rfl) (by kernel_rfl)) ?_
  intro W base a ds s before e h _ _;have d : ∀ (j : Nat) t v, Tryz.f4.params[j]? = some t -> a[j]? = some v -> Value.okWide Tryz.prog W .any base t v := e;have f := h;obtain ⟨p, q, g, u, rfl, k, l⟩ := f;have i : DataW.TrodAll enc Tryz.prog W 0 (fun _ => true) true Tryz.f4.params.toList a.toList ds p := g;rw [Tryz.params4] at i d;obtain ⟨m, w, rfl, rfl, n⟩ := trodAll_one i;obtain ⟨b, w0, o⟩ := afE (c := cW.cells) Tryz.underlying59 adn (d 0 59 m rfl rfl) n;obtain ⟨N, r⟩ := plain b w0;exact ah4 (tb := 4) rfl Tryz.laidOut (by kernel_rfl) rfl Tryz.underlying4 rfl h (rl1 o) (vq N b true r)
theorem Jb (plain : ∀ (a : cW), cW.wf a -> ∃ N, fz N a = some true) : Rows.TopOneEquilibriumSaid :=
  OpenClaim.holds_of_wide 4 Tryz.f4 rfl rfl rfl rfl rfl rfl rfl ⟨rfl, rfl, rfl, rfl, rfl⟩ rfl rfl rfl rfl rfl (by kernel_rfl) Tryz.func4 (by kernel_rfl)
    (nH (by kernel_rfl)) (by unfold Func.isWrapper; first | (rw [if_pos (by decide +kernel)]; kernel_rfl) | (rw [if_neg (by decide +kernel)]; exact ⟨rfl, rfl⟩))
    (fun os started H enc _ => DY plain os started H enc)
theorem topOneEquilibrium_holds : Rows.TopOneEquilibriumSaid := Jb Go.Den.Fk
#print axioms topOneEquilibrium_holds
end Go.Proofs.YtkejjbiabpdhjaaGreat
