/- PipeSets: for every input the law returns true, and each argument reads as it did. Conditions: none. -/
import Derived.Test.YthnfcmfdengnbaaPipeArgs3
namespace Go.Proofs.Ythnfcmfdengnbaa
open Go Go.ChangeShapes Go.WideShapes Go.ChangeAt Go.RowKit
set_option linter.unusedVariables false

theorem pipeSets_own : ownKnob Try.prog.godebug = none := by kernel_rfl
theorem pipeSets_laid : laidOutB Try.prog = true := by kernel_rfl
theorem pipeSets_spec {H : Type} : ∀ ds : List (DataW H), ds.length = Try.f7.params.size → Rows.pipeSetsSpec.fn H ds = { results := [.lit (.bool true)], args := ds } := by
  intro ds h
  have h' : ds.length = 2 := h
  match ds, h' with
  | [d0, d1], _ => rfl

set_option maxRecDepth 100000 in
theorem pipeSets_lifted (os : Os) (started : os.Started) (H : Type) (enc : TypeId × Value → H) :
    ReturnsInHanded {} Try.checked os 7 .any (Rows.pipeSetsSpec.pre6 enc Try.prog Try.f7 Rows.pipeSetsRow.domain false) (Rows.pipeSetsSpec.post enc Try.prog Try.f7 false true false false) :=
  Go.Tm.law_lifted (C := Try.checked) pipeSets_own pipeSets_laid started (by kernel_rfl) Try.func7 (by kernel_rfl) Try.underlying4 rfl rfl pipeSets_spec
    (ChangeSpec.witness6 (enc := enc) (C := Try.checked) false ⟨#[], #[.agg #[.int .i64 0, .bool false, .int .i64 0, .bool false, .int .i64 0, .bool false, .int .i64 0, .bool false], .agg #[.int .i64 0, .bool false]], []⟩ 8 (by kernel_rfl) (by kernel_rfl) (by kernel_rfl) (by kernel_rfl))
    pipeSets_args

theorem pipeSets_holds : Rows.PipeSetsSaid :=
  OpenClaim.holds_of_wide 7 Try.f7 rfl rfl rfl rfl rfl rfl rfl ⟨rfl, rfl, rfl, rfl, rfl⟩ rfl rfl rfl rfl rfl (by kernel_rfl) Try.func7 (by kernel_rfl)
    (of_decide_eq_true (by kernel_rfl)) (by unfold Func.isWrapper; first | (rw [if_pos (by decide +kernel)]; kernel_rfl) | (rw [if_neg (by decide +kernel)]; exact ⟨rfl, rfl⟩))
    (fun os started H enc _ => pipeSets_lifted os started H enc)
#print axioms pipeSets_holds
end Go.Proofs.Ythnfcmfdengnbaa
