/- PipeOrder: for every input the law returns true, and each argument reads as it did. Conditions: none. -/
import Derived.Test.YthnfcmfdengnbaaPipeArgs2
namespace Go.Proofs.Ythnfcmfdengnbaa
open Go Go.ChangeShapes Go.WideShapes Go.ChangeAt Go.RowKit
set_option linter.unusedVariables false

theorem pipeOrder_own : ownKnob Try.prog.godebug = none := by kernel_rfl
theorem pipeOrder_laid : laidOutB Try.prog = true := by kernel_rfl
theorem pipeOrder_spec {H : Type} : ∀ ds : List (DataW H), ds.length = Try.f5.params.size → Rows.pipeOrderSpec.fn H ds = { results := [.lit (.bool true)], args := ds } := by
  intro ds h
  have h' : ds.length = 1 := h
  match ds, h' with
  | [d0], _ => rfl

set_option maxRecDepth 100000 in
theorem pipeOrder_lifted (os : Os) (started : os.Started) (H : Type) (enc : TypeId × Value → H) :
    ReturnsInHanded {} Try.checked os 5 .any (Rows.pipeOrderSpec.pre6 enc Try.prog Try.f5 Rows.pipeOrderRow.domain false) (Rows.pipeOrderSpec.post enc Try.prog Try.f5 false true false false) :=
  Go.Tm.law_lifted (C := Try.checked) pipeOrder_own pipeOrder_laid started (by kernel_rfl) Try.func5 (by kernel_rfl) Try.underlying4 rfl rfl pipeOrder_spec
    (ChangeSpec.witness6 (enc := enc) (C := Try.checked) false ⟨#[], #[.slice none 0 0], []⟩ 8 (by kernel_rfl) (by kernel_rfl) (by kernel_rfl) (by kernel_rfl))
    pipeOrder_args

theorem pipeOrder_holds : Rows.PipeOrderSaid :=
  OpenClaim.holds_of_wide 5 Try.f5 rfl rfl rfl rfl rfl rfl rfl ⟨rfl, rfl, rfl, rfl, rfl⟩ rfl rfl rfl rfl rfl (by kernel_rfl) Try.func5 (by kernel_rfl)
    (of_decide_eq_true (by kernel_rfl)) (by unfold Func.isWrapper; first | (rw [if_pos (by decide +kernel)]; kernel_rfl) | (rw [if_neg (by decide +kernel)]; exact ⟨rfl, rfl⟩))
    (fun os started H enc _ => pipeOrder_lifted os started H enc)
#print axioms pipeOrder_holds
end Go.Proofs.Ythnfcmfdengnbaa
