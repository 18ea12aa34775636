/- PipeEnds: for every input the law returns true, and each argument reads as it did. Conditions: none. -/
import Derived.Test.YthnfcmfdengnbaaPipeArgs
namespace Go.Proofs.Ythnfcmfdengnbaa
open Go Go.ChangeShapes Go.WideShapes Go.ChangeAt Go.RowKit
set_option linter.unusedVariables false

theorem pipeEnds_own : ownKnob Try.prog.godebug = none := by kernel_rfl
theorem pipeEnds_laid : laidOutB Try.prog = true := by kernel_rfl
theorem pipeEnds_spec {H : Type} : ∀ ds : List (DataW H), ds.length = Try.f3.params.size → Rows.pipeEndsSpec.fn H ds = { results := [.lit (.bool true)], args := ds } := by
  intro ds h
  have h' : ds.length = 1 := h
  match ds, h' with
  | [d0], _ => rfl

set_option maxRecDepth 100000 in
theorem pipeEnds_lifted (os : Os) (started : os.Started) (H : Type) (enc : TypeId × Value → H) :
    ReturnsInHanded {} Try.checked os 3 .any (Rows.pipeEndsSpec.pre6 enc Try.prog Try.f3 Rows.pipeEndsRow.domain false) (Rows.pipeEndsSpec.post enc Try.prog Try.f3 false true false false) :=
  Go.Tm.law_lifted (C := Try.checked) pipeEnds_own pipeEnds_laid started (by kernel_rfl) Try.func3 (by kernel_rfl) Try.underlying4 rfl rfl pipeEnds_spec
    (ChangeSpec.witness6 (enc := enc) (C := Try.checked) false ⟨#[], #[.agg #[.string ⟨#[]⟩, .int .i64 0, .string ⟨#[]⟩, .int .i64 0, .int .i64 0]], []⟩ 8 (by kernel_rfl) (by kernel_rfl) (by kernel_rfl) (by kernel_rfl))
    pipeEnds_args

theorem pipeEnds_holds : Rows.PipeEndsSaid :=
  OpenClaim.holds_of_wide 3 Try.f3 rfl rfl rfl rfl rfl rfl rfl ⟨rfl, rfl, rfl, rfl, rfl⟩ rfl rfl rfl rfl rfl (by kernel_rfl) Try.func3 (by kernel_rfl)
    (of_decide_eq_true (by kernel_rfl)) (by unfold Func.isWrapper; first | (rw [if_pos (by decide +kernel)]; kernel_rfl) | (rw [if_neg (by decide +kernel)]; exact ⟨rfl, rfl⟩))
    (fun os started H enc _ => pipeEnds_lifted os started H enc)
#print axioms pipeEnds_holds
end Go.Proofs.Ythnfcmfdengnbaa
