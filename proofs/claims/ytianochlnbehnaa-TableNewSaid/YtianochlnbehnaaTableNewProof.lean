/- TableNew: for every input the law returns true, and each argument reads as it did. Conditions: none. -/
import Derived.Test.YtianochlnbehnaaTabArgs2
namespace Go.Proofs.Ytianochlnbehnaa
open Go Go.ChangeShapes Go.WideShapes Go.ChangeAt Go.RowKit
set_option linter.unusedVariables false

theorem tableNew_own : ownKnob Try.prog.godebug = none := by kernel_rfl
theorem tableNew_laid : laidOutB Try.prog = true := by kernel_rfl
theorem tableNew_spec {H : Type} : ∀ ds : List (DataW H), ds.length = Try.f4.params.size → Rows.tableNewSpec.fn H ds = { results := [.lit (.bool true)], args := ds } := by
  intro ds h
  have h' : ds.length = 1 := h
  match ds, h' with
  | [d0], _ => rfl

set_option maxRecDepth 100000 in
theorem tableNew_lifted (os : Os) (started : os.Started) (H : Type) (enc : TypeId × Value → H) :
    ReturnsInHanded {} Try.checked os 4 .any (Rows.tableNewSpec.pre6 enc Try.prog Try.f4 Rows.tableNewRow.domain false) (Rows.tableNewSpec.post enc Try.prog Try.f4 false true false false) :=
  Go.Tm.law_lifted (C := Try.checked) tableNew_own tableNew_laid started (by kernel_rfl) Try.func4 (by kernel_rfl) Try.underlying4 rfl rfl tableNew_spec
    (ChangeSpec.witness6 (enc := enc) (C := Try.checked) false ⟨#[], #[.slice none 0 0], []⟩ 8 (by kernel_rfl) (by kernel_rfl) (by kernel_rfl) (by kernel_rfl))
    tableNew_args

theorem tableNew_holds : Rows.TableNewSaid :=
  OpenClaim.holds_of_wide 4 Try.f4 rfl rfl rfl rfl rfl rfl rfl ⟨rfl, rfl, rfl, rfl, rfl⟩ rfl rfl rfl rfl rfl (by kernel_rfl) Try.func4 (by kernel_rfl)
    (of_decide_eq_true (by kernel_rfl)) (by unfold Func.isWrapper; first | (rw [if_pos (by decide +kernel)]; kernel_rfl) | (rw [if_neg (by decide +kernel)]; exact ⟨rfl, rfl⟩))
    (fun os started H enc _ => tableNew_lifted os started H enc)
#print axioms tableNew_holds
end Go.Proofs.Ytianochlnbehnaa
