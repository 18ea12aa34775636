/- HeapHoles: for every input the law returns true, and each argument reads as it did. Conditions: none. -/
import Derived.Test.YtdfkfoffinchhaaHeapArgs1
namespace Go.Proofs.Ytdfkfoffinchhaa
open Go Go.ChangeShapes Go.WideShapes Go.ChangeAt Go.RowKit
set_option linter.unusedVariables false

theorem heapHoles_own : ownKnob Try.prog.godebug = none := by kernel_rfl
theorem heapHoles_laid : laidOutB Try.prog = true := by kernel_rfl
theorem heapHoles_spec {H : Type} : ∀ ds : List (DataW H), ds.length = Try.f4.params.size → Rows.heapHolesSpec.fn H ds = { results := [.lit (.bool true)], args := ds } := by
  intro ds h
  have h' : ds.length = 1 := h
  match ds, h' with
  | [d0], _ => rfl

set_option maxRecDepth 100000 in
theorem heapHoles_lifted (os : Os) (started : os.Started) (H : Type) (enc : TypeId × Value → H) :
    ReturnsInHanded {} Try.checked os 4 .any (Rows.heapHolesSpec.pre6 enc Try.prog Try.f4 Rows.heapHolesRow.domain false) (Rows.heapHolesSpec.post enc Try.prog Try.f4 false true false false) :=
  Go.Tm.law_lifted (C := Try.checked) heapHoles_own heapHoles_laid started (by kernel_rfl) Try.func4 (by kernel_rfl) Try.underlying4 rfl rfl heapHoles_spec
    (ChangeSpec.witness6 (enc := enc) (C := Try.checked) false ⟨#[], #[.agg #[.int .i64 0, .slice none 0 0]], []⟩ 8 (by kernel_rfl) (by kernel_rfl) (by kernel_rfl) (by kernel_rfl))
    heapHoles_args

theorem heapHoles_holds : Rows.HeapHolesSaid :=
  OpenClaim.holds_of_wide 4 Try.f4 rfl rfl rfl rfl rfl rfl rfl ⟨rfl, rfl, rfl, rfl, rfl⟩ rfl rfl rfl rfl rfl (by kernel_rfl) Try.func4 (by kernel_rfl)
    (of_decide_eq_true (by kernel_rfl)) (by unfold Func.isWrapper; first | (rw [if_pos (by decide +kernel)]; kernel_rfl) | (rw [if_neg (by decide +kernel)]; exact ⟨rfl, rfl⟩))
    (fun os started H enc _ => heapHoles_lifted os started H enc)
#print axioms heapHoles_holds
end Go.Proofs.Ytdfkfoffinchhaa
