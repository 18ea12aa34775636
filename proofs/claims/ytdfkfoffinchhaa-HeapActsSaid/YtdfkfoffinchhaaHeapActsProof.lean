/- HeapActs: for every input the law returns true, and each argument reads as it did. Conditions: none. -/
import Derived.Test.YtdfkfoffinchhaaHeapArgs5
namespace Go.Proofs.Ytdfkfoffinchhaa
open Go Go.ChangeShapes Go.WideShapes Go.ChangeAt Go.RowKit
set_option linter.unusedVariables false

theorem heapActs_own : ownKnob Try.prog.godebug = none := by kernel_rfl
theorem heapActs_laid : laidOutB Try.prog = true := by kernel_rfl
theorem heapActs_spec {H : Type} : ∀ ds : List (DataW H), ds.length = Try.f9.params.size → Rows.heapActsSpec.fn H ds = { results := [.lit (.bool true)], args := ds } := by
  intro ds h
  have h' : ds.length = 3 := h
  match ds, h' with
  | [d0, d1, d2], _ => rfl

set_option maxRecDepth 100000 in
theorem heapActs_lifted (os : Os) (started : os.Started) (H : Type) (enc : TypeId × Value → H) :
    ReturnsInHanded {} Try.checked os 9 .any (Rows.heapActsSpec.pre6 enc Try.prog Try.f9 Rows.heapActsRow.domain false) (Rows.heapActsSpec.post enc Try.prog Try.f9 false true false false) :=
  Go.Tm.law_lifted (C := Try.checked) heapActs_own heapActs_laid started (by kernel_rfl) Try.func9 (by kernel_rfl) Try.underlying4 rfl rfl heapActs_spec
    (ChangeSpec.witness6 (enc := enc) (C := Try.checked) false ⟨#[], #[.agg #[.int .i64 0, .slice none 0 0], .int .i64 0, .int .i64 0], []⟩ 8 (by kernel_rfl) (by kernel_rfl) (by kernel_rfl) (by kernel_rfl))
    heapActs_args

theorem heapActs_holds : Rows.HeapActsSaid :=
  OpenClaim.holds_of_wide 9 Try.f9 rfl rfl rfl rfl rfl rfl rfl ⟨rfl, rfl, rfl, rfl, rfl⟩ rfl rfl rfl rfl rfl (by kernel_rfl) Try.func9 (by kernel_rfl)
    (of_decide_eq_true (by kernel_rfl)) (by unfold Func.isWrapper; first | (rw [if_pos (by decide +kernel)]; kernel_rfl) | (rw [if_neg (by decide +kernel)]; exact ⟨rfl, rfl⟩))
    (fun os started H enc _ => heapActs_lifted os started H enc)
#print axioms heapActs_holds
end Go.Proofs.Ytdfkfoffinchhaa
