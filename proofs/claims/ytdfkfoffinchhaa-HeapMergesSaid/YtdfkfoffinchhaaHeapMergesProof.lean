/- HeapMerges: for every input the law returns true, and each argument reads as it did. Conditions: none. -/
import Derived.Test.YtdfkfoffinchhaaHeapArgs3
namespace Go.Proofs.Ytdfkfoffinchhaa
open Go Go.ChangeShapes Go.WideShapes Go.ChangeAt Go.RowKit
set_option linter.unusedVariables false

theorem heapMerges_own : ownKnob Try.prog.godebug = none := by kernel_rfl
theorem heapMerges_laid : laidOutB Try.prog = true := by kernel_rfl
theorem heapMerges_spec {H : Type} : ∀ ds : List (DataW H), ds.length = Try.f10.params.size → Rows.heapMergesSpec.fn H ds = { results := [.lit (.bool true)], args := ds } := by
  intro ds h
  have h' : ds.length = 2 := h
  match ds, h' with
  | [d0, d1], _ => rfl

set_option maxRecDepth 100000 in
theorem heapMerges_lifted (os : Os) (started : os.Started) (H : Type) (enc : TypeId × Value → H) :
    ReturnsInHanded {} Try.checked os 10 .any (Rows.heapMergesSpec.pre6 enc Try.prog Try.f10 Rows.heapMergesRow.domain false) (Rows.heapMergesSpec.post enc Try.prog Try.f10 false true false false) :=
  Go.Tm.law_lifted (C := Try.checked) heapMerges_own heapMerges_laid started (by kernel_rfl) Try.func10 (by kernel_rfl) Try.underlying4 rfl rfl heapMerges_spec
    (ChangeSpec.witness6 (enc := enc) (C := Try.checked) false ⟨#[], #[.agg #[.int .i64 0, .slice none 0 0], .int .i64 0], []⟩ 8 (by kernel_rfl) (by kernel_rfl) (by kernel_rfl) (by kernel_rfl))
    heapMerges_args

theorem heapMerges_holds : Rows.HeapMergesSaid :=
  OpenClaim.holds_of_wide 10 Try.f10 rfl rfl rfl rfl rfl rfl rfl ⟨rfl, rfl, rfl, rfl, rfl⟩ rfl rfl rfl rfl rfl (by kernel_rfl) Try.func10 (by kernel_rfl)
    (of_decide_eq_true (by kernel_rfl)) (by unfold Func.isWrapper; first | (rw [if_pos (by decide +kernel)]; kernel_rfl) | (rw [if_neg (by decide +kernel)]; exact ⟨rfl, rfl⟩))
    (fun os started H enc _ => heapMerges_lifted os started H enc)
#print axioms heapMerges_holds
end Go.Proofs.Ytdfkfoffinchhaa
