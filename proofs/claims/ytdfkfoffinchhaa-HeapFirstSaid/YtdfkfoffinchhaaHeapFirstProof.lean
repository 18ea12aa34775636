/- HeapFirst: for every input the law returns true, and each argument reads as it did. Conditions: none. -/
import Derived.Test.YtdfkfoffinchhaaHeapArgs3
namespace Go.Proofs.Ytdfkfoffinchhaa
open Go Go.ChangeShapes Go.WideShapes Go.ChangeAt Go.RowKit
set_option linter.unusedVariables false

theorem heapFirst_own : ownKnob Try.prog.godebug = none := by kernel_rfl
theorem heapFirst_laid : laidOutB Try.prog = true := by kernel_rfl
theorem heapFirst_spec {H : Type} : ∀ ds : List (DataW H), ds.length = Try.f3.params.size → Rows.heapFirstSpec.fn H ds = { results := [.lit (.bool true)], args := ds } := by
  intro ds h
  have h' : ds.length = 3 := h
  match ds, h' with
  | [d0, d1, d2], _ => rfl

set_option maxRecDepth 100000 in
theorem heapFirst_lifted (os : Os) (started : os.Started) (H : Type) (enc : TypeId × Value → H) :
    ReturnsInHanded {} Try.checked os 3 .any (Rows.heapFirstSpec.pre6 enc Try.prog Try.f3 Rows.heapFirstRow.domain false) (Rows.heapFirstSpec.post enc Try.prog Try.f3 false true false false) :=
  Go.Tm.law_lifted (C := Try.checked) heapFirst_own heapFirst_laid started (by kernel_rfl) Try.func3 (by kernel_rfl) Try.underlying4 rfl rfl heapFirst_spec
    (ChangeSpec.witness6 (enc := enc) (C := Try.checked) false ⟨#[], #[.agg #[.int .i64 0, .slice none 0 0], .int .i64 0, .int .i64 0], []⟩ 8 (by kernel_rfl) (by kernel_rfl) (by kernel_rfl) (by kernel_rfl))
    heapFirst_args

theorem heapFirst_holds : Rows.HeapFirstSaid :=
  OpenClaim.holds_of_wide 3 Try.f3 rfl rfl rfl rfl rfl rfl rfl ⟨rfl, rfl, rfl, rfl, rfl⟩ rfl rfl rfl rfl rfl (by kernel_rfl) Try.func3 (by kernel_rfl)
    (of_decide_eq_true (by kernel_rfl)) (by unfold Func.isWrapper; first | (rw [if_pos (by decide +kernel)]; kernel_rfl) | (rw [if_neg (by decide +kernel)]; exact ⟨rfl, rfl⟩))
    (fun os started H enc _ => heapFirst_lifted os started H enc)
#print axioms heapFirst_holds
end Go.Proofs.Ytdfkfoffinchhaa
