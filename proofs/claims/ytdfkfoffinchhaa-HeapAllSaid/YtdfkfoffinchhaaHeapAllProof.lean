/- HeapAll: for every input the law returns true, and each argument reads as it did. Conditions: none. -/
import Derived.Test.YtdfkfoffinchhaaHeapArgs4
namespace Go.Proofs.Ytdfkfoffinchhaa
open Go Go.ChangeShapes Go.WideShapes Go.ChangeAt Go.RowKit
set_option linter.unusedVariables false

theorem heapAll_own : ownKnob Try.prog.godebug = none := by kernel_rfl
theorem heapAll_laid : laidOutB Try.prog = true := by kernel_rfl
theorem heapAll_spec {H : Type} : ∀ ds : List (DataW H), ds.length = Try.f8.params.size → Rows.heapAllSpec.fn H ds = { results := [.lit (.bool true)], args := ds } := by
  intro ds h
  have h' : ds.length = 2 := h
  match ds, h' with
  | [d0, d1], _ => rfl

set_option maxRecDepth 100000 in
theorem heapAll_lifted (os : Os) (started : os.Started) (H : Type) (enc : TypeId × Value → H) :
    ReturnsInHanded {} Try.checked os 8 .any (Rows.heapAllSpec.pre6 enc Try.prog Try.f8 Rows.heapAllRow.domain false) (Rows.heapAllSpec.post enc Try.prog Try.f8 false true false false) :=
  Go.Tm.law_lifted (C := Try.checked) heapAll_own heapAll_laid started (by kernel_rfl) Try.func8 (by kernel_rfl) Try.underlying4 rfl rfl heapAll_spec
    (ChangeSpec.witness6 (enc := enc) (C := Try.checked) false ⟨#[], #[.int .i64 0, .int .i64 0], []⟩ 8 (by kernel_rfl) (by kernel_rfl) (by kernel_rfl) (by kernel_rfl))
    heapAll_args

theorem heapAll_holds : Rows.HeapAllSaid :=
  OpenClaim.holds_of_wide 8 Try.f8 rfl rfl rfl rfl rfl rfl rfl ⟨rfl, rfl, rfl, rfl, rfl⟩ rfl rfl rfl rfl rfl (by kernel_rfl) Try.func8 (by kernel_rfl)
    (of_decide_eq_true (by kernel_rfl)) (by unfold Func.isWrapper; first | (rw [if_pos (by decide +kernel)]; kernel_rfl) | (rw [if_neg (by decide +kernel)]; exact ⟨rfl, rfl⟩))
    (fun os started H enc _ => heapAll_lifted os started H enc)
#print axioms heapAll_holds
end Go.Proofs.Ytdfkfoffinchhaa
