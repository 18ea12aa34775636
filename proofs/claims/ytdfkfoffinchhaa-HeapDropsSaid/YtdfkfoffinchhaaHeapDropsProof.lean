/- HeapDrops: for every input the law returns true, and each argument reads as it did. Conditions: none. -/
import Derived.Test.YtdfkfoffinchhaaHeapArgs2
namespace Go.Proofs.Ytdfkfoffinchhaa
open Go Go.ChangeShapes Go.WideShapes Go.ChangeAt Go.RowKit
set_option linter.unusedVariables false

theorem heapDrops_own : ownKnob Try.prog.godebug = none := by kernel_rfl
theorem heapDrops_laid : laidOutB Try.prog = true := by kernel_rfl
theorem heapDrops_spec {H : Type} : ∀ ds : List (DataW H), ds.length = Try.f6.params.size → Rows.heapDropsSpec.fn H ds = { results := [.lit (.bool true)], args := ds } := by
  intro ds h
  have h' : ds.length = 2 := h
  match ds, h' with
  | [d0, d1], _ => rfl

set_option maxRecDepth 100000 in
theorem heapDrops_lifted (os : Os) (started : os.Started) (H : Type) (enc : TypeId × Value → H) :
    ReturnsInHanded {} Try.checked os 6 .any (Rows.heapDropsSpec.pre6 enc Try.prog Try.f6 Rows.heapDropsRow.domain false) (Rows.heapDropsSpec.post enc Try.prog Try.f6 false true false false) :=
  Go.Tm.law_lifted (C := Try.checked) heapDrops_own heapDrops_laid started (by kernel_rfl) Try.func6 (by kernel_rfl) Try.underlying4 rfl rfl heapDrops_spec
    (ChangeSpec.witness6 (enc := enc) (C := Try.checked) false ⟨#[], #[.agg #[.int .i64 0, .slice none 0 0], .int .i64 0], []⟩ 8 (by kernel_rfl) (by kernel_rfl) (by kernel_rfl) (by kernel_rfl))
    heapDrops_args

theorem heapDrops_holds : Rows.HeapDropsSaid :=
  OpenClaim.holds_of_wide 6 Try.f6 rfl rfl rfl rfl rfl rfl rfl ⟨rfl, rfl, rfl, rfl, rfl⟩ rfl rfl rfl rfl rfl (by kernel_rfl) Try.func6 (by kernel_rfl)
    (of_decide_eq_true (by kernel_rfl)) (by unfold Func.isWrapper; first | (rw [if_pos (by decide +kernel)]; kernel_rfl) | (rw [if_neg (by decide +kernel)]; exact ⟨rfl, rfl⟩))
    (fun os started H enc _ => heapDrops_lifted os started H enc)
#print axioms heapDrops_holds
end Go.Proofs.Ytdfkfoffinchhaa
