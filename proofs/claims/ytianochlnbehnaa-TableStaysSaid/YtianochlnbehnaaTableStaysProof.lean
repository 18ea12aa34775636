/- TableStays: for every input the law returns true, and each argument reads as it did. Conditions: none. -/
import Derived.Test.YtianochlnbehnaaTabArgs4
namespace Go.Proofs.Ytianochlnbehnaa
open Go Go.ChangeShapes Go.WideShapes Go.ChangeAt Go.RowKit
set_option linter.unusedVariables false

theorem tableStays_own : ownKnob Try.prog.godebug = none := by kernel_rfl
theorem tableStays_laid : laidOutB Try.prog = true := by kernel_rfl
theorem tableStays_spec {H : Type} : ∀ ds : List (DataW H), ds.length = Try.f8.params.size → Rows.tableStaysSpec.fn H ds = { results := [.lit (.bool true)], args := ds } := by
  intro ds h
  have h' : ds.length = 3 := h
  match ds, h' with
  | [d0, d1, d2], _ => rfl

set_option maxRecDepth 100000 in
theorem tableStays_lifted (os : Os) (started : os.Started) (H : Type) (enc : TypeId × Value → H) :
    ReturnsInHanded {} Try.checked os 8 .any (Rows.tableStaysSpec.pre6 enc Try.prog Try.f8 Rows.tableStaysRow.domain false) (Rows.tableStaysSpec.post enc Try.prog Try.f8 false true false false) :=
  Go.Tm.law_lifted (C := Try.checked) tableStays_own tableStays_laid started (by kernel_rfl) Try.func8 (by kernel_rfl) Try.underlying4 rfl rfl tableStays_spec
    (ChangeSpec.witness6 (enc := enc) (C := Try.checked) false ⟨#[], #[.slice none 0 0, .agg #[.int .i64 0, .int .i64 0, .int .i64 0, .int .u32 0, .int .u32 0, .int .u32 0, .int .u32 0, .int .u32 0, .int .u32 0, .int .u32 0, .int .u32 0, .int .u32 0, .string ⟨#[]⟩, .int .i64 0, .int .i64 0, .bool false, .int .i64 0, .bool false, .int .i64 0, .bool false, .int .i64 0, .bool false, .int .u32 0, .int .u32 0, .int .u32 0, .int .u32 0], .int .i64 0], []⟩ 8 (by kernel_rfl) (by kernel_rfl) (by kernel_rfl) (by kernel_rfl))
    tableStays_args

theorem tableStays_holds : Rows.TableStaysSaid :=
  OpenClaim.holds_of_wide 8 Try.f8 rfl rfl rfl rfl rfl rfl rfl ⟨rfl, rfl, rfl, rfl, rfl⟩ rfl rfl rfl rfl rfl (by kernel_rfl) Try.func8 (by kernel_rfl)
    (of_decide_eq_true (by kernel_rfl)) (by unfold Func.isWrapper; first | (rw [if_pos (by decide +kernel)]; kernel_rfl) | (rw [if_neg (by decide +kernel)]; exact ⟨rfl, rfl⟩))
    (fun os started H enc _ => tableStays_lifted os started H enc)
#print axioms tableStays_holds
end Go.Proofs.Ytianochlnbehnaa
