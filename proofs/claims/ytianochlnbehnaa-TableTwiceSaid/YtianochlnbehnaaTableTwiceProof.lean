/- TableTwice: for every input the law returns true, and each argument reads as it did. Conditions: none. -/
import Derived.Test.YtianochlnbehnaaTabArgs4
namespace Go.Proofs.Ytianochlnbehnaa
open Go Go.ChangeShapes Go.WideShapes Go.ChangeAt Go.RowKit
set_option linter.unusedVariables false

theorem tableTwice_own : ownKnob Try.prog.godebug = none := by kernel_rfl
theorem tableTwice_laid : laidOutB Try.prog = true := by kernel_rfl
theorem tableTwice_spec {H : Type} : ∀ ds : List (DataW H), ds.length = Try.f9.params.size → Rows.tableTwiceSpec.fn H ds = { results := [.lit (.bool true)], args := ds } := by
  intro ds h
  have h' : ds.length = 2 := h
  match ds, h' with
  | [d0, d1], _ => rfl

set_option maxRecDepth 100000 in
theorem tableTwice_lifted (os : Os) (started : os.Started) (H : Type) (enc : TypeId × Value → H) :
    ReturnsInHanded {} Try.checked os 9 .any (Rows.tableTwiceSpec.pre6 enc Try.prog Try.f9 Rows.tableTwiceRow.domain false) (Rows.tableTwiceSpec.post enc Try.prog Try.f9 false true false false) :=
  Go.Tm.law_lifted (C := Try.checked) tableTwice_own tableTwice_laid started (by kernel_rfl) Try.func9 (by kernel_rfl) Try.underlying4 rfl rfl tableTwice_spec
    (ChangeSpec.witness6 (enc := enc) (C := Try.checked) false ⟨#[], #[.slice none 0 0, .agg #[.int .i64 0, .int .i64 0, .int .i64 0, .int .u32 0, .int .u32 0, .int .u32 0, .int .u32 0, .int .u32 0, .int .u32 0, .int .u32 0, .int .u32 0, .int .u32 0, .string ⟨#[]⟩, .int .i64 0, .int .i64 0, .bool false, .int .i64 0, .bool false, .int .i64 0, .bool false, .int .i64 0, .bool false, .int .u32 0, .int .u32 0, .int .u32 0, .int .u32 0]], []⟩ 8 (by kernel_rfl) (by kernel_rfl) (by kernel_rfl) (by kernel_rfl))
    tableTwice_args

theorem tableTwice_holds : Rows.TableTwiceSaid :=
  OpenClaim.holds_of_wide 9 Try.f9 rfl rfl rfl rfl rfl rfl rfl ⟨rfl, rfl, rfl, rfl, rfl⟩ rfl rfl rfl rfl rfl (by kernel_rfl) Try.func9 (by kernel_rfl)
    (of_decide_eq_true (by kernel_rfl)) (by unfold Func.isWrapper; first | (rw [if_pos (by decide +kernel)]; kernel_rfl) | (rw [if_neg (by decide +kernel)]; exact ⟨rfl, rfl⟩))
    (fun os started H enc _ => tableTwice_lifted os started H enc)
#print axioms tableTwice_holds
end Go.Proofs.Ytianochlnbehnaa
