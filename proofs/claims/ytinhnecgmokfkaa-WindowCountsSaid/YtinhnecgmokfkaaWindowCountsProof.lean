/- WindowCounts: for every input the law returns true, and each argument reads as it did. Conditions: none. -/
import Derived.Test.YtinhnecgmokfkaaWinArgs2
namespace Go.Proofs.Ytinhnecgmokfkaa
open Go Go.ChangeShapes Go.WideShapes Go.ChangeAt Go.RowKit
set_option linter.unusedVariables false

theorem windowCounts_own : ownKnob Try.prog.godebug = none := by kernel_rfl
theorem windowCounts_laid : laidOutB Try.prog = true := by kernel_rfl
theorem windowCounts_spec {H : Type} : ∀ ds : List (DataW H), ds.length = Try.f4.params.size → Rows.windowCountsSpec.fn H ds = { results := [.lit (.bool true)], args := ds } := by
  intro ds h
  have h' : ds.length = 1 := h
  match ds, h' with
  | [d0], _ => rfl

set_option maxRecDepth 100000 in
theorem windowCounts_lifted (os : Os) (started : os.Started) (H : Type) (enc : TypeId × Value → H) :
    ReturnsInHanded {} Try.checked os 4 .any (Rows.windowCountsSpec.pre6 enc Try.prog Try.f4 Rows.windowCountsRow.domain false) (Rows.windowCountsSpec.post enc Try.prog Try.f4 false true false false) :=
  Go.Tm.law_lifted (C := Try.checked) windowCounts_own windowCounts_laid started (by kernel_rfl) Try.func4 (by kernel_rfl) Try.underlying4 rfl rfl windowCounts_spec
    (ChangeSpec.witness6 (enc := enc) (C := Try.checked) false ⟨#[], #[.agg #[.slice none 0 0, .int .i64 0, .slice none 0 0, .slice none 0 0, .int .i64 0, .int .i64 0, .int .u64 0]], []⟩ 8 (by kernel_rfl) (by kernel_rfl) (by kernel_rfl) (by kernel_rfl))
    windowCounts_args

theorem windowCounts_holds : Rows.WindowCountsSaid :=
  OpenClaim.holds_of_wide 4 Try.f4 rfl rfl rfl rfl rfl rfl rfl ⟨rfl, rfl, rfl, rfl, rfl⟩ rfl rfl rfl rfl rfl (by kernel_rfl) Try.func4 (by kernel_rfl)
    (of_decide_eq_true (by kernel_rfl)) (by unfold Func.isWrapper; first | (rw [if_pos (by decide +kernel)]; kernel_rfl) | (rw [if_neg (by decide +kernel)]; exact ⟨rfl, rfl⟩))
    (fun os started H enc _ => windowCounts_lifted os started H enc)
#print axioms windowCounts_holds
end Go.Proofs.Ytinhnecgmokfkaa
