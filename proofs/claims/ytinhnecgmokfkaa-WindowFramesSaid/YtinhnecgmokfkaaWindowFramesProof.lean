/- WindowFrames: for every input the law returns true, and each argument reads as it did. Conditions: none. -/
import Derived.Test.YtinhnecgmokfkaaWinArgs2
namespace Go.Proofs.Ytinhnecgmokfkaa
open Go Go.ChangeShapes Go.WideShapes Go.ChangeAt Go.RowKit
set_option linter.unusedVariables false

theorem windowFrames_own : ownKnob Try.prog.godebug = none := by kernel_rfl
theorem windowFrames_laid : laidOutB Try.prog = true := by kernel_rfl
theorem windowFrames_spec {H : Type} : ∀ ds : List (DataW H), ds.length = Try.f5.params.size → Rows.windowFramesSpec.fn H ds = { results := [.lit (.bool true)], args := ds } := by
  intro ds h
  have h' : ds.length = 1 := h
  match ds, h' with
  | [d0], _ => rfl

set_option maxRecDepth 100000 in
theorem windowFrames_lifted (os : Os) (started : os.Started) (H : Type) (enc : TypeId × Value → H) :
    ReturnsInHanded {} Try.checked os 5 .any (Rows.windowFramesSpec.pre6 enc Try.prog Try.f5 Rows.windowFramesRow.domain false) (Rows.windowFramesSpec.post enc Try.prog Try.f5 false true false false) :=
  Go.Tm.law_lifted (C := Try.checked) windowFrames_own windowFrames_laid started (by kernel_rfl) Try.func5 (by kernel_rfl) Try.underlying4 rfl rfl windowFrames_spec
    (ChangeSpec.witness6 (enc := enc) (C := Try.checked) false ⟨#[], #[.agg #[.slice none 0 0, .int .i64 0, .slice none 0 0, .slice none 0 0, .int .i64 0, .int .i64 0, .int .u64 0]], []⟩ 8 (by kernel_rfl) (by kernel_rfl) (by kernel_rfl) (by kernel_rfl))
    windowFrames_args

theorem windowFrames_holds : Rows.WindowFramesSaid :=
  OpenClaim.holds_of_wide 5 Try.f5 rfl rfl rfl rfl rfl rfl rfl ⟨rfl, rfl, rfl, rfl, rfl⟩ rfl rfl rfl rfl rfl (by kernel_rfl) Try.func5 (by kernel_rfl)
    (of_decide_eq_true (by kernel_rfl)) (by unfold Func.isWrapper; first | (rw [if_pos (by decide +kernel)]; kernel_rfl) | (rw [if_neg (by decide +kernel)]; exact ⟨rfl, rfl⟩))
    (fun os started H enc _ => windowFrames_lifted os started H enc)
#print axioms windowFrames_holds
end Go.Proofs.Ytinhnecgmokfkaa
