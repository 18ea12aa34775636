/- SleepStays: for every input the law returns true, and each argument reads as it did. Conditions: none. -/
import Derived.Test.YtndmgbdgcemcmaaSleepArgs2
namespace Go.Proofs.Ytndmgbdgcemcmaa
open Go Go.ChangeShapes Go.WideShapes Go.ChangeAt Go.RowKit
set_option linter.unusedVariables false

theorem sleepStays_own : ownKnob Try.prog.godebug = none := by kernel_rfl
theorem sleepStays_laid : laidOutB Try.prog = true := by kernel_rfl
theorem sleepStays_spec {H : Type} : ∀ ds : List (DataW H), ds.length = Try.f6.params.size → Rows.sleepStaysSpec.fn H ds = { results := [.lit (.bool true)], args := ds } := by
  intro ds h
  have h' : ds.length = 1 := h
  match ds, h' with
  | [d0], _ => rfl

set_option maxRecDepth 100000 in
theorem sleepStays_lifted (os : Os) (started : os.Started) (H : Type) (enc : TypeId × Value → H) :
    ReturnsInHanded {} Try.checked os 6 .any (Rows.sleepStaysSpec.pre6 enc Try.prog Try.f6 Rows.sleepStaysRow.domain false) (Rows.sleepStaysSpec.post enc Try.prog Try.f6 false true false false) :=
  Go.Tm.law_lifted (C := Try.checked) sleepStays_own sleepStays_laid started (by kernel_rfl) Try.func6 (by kernel_rfl) Try.underlying4 rfl rfl sleepStays_spec
    (ChangeSpec.witness6 (enc := enc) (C := Try.checked) false ⟨#[], #[.agg #[.slice none 0 0, .int .u64 0, .int .i64 0, .int .i64 0, .int .u64 0]], []⟩ 8 (by kernel_rfl) (by kernel_rfl) (by kernel_rfl) (by kernel_rfl))
    sleepStays_args

theorem sleepStays_holds : Rows.SleepStaysSaid :=
  OpenClaim.holds_of_wide 6 Try.f6 rfl rfl rfl rfl rfl rfl rfl ⟨rfl, rfl, rfl, rfl, rfl⟩ rfl rfl rfl rfl rfl (by kernel_rfl) Try.func6 (by kernel_rfl)
    (of_decide_eq_true (by kernel_rfl)) (by unfold Func.isWrapper; first | (rw [if_pos (by decide +kernel)]; kernel_rfl) | (rw [if_neg (by decide +kernel)]; exact ⟨rfl, rfl⟩))
    (fun os started H enc _ => sleepStays_lifted os started H enc)
#print axioms sleepStays_holds
end Go.Proofs.Ytndmgbdgcemcmaa
