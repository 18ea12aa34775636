/- SleepGone: for every input the law returns true, and each argument reads as it did. Conditions: none. -/
import Derived.Test.YtndmgbdgcemcmaaSleepArgs2
namespace Go.Proofs.Ytndmgbdgcemcmaa
open Go Go.ChangeShapes Go.WideShapes Go.ChangeAt Go.RowKit
set_option linter.unusedVariables false

theorem sleepGone_own : ownKnob Try.prog.godebug = none := by kernel_rfl
theorem sleepGone_laid : laidOutB Try.prog = true := by kernel_rfl
theorem sleepGone_spec {H : Type} : ∀ ds : List (DataW H), ds.length = Try.f7.params.size → Rows.sleepGoneSpec.fn H ds = { results := [.lit (.bool true)], args := ds } := by
  intro ds h
  have h' : ds.length = 2 := h
  match ds, h' with
  | [d0, d1], _ => rfl

set_option maxRecDepth 100000 in
theorem sleepGone_lifted (os : Os) (started : os.Started) (H : Type) (enc : TypeId × Value → H) :
    ReturnsInHanded {} Try.checked os 7 .any (Rows.sleepGoneSpec.pre6 enc Try.prog Try.f7 Rows.sleepGoneRow.domain false) (Rows.sleepGoneSpec.post enc Try.prog Try.f7 false true false false) :=
  Go.Tm.law_lifted (C := Try.checked) sleepGone_own sleepGone_laid started (by kernel_rfl) Try.func7 (by kernel_rfl) Try.underlying4 rfl rfl sleepGone_spec
    (ChangeSpec.witness6 (enc := enc) (C := Try.checked) false ⟨#[], #[.slice none 0 0, .agg #[.int .u64 0, .int .i64 0]], []⟩ 8 (by kernel_rfl) (by kernel_rfl) (by kernel_rfl) (by kernel_rfl))
    sleepGone_args

theorem sleepGone_holds : Rows.SleepGoneSaid :=
  OpenClaim.holds_of_wide 7 Try.f7 rfl rfl rfl rfl rfl rfl rfl ⟨rfl, rfl, rfl, rfl, rfl⟩ rfl rfl rfl rfl rfl (by kernel_rfl) Try.func7 (by kernel_rfl)
    (of_decide_eq_true (by kernel_rfl)) (by unfold Func.isWrapper; first | (rw [if_pos (by decide +kernel)]; kernel_rfl) | (rw [if_neg (by decide +kernel)]; exact ⟨rfl, rfl⟩))
    (fun os started H enc _ => sleepGone_lifted os started H enc)
#print axioms sleepGone_holds
end Go.Proofs.Ytndmgbdgcemcmaa
