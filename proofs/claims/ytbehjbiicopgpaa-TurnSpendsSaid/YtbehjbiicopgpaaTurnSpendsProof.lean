/- TurnSpends: for every input the law returns true, and each argument reads as it did. Conditions: none. -/
import Derived.Test.YtbehjbiicopgpaaTurnArgs1
namespace Go.Proofs.Ytbehjbiicopgpaa
open Go Go.ChangeShapes Go.WideShapes Go.ChangeAt Go.RowKit
set_option linter.unusedVariables false

theorem turnSpends_own : ownKnob Try.prog.godebug = none := by kernel_rfl
theorem turnSpends_laid : laidOutB Try.prog = true := by kernel_rfl
theorem turnSpends_spec {H : Type} : ∀ ds : List (DataW H), ds.length = Try.f6.params.size → Rows.turnSpendsSpec.fn H ds = { results := [.lit (.bool true)], args := ds } := by
  intro ds h
  have h' : ds.length = 1 := h
  match ds, h' with
  | [d0], _ => rfl

set_option maxRecDepth 100000 in
theorem turnSpends_lifted (os : Os) (started : os.Started) (H : Type) (enc : TypeId × Value → H) :
    ReturnsInHanded {} Try.checked os 6 .any (Rows.turnSpendsSpec.pre6 enc Try.prog Try.f6 Rows.turnSpendsRow.domain false) (Rows.turnSpendsSpec.post enc Try.prog Try.f6 false true false false) :=
  Go.Tm.law_lifted (C := Try.checked) turnSpends_own turnSpends_laid started (by kernel_rfl) Try.func6 (by kernel_rfl) Try.underlying4 rfl rfl turnSpends_spec
    (ChangeSpec.witness6 (enc := enc) (C := Try.checked) false ⟨#[], #[.agg #[.slice none 0 0, .int .i64 0]], []⟩ 8 (by kernel_rfl) (by kernel_rfl) (by kernel_rfl) (by kernel_rfl))
    turnSpends_args

theorem turnSpends_holds : Rows.TurnSpendsSaid :=
  OpenClaim.holds_of_wide 6 Try.f6 rfl rfl rfl rfl rfl rfl rfl ⟨rfl, rfl, rfl, rfl, rfl⟩ rfl rfl rfl rfl rfl (by kernel_rfl) Try.func6 (by kernel_rfl)
    (of_decide_eq_true (by kernel_rfl)) (by unfold Func.isWrapper; first | (rw [if_pos (by decide +kernel)]; kernel_rfl) | (rw [if_neg (by decide +kernel)]; exact ⟨rfl, rfl⟩))
    (fun os started H enc _ => turnSpends_lifted os started H enc)
#print axioms turnSpends_holds
end Go.Proofs.Ytbehjbiicopgpaa
