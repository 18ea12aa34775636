/- TurnNearer: for every input the law returns true, and each argument reads as it did. Conditions: none. -/
import Derived.Test.YtbehjbiicopgpaaTurnArgs1
namespace Go.Proofs.Ytbehjbiicopgpaa
open Go Go.ChangeShapes Go.WideShapes Go.ChangeAt Go.RowKit
set_option linter.unusedVariables false

theorem turnNearer_own : ownKnob Try.prog.godebug = none := by kernel_rfl
theorem turnNearer_laid : laidOutB Try.prog = true := by kernel_rfl
theorem turnNearer_spec {H : Type} : ∀ ds : List (DataW H), ds.length = Try.f4.params.size → Rows.turnNearerSpec.fn H ds = { results := [.lit (.bool true)], args := ds } := by
  intro ds h
  have h' : ds.length = 1 := h
  match ds, h' with
  | [d0], _ => rfl

set_option maxRecDepth 100000 in
theorem turnNearer_lifted (os : Os) (started : os.Started) (H : Type) (enc : TypeId × Value → H) :
    ReturnsInHanded {} Try.checked os 4 .any (Rows.turnNearerSpec.pre6 enc Try.prog Try.f4 Rows.turnNearerRow.domain false) (Rows.turnNearerSpec.post enc Try.prog Try.f4 false true false false) :=
  Go.Tm.law_lifted (C := Try.checked) turnNearer_own turnNearer_laid started (by kernel_rfl) Try.func4 (by kernel_rfl) Try.underlying4 rfl rfl turnNearer_spec
    (ChangeSpec.witness6 (enc := enc) (C := Try.checked) false ⟨#[], #[.agg #[.slice none 0 0, .int .i64 0]], []⟩ 8 (by kernel_rfl) (by kernel_rfl) (by kernel_rfl) (by kernel_rfl))
    turnNearer_args

theorem turnNearer_holds : Rows.TurnNearerSaid :=
  OpenClaim.holds_of_wide 4 Try.f4 rfl rfl rfl rfl rfl rfl rfl ⟨rfl, rfl, rfl, rfl, rfl⟩ rfl rfl rfl rfl rfl (by kernel_rfl) Try.func4 (by kernel_rfl)
    (of_decide_eq_true (by kernel_rfl)) (by unfold Func.isWrapper; first | (rw [if_pos (by decide +kernel)]; kernel_rfl) | (rw [if_neg (by decide +kernel)]; exact ⟨rfl, rfl⟩))
    (fun os started H enc _ => turnNearer_lifted os started H enc)
#print axioms turnNearer_holds
end Go.Proofs.Ytbehjbiicopgpaa
