/- RouteAlike: for every input the law returns true, and each argument reads as it did. Conditions: none. -/
import Derived.Test.YtmcaeahjnhkbcaaRouteArgs4
namespace Go.Proofs.Ytmcaeahjnhkbcaa
open Go Go.ChangeShapes Go.WideShapes Go.ChangeAt Go.RowKit
set_option linter.unusedVariables false

theorem routeAlike_own : ownKnob Try.prog.godebug = none := by kernel_rfl
theorem routeAlike_laid : laidOutB Try.prog = true := by kernel_rfl
theorem routeAlike_spec {H : Type} : ∀ ds : List (DataW H), ds.length = Try.f8.params.size → Rows.routeAlikeSpec.fn H ds = { results := [.lit (.bool true)], args := ds } := by
  intro ds h
  have h' : ds.length = 1 := h
  match ds, h' with
  | [d0], _ => rfl

set_option maxRecDepth 100000 in
theorem routeAlike_lifted (os : Os) (started : os.Started) (H : Type) (enc : TypeId × Value → H) :
    ReturnsInHanded {} Try.checked os 8 .any (Rows.routeAlikeSpec.pre6 enc Try.prog Try.f8 Rows.routeAlikeRow.domain false) (Rows.routeAlikeSpec.post enc Try.prog Try.f8 false true false false) :=
  Go.Tm.law_lifted (C := Try.checked) routeAlike_own routeAlike_laid started (by kernel_rfl) Try.func8 (by kernel_rfl) Try.underlying4 rfl rfl routeAlike_spec
    (ChangeSpec.witness6 (enc := enc) (C := Try.checked) false ⟨#[], #[.agg #[.slice none 0 0, .int .i64 0, .slice none 0 0, .slice none 0 0, .slice none 0 0, .slice none 0 0, .int .i64 0]], []⟩ 8 (by kernel_rfl) (by kernel_rfl) (by kernel_rfl) (by kernel_rfl))
    routeAlike_args

theorem routeAlike_holds : Rows.RouteAlikeSaid :=
  OpenClaim.holds_of_wide 8 Try.f8 rfl rfl rfl rfl rfl rfl rfl ⟨rfl, rfl, rfl, rfl, rfl⟩ rfl rfl rfl rfl rfl (by kernel_rfl) Try.func8 (by kernel_rfl)
    (of_decide_eq_true (by kernel_rfl)) (by unfold Func.isWrapper; first | (rw [if_pos (by decide +kernel)]; kernel_rfl) | (rw [if_neg (by decide +kernel)]; exact ⟨rfl, rfl⟩))
    (fun os started H enc _ => routeAlike_lifted os started H enc)
#print axioms routeAlike_holds
end Go.Proofs.Ytmcaeahjnhkbcaa
