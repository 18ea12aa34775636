/- RouteJoins: for every input the law returns true, and each argument reads as it did. Conditions: none. -/
import Derived.Test.YtmcaeahjnhkbcaaRouteArgs2
namespace Go.Proofs.Ytmcaeahjnhkbcaa
open Go Go.ChangeShapes Go.WideShapes Go.ChangeAt Go.RowKit
set_option linter.unusedVariables false

theorem routeJoins_own : ownKnob Try.prog.godebug = none := by kernel_rfl
theorem routeJoins_laid : laidOutB Try.prog = true := by kernel_rfl
theorem routeJoins_spec {H : Type} : ∀ ds : List (DataW H), ds.length = Try.f6.params.size → Rows.routeJoinsSpec.fn H ds = { results := [.lit (.bool true)], args := ds } := by
  intro ds h
  have h' : ds.length = 3 := h
  match ds, h' with
  | [d0, d1, d2], _ => rfl

set_option maxRecDepth 100000 in
theorem routeJoins_lifted (os : Os) (started : os.Started) (H : Type) (enc : TypeId × Value → H) :
    ReturnsInHanded {} Try.checked os 6 .any (Rows.routeJoinsSpec.pre6 enc Try.prog Try.f6 Rows.routeJoinsRow.domain false) (Rows.routeJoinsSpec.post enc Try.prog Try.f6 false true false false) :=
  Go.Tm.law_lifted (C := Try.checked) routeJoins_own routeJoins_laid started (by kernel_rfl) Try.func6 (by kernel_rfl) Try.underlying4 rfl rfl routeJoins_spec
    (ChangeSpec.witness6 (enc := enc) (C := Try.checked) false ⟨#[], #[.agg #[.slice none 0 0, .int .i64 0, .slice none 0 0, .slice none 0 0], .int .i64 0, .int .i64 0], []⟩ 8 (by kernel_rfl) (by kernel_rfl) (by kernel_rfl) (by kernel_rfl))
    routeJoins_args

theorem routeJoins_holds : Rows.RouteJoinsSaid :=
  OpenClaim.holds_of_wide 6 Try.f6 rfl rfl rfl rfl rfl rfl rfl ⟨rfl, rfl, rfl, rfl, rfl⟩ rfl rfl rfl rfl rfl (by kernel_rfl) Try.func6 (by kernel_rfl)
    (of_decide_eq_true (by kernel_rfl)) (by unfold Func.isWrapper; first | (rw [if_pos (by decide +kernel)]; kernel_rfl) | (rw [if_neg (by decide +kernel)]; exact ⟨rfl, rfl⟩))
    (fun os started H enc _ => routeJoins_lifted os started H enc)
#print axioms routeJoins_holds
end Go.Proofs.Ytmcaeahjnhkbcaa
