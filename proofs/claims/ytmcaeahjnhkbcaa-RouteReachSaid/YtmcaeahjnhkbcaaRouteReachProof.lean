/- RouteReach: for every input the law returns true, and each argument reads as it did. Conditions: none. -/
import Derived.Test.YtmcaeahjnhkbcaaRouteArgs3
namespace Go.Proofs.Ytmcaeahjnhkbcaa
open Go Go.ChangeShapes Go.WideShapes Go.ChangeAt Go.RowKit
set_option linter.unusedVariables false

theorem routeReach_own : ownKnob Try.prog.godebug = none := by kernel_rfl
theorem routeReach_laid : laidOutB Try.prog = true := by kernel_rfl
theorem routeReach_spec {H : Type} : ∀ ds : List (DataW H), ds.length = Try.f4.params.size → Rows.routeReachSpec.fn H ds = { results := [.lit (.bool true)], args := ds } := by
  intro ds h
  have h' : ds.length = 3 := h
  match ds, h' with
  | [d0, d1, d2], _ => rfl

set_option maxRecDepth 100000 in
theorem routeReach_lifted (os : Os) (started : os.Started) (H : Type) (enc : TypeId × Value → H) :
    ReturnsInHanded {} Try.checked os 4 .any (Rows.routeReachSpec.pre6 enc Try.prog Try.f4 Rows.routeReachRow.domain false) (Rows.routeReachSpec.post enc Try.prog Try.f4 false true false false) :=
  Go.Tm.law_lifted (C := Try.checked) routeReach_own routeReach_laid started (by kernel_rfl) Try.func4 (by kernel_rfl) Try.underlying4 rfl rfl routeReach_spec
    (ChangeSpec.witness6 (enc := enc) (C := Try.checked) false ⟨#[], #[.agg #[.slice none 0 0, .int .i64 0, .slice none 0 0, .slice none 0 0], .int .i64 0, .int .i64 0], []⟩ 8 (by kernel_rfl) (by kernel_rfl) (by kernel_rfl) (by kernel_rfl))
    routeReach_args

theorem routeReach_holds : Rows.RouteReachSaid :=
  OpenClaim.holds_of_wide 4 Try.f4 rfl rfl rfl rfl rfl rfl rfl ⟨rfl, rfl, rfl, rfl, rfl⟩ rfl rfl rfl rfl rfl (by kernel_rfl) Try.func4 (by kernel_rfl)
    (of_decide_eq_true (by kernel_rfl)) (by unfold Func.isWrapper; first | (rw [if_pos (by decide +kernel)]; kernel_rfl) | (rw [if_neg (by decide +kernel)]; exact ⟨rfl, rfl⟩))
    (fun os started H enc _ => routeReach_lifted os started H enc)
#print axioms routeReach_holds
end Go.Proofs.Ytmcaeahjnhkbcaa
