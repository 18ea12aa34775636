/- RouteCounts: for every input the law returns true, and each argument reads as it did. Conditions: none. -/
import Derived.Test.YtmcaeahjnhkbcaaRouteArgs1
namespace Go.Proofs.Ytmcaeahjnhkbcaa
open Go Go.ChangeShapes Go.WideShapes Go.ChangeAt Go.RowKit
set_option linter.unusedVariables false

theorem routeCounts_own : ownKnob Try.prog.godebug = none := by kernel_rfl
theorem routeCounts_laid : laidOutB Try.prog = true := by kernel_rfl
theorem routeCounts_spec {H : Type} : ∀ ds : List (DataW H), ds.length = Try.f7.params.size → Rows.routeCountsSpec.fn H ds = { results := [.lit (.bool true)], args := ds } := by
  intro ds h
  have h' : ds.length = 1 := h
  match ds, h' with
  | [d0], _ => rfl

set_option maxRecDepth 100000 in
theorem routeCounts_lifted (os : Os) (started : os.Started) (H : Type) (enc : TypeId × Value → H) :
    ReturnsInHanded {} Try.checked os 7 .any (Rows.routeCountsSpec.pre6 enc Try.prog Try.f7 Rows.routeCountsRow.domain false) (Rows.routeCountsSpec.post enc Try.prog Try.f7 false true false false) :=
  Go.Tm.law_lifted (C := Try.checked) routeCounts_own routeCounts_laid started (by kernel_rfl) Try.func7 (by kernel_rfl) Try.underlying4 rfl rfl routeCounts_spec
    (ChangeSpec.witness6 (enc := enc) (C := Try.checked) false ⟨#[], #[.agg #[.slice none 0 0, .int .i64 0, .slice none 0 0, .slice none 0 0]], []⟩ 8 (by kernel_rfl) (by kernel_rfl) (by kernel_rfl) (by kernel_rfl))
    routeCounts_args

theorem routeCounts_holds : Rows.RouteCountsSaid :=
  OpenClaim.holds_of_wide 7 Try.f7 rfl rfl rfl rfl rfl rfl rfl ⟨rfl, rfl, rfl, rfl, rfl⟩ rfl rfl rfl rfl rfl (by kernel_rfl) Try.func7 (by kernel_rfl)
    (of_decide_eq_true (by kernel_rfl)) (by unfold Func.isWrapper; first | (rw [if_pos (by decide +kernel)]; kernel_rfl) | (rw [if_neg (by decide +kernel)]; exact ⟨rfl, rfl⟩))
    (fun os started H enc _ => routeCounts_lifted os started H enc)
#print axioms routeCounts_holds
end Go.Proofs.Ytmcaeahjnhkbcaa
