/- RouteOwn: for every input the law returns true, and each argument reads as it did. Conditions: none. -/
import Derived.Test.YtmcaeahjnhkbcaaRouteArgs2
namespace Go.Proofs.Ytmcaeahjnhkbcaa
open Go Go.ChangeShapes Go.WideShapes Go.ChangeAt Go.RowKit
set_option linter.unusedVariables false

theorem routeOwn_own : ownKnob Try.prog.godebug = none := by kernel_rfl
theorem routeOwn_laid : laidOutB Try.prog = true := by kernel_rfl
theorem routeOwn_spec {H : Type} : ∀ ds : List (DataW H), ds.length = Try.f3.params.size → Rows.routeOwnSpec.fn H ds = { results := [.lit (.bool true)], args := ds } := by
  intro ds h
  have h' : ds.length = 1 := h
  match ds, h' with
  | [d0], _ => rfl

set_option maxRecDepth 100000 in
theorem routeOwn_lifted (os : Os) (started : os.Started) (H : Type) (enc : TypeId × Value → H) :
    ReturnsInHanded {} Try.checked os 3 .any (Rows.routeOwnSpec.pre6 enc Try.prog Try.f3 Rows.routeOwnRow.domain false) (Rows.routeOwnSpec.post enc Try.prog Try.f3 false true false false) :=
  Go.Tm.law_lifted (C := Try.checked) routeOwn_own routeOwn_laid started (by kernel_rfl) Try.func3 (by kernel_rfl) Try.underlying4 rfl rfl routeOwn_spec
    (ChangeSpec.witness6 (enc := enc) (C := Try.checked) false ⟨#[], #[.agg #[.slice none 0 0, .int .i64 0, .slice none 0 0, .slice none 0 0, .int .i64 0, .int .i64 0, .int .i64 0, .int .i64 0]], []⟩ 8 (by kernel_rfl) (by kernel_rfl) (by kernel_rfl) (by kernel_rfl))
    routeOwn_args

theorem routeOwn_holds : Rows.RouteOwnSaid :=
  OpenClaim.holds_of_wide 3 Try.f3 rfl rfl rfl rfl rfl rfl rfl ⟨rfl, rfl, rfl, rfl, rfl⟩ rfl rfl rfl rfl rfl (by kernel_rfl) Try.func3 (by kernel_rfl)
    (of_decide_eq_true (by kernel_rfl)) (by unfold Func.isWrapper; first | (rw [if_pos (by decide +kernel)]; kernel_rfl) | (rw [if_neg (by decide +kernel)]; exact ⟨rfl, rfl⟩))
    (fun os started H enc _ => routeOwn_lifted os started H enc)
#print axioms routeOwn_holds
end Go.Proofs.Ytmcaeahjnhkbcaa
