/- RouteSome: for every input the law returns true, and each argument reads as it did. Conditions: none. -/
import Derived.Test.YtmcaeahjnhkbcaaRouteArgs3
namespace Go.Proofs.Ytmcaeahjnhkbcaa
open Go Go.ChangeShapes Go.WideShapes Go.ChangeAt Go.RowKit
set_option linter.unusedVariables false

theorem routeSome_own : ownKnob Try.prog.godebug = none := by kernel_rfl
theorem routeSome_laid : laidOutB Try.prog = true := by kernel_rfl
theorem routeSome_spec {H : Type} : ∀ ds : List (DataW H), ds.length = Try.f5.params.size → Rows.routeSomeSpec.fn H ds = { results := [.lit (.bool true)], args := ds } := by
  intro ds h
  have h' : ds.length = 3 := h
  match ds, h' with
  | [d0, d1, d2], _ => rfl

set_option maxRecDepth 100000 in
theorem routeSome_lifted (os : Os) (started : os.Started) (H : Type) (enc : TypeId × Value → H) :
    ReturnsInHanded {} Try.checked os 5 .any (Rows.routeSomeSpec.pre6 enc Try.prog Try.f5 Rows.routeSomeRow.domain false) (Rows.routeSomeSpec.post enc Try.prog Try.f5 false true false false) :=
  Go.Tm.law_lifted (C := Try.checked) routeSome_own routeSome_laid started (by kernel_rfl) Try.func5 (by kernel_rfl) Try.underlying4 rfl rfl routeSome_spec
    (ChangeSpec.witness6 (enc := enc) (C := Try.checked) false ⟨#[], #[.agg #[.slice none 0 0, .int .i64 0, .slice none 0 0, .slice none 0 0], .agg #[.int .i64 0, .int .i64 0, .int .i64 0, .int .i64 0, .int .i64 0], .int .i64 0], []⟩ 8 (by kernel_rfl) (by kernel_rfl) (by kernel_rfl) (by kernel_rfl))
    routeSome_args

theorem routeSome_holds : Rows.RouteSomeSaid :=
  OpenClaim.holds_of_wide 5 Try.f5 rfl rfl rfl rfl rfl rfl rfl ⟨rfl, rfl, rfl, rfl, rfl⟩ rfl rfl rfl rfl rfl (by kernel_rfl) Try.func5 (by kernel_rfl)
    (of_decide_eq_true (by kernel_rfl)) (by unfold Func.isWrapper; first | (rw [if_pos (by decide +kernel)]; kernel_rfl) | (rw [if_neg (by decide +kernel)]; exact ⟨rfl, rfl⟩))
    (fun os started H enc _ => routeSome_lifted os started H enc)
#print axioms routeSome_holds
end Go.Proofs.Ytmcaeahjnhkbcaa
