/- TraceJoins, where what comes in is of bulk at most 1048576: the law returns true, and each argument reads as it did. Conditions: none. -/
import Derived.Test.YtnjhnkbjbkbnoaaTraceArgs3
namespace Go.Proofs.Ytnjhnkbjbkbnoaa
open Go Go.ChangeShapes Go.WideShapes Go.ChangeAt Go.RowKit
set_option linter.unusedVariables false

theorem traceJoins_own : ownKnob Try.prog.godebug = none := by kernel_rfl
theorem traceJoins_laid : laidOutB Try.prog = true := by kernel_rfl
theorem traceJoins_spec {H : Type} : ∀ ds : List (DataW H), ds.length = Try.f5.params.size → Rows.traceJoinsSpec.fn H ds = { results := [.lit (.bool true)], args := ds } := by
  intro ds h
  have h' : ds.length = 1 := h
  match ds, h' with
  | [d0], _ => rfl

set_option maxRecDepth 100000 in
theorem traceJoins_lifted (os : Os) (started : os.Started) (H : Type) (enc : TypeId × Value → H) (F : Stop.Interp) :
    ReturnsInHanded {} Try.checked os 5 .any ((Rows.OpenSpec.upto Rows.traceJoinsSpec).pre6 enc Try.prog Try.f5 Rows.traceJoinsUptoRow.domain false) (((Rows.OpenSpec.upto Rows.traceJoinsSpec).at F).post enc Try.prog Try.f5 false true false false) :=
  law_lifted_upto (C := Try.checked) F traceJoins_own traceJoins_laid started (by kernel_rfl) Try.func5 (by kernel_rfl) Try.underlying4 rfl rfl traceJoins_spec
    (OpenSpec.witness (enc := enc) (C := Try.checked) (s := Rows.OpenSpec.upto Rows.traceJoinsSpec) (k := Rows.uptoSmall) rfl false ⟨#[], #[.agg #[.slice none 0 0, .slice none 0 0, .int .i64 0, .int .u32 0]], []⟩ 8 (by kernel_rfl) (by kernel_rfl) (by kernel_rfl)
      (x := ([.agg [.nil, .nil, .lit (.int .i64 0), .lit (.int .u32 0)]], [], [])) (by kernel_rfl) rfl (by kernel_rfl))
    traceJoins_args

theorem traceJoins_holds : Rows.TraceJoinsUptoSaid :=
  OpenClaim.holds_of_cond 5 Try.f5 rfl rfl rfl rfl rfl rfl rfl ⟨rfl, rfl, rfl, rfl, rfl⟩ rfl rfl rfl rfl rfl (by kernel_rfl) Try.func5 (by kernel_rfl)
    (of_decide_eq_true (by kernel_rfl)) (by unfold Func.isWrapper; first | (rw [if_pos (by decide +kernel)]; kernel_rfl) | (rw [if_neg (by decide +kernel)]; exact ⟨rfl, rfl⟩))
    (fun os started H enc _ F => traceJoins_lifted os started H enc F)
#print axioms traceJoins_holds
end Go.Proofs.Ytnjhnkbjbkbnoaa
