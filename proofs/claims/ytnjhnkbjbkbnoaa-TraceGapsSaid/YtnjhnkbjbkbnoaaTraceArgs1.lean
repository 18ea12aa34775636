/- TraceGaps from its arguments as they come. Conditions: none. -/
import Derived.Test.YtnjhnkbjbkbnoaaTraceArgs
import Derived.Test.YtnjhnkbjbkbnoaaTraceGaps
namespace Go.Proofs.Ytnjhnkbjbkbnoaa
open Go Go.RowKit Go.Tm
set_option linter.unusedVariables false

theorem traceGaps_args (W : World) (args : Array Value) (hs : args.size = Try.f3.params.size)
    (h : ∀ (j : Nat) (t : TypeId) (v : Value), Try.f3.params[j]? = some t → args[j]? = some v → ArgShaped Try.prog W t v) :
    Calls Try.prog 3 args W fun e w' => e = .returned (.bool true) ∧ Below W.heap.size W w' := by
  obtain ⟨v0, v1, rfl⟩ := arr2 (a := args) hs
  obtain ⟨l, hsl, hby, hw⟩ := evs_arg (h 0 _ v0 rfl rfl)
  obtain ⟨pid, rfl, hn⟩ := arg_wf Try.underlying3 (h 1 _ v1 rfl rfl)
  exact traceGaps_walk v0 l pid W hsl (by omega)
end Go.Proofs.Ytnjhnkbjbkbnoaa
