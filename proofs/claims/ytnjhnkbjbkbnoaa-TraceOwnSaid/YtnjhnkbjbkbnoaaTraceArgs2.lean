/- TraceCuts, TraceAhead, TraceOwn from their arguments as they come. Conditions: none. -/
import Derived.Test.YtnjhnkbjbkbnoaaTraceArgs
import Derived.Test.YtnjhnkbjbkbnoaaTraceAhead
namespace Go.Proofs.Ytnjhnkbjbkbnoaa
open Go Go.RowKit Go.Tm
set_option linter.unusedVariables false

theorem traceCuts_args (W : World) (args : Array Value) (hs : args.size = Try.f4.params.size)
    (h : ∀ (j : Nat) (t : TypeId) (v : Value), Try.f4.params[j]? = some t → args[j]? = some v → ArgShaped Try.prog W t v) :
    Calls Try.prog 4 args W fun e w' => e = .returned (.bool true) ∧ Below W.heap.size W w' := by
  obtain ⟨v0, v1, v2, rfl⟩ := arr3 (a := args) hs
  obtain ⟨l, hsl, hby, hw⟩ := evs_arg (h 0 _ v0 rfl rfl)
  obtain ⟨a, rfl, _⟩ := arg_wf Try.underlying25 (h 1 _ v1 rfl rfl)
  obtain ⟨b, rfl, _⟩ := arg_wf Try.underlying25 (h 2 _ v2 rfl rfl)
  exact traceCuts_walk v0 l a b W hsl hw
theorem traceAhead_args (W : World) (args : Array Value) (hs : args.size = Try.f6.params.size)
    (h : ∀ (j : Nat) (t : TypeId) (v : Value), Try.f6.params[j]? = some t → args[j]? = some v → ArgShaped Try.prog W t v) :
    Calls Try.prog 6 args W fun e w' => e = .returned (.bool true) ∧ Below W.heap.size W w' := by
  obtain ⟨v0, v1, rfl⟩ := arr2 (a := args) hs
  obtain ⟨l, hsl, hby, hw⟩ := evs_arg (h 0 _ v0 rfl rfl)
  obtain ⟨a, rfl, _⟩ := arg_wf Try.underlying25 (h 1 _ v1 rfl rfl)
  exact traceAhead_walk v0 l a W hsl hw
theorem traceOwn_args (W : World) (args : Array Value) (hs : args.size = Try.f7.params.size)
    (h : ∀ (j : Nat) (t : TypeId) (v : Value), Try.f7.params[j]? = some t → args[j]? = some v → ArgShaped Try.prog W t v) :
    Calls Try.prog 7 args W fun e w' => e = .returned (.bool true) ∧ Below W.heap.size W w' := by
  obtain ⟨v0, v1, v2, rfl⟩ := arr3 (a := args) hs
  obtain ⟨l, hsl, hby, hw⟩ := evs_arg (h 0 _ v0 rfl rfl)
  obtain ⟨a, rfl, _⟩ := arg_wf Try.underlying3 (h 1 _ v1 rfl rfl)
  obtain ⟨b, rfl, _⟩ := arg_wf Try.underlying27 (h 2 _ v2 rfl rfl)
  exact traceOwn_walk v0 l a b W hsl (by omega) hw
end Go.Proofs.Ytnjhnkbjbkbnoaa
