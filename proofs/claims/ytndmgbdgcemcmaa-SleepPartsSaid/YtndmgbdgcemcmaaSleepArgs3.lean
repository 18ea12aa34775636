/- SleepParts from its arguments as they come. Conditions: none. -/
import Derived.Test.YtndmgbdgcemcmaaSleepArgs
import Derived.Test.YtndmgbdgcemcmaaSleepParts
namespace Go.Proofs.Ytndmgbdgcemcmaa
open Go Go.RowKit Go.Tm
set_option linter.unusedVariables false
set_option linter.unusedSimpArgs false

theorem sleepParts_args (W : World) (args : Array Value) (hs : args.size = Try.f4.params.size)
    (h : ∀ (j : Nat) (t : TypeId) (v : Value), Try.f4.params[j]? = some t → args[j]? = some v → ArgShaped Try.prog W t v) :
    Calls Try.prog 4 args W fun e w' => e = .returned (.bool true) ∧ Below W.heap.size W w' := by
  obtain ⟨v0, v1, v2, rfl⟩ := arr3 (a := args) hs
  obtain ⟨l, hsl, hby, hw⟩ := als_arg (h 0 _ v0 rfl rfl)
  obtain ⟨n1, rfl, _⟩ := arg_wf Try.underlying23 (h 1 _ v1 rfl rfl)
  obtain ⟨n2, rfl, _⟩ := arg_wf Try.underlying23 (h 2 _ v2 rfl rfl)
  exact sleepParts_walk v0 l n1 n2 W hsl hby hw
end Go.Proofs.Ytndmgbdgcemcmaa
