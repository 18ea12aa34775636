/- SleepTime, SleepWakes from their arguments as they come. Conditions: none. -/
import Derived.Test.YtndmgbdgcemcmaaSleepArgs
import Derived.Test.YtndmgbdgcemcmaaSleepShown
namespace Go.Proofs.Ytndmgbdgcemcmaa
open Go Go.RowKit Go.Tm
set_option linter.unusedVariables false

theorem sleepTime_args (W : World) (args : Array Value) (hs : args.size = Try.f5.params.size)
    (h : ∀ (j : Nat) (t : TypeId) (v : Value), Try.f5.params[j]? = some t → args[j]? = some v → ArgShaped Try.prog W t v) :
    Calls Try.prog 5 args W fun e w' => e = .returned (.bool true) ∧ Below W.heap.size W w' := by
  obtain ⟨v0, v1, rfl⟩ := arr2 (a := args) hs
  obtain ⟨now, rfl, hn⟩ := arg_wf Try.underlying23 (h 0 _ v0 rfl rfl)
  obtain ⟨n, rfl, hn2⟩ := arg_wf Try.underlying35 (h 1 _ v1 rfl rfl)
  exact sleepTime_walk now n W (u64_range hn) (u32_range hn2)
theorem sleepWakes_args (W : World) (args : Array Value) (hs : args.size = Try.f3.params.size)
    (h : ∀ (j : Nat) (t : TypeId) (v : Value), Try.f3.params[j]? = some t → args[j]? = some v → ArgShaped Try.prog W t v) :
    Calls Try.prog 3 args W fun e w' => e = .returned (.bool true) ∧ Below W.heap.size W w' := by
  obtain ⟨v0, v1, rfl⟩ := arr2 (a := args) hs
  obtain ⟨l, hsl, hby, hw⟩ := als_arg (h 0 _ v0 rfl rfl)
  obtain ⟨now, rfl, hn⟩ := arg_wf Try.underlying23 (h 1 _ v1 rfl rfl)
  exact sleepWakes_walk v0 l now W hsl (by omega)
end Go.Proofs.Ytndmgbdgcemcmaa
