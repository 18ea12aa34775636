/- TurnRound, TurnFair, TurnGone, TurnOnce from their arguments as they come. Conditions: none. -/
import Derived.Test.YtbehjbiicopgpaaTurnArgs
import Derived.Test.YtbehjbiicopgpaaTurnFair
import Derived.Test.YtbehjbiicopgpaaTurnOnce
namespace Go.Proofs.Ytbehjbiicopgpaa
open Go Go.RowKit Go.Tm
set_option linter.unusedVariables false

theorem turnRound_args (W : World) (args : Array Value) (hs : args.size = Try.f5.params.size)
    (h : ∀ (j : Nat) (t : TypeId) (v : Value), Try.f5.params[j]? = some t → args[j]? = some v → ArgShaped Try.prog W t v) :
    Calls Try.prog 5 args W fun e w' => e = .returned (.bool true) ∧ Below W.heap.size W w' := by
  obtain ⟨v0, rfl⟩ := arr1 (a := args) hs
  obtain ⟨u, l, n, rfl, hsl, hby, hn⟩ := turn_arg (h 0 _ v0 rfl rfl)
  exact turnRound_walk u l n W hsl hby
theorem turnFair_args (W : World) (args : Array Value) (hs : args.size = Try.f3.params.size)
    (h : ∀ (j : Nat) (t : TypeId) (v : Value), Try.f3.params[j]? = some t → args[j]? = some v → ArgShaped Try.prog W t v) :
    Calls Try.prog 3 args W fun e w' => e = .returned (.bool true) ∧ Below W.heap.size W w' := by
  obtain ⟨v0, v1, rfl⟩ := arr2 (a := args) hs
  obtain ⟨u, l, n, rfl, hsl, hby, hn⟩ := turn_arg (h 0 _ v0 rfl rfl)
  obtain ⟨i, rfl, _⟩ := arg_wf Try.underlying3 (h 1 _ v1 rfl rfl)
  exact turnFair_walk u l n i W hsl hby
theorem turnGone_args (W : World) (args : Array Value) (hs : args.size = Try.f8.params.size)
    (h : ∀ (j : Nat) (t : TypeId) (v : Value), Try.f8.params[j]? = some t → args[j]? = some v → ArgShaped Try.prog W t v) :
    Calls Try.prog 8 args W fun e w' => e = .returned (.bool true) ∧ Below W.heap.size W w' := by
  obtain ⟨v0, v1, rfl⟩ := arr2 (a := args) hs
  obtain ⟨u, l, n, rfl, hsl, hby, hn⟩ := turn_arg (h 0 _ v0 rfl rfl)
  obtain ⟨i, rfl, _⟩ := arg_wf Try.underlying3 (h 1 _ v1 rfl rfl)
  exact turnGone_walk u l n i W hsl hby
theorem turnOnce_args (W : World) (args : Array Value) (hs : args.size = Try.f7.params.size)
    (h : ∀ (j : Nat) (t : TypeId) (v : Value), Try.f7.params[j]? = some t → args[j]? = some v → ArgShaped Try.prog W t v) :
    Calls Try.prog 7 args W fun e w' => e = .returned (.bool true) ∧ Below W.heap.size W w' := by
  obtain ⟨v0, rfl⟩ := arr1 (a := args) hs
  obtain ⟨f, hf⟩ := arg_slice Try.underlying22 (h 0 _ v0 rfl rfl)
  obtain ⟨l, hsl, _, hw⟩ := ints_shaped hf
  exact turnOnce_walk v0 l W hsl hw
end Go.Proofs.Ytbehjbiicopgpaa
