/- TurnSpends, TurnNearer from their arguments as they come. Conditions: none. -/
import Derived.Test.YtbehjbiicopgpaaTurnArgs
import Derived.Test.YtbehjbiicopgpaaTurnNearer
namespace Go.Proofs.Ytbehjbiicopgpaa
open Go Go.RowKit Go.Tm
set_option linter.unusedVariables false

theorem turnSpends_args (W : World) (args : Array Value) (hs : args.size = Try.f6.params.size)
    (h : ∀ (j : Nat) (t : TypeId) (v : Value), Try.f6.params[j]? = some t → args[j]? = some v → ArgShaped Try.prog W t v) :
    Calls Try.prog 6 args W fun e w' => e = .returned (.bool true) ∧ Below W.heap.size W w' := by
  obtain ⟨v0, rfl⟩ := arr1 (a := args) hs
  obtain ⟨u, l, n, rfl, hsl, hby, hn⟩ := turn_arg (h 0 _ v0 rfl rfl)
  exact turnSpends_walk u l n W hsl hby (wf_range hn)
theorem turnNearer_args (W : World) (args : Array Value) (hs : args.size = Try.f4.params.size)
    (h : ∀ (j : Nat) (t : TypeId) (v : Value), Try.f4.params[j]? = some t → args[j]? = some v → ArgShaped Try.prog W t v) :
    Calls Try.prog 4 args W fun e w' => e = .returned (.bool true) ∧ Below W.heap.size W w' := by
  obtain ⟨v0, rfl⟩ := arr1 (a := args) hs
  obtain ⟨u, l, n, rfl, hsl, hby, hn⟩ := turn_arg (h 0 _ v0 rfl rfl)
  exact turnNearer_walk u l n W hsl hby
end Go.Proofs.Ytbehjbiicopgpaa
