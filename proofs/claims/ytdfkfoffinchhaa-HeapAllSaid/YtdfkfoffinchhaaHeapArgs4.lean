/- HeapAll from its arguments as they come. Conditions: none. -/
import Derived.Test.YtdfkfoffinchhaaHeapArgs
import Derived.Test.YtdfkfoffinchhaaHeapAllLaw
import Derived.Test.YtdfkfoffinchhaaLib1
namespace Go.Proofs.Ytdfkfoffinchhaa
open Go Go.RowKit Go.Tm
set_option linter.unusedVariables false

theorem heapAll_args (W : World) (args : Array Value) (hs : args.size = Try.f8.params.size)
    (h : ∀ (j : Nat) (t : TypeId) (v : Value), Try.f8.params[j]? = some t → args[j]? = some v → ArgShaped Try.prog W t v) :
    Calls Try.prog 8 args W fun e w' => e = .returned (.bool true) ∧ Below W.heap.size W w' := by
  obtain ⟨v0, v1, rfl⟩ := arr2 (a := args) hs
  obtain ⟨size, rfl, hn⟩ := arg_wf Try.underlying3 (h 0 _ v0 rfl rfl)
  obtain ⟨k, rfl, hk⟩ := arg_wf Try.underlying3 (h 1 _ v1 rfl rfl)
  exact heapAll_walk size k W hn
end Go.Proofs.Ytdfkfoffinchhaa
