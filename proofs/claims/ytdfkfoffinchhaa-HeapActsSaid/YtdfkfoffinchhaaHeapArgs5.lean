/- HeapActs from its arguments as they come. Conditions: none. -/
import Derived.Test.YtdfkfoffinchhaaHeapArgs
import Derived.Test.YtdfkfoffinchhaaHeapActs
import Derived.Test.YtdfkfoffinchhaaLib1
namespace Go.Proofs.Ytdfkfoffinchhaa
open Go Go.RowKit Go.Tm
set_option linter.unusedVariables false

theorem heapActs_args (W : World) (args : Array Value) (hs : args.size = Try.f9.params.size)
    (h : ∀ (j : Nat) (t : TypeId) (v : Value), Try.f9.params[j]? = some t → args[j]? = some v → ArgShaped Try.prog W t v) :
    Calls Try.prog 9 args W fun e w' => e = .returned (.bool true) ∧ Below W.heap.size W w' := by
  obtain ⟨v0, v1, v2, rfl⟩ := arr3 (a := args) hs
  obtain ⟨n, u, l, rfl, hsl, hby, hw, hn⟩ := heap_arg (h 0 _ v0 rfl rfl)
  obtain ⟨k, rfl, hk⟩ := arg_wf Try.underlying3 (h 1 _ v1 rfl rfl)
  obtain ⟨who, rfl, hu⟩ := arg_wf Try.underlying3 (h 2 _ v2 rfl rfl)
  exact heapActs_walk n u l k who W hsl hn hw hk hu (by omega)
end Go.Proofs.Ytdfkfoffinchhaa
