/- HeapBack, HeapFirst, HeapMerges from their arguments as they come. Conditions: none. -/
import Derived.Test.YtdfkfoffinchhaaHeapArgs
import Derived.Test.YtdfkfoffinchhaaHeapBackLaw
import Derived.Test.YtdfkfoffinchhaaHeapFirstLaw
import Derived.Test.YtdfkfoffinchhaaHeapMergesLaw
import Derived.Test.YtdfkfoffinchhaaLib1
namespace Go.Proofs.Ytdfkfoffinchhaa
open Go Go.RowKit Go.Tm
set_option linter.unusedVariables false

theorem heapBack_args (W : World) (args : Array Value) (hs : args.size = Try.f7.params.size)
    (h : ∀ (j : Nat) (t : TypeId) (v : Value), Try.f7.params[j]? = some t → args[j]? = some v → ArgShaped Try.prog W t v) :
    Calls Try.prog 7 args W fun e w' => e = .returned (.bool true) ∧ Below W.heap.size W w' := by
  obtain ⟨v0, v1, v2, rfl⟩ := arr3 (a := args) hs
  obtain ⟨n, u, l, rfl, hsl, hby, hw, hn⟩ := heap_arg (h 0 _ v0 rfl rfl)
  obtain ⟨k, rfl, hk⟩ := arg_wf Try.underlying3 (h 1 _ v1 rfl rfl)
  obtain ⟨who, rfl, hu⟩ := arg_wf Try.underlying3 (h 2 _ v2 rfl rfl)
  exact heapBack_walk n u l k who W hsl hn hw hk hu (by omega)
theorem heapFirst_args (W : World) (args : Array Value) (hs : args.size = Try.f3.params.size)
    (h : ∀ (j : Nat) (t : TypeId) (v : Value), Try.f3.params[j]? = some t → args[j]? = some v → ArgShaped Try.prog W t v) :
    Calls Try.prog 3 args W fun e w' => e = .returned (.bool true) ∧ Below W.heap.size W w' := by
  obtain ⟨v0, v1, v2, rfl⟩ := arr3 (a := args) hs
  obtain ⟨n, u, l, rfl, hsl, hby, hw, hn⟩ := heap_arg (h 0 _ v0 rfl rfl)
  obtain ⟨k, rfl, hk⟩ := arg_wf Try.underlying3 (h 1 _ v1 rfl rfl)
  obtain ⟨who, rfl, hu⟩ := arg_wf Try.underlying3 (h 2 _ v2 rfl rfl)
  exact heapFirst_walk n u l k who W hsl hn hw (by omega)
theorem heapMerges_args (W : World) (args : Array Value) (hs : args.size = Try.f10.params.size)
    (h : ∀ (j : Nat) (t : TypeId) (v : Value), Try.f10.params[j]? = some t → args[j]? = some v → ArgShaped Try.prog W t v) :
    Calls Try.prog 10 args W fun e w' => e = .returned (.bool true) ∧ Below W.heap.size W w' := by
  obtain ⟨v0, v1, rfl⟩ := arr2 (a := args) hs
  obtain ⟨n, u, l, rfl, hsl, hby, hw, hn⟩ := heap_arg (h 0 _ v0 rfl rfl)
  obtain ⟨who, rfl, hu⟩ := arg_wf Try.underlying3 (h 1 _ v1 rfl rfl)
  exact heapMerges_walk n u l who W hsl hn hw (by omega)
end Go.Proofs.Ytdfkfoffinchhaa
