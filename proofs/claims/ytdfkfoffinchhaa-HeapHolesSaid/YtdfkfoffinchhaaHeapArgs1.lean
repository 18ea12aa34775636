/- HeapHoles from its arguments as they come. Conditions: none. -/
import Derived.Test.YtdfkfoffinchhaaHeapArgs
import Derived.Test.YtdfkfoffinchhaaHeapHolesLaw
import Derived.Test.YtdfkfoffinchhaaLib1
namespace Go.Proofs.Ytdfkfoffinchhaa
open Go Go.RowKit Go.Tm
set_option linter.unusedVariables false

theorem heapHoles_args (W : World) (args : Array Value) (hs : args.size = Try.f4.params.size)
    (h : ∀ (j : Nat) (t : TypeId) (v : Value), Try.f4.params[j]? = some t → args[j]? = some v → ArgShaped Try.prog W t v) :
    Calls Try.prog 4 args W fun e w' => e = .returned (.bool true) ∧ Below W.heap.size W w' := by
  obtain ⟨v0, rfl⟩ := arr1 (a := args) hs
  obtain ⟨n, u, l, rfl, hsl, hby, hw, hn⟩ := heap_arg (h 0 _ v0 rfl rfl)
  exact heapHoles_walk n u l W hsl hn hw (by omega)
end Go.Proofs.Ytdfkfoffinchhaa
