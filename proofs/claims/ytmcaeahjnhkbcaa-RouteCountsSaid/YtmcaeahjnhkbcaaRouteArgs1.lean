/- RouteCounts from their arguments as they come. Conditions: none. -/
import Derived.Test.YtmcaeahjnhkbcaaRouteArgs
import Derived.Test.YtmcaeahjnhkbcaaRouteCounts
import Derived.Test.YtmcaeahjnhkbcaaLib1
namespace Go.Proofs.Ytmcaeahjnhkbcaa
open Go Go.RowKit Go.Tm
set_option linter.unusedVariables false
set_option linter.unusedSimpArgs false

theorem routeCounts_args (W : World) (args : Array Value) (hs : args.size = Try.f7.params.size)
    (h : ∀ (j : Nat) (t : TypeId) (v : Value), Try.f7.params[j]? = some t → args[j]? = some v → ArgShaped Try.prog W t v) :
    Calls Try.prog 7 args W fun e w' => e = .returned (.bool true) ∧ Below W.heap.size W w' := by
  obtain ⟨v0, rfl⟩ := arr1 (a := args) hs
  obtain ⟨pa, np, pc, fr, wv, cv, cs, rfl, hsl, hby, hw, hnp⟩ := plan_arg (h 0 _ v0 rfl rfl)
  exact routeCounts_walk pa np pc fr wv cv cs W hsl (by omega) (by omega)
end Go.Proofs.Ytmcaeahjnhkbcaa
