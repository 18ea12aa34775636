/- RouteReach, RouteSome from their arguments as they come. Conditions: none. -/
import Derived.Test.YtmcaeahjnhkbcaaRouteArgs
import Derived.Test.YtmcaeahjnhkbcaaRouteReachLaw
import Derived.Test.YtmcaeahjnhkbcaaRouteSome
import Derived.Test.YtmcaeahjnhkbcaaLib1
namespace Go.Proofs.Ytmcaeahjnhkbcaa
open Go Go.RowKit Go.Tm
set_option linter.unusedVariables false
set_option linter.unusedSimpArgs false

theorem chan_arg {W : World} {v : Value} (h : ArgShaped Try.prog W 40 v) : ∃ c : Ch, v = chV c ∧ ChWf c := by
  obtain ⟨cs, fl, rfl, hc⟩ := arg_struct Try.underlying40 h
  obtain ⟨a, b, c, d, e, he, h1, h2, h3, h4, h5⟩ := chc_cells hc
  obtain rfl := Array.ext' (xs := cs) (ys := #[_, _, _, _, _]) he
  exact ⟨(a, b, c, d, e), rfl, h1, h2, h3, h4, h5⟩
theorem routeReach_args (W : World) (args : Array Value) (hs : args.size = Try.f4.params.size)
    (h : ∀ (j : Nat) (t : TypeId) (v : Value), Try.f4.params[j]? = some t → args[j]? = some v → ArgShaped Try.prog W t v) :
    Calls Try.prog 4 args W fun e w' => e = .returned (.bool true) ∧ Below W.heap.size W w' := by
  obtain ⟨v0, v1, v2, rfl⟩ := arr3 (a := args) hs
  obtain ⟨pa, np, pc, fr, wv, cv, cs, rfl, ⟨wa, wn, wc, rfl⟩, hsl, hby, hw, hnp⟩ := plan_arg (h 0 _ v0 rfl rfl)
  obtain ⟨n1, rfl, wf1⟩ := arg_wf Try.underlying3 (h 1 _ v1 rfl rfl)
  obtain ⟨n2, rfl, wf2⟩ := arg_wf Try.underlying3 (h 2 _ v2 rfl rfl)
  exact routeReach_walk pa np pc fr wa wn wc cv cs n1 n2 W hsl hw (by omega) (by omega) wf1
theorem routeSome_args (W : World) (args : Array Value) (hs : args.size = Try.f5.params.size)
    (h : ∀ (j : Nat) (t : TypeId) (v : Value), Try.f5.params[j]? = some t → args[j]? = some v → ArgShaped Try.prog W t v) :
    Calls Try.prog 5 args W fun e w' => e = .returned (.bool true) ∧ Below W.heap.size W w' := by
  obtain ⟨v0, v1, v2, rfl⟩ := arr3 (a := args) hs
  obtain ⟨pa, np, pc, fr, wv, cv, cs, rfl, ⟨wa, wn, wc, rfl⟩, hsl, hby, hw, hnp⟩ := plan_arg (h 0 _ v0 rfl rfl)
  obtain ⟨c, rfl, hcw⟩ := chan_arg (h 1 _ v1 rfl rfl)
  obtain ⟨n2, rfl, wf2⟩ := arg_wf Try.underlying3 (h 2 _ v2 rfl rfl)
  exact routeSome_walk pa np pc fr wa wn wc cv cs c n2 W hsl hw hcw (by omega) (by omega) wf2
end Go.Proofs.Ytmcaeahjnhkbcaa
