/- WindowBegins from its arguments as they come. Conditions: none. -/
import Derived.Test.YtinhnecgmokfkaaPlanArgs
import Derived.Test.YtinhnecgmokfkaaWinBegins
namespace Go.Proofs.Ytinhnecgmokfkaa
open Go Go.RowKit Go.Tm
set_option linter.unusedVariables false

theorem windowBegins_args (W : World) (args : Array Value) (hs : args.size = Try.f7.params.size)
    (h : ∀ (j : Nat) (t : TypeId) (v : Value), Try.f7.params[j]? = some t → args[j]? = some v → ArgShaped Try.prog W t v) :
    Calls Try.prog 7 args W fun e w' => e = .returned (.bool true) ∧ Below W.heap.size W w' := by
  obtain ⟨v0, v1, v2, rfl⟩ := arr3 (a := args) hs
  obtain ⟨cs, fl, rfl, hc⟩ := arg_struct Try.underlying26 (h 0 _ v0 rfl rfl)
  obtain ⟨pv, wv, cv, p, e, hp, hf⟩ := plan_cells hc
  obtain rfl := Array.ext' (xs := cs) (ys := #[_, _, _, _]) e
  obtain ⟨s, rfl, _⟩ := arg_wf Try.underlying3 (h 1 _ v1 rfl rfl)
  obtain ⟨t, rfl, ht⟩ := arg_wf Try.underlying32 (h 2 _ v2 rfl rfl)
  exact windowBegins_walk pv wv cv p s t W hp (u64_range ht).1 hf
end Go.Proofs.Ytinhnecgmokfkaa
