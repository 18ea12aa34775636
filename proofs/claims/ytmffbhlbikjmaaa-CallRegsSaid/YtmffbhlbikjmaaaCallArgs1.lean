/- The laws CallBack and CallRegs, from their arguments as they come. Conditions: none. -/
import Derived.Test.YtmffbhlbikjmaaaCall1
import Derived.Test.YtmffbhlbikjmaaaCpuArg
namespace Go.Proofs.Ytmffbhlbikjmaaa
open Go Go.RowKit Go.Tm
set_option linter.unusedVariables false

theorem callBack_args (W : World) (args : Array Value) (hs : args.size = Try.f5.params.size)
    (h : ∀ (j : Nat) (t : TypeId) (v : Value), Try.f5.params[j]? = some t → args[j]? = some v → ArgShaped Try.prog W t v) :
    Calls Try.prog 5 args W fun e w' => e = .returned (.bool true) ∧ Below W.heap.size W w' := by
  obtain ⟨v0, v1, rfl⟩ := arr2 (a := args) hs
  obtain ⟨cs, fl, rfl, hc⟩ := arg_struct Try.underlying32 (h 0 _ v0 rfl rfl)
  obtain ⟨k, rfl, _, _⟩ := arg_int Try.underlying3 (h 1 _ v1 rfl rfl)
  obtain ⟨a, b, c, d, e, f, g, hh, pc, hcs, _⟩ := cpu_cells hc
  obtain rfl := Array.ext' (xs := cs) (ys := #[_, _, _, _, _, _, _, _, _]) hcs
  exact callBack_walk a b c d e f g hh pc k W

theorem callRegs_args (W : World) (args : Array Value) (hs : args.size = Try.f6.params.size)
    (h : ∀ (j : Nat) (t : TypeId) (v : Value), Try.f6.params[j]? = some t → args[j]? = some v → ArgShaped Try.prog W t v) :
    Calls Try.prog 6 args W fun e w' => e = .returned (.bool true) ∧ Below W.heap.size W w' := by
  obtain ⟨v0, v1, v2, rfl⟩ := arr3 (a := args) hs
  obtain ⟨cs, fl, rfl, hc⟩ := arg_struct Try.underlying32 (h 0 _ v0 rfl rfl)
  obtain ⟨k, rfl, _, _⟩ := arg_int Try.underlying3 (h 1 _ v1 rfl rfl)
  obtain ⟨v, rfl, _, _⟩ := arg_int Try.underlying22 (h 2 _ v2 rfl rfl)
  obtain ⟨a, b, c, d, e, f, g, hh, pc, hcs, h1, h2, h3, h4, h5, h6, h7, h8, h9⟩ := cpu_cells hc
  obtain rfl := Array.ext' (xs := cs) (ys := #[_, _, _, _, _, _, _, _, _]) hcs
  by_cases hk : k = 0
  · subst hk
    exact callRegs_walk_ok a b c d e f g hh pc v W h1 h2 h3 h4 h5 h6 h7 h8 h9
  · exact callRegs_walk_err a b c d e f g hh pc k v (by simpa using hk) W h1 h2 h3 h4 h5 h6 h7 h8 h9
end Go.Proofs.Ytmffbhlbikjmaaa
