/- The laws of calls, from their arguments as they come: CallErrors, CallApart. Conditions: none. -/
import Derived.Test.YtmffbhlbikjmaaaCallLaws
import Derived.Test.YtmffbhlbikjmaaaLib1
namespace Go.Proofs.Ytmffbhlbikjmaaa
open Go Go.RowKit Go.Tm
set_option linter.unusedVariables false

theorem callErrors_args (W : World) (args : Array Value) (hs : args.size = Try.f3.params.size)
    (h : ∀ (j : Nat) (t : TypeId) (v : Value), Try.f3.params[j]? = some t → args[j]? = some v → ArgShaped Try.prog W t v) :
    Calls Try.prog 3 args W fun e w' => e = .returned (.bool true) ∧ Below W.heap.size W w' := by
  obtain ⟨v0, v1, rfl⟩ := arr2 (a := args) hs
  obtain ⟨e, rfl, _, _⟩ := arg_int Try.underlying3 (h 0 _ v0 rfl rfl)
  obtain ⟨v, rfl, hv0, hv1⟩ := arg_int Try.underlying22 (h 1 _ v1 rfl rfl)
  have h0 : (0 : Int) ≤ v := hv0
  have h1 : v ≤ (4294967295 : Int) := hv1
  refine (callErrors_walk e v W h0 (by omega)).mono ?_
  rintro en w' ⟨rfl, rfl⟩
  exact ⟨rfl, Below.refl _ _⟩

theorem callApart_args (W : World) (args : Array Value) (hs : args.size = Try.f4.params.size)
    (h : ∀ (j : Nat) (t : TypeId) (v : Value), Try.f4.params[j]? = some t → args[j]? = some v → ArgShaped Try.prog W t v) :
    Calls Try.prog 4 args W fun e w' => e = .returned (.bool true) ∧ Below W.heap.size W w' := by
  obtain ⟨v0, v1, v2, rfl⟩ := arr3 (a := args) hs
  obtain ⟨a, rfl, _, _⟩ := arg_int Try.underlying3 (h 0 _ v0 rfl rfl)
  obtain ⟨b, rfl, _, _⟩ := arg_int Try.underlying3 (h 1 _ v1 rfl rfl)
  obtain ⟨v, rfl, hv0, hv1⟩ := arg_int Try.underlying22 (h 2 _ v2 rfl rfl)
  have h0 : (0 : Int) ≤ v := hv0
  have h1 : v ≤ (4294967295 : Int) := hv1
  refine (callApart_walk a b v W h0 (by omega)).mono ?_
  rintro en w' ⟨rfl, rfl⟩
  exact ⟨rfl, Below.refl _ _⟩
end Go.Proofs.Ytmffbhlbikjmaaa
