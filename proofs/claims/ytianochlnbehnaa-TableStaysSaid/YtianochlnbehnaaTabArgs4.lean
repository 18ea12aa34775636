/- TableTwice, TableStays from their arguments as they come. Conditions: none. -/
import Derived.Test.YtianochlnbehnaaTabArgs
import Derived.Test.YtianochlnbehnaaTabTwice
namespace Go.Proofs.Ytianochlnbehnaa
open Go Go.RowKit Go.Tm
set_option linter.unusedVariables false
set_option linter.unusedSimpArgs false

theorem tableTwice_args (W : World) (args : Array Value) (hs : args.size = Try.f9.params.size)
    (h : ∀ (j : Nat) (t : TypeId) (v : Value), Try.f9.params[j]? = some t → args[j]? = some v → ArgShaped Try.prog W t v) :
    Calls Try.prog 9 args W fun e w' => e = .returned (.bool true) ∧ Below W.heap.size W w' := by
  obtain ⟨v0, v1, rfl⟩ := arr2 (a := args) hs
  obtain ⟨l, hsl, hby, hw⟩ := prs_arg (h 0 _ v0 rfl rfl)
  obtain ⟨p, rfl, hp⟩ := pr_arg (h 1 _ v1 rfl rfl)
  exact tableTwice_walk v0 l p W hsl hby hw hp

theorem tableStays_args (W : World) (args : Array Value) (hs : args.size = Try.f8.params.size)
    (h : ∀ (j : Nat) (t : TypeId) (v : Value), Try.f8.params[j]? = some t → args[j]? = some v → ArgShaped Try.prog W t v) :
    Calls Try.prog 8 args W fun e w' => e = .returned (.bool true) ∧ Below W.heap.size W w' := by
  obtain ⟨v0, v1, v2, rfl⟩ := arr3 (a := args) hs
  obtain ⟨l, hsl, hby, hw⟩ := prs_arg (h 0 _ v0 rfl rfl)
  obtain ⟨p, rfl, hp⟩ := pr_arg (h 1 _ v1 rfl rfl)
  obtain ⟨n2, rfl, wf2⟩ := arg_wf Try.underlying3 (h 2 _ v2 rfl rfl)
  exact tableStays_walk v0 l p n2 W hsl hby
end Go.Proofs.Ytianochlnbehnaa
