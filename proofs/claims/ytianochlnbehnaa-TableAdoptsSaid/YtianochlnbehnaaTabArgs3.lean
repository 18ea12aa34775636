/- TableKids, TableAdopts from their arguments as they come. Conditions: none. -/
import Derived.Test.YtianochlnbehnaaTabArgs
import Derived.Test.YtianochlnbehnaaTabKidsLaw
import Derived.Test.YtianochlnbehnaaTabAdopts
namespace Go.Proofs.Ytianochlnbehnaa
open Go Go.RowKit Go.Tm
set_option linter.unusedVariables false
set_option linter.unusedSimpArgs false

theorem tableKids_args (W : World) (args : Array Value) (hs : args.size = Try.f5.params.size)
    (h : ∀ (j : Nat) (t : TypeId) (v : Value), Try.f5.params[j]? = some t → args[j]? = some v → ArgShaped Try.prog W t v) :
    Calls Try.prog 5 args W fun e w' => e = .returned (.bool true) ∧ Below W.heap.size W w' := by
  obtain ⟨v0, v1, rfl⟩ := arr2 (a := args) hs
  obtain ⟨l, hsl, hby, hw⟩ := prs_arg (h 0 _ v0 rfl rfl)
  obtain ⟨n1, rfl, wf1⟩ := arg_wf Try.underlying3 (h 1 _ v1 rfl rfl)
  exact tableKids_walk v0 l n1 W hsl hby hw

theorem tableAdopts_args (W : World) (args : Array Value) (hs : args.size = Try.f7.params.size)
    (h : ∀ (j : Nat) (t : TypeId) (v : Value), Try.f7.params[j]? = some t → args[j]? = some v → ArgShaped Try.prog W t v) :
    Calls Try.prog 7 args W fun e w' => e = .returned (.bool true) ∧ Below W.heap.size W w' := by
  obtain ⟨v0, v1, v2, rfl⟩ := arr3 (a := args) hs
  obtain ⟨l, hsl, hby, hw⟩ := prs_arg (h 0 _ v0 rfl rfl)
  obtain ⟨n1, rfl, wf1⟩ := arg_wf Try.underlying3 (h 1 _ v1 rfl rfl)
  obtain ⟨n2, rfl, wf2⟩ := arg_wf Try.underlying3 (h 2 _ v2 rfl rfl)
  exact tableAdopts_walk v0 l n1 n2 W hsl hby hw wf2
end Go.Proofs.Ytianochlnbehnaa
