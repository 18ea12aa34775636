/- TableFinds from its arguments as they come. Conditions: none. -/
import Derived.Test.YtianochlnbehnaaTabArgs
import Derived.Test.YtianochlnbehnaaTabFinds
namespace Go.Proofs.Ytianochlnbehnaa
open Go Go.RowKit Go.Tm
set_option linter.unusedVariables false
theorem tableFinds_args (W : World) (args : Array Value) (hs : args.size = Try.f3.params.size)
    (h : ∀ (j : Nat) (t : TypeId) (v : Value), Try.f3.params[j]? = some t → args[j]? = some v → ArgShaped Try.prog W t v) :
    Calls Try.prog 3 args W fun e w' => e = .returned (.bool true) ∧ Below W.heap.size W w' := by
  obtain ⟨v0, v1, v2, rfl⟩ := arr3 (a := args) hs
  obtain ⟨l, hsl, hby, hw⟩ := prs_arg (h 0 _ v0 rfl rfl)
  obtain ⟨p, rfl, hp⟩ := pr_arg (h 1 _ v1 rfl rfl)
  obtain ⟨n, rfl, _⟩ := arg_wf Try.underlying3 (h 2 _ v2 rfl rfl)
  exact tableFinds_walk v0 l p n W hsl hby hw hp
end Go.Proofs.Ytianochlnbehnaa
