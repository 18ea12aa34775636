/- TableGone, TableNew from their arguments as they come. Conditions: none. -/
import Derived.Test.YtianochlnbehnaaTabArgs
import Derived.Test.YtianochlnbehnaaTabGone
namespace Go.Proofs.Ytianochlnbehnaa
open Go Go.RowKit Go.Tm
set_option linter.unusedVariables false
set_option linter.unusedSimpArgs false

theorem tableGone_args (W : World) (args : Array Value) (hs : args.size = Try.f6.params.size)
    (h : ∀ (j : Nat) (t : TypeId) (v : Value), Try.f6.params[j]? = some t → args[j]? = some v → ArgShaped Try.prog W t v) :
    Calls Try.prog 6 args W fun e w' => e = .returned (.bool true) ∧ Below W.heap.size W w' := by
  obtain ⟨v0, v1, v2, rfl⟩ := arr3 (a := args) hs
  obtain ⟨l, hsl, hby, hw⟩ := prs_arg (h 0 _ v0 rfl rfl)
  obtain ⟨n1, rfl, wf1⟩ := arg_wf Try.underlying3 (h 1 _ v1 rfl rfl)
  obtain ⟨n2, rfl, wf2⟩ := arg_wf Try.underlying3 (h 2 _ v2 rfl rfl)
  exact tableGone_walk v0 l n1 n2 W hsl hby hw

theorem tableNew_args (W : World) (args : Array Value) (hs : args.size = Try.f4.params.size)
    (h : ∀ (j : Nat) (t : TypeId) (v : Value), Try.f4.params[j]? = some t → args[j]? = some v → ArgShaped Try.prog W t v) :
    Calls Try.prog 4 args W fun e w' => e = .returned (.bool true) ∧ Below W.heap.size W w' := by
  obtain ⟨v0, rfl⟩ := arr1 (a := args) hs
  obtain ⟨l, hsl, hby, hw⟩ := prs_arg (h 0 _ v0 rfl rfl)
  exact tableNew_walk v0 l W hsl hw
end Go.Proofs.Ytianochlnbehnaa
