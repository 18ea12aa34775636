/- TableActs from its argument as it comes. Conditions: none. -/
import Derived.Test.YtianochlnbehnaaTabArgs
import Derived.Test.YtianochlnbehnaaTabActs
namespace Go.Proofs.Ytianochlnbehnaa
open Go Go.RowKit Go.Tm
set_option linter.unusedVariables false
set_option linter.unusedSimpArgs false

theorem list30 {α : Type} {l : List α} (h : l.length = 30) : ∃ a b c d r, l = a :: (r ++ [b, c, d]) ∧ r = (l.drop 1).take 26 ∧ [a] = (l.drop 0).take 1 ∧ [b] = (l.drop 27).take 1 ∧ [c] = (l.drop 28).take 1 ∧ [d] = (l.drop 29).take 1 := by
  match l, h with
  | [a, _, _, _, _, _, _, _, _, _, _, _, _, _, _, _, _, _, _, _, _, _, _, _, _, _, _, b, c, d], _ => exact ⟨a, b, c, d, _, rfl, rfl, rfl, rfl, rfl, rfl⟩
theorem acts_cells {W : World} {fl : Nat} {cs : List Value} (h : Shaped Try.prog W fl 52 cs) :
    ∃ (v u : Value) (l m : List Prc) (p : Prc) (pid to : Int), cs = v :: ((prC p).toList ++ [.int .i64 pid, .int .i64 to, u]) ∧ Sl W true 26 v (prs l) ∧ l.length * 168 ≤ 140737488351232 ∧ (∀ x ∈ l, PrWf x) ∧ Sl W true 26 u (prs m) ∧ (∀ x ∈ m, PrWf x) ∧ PrWf p ∧ (Lit.int .i64 to).wf = true := by
  obtain ⟨g1, hl, hf⟩ := shaped_struct Try.underlying52 h
  have k0 : Try.prog.cellsOf 52 = 30 := by kernel_rfl
  have k1 : Try.prog.cellsOf 22 = 1 := by kernel_rfl
  have k2 : Try.prog.cellsOf 33 = 26 := by kernel_rfl
  have k3 : Try.prog.cellsOf 3 = 1 := by kernel_rfl
  rw [k0] at hl
  have f0 : Shaped Try.prog W g1 22 ((cs.drop 0).take (Try.prog.cellsOf 22)) := hf 0 _ rfl
  have f1 : Shaped Try.prog W g1 33 ((cs.drop 1).take (Try.prog.cellsOf 33)) := hf 1 _ rfl
  have f2 : Shaped Try.prog W g1 3 ((cs.drop 27).take (Try.prog.cellsOf 3)) := hf 2 _ rfl
  have f3 : Shaped Try.prog W g1 3 ((cs.drop 28).take (Try.prog.cellsOf 3)) := hf 3 _ rfl
  have f4 : Shaped Try.prog W g1 22 ((cs.drop 29).take (Try.prog.cellsOf 22)) := hf 4 _ rfl
  rw [k1] at f0 f4
  rw [k2] at f1
  rw [k3] at f2 f3
  obtain ⟨v, b, c, u, r, e, e1, e0, e2, e3, e4⟩ := list30 hl
  rw [← e0] at f0
  rw [← e1] at f1
  rw [← e2] at f2
  rw [← e3] at f3
  rw [← e4] at f4
  obtain ⟨l, hsl, hby, hw⟩ := prs_shaped f0
  obtain ⟨m, hsm, _, hwm⟩ := prs_shaped f4
  obtain ⟨p, hr, hp⟩ := proc_cells f1
  obtain ⟨pid, hb, _⟩ := shaped_wf Try.underlying3 f2
  obtain ⟨to, hc, hto⟩ := shaped_wf Try.underlying3 f3
  simp only [List.cons.injEq, and_true] at hb hc
  refine ⟨v, u, l, m, p, pid, to, ?_, hsl, hby, hw, hsm, hwm, hp, hto⟩
  rw [e, hr, hb, hc]
theorem tableActs_args (W : World) (args : Array Value) (hs : args.size = Try.f10.params.size)
    (h : ∀ (j : Nat) (t : TypeId) (v : Value), Try.f10.params[j]? = some t → args[j]? = some v → ArgShaped Try.prog W t v) :
    Calls Try.prog 10 args W fun e w' => e = .returned (.bool true) ∧ Below W.heap.size W w' := by
  obtain ⟨v0, rfl⟩ := arr1 (a := args) hs
  obtain ⟨cs, fl, rfl, hc⟩ := arg_struct Try.underlying52 (h 0 _ v0 rfl rfl)
  obtain ⟨v, u, l, m, p, pid, to, e, h1, h2, h3, h4, h5, h6, h7⟩ := acts_cells hc
  have he : cs = inC v p pid to u := by rw [inC_eq]; exact Array.ext' e
  rw [he]
  exact tableActs_walk v u l m p pid to W h1 h4 h2 h3 h5 h6 h7
end Go.Proofs.Ytianochlnbehnaa
