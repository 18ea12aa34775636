/- WindowTells from its argument as it comes. Conditions: none. -/
import Derived.Test.YtinhnecgmokfkaaPlanArgs
import Derived.Test.YtinhnecgmokfkaaWinTells
namespace Go.Proofs.Ytinhnecgmokfkaa
open Go Go.RowKit Go.Tm
set_option linter.unusedVariables false
set_option linter.unusedSimpArgs false

theorem windowTells_cells {W : World} {fl : Nat} {cs : List Value} (h : Shaped Try.prog W fl 42 cs) :
    ∃ (pv wv cv : Value) (p : Pln) (a b n t : Int), cs = [pv, .int .i64 p.frame, wv, cv, .int .i64 a, .int .i64 b, .int .i64 n, .int .u64 t] ∧ PlanIs W pv wv cv p ∧ p.frame ≤ 9223372036854775807 ∧ (Lit.int .i64 a).wf = true ∧ (Lit.int .i64 b).wf = true ∧ (Lit.int .i64 n).wf = true ∧ (Lit.int .u64 t).wf = true := by
  obtain ⟨g1, hl, hf⟩ := shaped_struct Try.underlying42 h
  have k0 : Try.prog.cellsOf 42 = 8 := by kernel_rfl
  have k4 : Try.prog.cellsOf 26 = 4 := by kernel_rfl
  have k1 : Try.prog.cellsOf 3 = 1 := by kernel_rfl
  have k2 : Try.prog.cellsOf 32 = 1 := by kernel_rfl
  rw [k0] at hl
  have f0 : Shaped Try.prog W g1 26 ((cs.drop 0).take (Try.prog.cellsOf 26)) := hf 0 _ rfl
  have f1 : Shaped Try.prog W g1 3 ((cs.drop 4).take (Try.prog.cellsOf 3)) := hf 1 _ rfl
  have f2 : Shaped Try.prog W g1 3 ((cs.drop 5).take (Try.prog.cellsOf 3)) := hf 2 _ rfl
  have f3 : Shaped Try.prog W g1 3 ((cs.drop 6).take (Try.prog.cellsOf 3)) := hf 3 _ rfl
  have f4 : Shaped Try.prog W g1 32 ((cs.drop 7).take (Try.prog.cellsOf 32)) := hf 4 _ rfl
  rw [k4] at f0
  rw [k1] at f1 f2 f3
  rw [k2] at f4
  match cs, hl with
  | [a0, a1, a2, a3, a4, a5, a6, a7], _ =>
    simp only [List.drop_zero, List.drop_succ_cons, List.take_succ_cons, List.take_zero] at f0 f1 f2 f3 f4
    obtain ⟨pv, wv, cv, p, e0, hp, hfr⟩ := plan_cells f0
    obtain ⟨a, e1, w1⟩ := shaped_wf Try.underlying3 f1
    obtain ⟨b, e2, w2⟩ := shaped_wf Try.underlying3 f2
    obtain ⟨n, e3, w3⟩ := shaped_wf Try.underlying3 f3
    obtain ⟨t, e4, w4⟩ := shaped_wf Try.underlying32 f4
    simp at e0 e1 e2 e3 e4
    obtain ⟨rfl, rfl, rfl, rfl⟩ := e0
    subst e1 e2 e3 e4
    exact ⟨_, _, _, p, a, b, n, t, rfl, hp, hfr, w1, w2, w3, w4⟩
theorem windowTells_args (W : World) (args : Array Value) (hs : args.size = Try.f8.params.size)
    (h : ∀ (j : Nat) (t : TypeId) (v : Value), Try.f8.params[j]? = some t → args[j]? = some v → ArgShaped Try.prog W t v) :
    Calls Try.prog 8 args W fun e w' => e = .returned (.bool true) ∧ Below W.heap.size W w' := by
  obtain ⟨v0, rfl⟩ := arr1 (a := args) hs
  obtain ⟨cs, fl, rfl, hc⟩ := arg_struct Try.underlying42 (h 0 _ v0 rfl rfl)
  obtain ⟨pv, wv, cv, p, a, b, n, t, e, hp, hf, ha, hb, hn, ht⟩ := windowTells_cells hc
  obtain rfl := Array.ext' (xs := cs) (ys := #[_, _, _, _, _, _, _, _]) e
  exact windowTells_walk pv wv cv p a b n t W hp (u64_range ht).1 (u64_range ht).2 (i64_range hn).2 hf
end Go.Proofs.Ytinhnecgmokfkaa
