/- SleepActs from its arguments as they come. Conditions: none. -/
import Derived.Test.YtndmgbdgcemcmaaSleepArgs
import Derived.Test.YtndmgbdgcemcmaaSleepActs
namespace Go.Proofs.Ytndmgbdgcemcmaa
open Go Go.RowKit Go.Tm
set_option linter.unusedVariables false
set_option linter.unusedSimpArgs false

theorem acts_cells {W : World} {fl : Nat} {cs : List Value} (h : Shaped Try.prog W fl 45 cs) :
    ∃ (v : Value) (t p pid now n : Int), cs = [v, .int .u64 t, .int .i64 p, .int .i64 pid, .int .u64 now, .int .u32 n] ∧ (∃ l : List Al, Sl W true 2 v (als l) ∧ l.length * 16 ≤ 140737488351232 ∧ ∀ a ∈ l, AlWf a) ∧ AlWf (t, p) ∧ (Lit.int .u64 now).wf = true ∧ (Lit.int .u32 n).wf = true := by
  obtain ⟨g1, hl, hf⟩ := shaped_struct Try.underlying45 h
  have k0 : Try.prog.cellsOf 45 = 6 := by kernel_rfl
  have k1 : Try.prog.cellsOf 22 = 1 := by kernel_rfl
  have k2 : Try.prog.cellsOf 30 = 2 := by kernel_rfl
  have k3 : Try.prog.cellsOf 3 = 1 := by kernel_rfl
  have k5 : Try.prog.cellsOf 35 = 1 := by kernel_rfl
  have k4 : Try.prog.cellsOf 23 = 1 := by kernel_rfl
  rw [k0] at hl
  have f0 : Shaped Try.prog W g1 22 ((cs.drop 0).take (Try.prog.cellsOf 22)) := hf 0 _ rfl
  have f1 : Shaped Try.prog W g1 30 ((cs.drop 1).take (Try.prog.cellsOf 30)) := hf 1 _ rfl
  have f2 : Shaped Try.prog W g1 3 ((cs.drop 3).take (Try.prog.cellsOf 3)) := hf 2 _ rfl
  have f3 : Shaped Try.prog W g1 23 ((cs.drop 4).take (Try.prog.cellsOf 23)) := hf 3 _ rfl
  have f4 : Shaped Try.prog W g1 35 ((cs.drop 5).take (Try.prog.cellsOf 35)) := hf 4 _ rfl
  rw [k5] at f4
  rw [k1] at f0
  rw [k2] at f1
  rw [k3] at f2
  rw [k4] at f3
  match cs, hl with
  | [a0, a1, a2, a3, a4, a5], _ =>
    simp only [List.drop_zero, List.drop_succ_cons, List.take_succ_cons, List.take_zero] at f0 f1 f2 f3 f4
    obtain ⟨l, hsl, hby, hw⟩ := als_shaped f0
    obtain ⟨t, p, e1, w1, w2⟩ := alc_cells f1
    obtain ⟨pid, e2, w3⟩ := shaped_wf Try.underlying3 f2
    obtain ⟨now, e3, w4⟩ := shaped_wf Try.underlying23 f3
    obtain ⟨n, e4, w5⟩ := shaped_wf Try.underlying35 f4
    simp at e1 e2 e3 e4
    obtain ⟨rfl, rfl⟩ := e1
    subst e2
    subst e3
    subst e4
    exact ⟨a0, t, p, pid, now, n, rfl, ⟨l, hsl, hby, hw⟩, ⟨w1, w2⟩, w4, w5⟩
theorem sleepActs_args (W : World) (args : Array Value) (hs : args.size = Try.f8.params.size)
    (h : ∀ (j : Nat) (t : TypeId) (v : Value), Try.f8.params[j]? = some t → args[j]? = some v → ArgShaped Try.prog W t v) :
    Calls Try.prog 8 args W fun e w' => e = .returned (.bool true) ∧ Below W.heap.size W w' := by
  obtain ⟨v0, rfl⟩ := arr1 (a := args) hs
  obtain ⟨cs, fl, rfl, hc⟩ := arg_struct Try.underlying45 (h 0 _ v0 rfl rfl)
  obtain ⟨v, t, p, pid, now, n, e, ⟨l, hsl, hby, hw⟩, ha, h1, h2⟩ := acts_cells hc
  obtain rfl := Array.ext' (xs := cs) (ys := #[_, _, _, _, _, _]) e
  exact sleepActs_walk v l t p pid now n W hsl hby hw ha (u64_range h1) (u32_range h2)
end Go.Proofs.Ytndmgbdgcemcmaa
