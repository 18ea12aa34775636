/- TraceTells, TraceJoins from their arguments as they come. Conditions: none. -/
import Derived.Test.YtnjhnkbjbkbnoaaTraceArgs
import Derived.Test.YtnjhnkbjbkbnoaaTraceTells
import Derived.Test.YtnjhnkbjbkbnoaaTraceJoins
import Derived.Test.YtnjhnkbjbkbnoaaUpto
namespace Go.Proofs.Ytnjhnkbjbkbnoaa
open Go Go.RowKit Go.Tm
set_option linter.unusedVariables false
set_option linter.unusedSimpArgs false

theorem tells_cells {W : World} {fl : Nat} {cs : List Value} (h : Shaped Try.prog W fl 43 cs) :
    ∃ (v : Value) (p t n : Int), cs = [v, .int .i64 p, .int .u64 t, .int .u32 n] ∧ (∃ l : List Ev, Sl W true 4 v (evs l) ∧ l.length * 24 ≤ 140737488351232 ∧ ∀ a ∈ l, EvWf a) := by
  obtain ⟨g1, hl, hf⟩ := shaped_struct Try.underlying43 h
  have k0 : Try.prog.cellsOf 43 = 4 := by kernel_rfl
  have k1 : Try.prog.cellsOf 22 = 1 := by kernel_rfl
  have k3 : Try.prog.cellsOf 3 = 1 := by kernel_rfl
  have k5 : Try.prog.cellsOf 27 = 1 := by kernel_rfl
  have k4 : Try.prog.cellsOf 25 = 1 := by kernel_rfl
  rw [k0] at hl
  have f0 : Shaped Try.prog W g1 22 ((cs.drop 0).take (Try.prog.cellsOf 22)) := hf 0 _ rfl
  have f1 : Shaped Try.prog W g1 3 ((cs.drop 1).take (Try.prog.cellsOf 3)) := hf 1 _ rfl
  have f2 : Shaped Try.prog W g1 25 ((cs.drop 2).take (Try.prog.cellsOf 25)) := hf 2 _ rfl
  have f3 : Shaped Try.prog W g1 27 ((cs.drop 3).take (Try.prog.cellsOf 27)) := hf 3 _ rfl
  rw [k1] at f0
  rw [k3] at f1
  rw [k4] at f2
  rw [k5] at f3
  match cs, hl with
  | [a0, a1, a2, a3], _ =>
    simp only [List.drop_zero, List.drop_succ_cons, List.take_succ_cons, List.take_zero] at f0 f1 f2 f3
    obtain ⟨p, e1, _⟩ := shaped_wf Try.underlying3 f1
    obtain ⟨t, e2, _⟩ := shaped_wf Try.underlying25 f2
    obtain ⟨n, e3, _⟩ := shaped_wf Try.underlying27 f3
    simp at e1 e2 e3
    subst e1 e2 e3
    exact ⟨a0, p, t, n, rfl, evs_shaped f0⟩
theorem traceTells_args (W : World) (args : Array Value) (hs : args.size = Try.f8.params.size)
    (h : ∀ (j : Nat) (t : TypeId) (v : Value), Try.f8.params[j]? = some t → args[j]? = some v → ArgShaped Try.prog W t v) :
    Calls Try.prog 8 args W fun e w' => e = .returned (.bool true) ∧ Below W.heap.size W w' := by
  obtain ⟨v0, rfl⟩ := arr1 (a := args) hs
  obtain ⟨cs, fl, rfl, hc⟩ := arg_struct Try.underlying43 (h 0 _ v0 rfl rfl)
  obtain ⟨v, p, t, n, e, ⟨l, hsl, hby, hw⟩⟩ := tells_cells hc
  obtain rfl := Array.ext' (xs := cs) (ys := #[_, _, _, _]) e
  exact traceTells_walk v l p t n W hsl (by omega) hw

theorem joins_cells {W : World} {fl : Nat} {cs : List Value} (h : Shaped Try.prog W fl 34 cs) :
    ∃ (u v : Value) (p n : Int), cs = [u, v, .int .i64 p, .int .u32 n] ∧ (∃ l : List Ev, Sl W true 4 u (evs l) ∧ l.length * 24 ≤ 140737488351232 ∧ ∀ a ∈ l, EvWf a) ∧ (∃ l : List Ev, Sl W true 4 v (evs l) ∧ l.length * 24 ≤ 140737488351232 ∧ ∀ a ∈ l, EvWf a) := by
  obtain ⟨g1, hl, hf⟩ := shaped_struct Try.underlying34 h
  have k0 : Try.prog.cellsOf 34 = 4 := by kernel_rfl
  have k1 : Try.prog.cellsOf 22 = 1 := by kernel_rfl
  have k3 : Try.prog.cellsOf 3 = 1 := by kernel_rfl
  have k5 : Try.prog.cellsOf 27 = 1 := by kernel_rfl
  rw [k0] at hl
  have f0 : Shaped Try.prog W g1 22 ((cs.drop 0).take (Try.prog.cellsOf 22)) := hf 0 _ rfl
  have f1 : Shaped Try.prog W g1 22 ((cs.drop 1).take (Try.prog.cellsOf 22)) := hf 1 _ rfl
  have f2 : Shaped Try.prog W g1 3 ((cs.drop 2).take (Try.prog.cellsOf 3)) := hf 2 _ rfl
  have f3 : Shaped Try.prog W g1 27 ((cs.drop 3).take (Try.prog.cellsOf 27)) := hf 3 _ rfl
  rw [k1] at f0 f1
  rw [k3] at f2
  rw [k5] at f3
  match cs, hl with
  | [a0, a1, a2, a3], _ =>
    simp only [List.drop_zero, List.drop_succ_cons, List.take_succ_cons, List.take_zero] at f0 f1 f2 f3
    obtain ⟨p, e1, _⟩ := shaped_wf Try.underlying3 f2
    obtain ⟨n, e3, _⟩ := shaped_wf Try.underlying27 f3
    simp at e1 e3
    subst e1 e3
    exact ⟨a0, a1, p, n, rfl, evs_shaped f0, evs_shaped f1⟩
theorem joins_up {W : World} {fl : Nat} {u v x y : Value} (h : ShapedUp Try.prog W 1048576 fl 34 [u, v, x, y]) :
    (∃ a len cap, u = .slice a len cap ∧ len ≤ 1048576) ∧ (∃ a len cap, v = .slice a len cap ∧ len ≤ 1048576) := by
  obtain ⟨g1, hf⟩ := up_struct Try.underlying34 h
  have k1 : Try.prog.cellsOf 22 = 1 := by kernel_rfl
  have f0 : ShapedUp Try.prog W 1048576 g1 22 (([u, v, x, y].drop 0).take (Try.prog.cellsOf 22)) := hf 0 _ rfl
  have f1 : ShapedUp Try.prog W 1048576 g1 22 (([u, v, x, y].drop 1).take (Try.prog.cellsOf 22)) := hf 1 _ rfl
  rw [k1] at f0 f1
  obtain ⟨a, n, c, e1, h1, h2⟩ := up_slice Try.underlying22 f0
  obtain ⟨a', n', c', e2, h1', h2'⟩ := up_slice Try.underlying22 f1
  simp at e1 e2
  exact ⟨⟨a, n, c, e1, by omega⟩, ⟨a', n', c', e2, by omega⟩⟩
theorem traceJoins_args (W : World) (args : Array Value) (hs : args.size = Try.f5.params.size)
    (h : ∀ (j : Nat) (t : TypeId) (v : Value), Try.f5.params[j]? = some t → args[j]? = some v → ArgShaped Try.prog W t v)
    (h' : ∀ (j : Nat) (t : TypeId) (v : Value), Try.f5.params[j]? = some t → args[j]? = some v → ArgUp Try.prog W 1048576 t v) :
    Calls Try.prog 5 args W fun e w' => e = .returned (.bool true) ∧ Below W.heap.size W w' := by
  obtain ⟨v0, rfl⟩ := arr1 (a := args) hs
  obtain ⟨cs, fl, rfl, hc⟩ := arg_struct Try.underlying34 (h 0 _ v0 rfl rfl)
  obtain ⟨u, v, p, n, e, ⟨l, hsl, _, hw⟩, ⟨m, hsl2, _, hw2⟩⟩ := joins_cells hc
  obtain rfl := Array.ext' (xs := cs) (ys := #[_, _, _, _]) e
  obtain ⟨fu, hup⟩ := h' 0 _ _ rfl rfl
  obtain ⟨⟨a, x, c, e1, hx⟩, ⟨b, y, d, e2, hy⟩⟩ := joins_up hup
  obtain ⟨a', c', e3, _⟩ := hsl.shape
  obtain ⟨b', d', e4, _⟩ := hsl2.shape
  rw [e3] at e1
  rw [e4] at e2
  simp at e1 e2
  exact traceJoins_walk u v l m p n W hsl hsl2 (by omega) (by omega) hw hw2
end Go.Proofs.Ytnjhnkbjbkbnoaa
