/- RouteOwn, RouteJoins from their arguments as they come. Conditions: none. -/
import Derived.Test.YtmcaeahjnhkbcaaRouteArgs
import Derived.Test.YtmcaeahjnhkbcaaRouteJoins
import Derived.Test.YtmcaeahjnhkbcaaLib1
namespace Go.Proofs.Ytmcaeahjnhkbcaa
open Go Go.RowKit Go.Tm
set_option linter.unusedVariables false
set_option linter.unusedSimpArgs false

theorem own_arg {W : World} {v : Value} (h : ArgShaped Try.prog W 28 v) :
    ∃ (pa : Option Addr) (np pc : Nat) (fr : Int) (wa : Option Addr) (wn wc : Nat) (cv : Value) (l : List Ch) (x0 x1 x2 x3 : Int), v = .agg #[.slice pa np pc, .int .i64 fr, .slice wa wn wc, cv, .int .i64 x0, .int .i64 x1, .int .i64 x2, .int .i64 x3] ∧ Sl W true 5 cv (chs l) ∧ l.length * 40 ≤ 140737488351232 ∧ (∀ a ∈ l, ChWf a) ∧ (Lit.int .i64 x1).wf = true ∧ (Lit.int .i64 x3).wf = true := by
  obtain ⟨cs, fl, rfl, hc⟩ := arg_struct Try.underlying28 h
  obtain ⟨g1, hl, hf⟩ := shaped_struct Try.underlying28 hc
  have k0 : Try.prog.cellsOf 28 = 8 := by kernel_rfl
  have k1 : Try.prog.cellsOf 26 = 4 := by kernel_rfl
  have k2 : Try.prog.cellsOf 3 = 1 := by kernel_rfl
  rw [k0] at hl
  have f0 : Shaped Try.prog W g1 26 ((cs.toList.drop 0).take (Try.prog.cellsOf 26)) := hf 0 _ rfl
  have f1 : Shaped Try.prog W g1 3 ((cs.toList.drop 4).take (Try.prog.cellsOf 3)) := hf 1 _ rfl
  have f2 : Shaped Try.prog W g1 3 ((cs.toList.drop 5).take (Try.prog.cellsOf 3)) := hf 2 _ rfl
  have f3 : Shaped Try.prog W g1 3 ((cs.toList.drop 6).take (Try.prog.cellsOf 3)) := hf 3 _ rfl
  have f4 : Shaped Try.prog W g1 3 ((cs.toList.drop 7).take (Try.prog.cellsOf 3)) := hf 4 _ rfl
  rw [k1] at f0
  rw [k2] at f1 f2 f3 f4
  obtain ⟨ls, hls⟩ : ∃ ls, ls = cs.toList := ⟨_, rfl⟩
  rw [← hls] at f0 f1 f2 f3 f4 hl
  match ls, hl with
  | [a0, a1, a2, a3, a4, a5, a6, a7], _ =>
    simp only [List.drop_zero, List.drop_succ_cons, List.take_succ_cons, List.take_zero] at f0 f1 f2 f3 f4
    obtain ⟨pa, np, pc, fr, wv, cv, l, e, ⟨wa, wn, wc, rfl⟩, h1, h2, h3, h4⟩ := plan_cells f0
    obtain ⟨x0, e1, w0⟩ := shaped_wf Try.underlying3 f1
    obtain ⟨x1, e2, w1⟩ := shaped_wf Try.underlying3 f2
    obtain ⟨x2, e3, w2⟩ := shaped_wf Try.underlying3 f3
    obtain ⟨x3, e4, w3⟩ := shaped_wf Try.underlying3 f4
    simp at e e1 e2 e3 e4
    obtain ⟨rfl, rfl, rfl, rfl⟩ := e
    subst e1 e2 e3 e4
    obtain rfl := Array.ext' (xs := cs) (ys := #[_, _, _, _, _, _, _, _]) hls.symm
    exact ⟨pa, np, pc, fr, wa, wn, wc, _, l, x0, x1, x2, x3, rfl, h1, h2, h3, w1, w3⟩
theorem routeOwn_args (W : World) (args : Array Value) (hs : args.size = Try.f3.params.size)
    (h : ∀ (j : Nat) (t : TypeId) (v : Value), Try.f3.params[j]? = some t → args[j]? = some v → ArgShaped Try.prog W t v) :
    Calls Try.prog 3 args W fun e w' => e = .returned (.bool true) ∧ Below W.heap.size W w' := by
  obtain ⟨v0, rfl⟩ := arr1 (a := args) hs
  obtain ⟨pa, np, pc, fr, wa, wn, wc, cv, l, x0, x1, x2, x3, rfl, hsl, hby, hw, h1, h3⟩ := own_arg (h 0 _ v0 rfl rfl)
  exact routeOwn_walk pa np pc fr wa wn wc cv l x0 x1 x2 x3 W hsl hw (by omega) h1 h3
theorem routeJoins_args (W : World) (args : Array Value) (hs : args.size = Try.f6.params.size)
    (h : ∀ (j : Nat) (t : TypeId) (v : Value), Try.f6.params[j]? = some t → args[j]? = some v → ArgShaped Try.prog W t v) :
    Calls Try.prog 6 args W fun e w' => e = .returned (.bool true) ∧ Below W.heap.size W w' := by
  obtain ⟨v0, v1, v2, rfl⟩ := arr3 (a := args) hs
  obtain ⟨pa, np, pc, fr, wv, cv, cs, rfl, ⟨wa, wn, wc, rfl⟩, hsl, hby, hw, hnp⟩ := plan_arg (h 0 _ v0 rfl rfl)
  obtain ⟨n1, rfl, wf1⟩ := arg_wf Try.underlying3 (h 1 _ v1 rfl rfl)
  obtain ⟨n2, rfl, wf2⟩ := arg_wf Try.underlying3 (h 2 _ v2 rfl rfl)
  exact routeJoins_walk pa np pc fr wa wn wc cv cs n1 n2 W hsl hw (by omega) wf2
end Go.Proofs.Ytmcaeahjnhkbcaa
