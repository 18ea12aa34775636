/- RouteAlike from its arguments as they come. Conditions: none. -/
import Derived.Test.YtmcaeahjnhkbcaaRouteArgs
import Derived.Test.YtmcaeahjnhkbcaaRouteAlikeLaw
import Derived.Test.YtmcaeahjnhkbcaaLib1
namespace Go.Proofs.Ytmcaeahjnhkbcaa
open Go Go.RowKit Go.Tm
set_option linter.unusedVariables false
set_option linter.unusedSimpArgs false

theorem ty_string : Ty Try.prog 9 1 false := ⟨by kernel_rfl, by kernel_rfl, by decide, by kernel_rfl⟩
theorem ty_strings : Ty Try.prog 57 1 false := ⟨by kernel_rfl, by kernel_rfl, by decide, by kernel_rfl⟩
theorem str_one {W : World} (g : Nat) (es : List Value) (h : Shaped Try.prog W g 9 es) : ∀ c ∈ es, c.oneCell' = true := by
  obtain ⟨s, rfl, _⟩ := shaped_string Try.underlying9 h
  intro c hc; simp at hc; subst hc; rfl
theorem strs_one {W : World} (g : Nat) (es : List Value) (h : Shaped Try.prog W g 57 es) : ∀ c ∈ es, c.oneCell' = true := by
  obtain ⟨a, n, c, rfl, _⟩ := shaped_slice Try.underlying57 h
  intro c hc; simp at hc; subst hc; rfl
theorem strs_of {xs : List Value} (h : ∀ x ∈ xs, ∃ s : ByteArray, x = .string s) : ∃ l : List ByteArray, xs = strs l := by
  induction xs with
  | nil => exact ⟨[], rfl⟩
  | cons x xs ih =>
    obtain ⟨s, rfl⟩ := h x (by simp)
    obtain ⟨l, rfl⟩ := ih fun y hy => h y (by simp [hy])
    exact ⟨s :: l, rfl⟩
theorem one_cells {x : Value} (h : x.oneCell' = true) : x.cells.toList = [x] := by cases x <;> first | rfl | simp [Value.oneCell'] at h
theorem strs_shaped {W : World} {fl : Nat} {v : Value} (h : Shaped Try.prog W fl 57 [v]) : ∃ l : List ByteArray, Sl W false 1 v (strs l) := by
  obtain ⟨xs, hsl, hx, _⟩ := sl_of_shaped ty_string (by decide) str_one Try.underlying57 h
  obtain ⟨l, rfl⟩ := strs_of (xs := xs) fun x hm => by
    obtain ⟨g, hg⟩ := hx x hm
    rw [one_cells (hsl.val x hm).1] at hg
    obtain ⟨s, e, _⟩ := shaped_string Try.underlying9 hg
    simp at e
    exact ⟨s, e⟩
  exact ⟨l, hsl⟩
theorem rows_of {W : World} {xs : List Value} (h : ∀ x ∈ xs, ∃ l : List ByteArray, Sl W false 1 x (strs l)) : ∃ rows : List (List ByteArray), xs.length = rows.length ∧ ∀ (i : Nat) r x, xs[i]? = some r → rows[i]? = some x → Sl W false 1 r (strs x) := by
  induction xs with
  | nil => exact ⟨[], rfl, fun i r x hr => by simp at hr⟩
  | cons y ys ih =>
    obtain ⟨l, hl⟩ := h y (by simp)
    obtain ⟨rows, h1, h2⟩ := ih fun z hz => h z (by simp [hz])
    refine ⟨l :: rows, by simp [h1], fun i r x hr hx => ?_⟩
    cases i with
    | zero => simp at hr hx; subst hr hx; exact hl
    | succ i => simp at hr hx; exact h2 i r x hr hx
theorem rows_shaped {W : World} {fl : Nat} {v : Value} (h : Shaped Try.prog W fl 43 [v]) : ∃ rows : List (List ByteArray), RowsAt W v rows := by
  obtain ⟨xs, hsl, hx, _⟩ := sl_of_shaped ty_strings (by decide) strs_one Try.underlying43 h
  obtain ⟨rows, h1, h2⟩ := rows_of (W := W) (xs := xs) fun x hm => by
    obtain ⟨g, hg⟩ := hx x hm
    rw [one_cells (hsl.val x hm).1] at hg
    exact strs_shaped hg
  exact ⟨rows, xs, hsl, h1, h2⟩
theorem alike_arg {W : World} {v : Value} (h : ArgShaped Try.prog W 45 v) :
    ∃ (pa : Option Addr) (np pc : Nat) (fr : Int) (wa : Option Addr) (wn wc : Nat) (cv : Value) (l : List Ch) (va vb : Value) (ra rb : List (List ByteArray)) (part : Int), v = .agg #[.slice pa np pc, .int .i64 fr, .slice wa wn wc, cv, va, vb, .int .i64 part] ∧ Sl W true 5 cv (chs l) ∧ RowsAt W va ra ∧ RowsAt W vb rb ∧ (∀ a ∈ l, ChWf a) ∧ (Lit.int .i64 part).wf = true ∧ l.length * 40 ≤ 140737488351232 ∧ np * 32 ≤ 140737488351232 := by
  obtain ⟨cs, fl, rfl, hc⟩ := arg_struct Try.underlying45 h
  obtain ⟨g1, hl, hf⟩ := shaped_struct Try.underlying45 hc
  have k0 : Try.prog.cellsOf 45 = 7 := by kernel_rfl
  have k1 : Try.prog.cellsOf 26 = 4 := by kernel_rfl
  have k2 : Try.prog.cellsOf 3 = 1 := by kernel_rfl
  have k3 : Try.prog.cellsOf 43 = 1 := by kernel_rfl
  rw [k0] at hl
  have f0 : Shaped Try.prog W g1 26 ((cs.toList.drop 0).take (Try.prog.cellsOf 26)) := hf 0 _ rfl
  have f1 : Shaped Try.prog W g1 43 ((cs.toList.drop 4).take (Try.prog.cellsOf 43)) := hf 1 _ rfl
  have f2 : Shaped Try.prog W g1 43 ((cs.toList.drop 5).take (Try.prog.cellsOf 43)) := hf 2 _ rfl
  have f3 : Shaped Try.prog W g1 3 ((cs.toList.drop 6).take (Try.prog.cellsOf 3)) := hf 3 _ rfl
  rw [k1] at f0
  rw [k3] at f1 f2
  rw [k2] at f3
  obtain ⟨ls, hls⟩ : ∃ ls, ls = cs.toList := ⟨_, rfl⟩
  rw [← hls] at f0 f1 f2 f3 hl
  match ls, hl with
  | [a0, a1, a2, a3, a4, a5, a6], _ =>
    simp only [List.drop_zero, List.drop_succ_cons, List.take_succ_cons, List.take_zero] at f0 f1 f2 f3
    obtain ⟨pa, np, pc, fr, wv, cv, l, e, ⟨wa, wn, wc, rfl⟩, h1, h2, h3, h4⟩ := plan_cells f0
    obtain ⟨ra, hra⟩ := rows_shaped f1
    obtain ⟨rb, hrb⟩ := rows_shaped f2
    obtain ⟨x3, e4, w3⟩ := shaped_wf Try.underlying3 f3
    simp at e e4
    obtain ⟨rfl, rfl, rfl, rfl⟩ := e
    subst e4
    obtain rfl := Array.ext' (xs := cs) (ys := #[_, _, _, _, _, _, _]) hls.symm
    exact ⟨pa, np, pc, fr, wa, wn, wc, _, l, _, _, ra, rb, x3, rfl, h1, hra, hrb, h3, w3, h2, h4⟩
theorem routeAlike_args (W : World) (args : Array Value) (hs : args.size = Try.f8.params.size)
    (h : ∀ (j : Nat) (t : TypeId) (v : Value), Try.f8.params[j]? = some t → args[j]? = some v → ArgShaped Try.prog W t v) :
    Calls Try.prog 8 args W fun e w' => e = .returned (.bool true) ∧ Below W.heap.size W w' := by
  obtain ⟨v0, rfl⟩ := arr1 (a := args) hs
  obtain ⟨pa, np, pc, fr, wa, wn, wc, cv, l, va, vb, ra, rb, part, rfl, h1, h2, h3, h4, h5, h6, h7⟩ := alike_arg (h 0 _ v0 rfl rfl)
  exact routeAlike_walk pa np pc fr wa wn wc cv l va vb ra rb part W h1 h2 h3 h4 h5 (by omega) h7
end Go.Proofs.Ytmcaeahjnhkbcaa
