/- A plan that came in as an argument. Conditions: none. -/
import Derived.Test.YtmcaeahjnhkbcaaRouteLib
import Derived.Test.YtmcaeahjnhkbcaaLib3
namespace Go.Proofs.Ytmcaeahjnhkbcaa
open Go Go.RowKit Go.Tm
set_option linter.unusedVariables false
set_option linter.unusedSimpArgs false

theorem chc_cells {W : World} {fl : Nat} {cs : List Value} (h : Shaped Try.prog W fl 40 cs) :
    ∃ (ka : Int) (kb : Int) (kc : Int) (kd : Int) (ke : Int), cs = [.int .i64 ka, .int .i64 kb, .int .i64 kc, .int .i64 kd, .int .i64 ke] ∧ (Lit.int .i64 ka).wf = true ∧ (Lit.int .i64 kb).wf = true ∧ (Lit.int .i64 kc).wf = true ∧ (Lit.int .i64 kd).wf = true ∧ (Lit.int .i64 ke).wf = true := by
  obtain ⟨g1, hl, hf⟩ := shaped_struct Try.underlying40 h
  have h3 : Try.prog.cellsOf 40 = 5 := by kernel_rfl
  rw [h3] at hl
  have f0 : Shaped Try.prog W g1 3 ((cs.drop 0).take (Try.prog.cellsOf 3)) := hf 0 _ rfl
  have f1 : Shaped Try.prog W g1 3 ((cs.drop 1).take (Try.prog.cellsOf 3)) := hf 1 _ rfl
  have f2 : Shaped Try.prog W g1 3 ((cs.drop 2).take (Try.prog.cellsOf 3)) := hf 2 _ rfl
  have f3 : Shaped Try.prog W g1 3 ((cs.drop 3).take (Try.prog.cellsOf 3)) := hf 3 _ rfl
  have f4 : Shaped Try.prog W g1 3 ((cs.drop 4).take (Try.prog.cellsOf 3)) := hf 4 _ rfl
  rw [show Try.prog.cellsOf 3 = 1 by kernel_rfl] at f0 f1 f2 f3 f4
  obtain ⟨ka, c0, hka⟩ := shaped_wf Try.underlying3 f0
  obtain ⟨kb, c1, hkb⟩ := shaped_wf Try.underlying3 f1
  obtain ⟨kc, c2, hkc⟩ := shaped_wf Try.underlying3 f2
  obtain ⟨kd, c3, hkd⟩ := shaped_wf Try.underlying3 f3
  obtain ⟨ke, c4, hke⟩ := shaped_wf Try.underlying3 f4
  exact ⟨ka, kb, kc, kd, ke, list5 hl (chunk1 c0) (chunk1 c1) (chunk1 c2) (chunk1 c3) (chunk1 c4), hka, hkb, hkc, hkd, hke⟩
theorem chc_one {W : World} (g : Nat) (es : List Value) (h : Shaped Try.prog W g 40 es) : ∀ c ∈ es, c.oneCell' = true := by
  obtain ⟨ka, kb, kc, kd, ke, rfl, _⟩ := chc_cells h
  intro c hc
  simp only [List.mem_cons, List.not_mem_nil, or_false] at hc
  rcases hc with rfl | rfl | rfl | rfl | rfl <;> rfl
theorem chc_el {W : World} {x : Value} (hv : Val true 5 x) (h : ∃ g, Shaped Try.prog W g 40 x.cells.toList) :
    ∃ (ka : Int) (kb : Int) (kc : Int) (kd : Int) (ke : Int), x = .agg #[.int .i64 ka, .int .i64 kb, .int .i64 kc, .int .i64 kd, .int .i64 ke] ∧ (Lit.int .i64 ka).wf = true ∧ (Lit.int .i64 kb).wf = true ∧ (Lit.int .i64 kc).wf = true ∧ (Lit.int .i64 kd).wf = true ∧ (Lit.int .i64 ke).wf = true := by
  obtain ⟨g, h⟩ := h
  obtain ⟨cs, rfl, hs, _⟩ : ∃ cs : Array Value, x = .agg cs ∧ cs.size = 5 ∧ ∀ c ∈ cs.toList, c.oneCell' = true := hv
  obtain ⟨ka, kb, kc, kd, ke, he, hf⟩ := chc_cells h
  exact ⟨ka, kb, kc, kd, ke, by rw [show cs = #[.int .i64 ka, .int .i64 kb, .int .i64 kc, .int .i64 kd, .int .i64 ke] from Array.ext' he], hf⟩

theorem chs_of {xs : List Value} (h : ∀ x ∈ xs, ∃ a : Ch, x = chV a ∧ ChWf a) : ∃ l : List Ch, xs = chs l ∧ ∀ a ∈ l, ChWf a := by
  induction xs with
  | nil => exact ⟨[], rfl, by simp⟩
  | cons x xs ih =>
    obtain ⟨a, rfl, ha⟩ := h x (by simp)
    obtain ⟨l, rfl, hl⟩ := ih fun y hy => h y (by simp [hy])
    exact ⟨a :: l, rfl, by intro b hb; rcases List.mem_cons.1 hb with rfl | hb; exact ha; exact hl b hb⟩
theorem chs_shaped {W : World} {fl : Nat} {v : Value} (h : Shaped Try.prog W fl 24 [v]) : ∃ l : List Ch, Sl W true 5 v (chs l) ∧ l.length * 40 ≤ 140737488351232 ∧ ∀ a ∈ l, ChWf a := by
  obtain ⟨xs, hsl, hx, hby⟩ := sl_of_shaped ty_chan (by decide) chc_one Try.underlying24 h
  obtain ⟨l, rfl, hl⟩ := chs_of (xs := xs) fun x hm => by
    obtain ⟨a, b, c, d, f, e, h1, h2, h3, h4, h5⟩ := chc_el (hsl.val x hm) (hx x hm)
    exact ⟨(a, b, c, d, f), e, h1, h2, h3, h4, h5⟩
  refine ⟨l, hsl, ?_, hl⟩
  have hb : Try.prog.bytesOf 40 = 40 := by kernel_rfl
  rw [hb, chs_len] at hby
  unfold reachBytes at hby
  omega
theorem plan_cells {W : World} {fl : Nat} {cs : List Value} (h : Shaped Try.prog W fl 26 cs) :
    ∃ (pa : Option Addr) (np pc : Nat) (fr : Int) (wv cv : Value) (l : List Ch), cs = [.slice pa np pc, .int .i64 fr, wv, cv] ∧ (∃ wa wn wc, wv = .slice wa wn wc) ∧ Sl W true 5 cv (chs l) ∧ l.length * 40 ≤ 140737488351232 ∧ (∀ a ∈ l, ChWf a) ∧ np * 32 ≤ 140737488351232 := by
  obtain ⟨g1, hl, hf⟩ := shaped_struct Try.underlying26 h
  have k0 : Try.prog.cellsOf 26 = 4 := by kernel_rfl
  have k1 : Try.prog.cellsOf 22 = 1 := by kernel_rfl
  have k2 : Try.prog.cellsOf 3 = 1 := by kernel_rfl
  have k3 : Try.prog.cellsOf 24 = 1 := by kernel_rfl
  have k4 : Try.prog.cellsOf 23 = 1 := by kernel_rfl
  rw [k0] at hl
  have f0 : Shaped Try.prog W g1 22 ((cs.drop 0).take (Try.prog.cellsOf 22)) := hf 0 _ rfl
  have f1 : Shaped Try.prog W g1 3 ((cs.drop 1).take (Try.prog.cellsOf 3)) := hf 1 _ rfl
  have f3 : Shaped Try.prog W g1 24 ((cs.drop 3).take (Try.prog.cellsOf 24)) := hf 3 _ rfl
  have f2 : Shaped Try.prog W g1 23 ((cs.drop 2).take (Try.prog.cellsOf 23)) := hf 2 _ rfl
  rw [k1] at f0
  rw [k4] at f2
  rw [k2] at f1
  rw [k3] at f3
  match cs, hl with
  | [a0, a1, a2, a3], _ =>
    simp only [List.drop_zero, List.drop_succ_cons, List.take_succ_cons, List.take_zero] at f0 f1 f2 f3
    obtain ⟨pa, np, pc, e0, h1, h2, h3, _⟩ := shaped_slice Try.underlying22 f0
    obtain ⟨wa, wn, wc, e2, _⟩ := shaped_slice Try.underlying23 f2
    obtain ⟨fr, e1, _⟩ := shaped_wf Try.underlying3 f1
    obtain ⟨l, hsl, hby, hw⟩ := chs_shaped f3
    have hb : Try.prog.bytesOf 106 = 32 := by kernel_rfl
    rw [hb] at h3
    unfold reachBytes at h3
    simp at e0 e1 e2
    subst e0 e1 e2
    exact ⟨pa, np, pc, fr, _, a3, l, rfl, ⟨wa, wn, wc, rfl⟩, hsl, hby, hw, by omega⟩
theorem plan_arg {W : World} {v : Value} (h : ArgShaped Try.prog W 26 v) :
    ∃ (pa : Option Addr) (np pc : Nat) (fr : Int) (wv cv : Value) (l : List Ch), v = .agg #[.slice pa np pc, .int .i64 fr, wv, cv] ∧ (∃ wa wn wc, wv = .slice wa wn wc) ∧ Sl W true 5 cv (chs l) ∧ l.length * 40 ≤ 140737488351232 ∧ (∀ a ∈ l, ChWf a) ∧ np * 32 ≤ 140737488351232 := by
  obtain ⟨cs, fl, rfl, hc⟩ := arg_struct Try.underlying26 h
  obtain ⟨pa, np, pc, fr, wv, cv, l, e, h0, h1, h2, h3, h4⟩ := plan_cells hc
  obtain rfl := Array.ext' (xs := cs) (ys := #[_, _, _, _]) e
  exact ⟨pa, np, pc, fr, wv, cv, l, rfl, h0, h1, h2, h3, h4⟩
end Go.Proofs.Ytmcaeahjnhkbcaa
