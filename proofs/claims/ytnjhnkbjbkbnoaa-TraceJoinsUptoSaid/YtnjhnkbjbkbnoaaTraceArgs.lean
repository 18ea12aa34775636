/- Rows of events that came in as arguments. Conditions: none. -/
import Derived.Test.YtnjhnkbjbkbnoaaTraceFns2
import Derived.Test.YtnjhnkbjbkbnoaaLib3
namespace Go.Proofs.Ytnjhnkbjbkbnoaa
open Go Go.RowKit Go.Tm
set_option linter.unusedVariables false
set_option linter.unusedSimpArgs false

theorem evc_cells {W : World} {fl : Nat} {cs : List Value} (h : Shaped Try.prog W fl 29 cs) :
    ∃ (p : Int) (n : Int) (r : Int) (t : Int), cs = [.int .i64 p, .int .u32 n, .int .u32 r, .int .u64 t] ∧ (Lit.int .i64 p).wf = true ∧ (Lit.int .u32 n).wf = true ∧ (Lit.int .u32 r).wf = true ∧ (Lit.int .u64 t).wf = true := by
  obtain ⟨g1, hl, hf⟩ := shaped_struct Try.underlying29 h
  have h3 : Try.prog.cellsOf 29 = 4 := by kernel_rfl
  rw [h3] at hl
  have f0 : Shaped Try.prog W g1 3 ((cs.drop 0).take (Try.prog.cellsOf 3)) := hf 0 _ rfl
  have f1 : Shaped Try.prog W g1 27 ((cs.drop 1).take (Try.prog.cellsOf 27)) := hf 1 _ rfl
  have f2 : Shaped Try.prog W g1 27 ((cs.drop 2).take (Try.prog.cellsOf 27)) := hf 2 _ rfl
  have f3 : Shaped Try.prog W g1 25 ((cs.drop 3).take (Try.prog.cellsOf 25)) := hf 3 _ rfl
  rw [show Try.prog.cellsOf 3 = 1 by kernel_rfl] at f0
  rw [show Try.prog.cellsOf 27 = 1 by kernel_rfl] at f1 f2
  rw [show Try.prog.cellsOf 25 = 1 by kernel_rfl] at f3
  obtain ⟨p, c0, hp⟩ := shaped_wf Try.underlying3 f0
  obtain ⟨n, c1, hn⟩ := shaped_wf Try.underlying27 f1
  obtain ⟨r, c2, hr⟩ := shaped_wf Try.underlying27 f2
  obtain ⟨t, c3, ht⟩ := shaped_wf Try.underlying25 f3
  exact ⟨p, n, r, t, list4 hl (chunk1 c0) (chunk1 c1) (chunk1 c2) (chunk1 c3), hp, hn, hr, ht⟩
theorem evc_one {W : World} (g : Nat) (es : List Value) (h : Shaped Try.prog W g 29 es) : ∀ c ∈ es, c.oneCell' = true := by
  obtain ⟨p, n, r, t, rfl, _⟩ := evc_cells h
  intro c hc
  simp only [List.mem_cons, List.not_mem_nil, or_false] at hc
  rcases hc with rfl | rfl | rfl | rfl <;> rfl
theorem evc_el {W : World} {x : Value} (hv : Val true 4 x) (h : ∃ g, Shaped Try.prog W g 29 x.cells.toList) :
    ∃ (p : Int) (n : Int) (r : Int) (t : Int), x = .agg #[.int .i64 p, .int .u32 n, .int .u32 r, .int .u64 t] ∧ (Lit.int .i64 p).wf = true ∧ (Lit.int .u32 n).wf = true ∧ (Lit.int .u32 r).wf = true ∧ (Lit.int .u64 t).wf = true := by
  obtain ⟨g, h⟩ := h
  obtain ⟨cs, rfl, hs, _⟩ : ∃ cs : Array Value, x = .agg cs ∧ cs.size = 4 ∧ ∀ c ∈ cs.toList, c.oneCell' = true := hv
  obtain ⟨p, n, r, t, he, hf⟩ := evc_cells h
  exact ⟨p, n, r, t, by rw [show cs = #[.int .i64 p, .int .u32 n, .int .u32 r, .int .u64 t] from Array.ext' he], hf⟩

theorem evs_of {xs : List Value} (h : ∀ x ∈ xs, ∃ a : Ev, x = evV a ∧ EvWf a) : ∃ l : List Ev, xs = evs l ∧ ∀ a ∈ l, EvWf a := by
  induction xs with
  | nil => exact ⟨[], rfl, by simp⟩
  | cons x xs ih =>
    obtain ⟨a, rfl, ha⟩ := h x (by simp)
    obtain ⟨l, rfl, hl⟩ := ih fun y hy => h y (by simp [hy])
    exact ⟨a :: l, rfl, by intro b hb; rcases List.mem_cons.1 hb with rfl | hb; exact ha; exact hl b hb⟩
theorem evs_shaped {W : World} {fl : Nat} {v : Value} (h : Shaped Try.prog W fl 22 [v]) : ∃ l : List Ev, Sl W true 4 v (evs l) ∧ l.length * 24 ≤ 140737488351232 ∧ ∀ a ∈ l, EvWf a := by
  obtain ⟨xs, hsl, hx, hby⟩ := sl_of_shaped ty_event (by decide) evc_one Try.underlying22 h
  obtain ⟨l, rfl, hl⟩ := evs_of (xs := xs) fun x hm => by
    obtain ⟨p, n, r, t, e, h0, h1, h2, h3⟩ := evc_el (hsl.val x hm) (hx x hm)
    exact ⟨(p, n, r, t), e, h0, h1, h2, h3⟩
  refine ⟨l, hsl, ?_, hl⟩
  have hb : Try.prog.bytesOf 29 = 24 := by kernel_rfl
  rw [hb, evs_len] at hby
  unfold reachBytes at hby
  omega
theorem evs_arg {W : World} {v : Value} (h : ArgShaped Try.prog W 22 v) : ∃ l : List Ev, Sl W true 4 v (evs l) ∧ l.length * 24 ≤ 140737488351232 ∧ ∀ a ∈ l, EvWf a := by
  obtain ⟨f, hf⟩ := arg_slice Try.underlying22 h
  exact evs_shaped hf
end Go.Proofs.Ytnjhnkbjbkbnoaa
