/- A heap that came in as an argument. Conditions: none. -/
import Derived.Test.YtdfkfoffinchhaaHeapLib
import Derived.Test.YtdfkfoffinchhaaLib3
namespace Go.Proofs.Ytdfkfoffinchhaa
open Go Go.RowKit Go.Tm
set_option linter.unusedVariables false
set_option linter.unusedSimpArgs false

theorem spc_cells {W : World} {fl : Nat} {cs : List Value} (h : Shaped Try.prog W fl 31 cs) :
    ∃ (p : Int) (n : Int) (u : Int), cs = [.int .i64 p, .int .i64 n, .int .i64 u] ∧ (Lit.int .i64 p).wf = true ∧ (Lit.int .i64 n).wf = true ∧ (Lit.int .i64 u).wf = true := by
  obtain ⟨g1, hl, hf⟩ := shaped_struct Try.underlying31 h
  have h3 : Try.prog.cellsOf 31 = 3 := by kernel_rfl
  rw [h3] at hl
  have f0 : Shaped Try.prog W g1 3 ((cs.drop 0).take (Try.prog.cellsOf 3)) := hf 0 _ rfl
  have f1 : Shaped Try.prog W g1 3 ((cs.drop 1).take (Try.prog.cellsOf 3)) := hf 1 _ rfl
  have f2 : Shaped Try.prog W g1 3 ((cs.drop 2).take (Try.prog.cellsOf 3)) := hf 2 _ rfl
  rw [show Try.prog.cellsOf 3 = 1 by kernel_rfl] at f0 f1 f2
  obtain ⟨p, c0, hp⟩ := shaped_wf Try.underlying3 f0
  obtain ⟨n, c1, hn⟩ := shaped_wf Try.underlying3 f1
  obtain ⟨u, c2, hu⟩ := shaped_wf Try.underlying3 f2
  exact ⟨p, n, u, list3 hl (chunk1 c0) (chunk1 c1) (chunk1 c2), hp, hn, hu⟩
theorem spc_one {W : World} (g : Nat) (es : List Value) (h : Shaped Try.prog W g 31 es) : ∀ c ∈ es, c.oneCell' = true := by
  obtain ⟨p, n, u, rfl, _⟩ := spc_cells h
  intro c hc
  simp only [List.mem_cons, List.not_mem_nil, or_false] at hc
  rcases hc with rfl | rfl | rfl <;> rfl
theorem spc_el {W : World} {x : Value} (hv : Val true 3 x) (h : ∃ g, Shaped Try.prog W g 31 x.cells.toList) :
    ∃ (p : Int) (n : Int) (u : Int), x = .agg #[.int .i64 p, .int .i64 n, .int .i64 u] ∧ (Lit.int .i64 p).wf = true ∧ (Lit.int .i64 n).wf = true ∧ (Lit.int .i64 u).wf = true := by
  obtain ⟨g, h⟩ := h
  obtain ⟨cs, rfl, hs, _⟩ : ∃ cs : Array Value, x = .agg cs ∧ cs.size = 3 ∧ ∀ c ∈ cs.toList, c.oneCell' = true := hv
  obtain ⟨p, n, u, he, hf⟩ := spc_cells h
  exact ⟨p, n, u, by rw [show cs = #[.int .i64 p, .int .i64 n, .int .i64 u] from Array.ext' he], hf⟩

theorem sps_of {xs : List Value} (h : ∀ x ∈ xs, ∃ a : Sp, x = spV a ∧ SpWf a) : ∃ l : List Sp, xs = sps l ∧ ∀ a ∈ l, SpWf a := by
  induction xs with
  | nil => exact ⟨[], rfl, by simp⟩
  | cons x xs ih =>
    obtain ⟨a, rfl, ha⟩ := h x (by simp)
    obtain ⟨l, rfl, hl⟩ := ih fun y hy => h y (by simp [hy])
    exact ⟨a :: l, rfl, by intro b hb; rcases List.mem_cons.1 hb with rfl | hb; exact ha; exact hl b hb⟩
theorem sps_shaped {W : World} {fl : Nat} {v : Value} (h : Shaped Try.prog W fl 22 [v]) : ∃ l : List Sp, Sl W true 3 v (sps l) ∧ l.length * 24 ≤ 140737488351232 ∧ ∀ a ∈ l, SpWf a := by
  obtain ⟨xs, hsl, hx, hby⟩ := sl_of_shaped ty_span (by decide) spc_one Try.underlying22 h
  obtain ⟨l, rfl, hl⟩ := sps_of (xs := xs) fun x hm => by
    obtain ⟨p, n, u, e, h1, h2, h3⟩ := spc_el (hsl.val x hm) (hx x hm)
    exact ⟨(p, n, u), e, h1, h2, h3⟩
  refine ⟨l, hsl, ?_, hl⟩
  have hb : Try.prog.bytesOf 31 = 24 := by kernel_rfl
  rw [hb, sps_len] at hby
  unfold reachBytes at hby
  omega
theorem heap_cells {W : World} {fl : Nat} {cs : List Value} (h : Shaped Try.prog W fl 24 cs) :
    ∃ (n : Int) (v : Value) (l : List Sp), cs = [.int .i64 n, v] ∧ Sl W true 3 v (sps l) ∧ l.length * 24 ≤ 140737488351232 ∧ (∀ a ∈ l, SpWf a) ∧ (Lit.int .i64 n).wf = true := by
  obtain ⟨g1, hl, hf⟩ := shaped_struct Try.underlying24 h
  have k0 : Try.prog.cellsOf 24 = 2 := by kernel_rfl
  have k1 : Try.prog.cellsOf 22 = 1 := by kernel_rfl
  have k2 : Try.prog.cellsOf 3 = 1 := by kernel_rfl
  rw [k0] at hl
  have f0 : Shaped Try.prog W g1 3 ((cs.drop 0).take (Try.prog.cellsOf 3)) := hf 0 _ rfl
  have f1 : Shaped Try.prog W g1 22 ((cs.drop 1).take (Try.prog.cellsOf 22)) := hf 1 _ rfl
  rw [k1] at f1
  rw [k2] at f0
  match cs, hl with
  | [a0, a1], _ =>
    simp only [List.drop_zero, List.drop_succ_cons, List.take_succ_cons, List.take_zero] at f0 f1
    obtain ⟨l, hsl, hby, hw⟩ := sps_shaped f1
    obtain ⟨n, e1, w1⟩ := shaped_wf Try.underlying3 f0
    simp at e1
    subst e1
    exact ⟨n, a1, l, rfl, hsl, hby, hw, w1⟩
theorem heap_arg {W : World} {v : Value} (h : ArgShaped Try.prog W 24 v) :
    ∃ (n : Int) (u : Value) (l : List Sp), v = .agg #[.int .i64 n, u] ∧ Sl W true 3 u (sps l) ∧ l.length * 24 ≤ 140737488351232 ∧ (∀ a ∈ l, SpWf a) ∧ (Lit.int .i64 n).wf = true := by
  obtain ⟨cs, fl, rfl, hc⟩ := arg_struct Try.underlying24 h
  obtain ⟨n, u, l, e, hsl, hby, hw, hn⟩ := heap_cells hc
  obtain rfl := Array.ext' (xs := cs) (ys := #[_, _]) e
  exact ⟨n, u, l, rfl, hsl, hby, hw, hn⟩
end Go.Proofs.Ytdfkfoffinchhaa
