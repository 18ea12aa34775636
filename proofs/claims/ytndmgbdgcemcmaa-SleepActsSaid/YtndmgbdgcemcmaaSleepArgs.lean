/- Rows of alarms that came in as arguments. Conditions: none. -/
import Derived.Test.YtndmgbdgcemcmaaSleepRef
import Derived.Test.YtndmgbdgcemcmaaLib3
namespace Go.Proofs.Ytndmgbdgcemcmaa
open Go Go.RowKit Go.Tm
set_option linter.unusedVariables false
set_option linter.unusedSimpArgs false

theorem alc_cells {W : World} {fl : Nat} {cs : List Value} (h : Shaped Try.prog W fl 30 cs) :
    ∃ (t : Int) (p : Int), cs = [.int .u64 t, .int .i64 p] ∧ (Lit.int .u64 t).wf = true ∧ (Lit.int .i64 p).wf = true := by
  obtain ⟨g1, hl, hf⟩ := shaped_struct Try.underlying30 h
  have h3 : Try.prog.cellsOf 30 = 2 := by kernel_rfl
  rw [h3] at hl
  have f0 : Shaped Try.prog W g1 23 ((cs.drop 0).take (Try.prog.cellsOf 23)) := hf 0 _ rfl
  have f1 : Shaped Try.prog W g1 3 ((cs.drop 1).take (Try.prog.cellsOf 3)) := hf 1 _ rfl
  rw [show Try.prog.cellsOf 23 = 1 by kernel_rfl] at f0
  rw [show Try.prog.cellsOf 3 = 1 by kernel_rfl] at f1
  obtain ⟨t, c0, ht⟩ := shaped_wf Try.underlying23 f0
  obtain ⟨p, c1, hp⟩ := shaped_wf Try.underlying3 f1
  exact ⟨t, p, list2 hl (chunk1 c0) (chunk1 c1), ht, hp⟩
theorem alc_one {W : World} (g : Nat) (es : List Value) (h : Shaped Try.prog W g 30 es) : ∀ c ∈ es, c.oneCell' = true := by
  obtain ⟨t, p, rfl, _⟩ := alc_cells h
  intro c hc
  simp only [List.mem_cons, List.not_mem_nil, or_false] at hc
  rcases hc with rfl | rfl <;> rfl
theorem alc_el {W : World} {x : Value} (hv : Val true 2 x) (h : ∃ g, Shaped Try.prog W g 30 x.cells.toList) :
    ∃ (t : Int) (p : Int), x = .agg #[.int .u64 t, .int .i64 p] ∧ (Lit.int .u64 t).wf = true ∧ (Lit.int .i64 p).wf = true := by
  obtain ⟨g, h⟩ := h
  obtain ⟨cs, rfl, hs, _⟩ : ∃ cs : Array Value, x = .agg cs ∧ cs.size = 2 ∧ ∀ c ∈ cs.toList, c.oneCell' = true := hv
  obtain ⟨t, p, he, hf⟩ := alc_cells h
  exact ⟨t, p, by rw [show cs = #[.int .u64 t, .int .i64 p] from Array.ext' he], hf⟩

theorem als_of {xs : List Value} (h : ∀ x ∈ xs, ∃ a : Al, x = alV a ∧ AlWf a) : ∃ l : List Al, xs = als l ∧ ∀ a ∈ l, AlWf a := by
  induction xs with
  | nil => exact ⟨[], rfl, by simp⟩
  | cons x xs ih =>
    obtain ⟨a, rfl, ha⟩ := h x (by simp)
    obtain ⟨l, rfl, hl⟩ := ih fun y hy => h y (by simp [hy])
    exact ⟨a :: l, rfl, by intro b hb; rcases List.mem_cons.1 hb with rfl | hb; exact ha; exact hl b hb⟩
theorem als_shaped {W : World} {fl : Nat} {v : Value} (h : Shaped Try.prog W fl 22 [v]) : ∃ l : List Al, Sl W true 2 v (als l) ∧ l.length * 16 ≤ 140737488351232 ∧ ∀ a ∈ l, AlWf a := by
  obtain ⟨xs, hsl, hx, hby⟩ := sl_of_shaped ty_alarm (by decide) alc_one Try.underlying22 h
  obtain ⟨l, rfl, hl⟩ := als_of (xs := xs) fun x hm => by
    obtain ⟨t, p, e, h1, h2⟩ := alc_el (hsl.val x hm) (hx x hm)
    exact ⟨(t, p), e, h1, h2⟩
  refine ⟨l, hsl, ?_, hl⟩
  have hb : Try.prog.bytesOf 30 = 16 := by kernel_rfl
  rw [hb, als_len] at hby
  unfold reachBytes at hby
  omega
theorem als_arg {W : World} {v : Value} (h : ArgShaped Try.prog W 22 v) : ∃ l : List Al, Sl W true 2 v (als l) ∧ l.length * 16 ≤ 140737488351232 ∧ ∀ a ∈ l, AlWf a := by
  obtain ⟨f, hf⟩ := arg_slice Try.underlying22 h
  exact als_shaped hf
theorem u64_range {n : Int} (h : (Lit.int .u64 n).wf = true) : 0 ≤ n ∧ n ≤ 18446744073709551615 := by
  simpa [Lit.wf, IntKind.min, IntKind.max, IntKind.bits, IntKind.signed] using h
theorem u32_range {n : Int} (h : (Lit.int .u32 n).wf = true) : 0 ≤ n ∧ n ≤ 4294967295 := by
  simpa [Lit.wf, IntKind.min, IntKind.max, IntKind.bits, IntKind.signed] using h
end Go.Proofs.Ytndmgbdgcemcmaa
