/- PipeOrder from its argument as it comes. Conditions: none. -/
import Derived.Test.YthnfcmfdengnbaaPipeOrder
import Derived.Test.YthnfcmfdengnbaaPipeArgs
import Derived.Test.YthnfcmfdengnbaaLib3
namespace Go.Proofs.Ythnfcmfdengnbaa
open Go Go.RowKit Go.Tm
set_option linter.unusedVariables false
set_option linter.unusedSimpArgs false

theorem act_cells {W : World} {fl : Nat} {cs : List Value} (h : Shaped Try.prog W fl 41 cs) :
    ∃ (rd : Bool) (n : Int) (s : ByteArray), cs = [.bool rd, .int .i64 n, .string s] ∧ (Lit.int .i64 n).wf = true ∧ s.size ≤ 9223372036854775807 := by
  obtain ⟨g1, hl, hf⟩ := shaped_struct Try.underlying41 h
  have h3 : Try.prog.cellsOf 41 = 3 := by kernel_rfl
  rw [h3] at hl
  have f0 : Shaped Try.prog W g1 4 ((cs.drop 0).take (Try.prog.cellsOf 4)) := hf 0 _ rfl
  have f1 : Shaped Try.prog W g1 3 ((cs.drop 1).take (Try.prog.cellsOf 3)) := hf 1 _ rfl
  have f2 : Shaped Try.prog W g1 9 ((cs.drop 2).take (Try.prog.cellsOf 9)) := hf 2 _ rfl
  rw [show Try.prog.cellsOf 4 = 1 by kernel_rfl] at f0
  rw [show Try.prog.cellsOf 3 = 1 by kernel_rfl] at f1
  rw [show Try.prog.cellsOf 9 = 1 by kernel_rfl] at f2
  obtain ⟨rd, c0⟩ := shaped_bool Try.underlying4 f0
  obtain ⟨n, c1, hn⟩ := shaped_wf Try.underlying3 f1
  obtain ⟨s, c2, hs, _⟩ := shaped_string Try.underlying9 f2
  exact ⟨rd, n, s, list3 hl (chunk1 c0) (chunk1 c1) (chunk1 c2), hn, by unfold maxLen at hs; omega⟩
theorem act_one {W : World} (g : Nat) (es : List Value) (h : Shaped Try.prog W g 41 es) : ∀ c ∈ es, c.oneCell' = true := by
  obtain ⟨rd, n, s, rfl, _⟩ := act_cells h
  intro c hc
  simp only [List.mem_cons, List.not_mem_nil, or_false] at hc
  rcases hc with rfl | rfl | rfl <;> rfl
theorem act_el {W : World} {x : Value} (hv : Val true 3 x) (h : ∃ g, Shaped Try.prog W g 41 x.cells.toList) :
    ∃ (rd : Bool) (n : Int) (s : ByteArray), x = .agg #[.bool rd, .int .i64 n, .string s] ∧ (Lit.int .i64 n).wf = true ∧ s.size ≤ 9223372036854775807 := by
  obtain ⟨g, h⟩ := h
  obtain ⟨cs, rfl, hs, _⟩ : ∃ cs : Array Value, x = .agg cs ∧ cs.size = 3 ∧ ∀ c ∈ cs.toList, c.oneCell' = true := hv
  obtain ⟨rd, n, s, he, hf⟩ := act_cells h
  exact ⟨rd, n, s, by rw [show cs = #[.bool rd, .int .i64 n, .string s] from Array.ext' he], hf⟩


theorem ty_act : Ty Try.prog 41 3 true := ⟨by kernel_rfl, by kernel_rfl, by decide, by kernel_rfl⟩

theorem pipeOrder_args (W : World) (args : Array Value) (hs : args.size = Try.f5.params.size)
    (h : ∀ (j : Nat) (t : TypeId) (v : Value), Try.f5.params[j]? = some t → args[j]? = some v → ArgShaped Try.prog W t v) :
    Calls Try.prog 5 args W fun e w' => e = .returned (.bool true) ∧ Below W.heap.size W w' := by
  obtain ⟨v0, rfl⟩ := arr1 (a := args) hs
  obtain ⟨xs, hsl, hx, _⟩ := arg_sl ty_act (by decide) act_one Try.underlying39 (h 0 _ v0 rfl rfl)
  refine pipeOrder_walk v0 xs W hsl ?_
  intro x hm
  obtain ⟨rd, n, s, e, hn, hs⟩ := act_el (hsl.val x hm) (hx x hm)
  exact ⟨rd, n, s, e, hs⟩
end Go.Proofs.Ythnfcmfdengnbaa
