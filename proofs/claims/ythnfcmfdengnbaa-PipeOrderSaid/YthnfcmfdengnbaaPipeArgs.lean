/- The laws of pipes from their arguments as they come. Conditions: none. -/
import Derived.Test.YthnfcmfdengnbaaPipeStays
import Derived.Test.YthnfcmfdengnbaaLib1
namespace Go.Proofs.Ythnfcmfdengnbaa
open Go Go.RowKit Go.Tm
set_option linter.unusedVariables false
set_option linter.unusedSimpArgs false

theorem pipe_cells {W : World} {fl : Nat} {cs : List Value} (h : Shaped Try.prog W fl 26 cs) :
    ∃ (d : ByteArray) (r q : Int), cs = [.string d, .int .i64 r, .int .i64 q] ∧ d.size ≤ maxLen ∧ (Lit.int .i64 r).wf = true ∧ (Lit.int .i64 q).wf = true := by
  obtain ⟨g1, hl, hf⟩ := shaped_struct Try.underlying26 h
  have h3 : Try.prog.cellsOf 26 = 3 := by kernel_rfl
  have hs : Try.prog.cellsOf 9 = 1 := by kernel_rfl
  have hi : Try.prog.cellsOf 3 = 1 := by kernel_rfl
  rw [h3] at hl
  have f0 : Shaped Try.prog W g1 9 ((cs.drop 0).take (Try.prog.cellsOf 9)) := hf 0 _ rfl
  have f1 : Shaped Try.prog W g1 3 ((cs.drop 1).take (Try.prog.cellsOf 3)) := hf 1 _ rfl
  have f2 : Shaped Try.prog W g1 3 ((cs.drop 2).take (Try.prog.cellsOf 3)) := hf 2 _ rfl
  rw [hs] at f0
  rw [hi] at f1 f2
  obtain ⟨d, c0, hd, _⟩ := shaped_string Try.underlying9 f0
  obtain ⟨r, c1, hr⟩ := shaped_wf Try.underlying3 f1
  obtain ⟨q, c2, hq⟩ := shaped_wf Try.underlying3 f2
  exact ⟨d, r, q, list3 hl (chunk1 c0) (chunk1 c1) (chunk1 c2), hd, hr, hq⟩

theorem ends_cells {W : World} {fl : Nat} {cs : List Value} (h : Shaped Try.prog W fl 23 cs) :
    ∃ (d s : ByteArray) (n r q : Int), cs = [.string d, .int .i64 n, .string s, .int .i64 r, .int .i64 q] ∧ d.size ≤ maxLen ∧ s.size ≤ maxLen := by
  obtain ⟨g1, hl, hf⟩ := shaped_struct Try.underlying23 h
  have h3 : Try.prog.cellsOf 23 = 5 := by kernel_rfl
  have hs : Try.prog.cellsOf 9 = 1 := by kernel_rfl
  have hi : Try.prog.cellsOf 3 = 1 := by kernel_rfl
  rw [h3] at hl
  have f0 : Shaped Try.prog W g1 9 ((cs.drop 0).take (Try.prog.cellsOf 9)) := hf 0 _ rfl
  have f1 : Shaped Try.prog W g1 3 ((cs.drop 1).take (Try.prog.cellsOf 3)) := hf 1 _ rfl
  have f2 : Shaped Try.prog W g1 9 ((cs.drop 2).take (Try.prog.cellsOf 9)) := hf 2 _ rfl
  have f3 : Shaped Try.prog W g1 3 ((cs.drop 3).take (Try.prog.cellsOf 3)) := hf 3 _ rfl
  have f4 : Shaped Try.prog W g1 3 ((cs.drop 4).take (Try.prog.cellsOf 3)) := hf 4 _ rfl
  rw [hs] at f0 f2
  rw [hi] at f1 f3 f4
  obtain ⟨d, c0, hd, _⟩ := shaped_string Try.underlying9 f0
  obtain ⟨n, c1, _⟩ := shaped_wf Try.underlying3 f1
  obtain ⟨s, c2, hs2, _⟩ := shaped_string Try.underlying9 f2
  obtain ⟨r, c3, _⟩ := shaped_wf Try.underlying3 f3
  obtain ⟨q, c4, _⟩ := shaped_wf Try.underlying3 f4
  exact ⟨d, s, n, r, q, list5 hl (chunk1 c0) (chunk1 c1) (chunk1 c2) (chunk1 c3) (chunk1 c4), hd, hs2⟩

theorem pipeActs_args (W : World) (args : Array Value) (hs : args.size = Try.f4.params.size)
    (h : ∀ (j : Nat) (t : TypeId) (v : Value), Try.f4.params[j]? = some t → args[j]? = some v → ArgShaped Try.prog W t v) :
    Calls Try.prog 4 args W fun e w' => e = .returned (.bool true) ∧ Below W.heap.size W w' := by
  obtain ⟨v0, v1, v2, rfl⟩ := arr3 (a := args) hs
  obtain ⟨cs0, fl0, rfl, hc0⟩ := arg_struct Try.underlying26 (h 0 _ v0 rfl rfl)
  obtain ⟨d, r, q, e0, hd, hr, hq⟩ := pipe_cells hc0
  obtain rfl := Array.ext' (xs := cs0) (ys := #[_, _, _]) e0
  obtain ⟨s1, rfl, ls1, rs1⟩ := arg_string Try.underlying9 (h 1 _ v1 rfl rfl)
  obtain ⟨x2, rfl, lo2, hi2⟩ := arg_int Try.underlying3 (h 2 _ v2 rfl rfl)
  exact pipeActs_walk d s1 x2 r q W (by unfold maxLen at hd; omega) (by unfold maxLen at ls1; omega) hr hq

theorem pipeStays_args (W : World) (args : Array Value) (hs : args.size = Try.f6.params.size)
    (h : ∀ (j : Nat) (t : TypeId) (v : Value), Try.f6.params[j]? = some t → args[j]? = some v → ArgShaped Try.prog W t v) :
    Calls Try.prog 6 args W fun e w' => e = .returned (.bool true) ∧ Below W.heap.size W w' := by
  obtain ⟨v0, v1, v2, rfl⟩ := arr3 (a := args) hs
  obtain ⟨cs0, fl0, rfl, hc0⟩ := arg_struct Try.underlying26 (h 0 _ v0 rfl rfl)
  obtain ⟨d, r, q, e0, hd, hr, hq⟩ := pipe_cells hc0
  obtain rfl := Array.ext' (xs := cs0) (ys := #[_, _, _]) e0
  obtain ⟨s1, rfl, ls1, rs1⟩ := arg_string Try.underlying9 (h 1 _ v1 rfl rfl)
  obtain ⟨x2, rfl, lo2, hi2⟩ := arg_int Try.underlying3 (h 2 _ v2 rfl rfl)
  exact pipeStays_walk d s1 x2 r q W (by unfold maxLen at hd; omega) (by unfold maxLen at ls1; omega) hr hq

theorem pipeEnds_args (W : World) (args : Array Value) (hs : args.size = Try.f3.params.size)
    (h : ∀ (j : Nat) (t : TypeId) (v : Value), Try.f3.params[j]? = some t → args[j]? = some v → ArgShaped Try.prog W t v) :
    Calls Try.prog 3 args W fun e w' => e = .returned (.bool true) ∧ Below W.heap.size W w' := by
  obtain ⟨v0, rfl⟩ := arr1 (a := args) hs
  obtain ⟨cs0, fl0, rfl, hc0⟩ := arg_struct Try.underlying23 (h 0 _ v0 rfl rfl)
  obtain ⟨d, s, n, r, q, e0, hd, hs0⟩ := ends_cells hc0
  obtain rfl := Array.ext' (xs := cs0) (ys := #[_, _, _, _, _]) e0
  exact pipeEnds_walk d s n r q W (by unfold maxLen at hd; omega) (by unfold maxLen at hs0; omega)
end Go.Proofs.Ythnfcmfdengnbaa
