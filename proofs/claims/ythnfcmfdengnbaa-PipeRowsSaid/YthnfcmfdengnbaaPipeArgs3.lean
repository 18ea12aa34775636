/- PipeNew, PipeCounts, PipeSets from their arguments as they come. Conditions: none. -/
import Derived.Test.YthnfcmfdengnbaaPipeCounts
import Derived.Test.YthnfcmfdengnbaaPipeSets
import Derived.Test.YthnfcmfdengnbaaLib1
import Derived.Test.YthnfcmfdengnbaaLib3
namespace Go.Proofs.Ythnfcmfdengnbaa
open Go Go.RowKit Go.Tm
set_option linter.unusedVariables false
set_option linter.unusedSimpArgs false

theorem pip_cells {W : World} {fl : Nat} {cs : List Value} (h : Shaped Try.prog W fl 26 cs) :
    ∃ (d : ByteArray) (r : Int) (q : Int), cs = [.string d, .int .i64 r, .int .i64 q] ∧ d.size ≤ 9223372036854775807 ∧ (Lit.int .i64 r).wf = true ∧ (Lit.int .i64 q).wf = true := by
  obtain ⟨g1, hl, hf⟩ := shaped_struct Try.underlying26 h
  have h3 : Try.prog.cellsOf 26 = 3 := by kernel_rfl
  rw [h3] at hl
  have f0 : Shaped Try.prog W g1 9 ((cs.drop 0).take (Try.prog.cellsOf 9)) := hf 0 _ rfl
  have f1 : Shaped Try.prog W g1 3 ((cs.drop 1).take (Try.prog.cellsOf 3)) := hf 1 _ rfl
  have f2 : Shaped Try.prog W g1 3 ((cs.drop 2).take (Try.prog.cellsOf 3)) := hf 2 _ rfl
  rw [show Try.prog.cellsOf 9 = 1 by kernel_rfl] at f0
  rw [show Try.prog.cellsOf 3 = 1 by kernel_rfl] at f1 f2
  obtain ⟨d, c0, hd, _⟩ := shaped_string Try.underlying9 f0
  obtain ⟨r, c1, hr⟩ := shaped_wf Try.underlying3 f1
  obtain ⟨q, c2, hq⟩ := shaped_wf Try.underlying3 f2
  exact ⟨d, r, q, list3 hl (chunk1 c0) (chunk1 c1) (chunk1 c2), by unfold maxLen at hd; omega, hr, hq⟩
theorem pip_one {W : World} (g : Nat) (es : List Value) (h : Shaped Try.prog W g 26 es) : ∀ c ∈ es, c.oneCell' = true := by
  obtain ⟨d, r, q, rfl, _⟩ := pip_cells h
  intro c hc
  simp only [List.mem_cons, List.not_mem_nil, or_false] at hc
  rcases hc with rfl | rfl | rfl <;> rfl
theorem pip_el {W : World} {x : Value} (hv : Val true 3 x) (h : ∃ g, Shaped Try.prog W g 26 x.cells.toList) :
    ∃ (d : ByteArray) (r : Int) (q : Int), x = .agg #[.string d, .int .i64 r, .int .i64 q] ∧ d.size ≤ 9223372036854775807 ∧ (Lit.int .i64 r).wf = true ∧ (Lit.int .i64 q).wf = true := by
  obtain ⟨g, h⟩ := h
  obtain ⟨cs, rfl, hs, _⟩ : ∃ cs : Array Value, x = .agg cs ∧ cs.size = 3 ∧ ∀ c ∈ cs.toList, c.oneCell' = true := hv
  obtain ⟨d, r, q, he, hf⟩ := pip_cells h
  exact ⟨d, r, q, by rw [show cs = #[.string d, .int .i64 r, .int .i64 q] from Array.ext' he], hf⟩

theorem endc_cells {W : World} {fl : Nat} {cs : List Value} (h : Shaped Try.prog W fl 44 cs) :
    ∃ (p : Int) (wr : Bool), cs = [.int .i64 p, .bool wr] ∧ (Lit.int .i64 p).wf = true := by
  obtain ⟨g1, hl, hf⟩ := shaped_struct Try.underlying44 h
  have h3 : Try.prog.cellsOf 44 = 2 := by kernel_rfl
  rw [h3] at hl
  have f0 : Shaped Try.prog W g1 3 ((cs.drop 0).take (Try.prog.cellsOf 3)) := hf 0 _ rfl
  have f1 : Shaped Try.prog W g1 4 ((cs.drop 1).take (Try.prog.cellsOf 4)) := hf 1 _ rfl
  rw [show Try.prog.cellsOf 3 = 1 by kernel_rfl] at f0
  rw [show Try.prog.cellsOf 4 = 1 by kernel_rfl] at f1
  obtain ⟨p, c0, hp⟩ := shaped_wf Try.underlying3 f0
  obtain ⟨wr, c1⟩ := shaped_bool Try.underlying4 f1
  exact ⟨p, wr, list2 hl (chunk1 c0) (chunk1 c1), hp⟩
theorem endc_one {W : World} (g : Nat) (es : List Value) (h : Shaped Try.prog W g 44 es) : ∀ c ∈ es, c.oneCell' = true := by
  obtain ⟨p, wr, rfl, _⟩ := endc_cells h
  intro c hc
  simp only [List.mem_cons, List.not_mem_nil, or_false] at hc
  rcases hc with rfl | rfl <;> rfl
theorem endc_el {W : World} {x : Value} (hv : Val true 2 x) (h : ∃ g, Shaped Try.prog W g 44 x.cells.toList) :
    ∃ (p : Int) (wr : Bool), x = .agg #[.int .i64 p, .bool wr] ∧ (Lit.int .i64 p).wf = true := by
  obtain ⟨g, h⟩ := h
  obtain ⟨cs, rfl, hs, _⟩ : ∃ cs : Array Value, x = .agg cs ∧ cs.size = 2 ∧ ∀ c ∈ cs.toList, c.oneCell' = true := hv
  obtain ⟨p, wr, he, hf⟩ := endc_cells h
  exact ⟨p, wr, by rw [show cs = #[.int .i64 p, .bool wr] from Array.ext' he], hf⟩

theorem fds_cells {W : World} {fl : Nat} {cs : List Value} (h : Shaped Try.prog W fl 45 cs) :
    ∃ (p0 p1 p2 p3 : Int) (b0 b1 b2 b3 : Bool), cs = (fds4 p0 p1 p2 p3 b0 b1 b2 b3).toList ∧ (Lit.int .i64 p0).wf = true ∧ (Lit.int .i64 p1).wf = true ∧ (Lit.int .i64 p2).wf = true ∧ (Lit.int .i64 p3).wf = true := by
  obtain ⟨g1, hl, hf⟩ := shaped_array Try.underlying45 h
  have h8 : Try.prog.cellsOf 45 = 8 := by kernel_rfl
  have h2 : Try.prog.cellsOf 44 = 2 := by kernel_rfl
  rw [h8] at hl
  rw [h2] at hf
  obtain ⟨p0, b0, e0, w0⟩ := endc_cells (hf 0 (by decide))
  obtain ⟨p1, b1, e1, w1⟩ := endc_cells (hf 1 (by decide))
  obtain ⟨p2, b2, e2, w2⟩ := endc_cells (hf 2 (by decide))
  obtain ⟨p3, b3, e3, w3⟩ := endc_cells (hf 3 (by decide))
  refine ⟨p0, p1, p2, p3, b0, b1, b2, b3, ?_, w0, w1, w2, w3⟩
  match cs, hl with
  | [a0, a1, a2, a3, a4, a5, a6, a7], _ =>
    simp at e0 e1 e2 e3
    obtain ⟨rfl, rfl⟩ := e0
    obtain ⟨rfl, rfl⟩ := e1
    obtain ⟨rfl, rfl⟩ := e2
    obtain ⟨rfl, rfl⟩ := e3
    rfl

theorem pipe_arg {W : World} {v : Value} {t : TypeId} (ht : t = 49) (h : ArgShaped Try.prog W t v) : ∃ xs, Sl W true 3 v xs ∧ (∀ x ∈ xs, PipeV x) ∧ xs.length * 32 ≤ 140737488355328 := by
  subst ht
  obtain ⟨xs, hsl, hx, hby⟩ := arg_sl ty_pipe (by decide) pip_one Try.underlying49 h
  refine ⟨xs, hsl, fun x hm => ?_, ?_⟩
  · obtain ⟨d, r, q, e, hd, hr, hq⟩ := pip_el (hsl.val x hm) (hx x hm)
    exact ⟨d, r, q, e, hd, hr, hq⟩
  · have hb : Try.prog.bytesOf 26 = 32 := by kernel_rfl
    rw [hb] at hby
    unfold reachBytes at hby
    omega

theorem pipeNew_args (W : World) (args : Array Value) (hs : args.size = Try.f9.params.size)
    (h : ∀ (j : Nat) (t : TypeId) (v : Value), Try.f9.params[j]? = some t → args[j]? = some v → ArgShaped Try.prog W t v) :
    Calls Try.prog 9 args W fun e w' => e = .returned (.bool true) ∧ Below W.heap.size W w' := by
  obtain ⟨v0, rfl⟩ := arr1 (a := args) hs
  obtain ⟨xs, hsl, hx, hby⟩ := pipe_arg rfl (h 0 _ v0 rfl rfl)
  exact pipeNew_walk v0 xs W hsl hx hby

theorem pipeCounts_args (W : World) (args : Array Value) (hs : args.size = Try.f8.params.size)
    (h : ∀ (j : Nat) (t : TypeId) (v : Value), Try.f8.params[j]? = some t → args[j]? = some v → ArgShaped Try.prog W t v) :
    Calls Try.prog 8 args W fun e w' => e = .returned (.bool true) ∧ Below W.heap.size W w' := by
  obtain ⟨v0, v1, rfl⟩ := arr2 (a := args) hs
  obtain ⟨xs, hsl, hx, hby⟩ := pipe_arg rfl (h 0 _ v0 rfl rfl)
  obtain ⟨cs, fl, rfl, hc⟩ := arg_struct Try.underlying44 (h 1 _ v1 rfl rfl)
  obtain ⟨p, b, e, hp⟩ := endc_cells hc
  obtain rfl := Array.ext' (xs := cs) (ys := #[_, _]) e
  exact pipeCounts_walk v0 xs p b W hsl hx hby hp

theorem pipeSets_args (W : World) (args : Array Value) (hs : args.size = Try.f7.params.size)
    (h : ∀ (j : Nat) (t : TypeId) (v : Value), Try.f7.params[j]? = some t → args[j]? = some v → ArgShaped Try.prog W t v) :
    Calls Try.prog 7 args W fun e w' => e = .returned (.bool true) ∧ Below W.heap.size W w' := by
  obtain ⟨v0, v1, rfl⟩ := arr2 (a := args) hs
  obtain ⟨cs0, fl0, rfl, hc0⟩ := arg_array Try.underlying45 (h 0 _ v0 rfl rfl)
  obtain ⟨p0, p1, p2, p3, b0, b1, b2, b3, e0, f0, f1, f2, f3⟩ := fds_cells hc0
  obtain rfl := Array.ext' e0
  obtain ⟨cs, fl, rfl, hc⟩ := arg_struct Try.underlying44 (h 1 _ v1 rfl rfl)
  obtain ⟨p, b, e, hp⟩ := endc_cells hc
  obtain rfl := Array.ext' (xs := cs) (ys := #[_, _]) e
  by_cases h0 : p0 = 0
  · subst h0; exact pipeSets_0 p1 p2 p3 p b0 b1 b2 b3 b W hp f1 f2 f3
  by_cases h1 : p1 = 0
  · subst h1; exact pipeSets_1 p0 p2 p3 p b0 b1 b2 b3 b W hp f0 f2 f3 h0
  by_cases h2 : p2 = 0
  · subst h2; exact pipeSets_2 p0 p1 p3 p b0 b1 b2 b3 b W hp f0 f1 f3 h0 h1
  by_cases h3 : p3 = 0
  · subst h3; exact pipeSets_3 p0 p1 p2 p b0 b1 b2 b3 b W hp f0 f1 f2 h0 h1 h2
  exact pipeSets_4 p0 p1 p2 p3 p b0 b1 b2 b3 b W hp f0 f1 f2 f3 h0 h1 h2 h3
end Go.Proofs.Ythnfcmfdengnbaa
