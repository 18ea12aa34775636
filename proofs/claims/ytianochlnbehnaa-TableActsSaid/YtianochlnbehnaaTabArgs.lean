/- Rows of processes, and processes, that came in as arguments. Conditions: none. -/
import Derived.Test.YtianochlnbehnaaTabLib
import Derived.Test.YtianochlnbehnaaLib3
import Derived.Test.YtianochlnbehnaaCpuArg
namespace Go.Proofs.Ytianochlnbehnaa
open Go Go.RowKit Go.Tm
set_option linter.unusedVariables false
set_option linter.unusedSimpArgs false

theorem endc_cells {W : World} {fl : Nat} {cs : List Value} (h : Shaped Try.prog W fl 28 cs) :
    ∃ (p : Int) (wr : Bool), cs = [.int .i64 p, .bool wr] ∧ (Lit.int .i64 p).wf = true := by
  obtain ⟨g1, hl, hf⟩ := shaped_struct Try.underlying28 h
  have h3 : Try.prog.cellsOf 28 = 2 := by kernel_rfl
  rw [h3] at hl
  have f0 : Shaped Try.prog W g1 3 ((cs.drop 0).take (Try.prog.cellsOf 3)) := hf 0 _ rfl
  have f1 : Shaped Try.prog W g1 4 ((cs.drop 1).take (Try.prog.cellsOf 4)) := hf 1 _ rfl
  rw [show Try.prog.cellsOf 3 = 1 by kernel_rfl] at f0
  rw [show Try.prog.cellsOf 4 = 1 by kernel_rfl] at f1
  obtain ⟨p, c0, hp⟩ := shaped_wf Try.underlying3 f0
  obtain ⟨wr, c1⟩ := shaped_bool Try.underlying4 f1
  exact ⟨p, wr, list2 hl (chunk1 c0) (chunk1 c1), hp⟩
theorem endc_one {W : World} (g : Nat) (es : List Value) (h : Shaped Try.prog W g 28 es) : ∀ c ∈ es, c.oneCell' = true := by
  obtain ⟨p, wr, rfl, _⟩ := endc_cells h
  intro c hc
  simp only [List.mem_cons, List.not_mem_nil, or_false] at hc
  rcases hc with rfl | rfl <;> rfl
theorem endc_el {W : World} {x : Value} (hv : Val true 2 x) (h : ∃ g, Shaped Try.prog W g 28 x.cells.toList) :
    ∃ (p : Int) (wr : Bool), x = .agg #[.int .i64 p, .bool wr] ∧ (Lit.int .i64 p).wf = true := by
  obtain ⟨g, h⟩ := h
  obtain ⟨cs, rfl, hs, _⟩ : ∃ cs : Array Value, x = .agg cs ∧ cs.size = 2 ∧ ∀ c ∈ cs.toList, c.oneCell' = true := hv
  obtain ⟨p, wr, he, hf⟩ := endc_cells h
  exact ⟨p, wr, by rw [show cs = #[.int .i64 p, .bool wr] from Array.ext' he], hf⟩

theorem callc_cells {W : World} {fl : Nat} {cs : List Value} (h : Shaped Try.prog W fl 31 cs) :
    ∃ (n : Int) (a : Int) (b : Int) (c : Int), cs = [.int .u32 n, .int .u32 a, .int .u32 b, .int .u32 c] ∧ (Lit.int .u32 n).wf = true ∧ (Lit.int .u32 a).wf = true ∧ (Lit.int .u32 b).wf = true ∧ (Lit.int .u32 c).wf = true := by
  obtain ⟨g1, hl, hf⟩ := shaped_struct Try.underlying31 h
  have h3 : Try.prog.cellsOf 31 = 4 := by kernel_rfl
  rw [h3] at hl
  have f0 : Shaped Try.prog W g1 23 ((cs.drop 0).take (Try.prog.cellsOf 23)) := hf 0 _ rfl
  have f1 : Shaped Try.prog W g1 23 ((cs.drop 1).take (Try.prog.cellsOf 23)) := hf 1 _ rfl
  have f2 : Shaped Try.prog W g1 23 ((cs.drop 2).take (Try.prog.cellsOf 23)) := hf 2 _ rfl
  have f3 : Shaped Try.prog W g1 23 ((cs.drop 3).take (Try.prog.cellsOf 23)) := hf 3 _ rfl
  rw [show Try.prog.cellsOf 23 = 1 by kernel_rfl] at f0 f1 f2 f3
  obtain ⟨n, c0, hn⟩ := shaped_wf Try.underlying23 f0
  obtain ⟨a, c1, ha⟩ := shaped_wf Try.underlying23 f1
  obtain ⟨b, c2, hb⟩ := shaped_wf Try.underlying23 f2
  obtain ⟨c, c3, hc⟩ := shaped_wf Try.underlying23 f3
  exact ⟨n, a, b, c, list4 hl (chunk1 c0) (chunk1 c1) (chunk1 c2) (chunk1 c3), hn, ha, hb, hc⟩
theorem callc_one {W : World} (g : Nat) (es : List Value) (h : Shaped Try.prog W g 31 es) : ∀ c ∈ es, c.oneCell' = true := by
  obtain ⟨n, a, b, c, rfl, _⟩ := callc_cells h
  intro c hc
  simp only [List.mem_cons, List.not_mem_nil, or_false] at hc
  rcases hc with rfl | rfl | rfl | rfl <;> rfl
theorem callc_el {W : World} {x : Value} (hv : Val true 4 x) (h : ∃ g, Shaped Try.prog W g 31 x.cells.toList) :
    ∃ (n : Int) (a : Int) (b : Int) (c : Int), x = .agg #[.int .u32 n, .int .u32 a, .int .u32 b, .int .u32 c] ∧ (Lit.int .u32 n).wf = true ∧ (Lit.int .u32 a).wf = true ∧ (Lit.int .u32 b).wf = true ∧ (Lit.int .u32 c).wf = true := by
  obtain ⟨g, h⟩ := h
  obtain ⟨cs, rfl, hs, _⟩ : ∃ cs : Array Value, x = .agg cs ∧ cs.size = 4 ∧ ∀ c ∈ cs.toList, c.oneCell' = true := hv
  obtain ⟨n, a, b, c, he, hf⟩ := callc_cells h
  exact ⟨n, a, b, c, by rw [show cs = #[.int .u32 n, .int .u32 a, .int .u32 b, .int .u32 c] from Array.ext' he], hf⟩

theorem fds_cells {W : World} {fl : Nat} {cs : List Value} (h : Shaped Try.prog W fl 29 cs) :
    ∃ (p0 p1 p2 p3 : Int) (b0 b1 b2 b3 : Bool), cs = [.int .i64 p0, .bool b0, .int .i64 p1, .bool b1, .int .i64 p2, .bool b2, .int .i64 p3, .bool b3] ∧ (Lit.int .i64 p0).wf = true ∧ (Lit.int .i64 p1).wf = true ∧ (Lit.int .i64 p2).wf = true ∧ (Lit.int .i64 p3).wf = true := by
  obtain ⟨g1, hl, hf⟩ := shaped_array Try.underlying29 h
  have h8 : Try.prog.cellsOf 29 = 8 := by kernel_rfl
  have h2 : Try.prog.cellsOf 28 = 2 := by kernel_rfl
  rw [h8] at hl
  rw [h2] at hf
  obtain ⟨p0, b0, e0, w0⟩ := endc_cells (hf 0 (by decide))
  obtain ⟨p1, b1, e1, w1⟩ := endc_cells (hf 1 (by decide))
  obtain ⟨p2, b2, e2, w2⟩ := endc_cells (hf 2 (by decide))
  obtain ⟨p3, b3, e3, w3⟩ := endc_cells (hf 3 (by decide))
  refine ⟨p0, p1, p2, p3, b0, b1, b2, b3, ?_, w0, w1, w2, w3⟩
  match cs, hl with
  | [a0, a1, a2, a3, a4, a5, a6, a7], _ =>
    simp at e0 e1 e2 e3
    obtain ⟨rfl, rfl⟩ := e0
    obtain ⟨rfl, rfl⟩ := e1
    obtain ⟨rfl, rfl⟩ := e2
    obtain ⟨rfl, rfl⟩ := e3
    rfl
theorem list26 {α : Type} {l : List α} (h : l.length = 26) : l = l.take 1 ++ ((l.drop 1).take 1 ++ ((l.drop 2).take 1 ++ ((l.drop 3).take 9 ++ ((l.drop 12).take 1 ++ ((l.drop 13).take 1 ++ ((l.drop 14).take 8 ++ (l.drop 22).take 4)))))) := by
  match l, h with
  | [_, _, _, _, _, _, _, _, _, _, _, _, _, _, _, _, _, _, _, _, _, _, _, _, _, _], _ => rfl
theorem proc_cells {W : World} {fl : Nat} {cs : List Value} (h : Shaped Try.prog W fl 33 cs) : ∃ p : Prc, cs = (prC p).toList ∧ PrWf p := by
  obtain ⟨g1, hl, hf⟩ := shaped_struct Try.underlying33 h
  have k0 : Try.prog.cellsOf 33 = 26 := by kernel_rfl
  have k1 : Try.prog.cellsOf 3 = 1 := by kernel_rfl
  have k2 : Try.prog.cellsOf 26 = 9 := by kernel_rfl
  have k3 : Try.prog.cellsOf 9 = 1 := by kernel_rfl
  have k4 : Try.prog.cellsOf 29 = 8 := by kernel_rfl
  have k5 : Try.prog.cellsOf 31 = 4 := by kernel_rfl
  rw [k0] at hl
  have f0 : Shaped Try.prog W g1 3 ((cs.drop 0).take (Try.prog.cellsOf 3)) := hf 0 _ rfl
  have f1 : Shaped Try.prog W g1 3 ((cs.drop 1).take (Try.prog.cellsOf 3)) := hf 1 _ rfl
  have f2 : Shaped Try.prog W g1 3 ((cs.drop 2).take (Try.prog.cellsOf 3)) := hf 2 _ rfl
  have f3 : Shaped Try.prog W g1 26 ((cs.drop 3).take (Try.prog.cellsOf 26)) := hf 3 _ rfl
  have f4 : Shaped Try.prog W g1 9 ((cs.drop 12).take (Try.prog.cellsOf 9)) := hf 4 _ rfl
  have f5 : Shaped Try.prog W g1 3 ((cs.drop 13).take (Try.prog.cellsOf 3)) := hf 5 _ rfl
  have f6 : Shaped Try.prog W g1 29 ((cs.drop 14).take (Try.prog.cellsOf 29)) := hf 6 _ rfl
  have f7 : Shaped Try.prog W g1 31 ((cs.drop 22).take (Try.prog.cellsOf 31)) := hf 7 _ rfl
  rw [k1, List.drop_zero] at f0
  rw [k1] at f1 f2 f5
  rw [k2] at f3
  rw [k3] at f4
  rw [k4] at f6
  rw [k5] at f7
  obtain ⟨pid, e0, w0⟩ := shaped_wf Try.underlying3 f0
  obtain ⟨par, e1, w1⟩ := shaped_wf Try.underlying3 f1
  obtain ⟨st, e2, w2⟩ := shaped_wf Try.underlying3 f2
  obtain ⟨r0, r1, r2, r3, r4, r5, r6, r7, pc, e3, g0, g1', g2, g3, g4, g5, g6, g7, g8⟩ := cpu_cells f3
  obtain ⟨mem, e4, hm, _⟩ := shaped_string Try.underlying9 f4
  obtain ⟨code, e5, w5⟩ := shaped_wf Try.underlying3 f5
  obtain ⟨p0, p1, p2, p3, b0, b1, b2, b3, e6, q0, q1, q2, q3⟩ := fds_cells f6
  obtain ⟨n, a, b, c, e7, m0, m1, m2, m3⟩ := callc_cells f7
  have hok : RestOk (restL r0 r1 r2 r3 r4 r5 r6 r7 pc mem code p0 b0 p1 b1 p2 b2 p3 b3 n a b c) := by
    refine ⟨_, _, _, _, _, _, _, _, _, _, _, _, _, _, _, _, _, _, _, _, _, _, _, rfl, hm, ?_, ?_⟩
    · intro x hx
      simp only [List.mem_cons, List.not_mem_nil, or_false] at hx
      rcases hx with rfl | rfl | rfl | rfl | rfl | rfl | rfl | rfl | rfl | rfl | rfl | rfl | rfl <;> assumption
    · intro x hx
      simp only [List.mem_cons, List.not_mem_nil, or_false] at hx
      rcases hx with rfl | rfl | rfl | rfl | rfl <;> assumption
  refine ⟨⟨pid, par, st, _, hok⟩, ?_, w0, w1, w2⟩
  refine (list26 hl).trans ?_
  rw [e0, e1, e2, e3, e4, e5, e6, e7, prC_eq]
  rfl
theorem procc_one {W : World} (g : Nat) (es : List Value) (h : Shaped Try.prog W g 33 es) : ∀ c ∈ es, c.oneCell' = true := by
  obtain ⟨p, rfl, _⟩ := proc_cells h
  exact (pr_val p).one
theorem prs_of {xs : List Value} (h : ∀ x ∈ xs, ∃ p : Prc, x = prV p ∧ PrWf p) : ∃ l : List Prc, xs = prs l ∧ ∀ p ∈ l, PrWf p := by
  induction xs with
  | nil => exact ⟨[], rfl, by simp⟩
  | cons x xs ih =>
    obtain ⟨a, rfl, ha⟩ := h x (by simp)
    obtain ⟨l, rfl, hl⟩ := ih fun y hy => h y (by simp [hy])
    exact ⟨a :: l, rfl, by intro b hb; rcases List.mem_cons.1 hb with rfl | hb; exact ha; exact hl b hb⟩
theorem prs_shaped {W : World} {fl : Nat} {v : Value} (h : Shaped Try.prog W fl 22 [v]) : ∃ l : List Prc, Sl W true 26 v (prs l) ∧ l.length * 168 ≤ 140737488351232 ∧ ∀ p ∈ l, PrWf p := by
  obtain ⟨xs, hsl, hx, hby⟩ := sl_of_shaped ty_proc (by decide) procc_one Try.underlying22 h
  obtain ⟨l, rfl, hl⟩ := prs_of (xs := xs) fun x hm => by
    obtain ⟨g, hg⟩ := hx x hm
    obtain ⟨cs, rfl, _, _⟩ : ∃ cs : Array Value, x = .agg cs ∧ cs.size = 26 ∧ ∀ c ∈ cs.toList, c.oneCell' = true := hsl.val x hm
    obtain ⟨p, e, hp⟩ := proc_cells hg
    exact ⟨p, congrArg Value.agg (Array.ext' e), hp⟩
  refine ⟨l, hsl, ?_, hl⟩
  have hb : Try.prog.bytesOf 33 = 168 := by kernel_rfl
  rw [hb, prs_len] at hby
  unfold reachBytes at hby
  omega
theorem prs_arg {W : World} {v : Value} (h : ArgShaped Try.prog W 22 v) : ∃ l : List Prc, Sl W true 26 v (prs l) ∧ l.length * 168 ≤ 140737488351232 ∧ ∀ p ∈ l, PrWf p := by
  obtain ⟨f, hf⟩ := arg_slice Try.underlying22 h
  exact prs_shaped hf
theorem pr_arg {W : World} {v : Value} (h : ArgShaped Try.prog W 33 v) : ∃ p : Prc, v = prV p ∧ PrWf p := by
  obtain ⟨cs, fl, rfl, hc⟩ := arg_struct Try.underlying33 h
  obtain ⟨p, e, hp⟩ := proc_cells hc
  exact ⟨p, congrArg Value.agg (Array.ext' e), hp⟩
end Go.Proofs.Ytianochlnbehnaa
