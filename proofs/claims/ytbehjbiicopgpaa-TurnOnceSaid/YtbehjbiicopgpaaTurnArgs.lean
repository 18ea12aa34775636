/- A turn that came in as an argument. Conditions: none. -/
import Derived.Test.YtbehjbiicopgpaaTurnLib
import Derived.Test.YtbehjbiicopgpaaLib3
namespace Go.Proofs.Ytbehjbiicopgpaa
open Go Go.RowKit Go.Tm
set_option linter.unusedVariables false
set_option linter.unusedSimpArgs false

theorem ints_of {xs : List Value} (h : ∀ x ∈ xs, ∃ n, x = .int .i64 n ∧ (Lit.int .i64 n).wf = true) : ∃ l : List Int, xs = ints l ∧ ∀ n ∈ l, (Lit.int .i64 n).wf = true := by
  induction xs with
  | nil => exact ⟨[], rfl, by simp⟩
  | cons x xs ih =>
    obtain ⟨n, rfl, hn⟩ := h x (by simp)
    obtain ⟨l, rfl, hl⟩ := ih fun y hy => h y (by simp [hy])
    exact ⟨n :: l, rfl, by simpa [hn] using hl⟩
theorem int_one {W : World} (g : Nat) (es : List Value) (h : Shaped Try.prog W g 3 es) : ∀ c ∈ es, c.oneCell' = true := by
  obtain ⟨n, rfl, _⟩ := shaped_wf Try.underlying3 h
  intro c hc; simp at hc; subst hc; rfl
theorem ints_shaped {W : World} {fl : Nat} {v : Value} (h : Shaped Try.prog W fl 22 [v]) : ∃ l : List Int, Sl W false 1 v (ints l) ∧ l.length * 8 ≤ 140737488351232 ∧ ∀ n ∈ l, (Lit.int .i64 n).wf = true := by
  obtain ⟨xs, hsl, hx, hby⟩ := sl_of_shaped ty_int (by decide) int_one Try.underlying22 h
  obtain ⟨l, rfl, hl⟩ := ints_of (xs := xs) fun x hm => by
    obtain ⟨g, hg⟩ := hx x hm
    obtain ⟨n, hn, hw⟩ := shaped_wf Try.underlying3 hg
    obtain ⟨h1, _⟩ : x.oneCell' = true ∧ 1 = 1 := hsl.val x hm
    refine ⟨n, ?_, hw⟩
    have hc : x.cells = #[x] := by cases x <;> first | rfl | simp [Value.oneCell'] at h1
    rw [hc] at hn
    simpa using hn
  refine ⟨l, hsl, ?_, hl⟩
  have hb : Try.prog.bytesOf 3 = 8 := by kernel_rfl
  rw [hb, ints_len] at hby
  unfold reachBytes at hby
  omega
theorem turn_cells {W : World} {fl : Nat} {cs : List Value} (h : Shaped Try.prog W fl 24 cs) :
    ∃ (v : Value) (l : List Int) (n : Int), cs = [v, .int .i64 n] ∧ Sl W false 1 v (ints l) ∧ l.length * 8 ≤ 140737488351232 ∧ (Lit.int .i64 n).wf = true := by
  obtain ⟨g1, hl, hf⟩ := shaped_struct Try.underlying24 h
  have k0 : Try.prog.cellsOf 24 = 2 := by kernel_rfl
  have k1 : Try.prog.cellsOf 22 = 1 := by kernel_rfl
  have k2 : Try.prog.cellsOf 3 = 1 := by kernel_rfl
  rw [k0] at hl
  have f0 : Shaped Try.prog W g1 22 ((cs.drop 0).take (Try.prog.cellsOf 22)) := hf 0 _ rfl
  have f1 : Shaped Try.prog W g1 3 ((cs.drop 1).take (Try.prog.cellsOf 3)) := hf 1 _ rfl
  rw [k1] at f0
  rw [k2] at f1
  match cs, hl with
  | [a0, a1], _ =>
    simp only [List.drop_zero, List.drop_succ_cons, List.take_succ_cons, List.take_zero] at f0 f1
    obtain ⟨l, hsl, hby, _⟩ := ints_shaped f0
    obtain ⟨n, e1, w1⟩ := shaped_wf Try.underlying3 f1
    simp at e1
    subst e1
    exact ⟨a0, l, n, rfl, hsl, hby, w1⟩
theorem turn_arg {W : World} {v : Value} (h : ArgShaped Try.prog W 24 v) :
    ∃ (u : Value) (l : List Int) (n : Int), v = .agg #[u, .int .i64 n] ∧ Sl W false 1 u (ints l) ∧ l.length * 8 ≤ 140737488351232 ∧ (Lit.int .i64 n).wf = true := by
  obtain ⟨cs, fl, rfl, hc⟩ := arg_struct Try.underlying24 h
  obtain ⟨u, l, n, e, hsl, hby, hn⟩ := turn_cells hc
  obtain rfl := Array.ext' (xs := cs) (ys := #[_, _]) e
  exact ⟨u, l, n, rfl, hsl, hby, hn⟩
theorem wf_range {n : Int} (h : (Lit.int .i64 n).wf = true) : -9223372036854775808 ≤ n ∧ n ≤ 9223372036854775807 := by
  simpa [Lit.wf, IntKind.min, IntKind.max, IntKind.bits, IntKind.signed] using h
end Go.Proofs.Ytbehjbiicopgpaa
