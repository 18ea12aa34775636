/- PipeRows from its argument as it comes. Conditions: none. -/
import Derived.Test.YthnfcmfdengnbaaPipeRows
import Derived.Test.YthnfcmfdengnbaaPipeArgs3
namespace Go.Proofs.Ythnfcmfdengnbaa
open Go Go.RowKit Go.Tm
set_option linter.unusedVariables false
set_option linter.unusedSimpArgs false

theorem rows_cells {W : World} {fl : Nat} {cs : List Value} (h : Shaped Try.prog W fl 57 cs) :
    ∃ (v : Value) (e n : Int) (wb : Bool) (p0 p1 p2 p3 : Int) (b0 b1 b2 b3 : Bool), cs = [v, .int .i64 e, .bool wb, .int .i64 n, .int .i64 p0, .bool b0, .int .i64 p1, .bool b1, .int .i64 p2, .bool b2, .int .i64 p3, .bool b3] ∧
      (∃ xs, Sl W true 3 v xs ∧ (∀ x ∈ xs, PipeV x) ∧ xs.length * 32 ≤ 140737488355328) ∧ (Lit.int .i64 e).wf = true ∧
      (Lit.int .i64 p0).wf = true ∧ (Lit.int .i64 p1).wf = true ∧ (Lit.int .i64 p2).wf = true ∧ (Lit.int .i64 p3).wf = true := by
  obtain ⟨g1, hl, hf⟩ := shaped_struct Try.underlying57 h
  have k0 : Try.prog.cellsOf 57 = 12 := by kernel_rfl
  have k1 : Try.prog.cellsOf 49 = 1 := by kernel_rfl
  have k2 : Try.prog.cellsOf 44 = 2 := by kernel_rfl
  have k3 : Try.prog.cellsOf 3 = 1 := by kernel_rfl
  have k4 : Try.prog.cellsOf 45 = 8 := by kernel_rfl
  rw [k0] at hl
  have f0 : Shaped Try.prog W g1 49 ((cs.drop 0).take (Try.prog.cellsOf 49)) := hf 0 _ rfl
  have f1 : Shaped Try.prog W g1 44 ((cs.drop 1).take (Try.prog.cellsOf 44)) := hf 1 _ rfl
  have f2 : Shaped Try.prog W g1 3 ((cs.drop 3).take (Try.prog.cellsOf 3)) := hf 2 _ rfl
  have f3 : Shaped Try.prog W g1 45 ((cs.drop 4).take (Try.prog.cellsOf 45)) := hf 3 _ rfl
  rw [k1] at f0
  rw [k2] at f1
  rw [k3] at f2
  rw [k4] at f3
  match cs, hl with
  | [a0, a1, a2, a3, a4, a5, a6, a7, a8, a9, a10, a11], _ =>
    simp only [List.drop_zero, List.drop_succ_cons, List.take_succ_cons, List.take_zero] at f0 f1 f2 f3
    obtain ⟨xs, hsl, hx, hby⟩ := sl_of_shaped ty_pipe (by decide) pip_one Try.underlying49 f0
    obtain ⟨e, wb, e1, w1⟩ := endc_cells f1
    obtain ⟨n, e2, w2⟩ := shaped_wf Try.underlying3 f2
    obtain ⟨p0, p1, p2, p3, b0, b1, b2, b3, e3, g0, g1, g2, g3⟩ := fds_cells f3
    simp at e1 e2 e3
    obtain ⟨rfl, rfl⟩ := e1
    subst e2
    obtain ⟨rfl, rfl, rfl, rfl, rfl, rfl, rfl, rfl⟩ := e3
    refine ⟨a0, e, n, wb, p0, p1, p2, p3, b0, b1, b2, b3, rfl, ⟨xs, hsl, fun x hm => ?_, ?_⟩, w1, g0, g1, g2, g3⟩
    · obtain ⟨d, r, q, e, hd, hr, hq⟩ := pip_el (hsl.val x hm) (hx x hm)
      exact ⟨d, r, q, e, hd, hr, hq⟩
    · have hb : Try.prog.bytesOf 26 = 32 := by kernel_rfl
      rw [hb] at hby
      unfold reachBytes at hby
      omega

theorem pipeRows_args (W : World) (args : Array Value) (hs : args.size = Try.f10.params.size)
    (h : ∀ (j : Nat) (t : TypeId) (v : Value), Try.f10.params[j]? = some t → args[j]? = some v → ArgShaped Try.prog W t v) :
    Calls Try.prog 10 args W fun e w' => e = .returned (.bool true) ∧ Below W.heap.size W w' := by
  obtain ⟨v0, rfl⟩ := arr1 (a := args) hs
  obtain ⟨cs0, fl0, rfl, hc0⟩ := arg_struct Try.underlying57 (h 0 _ v0 rfl rfl)
  obtain ⟨v, e, n, wb, p0, p1, p2, p3, b0, b1, b2, b3, e0, ⟨xs, hsl, hx, hby⟩, he, g0, g1, g2, g3⟩ := rows_cells hc0
  obtain rfl := Array.ext' (xs := cs0) (ys := #[_, _, _, _, _, _, _, _, _, _, _, _]) e0
  exact pipeRows_walk v xs e n wb p0 p1 p2 p3 b0 b1 b2 b3 W hsl hx hby he g0 g1 g2 g3
end Go.Proofs.Ythnfcmfdengnbaa
