/- A Cpu that came in: its nine words. Conditions: none. -/
import Derived.Test.YtianochlnbehnaaRows
import Derived.Test.YtianochlnbehnaaLib1
namespace Go.Proofs.Ytianochlnbehnaa
open Go Go.RowKit Go.Tm
set_option linter.unusedVariables false

theorem list8 {α : Type} {l : List α} (h : l.length = 8) : ∃ a b c d e f g h, l = [a, b, c, d, e, f, g, h] := by
  match l, h with
  | [a, b, c, d, e, f, g, h], _ => exact ⟨a, b, c, d, e, f, g, h, rfl⟩

theorem cpu_cells {W : World} {fl : Nat} {cs : List Value} (h : Shaped Try.prog W fl 26 cs) :
    ∃ a b c d e f g h pc : Int, cs = [.int .u32 a, .int .u32 b, .int .u32 c, .int .u32 d, .int .u32 e, .int .u32 f, .int .u32 g, .int .u32 h, .int .u32 pc] ∧
      (Lit.int .u32 a).wf = true ∧ (Lit.int .u32 b).wf = true ∧ (Lit.int .u32 c).wf = true ∧ (Lit.int .u32 d).wf = true ∧ (Lit.int .u32 e).wf = true ∧ (Lit.int .u32 f).wf = true ∧ (Lit.int .u32 g).wf = true ∧ (Lit.int .u32 h).wf = true ∧ (Lit.int .u32 pc).wf = true := by
  obtain ⟨g1, hl, hf⟩ := shaped_struct Try.underlying26 h
  have h9 : Try.prog.cellsOf 26 = 9 := by kernel_rfl
  have h8 : Try.prog.cellsOf 24 = 8 := by kernel_rfl
  have h1 : Try.prog.cellsOf 23 = 1 := by kernel_rfl
  rw [h9] at hl
  have hR : Shaped Try.prog W g1 24 ((cs.drop 0).take (Try.prog.cellsOf 24)) := hf 0 _ rfl
  have hP : Shaped Try.prog W g1 23 ((cs.drop 8).take (Try.prog.cellsOf 23)) := hf 1 _ rfl
  simp only [h8, h1, List.drop_zero] at hR hP
  obtain ⟨l, ll, hls, hw⟩ := shaped_ints Try.underlying24 Try.underlying23 h1 h8 hR
  obtain ⟨pc, hpc, hwp⟩ := shaped_wf Try.underlying23 hP
  obtain ⟨a, b, c, d, e, f, g, h, rfl⟩ := list8 ll
  have hcs : cs = cs.take 8 ++ (cs.drop 8).take 1 := by
    rw [← List.take_add]
    exact (List.take_of_length_le (by omega)).symm
  refine ⟨a, b, c, d, e, f, g, h, pc, ?_, hw a (by simp), hw b (by simp), hw c (by simp), hw d (by simp), hw e (by simp), hw f (by simp), hw g (by simp), hw h (by simp), hwp⟩
  rw [hcs, hls, hpc]
  rfl
end Go.Proofs.Ytianochlnbehnaa
