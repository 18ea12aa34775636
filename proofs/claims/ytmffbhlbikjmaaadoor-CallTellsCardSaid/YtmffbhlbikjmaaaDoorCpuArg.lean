/- A Cpu that came in: its nine words. Conditions: none. -/
import Derived.Test.YtmffbhlbikjmaaaDoorRows
import Derived.Test.YtmffbhlbikjmaaaDoorLib1
namespace Go.Proofs.YtmffbhlbikjmaaaDoor
open Go Go.RowKit Go.Tm
set_option linter.unusedVariables false

theorem list8 {α : Type} {l : List α} (h : l.length = 8) : ∃ a b c d e f g h, l = [a, b, c, d, e, f, g, h] := by
  match l, h with
  | [a, b, c, d, e, f, g, h], _ => exact ⟨a, b, c, d, e, f, g, h, rfl⟩

theorem cpu_cells {W : World} {fl : Nat} {cs : List Value} (h : Shaped Tryd.prog W fl 29 cs) :
    ∃ a b c d e f g h pc : Int, cs = [.int .u32 a, .int .u32 b, .int .u32 c, .int .u32 d, .int .u32 e, .int .u32 f, .int .u32 g, .int .u32 h, .int .u32 pc] ∧
      (Lit.int .u32 a).wf = true ∧ (Lit.int .u32 b).wf = true ∧ (Lit.int .u32 c).wf = true ∧ (Lit.int .u32 d).wf = true ∧ (Lit.int .u32 e).wf = true ∧ (Lit.int .u32 f).wf = true ∧ (Lit.int .u32 g).wf = true ∧ (Lit.int .u32 h).wf = true ∧ (Lit.int .u32 pc).wf = true := by
  obtain ⟨g1, hl, hf⟩ := shaped_struct Tryd.underlying29 h
  have h9 : Tryd.prog.cellsOf 29 = 9 := by kernel_rfl
  have h8 : Tryd.prog.cellsOf 27 = 8 := by kernel_rfl
  have h1 : Tryd.prog.cellsOf 22 = 1 := by kernel_rfl
  rw [h9] at hl
  have hR : Shaped Tryd.prog W g1 27 ((cs.drop 0).take (Tryd.prog.cellsOf 27)) := hf 0 _ rfl
  have hP : Shaped Tryd.prog W g1 22 ((cs.drop 8).take (Tryd.prog.cellsOf 22)) := hf 1 _ rfl
  simp only [h8, h1, List.drop_zero] at hR hP
  obtain ⟨l, ll, hls, hw⟩ := shaped_ints Tryd.underlying27 Tryd.underlying22 h1 h8 hR
  obtain ⟨pc, hpc, hwp⟩ := shaped_wf Tryd.underlying22 hP
  obtain ⟨a, b, c, d, e, f, g, h, rfl⟩ := list8 ll
  have hcs : cs = cs.take 8 ++ (cs.drop 8).take 1 := by
    rw [← List.take_add]
    exact (List.take_of_length_le (by omega)).symm
  refine ⟨a, b, c, d, e, f, g, h, pc, ?_, hw a (by simp), hw b (by simp), hw c (by simp), hw d (by simp), hw e (by simp), hw f (by simp), hw g (by simp), hw h (by simp), hwp⟩
  rw [hcs, hls, hpc]
  rfl
end Go.Proofs.YtmffbhlbikjmaaaDoor
