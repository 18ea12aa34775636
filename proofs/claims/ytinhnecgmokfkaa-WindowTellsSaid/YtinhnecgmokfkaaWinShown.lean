/- The document's example of package window. Conditions: none. -/
import Derived.Test.YtinhnecgmokfkaaWinFns3
import Derived.Test.YtinhnecgmokfkaaRefCheck
namespace Go.Proofs.Ytinhnecgmokfkaa
open Go Go.RowKit Go.Tm
set_option linter.unusedVariables false
set_option linter.unusedSimpArgs false

def p0 : Pln := ⟨[(64, 1, 1, 1)], 10, [[(0, 0, 10)]], []⟩
theorem p0_ok : PlanOk p0 := by
  refine ⟨by decide, by decide, by decide, by decide, by decide, by decide, by decide, by decide, by decide, ?_, ?_⟩
  · intro l hl
    obtain rfl : l = [(0, 0, 10)] := by simpa [p0] using hl
    exact ⟨by decide, by decide, trivial⟩
  · intro c hc; cases hc
theorem p0_wins : winsOf p0 0 = [(0, 0, 10)] := winsOf_at p0_ok (by decide) (by decide) rfl
theorem p0_at1 : atS p0 0 1 = (0, 1) := by unfold atS; rw [p0_wins]; decide
theorem p0_at2 : atS p0 0 2 = (0, 2) := by unfold atS; rw [p0_wins]; decide
theorem p0_frame : frameS p0 0 0 10 = 8 := by unfold frameS; rw [p0_wins]; decide

theorem p0_is (w : World) : PlanIs (((w.alloc (.cells #[.int .i64 64, .int .i64 1, .int .i64 1, .int .i64 1] 52)).alloc (.cells #[.int .i64 0, .int .i64 0, .int .i64 10] 48)).alloc (.cells #[.slice (some ⟨w.heap.size + 1, 0, none⟩) 1 1] 46)) (.slice (some ⟨w.heap.size, 0, none⟩) 1 1) (.slice (some ⟨w.heap.size + 1 + 1, 0, none⟩) 1 1) (.slice none 0 0) p0 := by
  have h1 : Sl (w.alloc (.cells #[.int .i64 64, .int .i64 1, .int .i64 1, .int .i64 1] 52)) true 4 (.slice (some ⟨w.heap.size, 0, none⟩) 1 1) [ptV (64, 1, 1, 1)] := Sl.made1 (E := 52) (pt_val (64, 1, 1, 1)) rfl
  have h2 : Sl ((w.alloc (.cells #[.int .i64 64, .int .i64 1, .int .i64 1, .int .i64 1] 52)).alloc (.cells #[.int .i64 0, .int .i64 0, .int .i64 10] 48)) true 3 (.slice (some ⟨w.heap.size + 1, 0, none⟩) 1 1) [wnV (0, 0, 10)] := Sl.made1 (E := 48) (wn_val (0, 0, 10)) (by simp)
  have h3 : Sl (((w.alloc (.cells #[.int .i64 64, .int .i64 1, .int .i64 1, .int .i64 1] 52)).alloc (.cells #[.int .i64 0, .int .i64 0, .int .i64 10] 48)).alloc (.cells #[.slice (some ⟨w.heap.size + 1, 0, none⟩) 1 1] 46)) false 1 (.slice (some ⟨w.heap.size + 1 + 1, 0, none⟩) 1 1) [.slice (some ⟨w.heap.size + 1, 0, none⟩) 1 1] := Sl.made1 (E := 46) (show Val false 1 (Value.slice (some ⟨w.heap.size + 1, 0, none⟩) 1 1) from ⟨rfl, rfl⟩) (by simp)
  refine ⟨(h1.alloc _).alloc _, ⟨_, h3, rfl, ?_⟩, Sl.nil _ _ _⟩
  intro i u l hu hl
  match i, hu, hl with
  | 0, hu, hl => cases hu; cases hl; exact h2.alloc _
set_option maxHeartbeats 4000000 in
theorem shown_any (w : World) : Calls Try.prog 10 #[] w fun e w' => e = .returned (.bool true) ∧ Below w.heap.size w w' := by
  have HA1 := fun pv wv cv W h => at_any pv wv cv p0 0 1 W h (by decide) (by decide)
  have HA2 := fun pv wv cv W h => at_any pv wv cv p0 0 2 W h (by decide) (by decide)
  have HF := fun pv wv cv W h => frame_any pv wv cv p0 0 0 10 W h (by decide)
  rw [p0_at1] at HA1
  rw [p0_at2] at HA2
  rw [p0_frame] at HF
  have KA1 := Lib.hid HA1
  have KA2 := Lib.hid HA2
  have KF := Lib.hid HF
  clear HA1 HA2 HF
  go_enter Try.func10, Try.ntmps10
  go_wp2_with fail
  have hpl := (p0_is w).below ((Below.refl _ _).alloc (Nat.le_refl _) (.cells #[.slice (some ⟨w.heap.size, 0, none⟩) 1 1, .int .i64 10, .slice (some ⟨w.heap.size + 1 + 1, 0, none⟩) 1 1, .slice none 0 0] 26))
  have hbx := Box.new (((w.alloc (.cells #[.int .i64 64, .int .i64 1, .int .i64 1, .int .i64 1] 52)).alloc (.cells #[.int .i64 0, .int .i64 0, .int .i64 10] 48)).alloc (.cells #[.slice (some ⟨w.heap.size + 1, 0, none⟩) 1 1] 46)) (#[.slice (some ⟨w.heap.size, 0, none⟩) 1 1, .int .i64 10, .slice (some ⟨w.heap.size + 1 + 1, 0, none⟩) 1 1, .slice none 0 0] : Array Value) 26
  rw [show (((w.alloc (.cells #[.int .i64 64, .int .i64 1, .int .i64 1, .int .i64 1] 52)).alloc (.cells #[.int .i64 0, .int .i64 0, .int .i64 10] 48)).alloc (.cells #[.slice (some ⟨w.heap.size + 1, 0, none⟩) 1 1] 46)).heap.size = w.heap.size + 1 + 1 + 1 by simp] at hbx
  have hx0 : Below w.heap.size w ((((w.alloc (.cells #[.int .i64 64, .int .i64 1, .int .i64 1, .int .i64 1] 52)).alloc (.cells #[.int .i64 0, .int .i64 0, .int .i64 10] 48)).alloc (.cells #[.slice (some ⟨w.heap.size + 1, 0, none⟩) 1 1] 46)).alloc (.cells #[.slice (some ⟨w.heap.size, 0, none⟩) 1 1, .int .i64 10, .slice (some ⟨w.heap.size + 1 + 1, 0, none⟩) 1 1, .slice none 0 0] 26)) := ((((Below.refl _ _).alloc (Nat.le_refl _) _).alloc (by simp) _).alloc (by simp; omega) _).alloc (by simp; omega) _
  generalize hW0 : (((w.alloc (.cells #[.int .i64 64, .int .i64 1, .int .i64 1, .int .i64 1] 52)).alloc (.cells #[.int .i64 0, .int .i64 0, .int .i64 10] 48)).alloc (.cells #[.slice (some ⟨w.heap.size + 1, 0, none⟩) 1 1] 46)).alloc (.cells #[.slice (some ⟨w.heap.size, 0, none⟩) 1 1, .int .i64 10, .slice (some ⟨w.heap.size + 1 + 1, 0, none⟩) 1 1, .slice none 0 0] 26) = w0 at *
  clear hW0
  refine (KA1.out _ _ _ _ hpl).mono ?_
  rintro e w1 ⟨rfl, hb1⟩
  have hx1 := hx0.trans (hb1.mono hx0.size)
  have hbx1 := hbx.below hb1 hbx.lt
  have hpl1 := hpl.below hb1
  obtain ⟨c1, f1, l1, n1, m1⟩ := hbx1.rules
  clear hbx hpl
  go_wp2_with fail
  refine (KA2.out _ _ _ _ hpl1).mono ?_
  rintro e w2 ⟨rfl, hb2⟩
  have hx2 := hx1.trans (hb2.mono hx1.size)
  have hbx2 := hbx1.below hb2 hbx1.lt
  have hpl2 := hpl1.below hb2
  clear c1 f1 l1 n1 m1
  obtain ⟨c1, f1, l1, n1, m1⟩ := hbx2.rules
  go_wp2_with fail
  refine (KF.out _ _ _ _ hpl2).mono ?_
  rintro e w3 ⟨rfl, hb3⟩
  go_wp2_with fail
  go_ret
  exact ⟨rfl, hx2.trans (hb3.mono hx2.size)⟩
end Go.Proofs.Ytinhnecgmokfkaa
