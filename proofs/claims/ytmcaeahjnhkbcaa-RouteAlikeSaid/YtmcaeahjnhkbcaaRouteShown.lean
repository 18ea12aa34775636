/- The document's example of package route; whether there are few. Conditions: none. -/
import Derived.Test.YtmcaeahjnhkbcaaRouteReach
import Derived.Test.YtmcaeahjnhkbcaaRouteTo
import Derived.Test.YtmcaeahjnhkbcaaLib15
namespace Go.Proofs.Ytmcaeahjnhkbcaa
open Go Go.RowKit Go.Tm
set_option linter.unusedVariables false
set_option linter.unusedSimpArgs false

def exC : List Ch := [(0, 0, 1, 0, 0), (0, 0, 2, 0, 0), (0, 1, 2, 0, 0)]
theorem ex_to : toS exC 0 1 = (2, 0, true) := by decide
theorem ex_reach : reachS 3 exC 2 = [0, 1, 2] := by decide
theorem ty_partinfo : (Try.prog.info? 106).map (fun i => (i.zero, i.size, i.bytes)) = some (some (.agg #[.int .i64 0, .int .i64 0, .int .i64 0, .int .i64 0]), 4, 32) := by kernel_rfl

set_option maxHeartbeats 2000000 in
theorem shown_any (w : World) : Calls Try.prog 9 #[] w fun e w' => e = .returned (.bool true) ∧ Below w.heap.size w w' := by
  obtain ⟨i1, hi1, hz1, hs1, hb1⟩ := info_parts ty_partinfo
  obtain ⟨mc, hmk⟩ := make_some (P := Try.prog) 22 i1 _ Try.underlying22 hi1 hz1 3 (by rw [hs1]; decide) (by rw [hb1]; decide) (by decide)
  replace hmk : ∀ W : World, (Instr.makeSlice 22 (.int .i64 3) (.int .i64 3)).run Try.prog W = .ok (.slice (some ⟨W.heap.size, 0, none⟩) 3 3) (W.alloc (.cells mc 106)) := hmk
  obtain ⟨i0, hi0, hq0, hq1, hq2⟩ := info_parts info_chan
  have HI := Lib.hid (And.intro hi0 (And.intro hq0 (And.intro hq1 hq2)))
  have hT := fun pa pc wv cv W h => to_any pa 3 pc 0 wv cv exC 0 1 W h (by decide) (by decide)
  have hR := fun pa pc wv cv W h => reach_any pa 3 pc 0 wv cv exC 2 W h (by simp [exC, ChWf]; decide) (by decide) (by decide) (by decide)
  rw [ex_to] at hT
  rw [ex_reach] at hR
  have HT := Lib.hid hT
  have HR := Lib.hid hR
  clear hT hR hi0 hq0 hq1 hq2 hi1 hz1 hs1 hb1
  go_enter Try.func9, Try.ntmps9
  go_wp2_with (first | ((with_reducible refine at_bs 24 ?_); (refine wpList_build_three rfl 24 _ _ _ rfl ty_chan (by decide) i0 _ Try.underlying24 HI.out.1 HI.out.2.1 HI.out.2.2.1 (chV (0, 0, 1, 0, 0)) (chV (0, 0, 2, 0, 0)) (chV (0, 1, 2, 0, 0)) ?_ ?_ ?_ (ch_val _) (ch_val _) (ch_val _) ?_; (focus (solve | simp [Act.eval, Act.put])); (focus (solve | simp [Act.eval, Act.put])); (focus (solve | simp [Act.eval, Act.put])))) | fail)
  have hs0 := ((Owned.made3 (E := 40) (ag := true) (k := 5) (base := 0) (w := w.alloc (.cells mc 106)) (ch_val (0, 0, 1, 0, 0)) (ch_val (0, 0, 2, 0, 0)) (ch_val (0, 1, 2, 0, 0)) (Nat.zero_le _)).sl).alloc (.cells #[.slice (some ⟨w.heap.size, 0, none⟩) 3 3, .int .i64 0, .slice none 0 0, .slice (some ⟨w.heap.size + 1, 0, none⟩) 3 3] 26)
  rw [World.size_alloc] at hs0
  have HS0 := Lib.hid (show Sl _ true 5 (.slice (some ⟨w.heap.size + 1, 0, none⟩) 3 3) (chs exC) from hs0)
  have hb0 := Box.new1 ((w.alloc (.cells mc 106)).alloc (.cells (flat [chV (0, 0, 1, 0, 0), chV (0, 0, 2, 0, 0), chV (0, 1, 2, 0, 0)]).toArray 40)) #[.slice (some ⟨w.heap.size, 0, none⟩) 3 3, .int .i64 0, .slice none 0 0, .slice (some ⟨w.heap.size + 1, 0, none⟩) 3 3] 26 (n := w.heap.size + 1 + 1) (by simp)
  have HB0 := Lib.hid hb0
  have hbw0 : Below w.heap.size w (((w.alloc (.cells mc 106)).alloc (.cells (flat [chV (0, 0, 1, 0, 0), chV (0, 0, 2, 0, 0), chV (0, 1, 2, 0, 0)]).toArray 40)).alloc (.cells #[.slice (some ⟨w.heap.size, 0, none⟩) 3 3, .int .i64 0, .slice none 0 0, .slice (some ⟨w.heap.size + 1, 0, none⟩) 3 3] 26)) := by (repeat (first | with_reducible assumption | with_reducible exact Below.refl _ _ | with_reducible refine Below.setCell ?_ ?_ _ | with_reducible refine Below.alloc ?_ ?_ _ | with_reducible refine below_drewN' ?_ _ | with_reducible refine Below.drew ?_ | with_reducible refine Below.trans ?_ (Below.mono (by assumption) ?_) | omega | (dsimp only; omega) | (simp only [drew_heap', drewN_heap', World.size_alloc, World.size_setCell]; omega) | (solve | simp) | (solve | (simp; omega))))
  clear hs0 hb0
  generalize (((w.alloc (.cells mc 106)).alloc (.cells (flat [chV (0, 0, 1, 0, 0), chV (0, 0, 2, 0, 0), chV (0, 1, 2, 0, 0)]).toArray 40)).alloc (.cells #[.slice (some ⟨w.heap.size, 0, none⟩) 3 3, .int .i64 0, .slice none 0 0, .slice (some ⟨w.heap.size + 1, 0, none⟩) 3 3] 26)) = w2 at *
  have hz2 := hbw0.size
  with_reducible refine (HT.out _ _ _ _ _ HS0.out).mono ?_
  rintro e w3 ⟨rfl, hb3⟩
  ((have b3 := HB0.out.below hb3 HB0.out.lt); (obtain ⟨hc3, hf3, hl3, hn3, hm3⟩ := b3.rules); (have K3 := Lib.hid b3); (clear b3))
  have hbw3 : Below w.heap.size w w3 := hbw0.trans (hb3.mono hz2)
  have hz3 := hbw3.size
  have HS3 := Lib.hid (HS0.out.below hb3)
  clear hb3
  go_wp2_with fail
  have hbA : Below w3.heap.size w3 (w3.alloc (.cells #[.int .i64 2, .int .i64 0] 32)) := (Below.refl _ _).alloc (Nat.le_refl _) _
  have KA := Lib.hid (Box.new w3 #[.int .i64 2, .int .i64 0] 32)
  with_reducible refine (HR.out _ _ _ _ _ (HS3.out.below hbA)).mono ?_
  rintro e w4 ⟨v4, rfl, ho4, hb4⟩
  have hbA4 : Below w3.heap.size w3 w4 := hbA.trans (hb4.mono hbA.size)
  have hbw4 : Below w.heap.size w w4 := hbw3.trans (hbA4.mono hz3)
  obtain ⟨kc, kf, kl, kn, km⟩ := (KA.out.below hb4 KA.out.lt).rules
  obtain ⟨a4, k4, hv4, _⟩ := ho4.sl.shape
  replace hv4 : v4 = .slice a4 3 k4 := hv4
  subst hv4
  obtain ⟨b, off, rfl, hb, e1⟩ := Sl.int ho4.sl (i := 2) (x := 2) rfl
  clear ho4 hb4 hbA hbA4 hc3 hf3 hl3 hn3 hm3
  go_wp2_with fail
  go_ret
  exact ⟨by simp, hbw4⟩

theorem few_any (pa : Option Addr) (np pc : Nat) (fr : Int) (wv cv : Value) (cs : List Ch) (w : World) (hv : Sl w true 5 cv (chs cs)) :
    Calls Try.prog 10 #[.agg #[.slice pa np pc, .int .i64 fr, wv, cv]] w fun e w' => e = .returned (.bool (decide (cs.length ≤ 50) && decide (np ≤ 50))) ∧ Below w.heap.size w w' := by
  obtain ⟨a, cap, rfl, hl⟩ := hv.shape
  rw [chs_len]
  clear hv hl
  have e1 : decide ((cs.length : Int) ≤ 50) = decide (cs.length ≤ 50) := by simp; omega
  have e2 : decide ((np : Int) ≤ 50) = decide (np ≤ 50) := by simp; omega
  go_enter Try.func10, Try.ntmps10
  by_cases h1 : cs.length ≤ 50
  · have d1 : decide (cs.length ≤ 50) = true := decide_eq_true h1
    go_wp2_with fail
    go_ret
    exact ⟨by simp [h1], by (repeat (first | with_reducible assumption | with_reducible exact Below.refl _ _ | with_reducible refine Below.setCell ?_ ?_ _ | with_reducible refine Below.alloc ?_ ?_ _ | with_reducible refine below_drewN' ?_ _ | with_reducible refine Below.drew ?_ | with_reducible refine Below.trans ?_ (Below.mono (by assumption) ?_) | omega | (dsimp only; omega) | (simp only [drew_heap', drewN_heap', World.size_alloc, World.size_setCell]; omega) | (solve | simp) | (solve | (simp; omega))))⟩
  · have d1 : decide (cs.length ≤ 50) = false := decide_eq_false h1
    go_wp2_with fail
    go_ret
    exact ⟨by simp [h1], by (repeat (first | with_reducible assumption | with_reducible exact Below.refl _ _ | with_reducible refine Below.setCell ?_ ?_ _ | with_reducible refine Below.alloc ?_ ?_ _ | with_reducible refine below_drewN' ?_ _ | with_reducible refine Below.drew ?_ | with_reducible refine Below.trans ?_ (Below.mono (by assumption) ?_) | omega | (dsimp only; omega) | (simp only [drew_heap', drewN_heap', World.size_alloc, World.size_setCell]; omega) | (solve | simp) | (solve | (simp; omega))))⟩
end Go.Proofs.Ytmcaeahjnhkbcaa
