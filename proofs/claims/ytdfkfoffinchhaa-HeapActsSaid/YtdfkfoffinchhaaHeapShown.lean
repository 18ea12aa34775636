/- The document's example of package heap. Conditions: none. -/
import Derived.Test.YtdfkfoffinchhaaHeapTook
import Derived.Test.YtdfkfoffinchhaaHeapFree
import Derived.Test.YtdfkfoffinchhaaHeapSame
namespace Go.Proofs.Ytdfkfoffinchhaa
open Go Go.RowKit Go.Tm
set_option linter.unusedVariables false
set_option linter.unusedSimpArgs false

theorem ex_take1 : takeS 10 [] 4 1 = ([(0, 4, 1)], 0, 0) := by
  rw [takeS_some (x := (0, 10, 0)) (by omega) (by simp [RightP, rightG]) (by decide)]; decide
theorem ex_take2 : takeS 10 [(0, 4, 1)] 4 2 = ([(0, 4, 1), (4, 4, 2)], 4, 0) := by
  rw [takeS_some (x := (4, 6, 0)) (by omega) (by simp [RightP, rightG]) (by decide)]; decide
theorem ex_take3 : takeS 10 [(0, 4, 1), (4, 4, 2)] 4 3 = ([(0, 4, 1), (4, 4, 2)], 0, 5) :=
  takeS_none (by omega) (by simp [RightP, rightG]) (by decide)
theorem ex_free : freeS [(0, 4, 1), (4, 4, 2)] 0 = ([(4, 4, 2)], true) := by decide
theorem ex_take4 : takeS 10 [(4, 4, 2)] 3 4 = ([(0, 3, 4), (4, 4, 2)], 0, 0) := by
  rw [takeS_some (x := (0, 4, 0)) (by omega) (by simp [RightP, rightG]) (by decide)]; decide

set_option maxHeartbeats 2000000 in
theorem shown_any (w : World) : Calls Try.prog 11 #[] w fun e w' => e = .returned (.bool true) ∧ Below w.heap.size w w' := by
  have hN := fun W => new_any 10 W
  rw [if_neg (by omega), if_neg (by omega)] at hN
  have hT1 := fun W => take_any 10 (.slice none 0 0) [] 4 1 W (Sl.nil _ _ _) (by decide) (by simp) (by decide)
  have hT2 := fun v W h => take_any 10 v [(0, 4, 1)] 4 2 W h (by decide) (by simp [SpWf]; decide) (by decide)
  have hT3 := fun v W h => take_any 10 v [(0, 4, 1), (4, 4, 2)] 4 3 W h (by decide) (by simp [SpWf]; decide) (by decide)
  have hF := fun v W h => free_any 10 v [(0, 4, 1), (4, 4, 2)] 0 W h (by decide)
  have hT4 := fun v W h => take_any 10 v [(4, 4, 2)] 3 4 W h (by decide) (by simp [SpWf]; decide) (by decide)
  rw [ex_take1] at hT1
  rw [ex_take2] at hT2
  rw [ex_take3] at hT3
  rw [ex_free] at hF
  rw [ex_take4] at hT4
  have HN := Lib.hid hN
  have HT1 := Lib.hid hT1
  have HT2 := Lib.hid hT2
  have HT3 := Lib.hid hT3
  have HF := Lib.hid hF
  have HT4 := Lib.hid hT4
  clear hN hT1 hT2 hT3 hF hT4
  go_enter Try.func11, Try.ntmps11
  ((go_wp2_with fail); (with_reducible refine (HN.out _).mono ?_); (rintro e w1 ⟨rfl, hb1⟩); (have hz1 := hb1.size); (try simp only [World.size_alloc, World.size_setCell] at hz1))
  go_wp2_with fail
  with_reducible refine (HT1.out _).mono ?_
  rintro e w2 ⟨v2, rfl, hs2, hr2, hb2⟩
  have hz2 := hb2.size
  simp only [World.size_alloc, World.size_setCell] at hz2
  (have b2 : Box w2 w1.heap.size #[.int .i64 10, .slice none 0 0] 24 := (by (try have k2 := (Lib.hid True.intro).out); ((apply Box.cast); (repeat (first | with_reducible assumption | ((with_reducible apply Box.new1); (first | with_reducible rfl | rfl | (solve | simp))) | with_reducible apply Box.drewN | with_reducible apply Box.drew | with_reducible apply Box.set | with_reducible apply Box.other | with_reducible apply Box.alloc | (with_reducible apply Box.below; rotate_left; with_reducible assumption; rotate_right) | with_reducible rfl | omega | (dsimp only; omega) | (simp only [drew_heap', drewN_heap', World.size_alloc, World.size_setCell]; omega) | rfl | (solve | simp) | (solve | (simp; omega))))))); (obtain ⟨hc2, hf2, hl2, hn2, hm2⟩ := b2.rules); (have K2 := Lib.hid b2); (clear b2)
  have hbw2 : Below w.heap.size w w2 := by (repeat (first | with_reducible assumption | with_reducible exact Below.refl _ _ | with_reducible refine Below.setCell ?_ ?_ _ | with_reducible refine Below.alloc ?_ ?_ _ | with_reducible refine below_drewN' ?_ _ | with_reducible refine Below.drew ?_ | with_reducible refine Below.trans ?_ (Below.mono (by assumption) ?_) | omega | (dsimp only; omega) | (simp only [drew_heap', drewN_heap', World.size_alloc, World.size_setCell]; omega) | (solve | simp) | (solve | (simp; omega))))
  have HA2 := Lib.hid (hr2.apart (B := w1.heap.size) (.inl rfl) (by simp only [World.size_alloc, World.size_setCell]; omega))
  replace hs2 : Sl w2 true 3 v2 (sps [(0, 4, 1)]) := hs2
  obtain ⟨a2, k2, hv2, _⟩ := hs2.shape
  replace hv2 : v2 = .slice a2 1 k2 := hv2
  subst hv2
  have HS2 := Lib.hid hs2
  clear hs2 hb2 hb1 hr2
  go_wp2_with fail
  with_reducible refine (HT2.out _ _ ?_).mono ?_
  focus exact (HS2.out.setOther HA2.out 0 _).setOther HA2.out 1 _
  rintro e w3 ⟨v3, rfl, hs3, hr3, hb3⟩
  have hz3 := hb3.size
  simp only [World.size_alloc, World.size_setCell] at hz3
  (have b3 : Box w3 w1.heap.size #[.int .i64 10, .slice a2 1 k2] 24 := (by (try have k3 := K2.out); ((apply Box.cast); (repeat (first | with_reducible assumption | ((with_reducible apply Box.new1); (first | with_reducible rfl | rfl | (solve | simp))) | with_reducible apply Box.drewN | with_reducible apply Box.drew | with_reducible apply Box.set | with_reducible apply Box.other | with_reducible apply Box.alloc | (with_reducible apply Box.below; rotate_left; with_reducible assumption; rotate_right) | with_reducible rfl | omega | (dsimp only; omega) | (simp only [drew_heap', drewN_heap', World.size_alloc, World.size_setCell]; omega) | rfl | (solve | simp) | (solve | (simp; omega))))))); (obtain ⟨hc3, hf3, hl3, hn3, hm3⟩ := b3.rules); (have K3 := Lib.hid b3); (clear b3)
  have hbw3 : Below w.heap.size w w3 := by (repeat (first | with_reducible assumption | with_reducible exact Below.refl _ _ | with_reducible refine Below.setCell ?_ ?_ _ | with_reducible refine Below.alloc ?_ ?_ _ | with_reducible refine below_drewN' ?_ _ | with_reducible refine Below.drew ?_ | with_reducible refine Below.trans ?_ (Below.mono (by assumption) ?_) | omega | (dsimp only; omega) | (simp only [drew_heap', drewN_heap', World.size_alloc, World.size_setCell]; omega) | (solve | simp) | (solve | (simp; omega))))
  have HA3 := Lib.hid (hr3.apart (B := w1.heap.size) HA2.out (by simp only [World.size_alloc, World.size_setCell]; omega))
  replace hs3 : Sl w3 true 3 v3 (sps [(0, 4, 1), (4, 4, 2)]) := hs3
  obtain ⟨a3, k3, hv3, _⟩ := hs3.shape
  replace hv3 : v3 = .slice a3 2 k3 := hv3
  subst hv3
  have HS3 := Lib.hid hs3
  clear hs3 hb3 hr3 hc2 hf2 hl2 hn2 hm2
  go_wp2_with fail
  with_reducible refine (HT3.out _ _ ?_).mono ?_
  focus exact (HS3.out.setOther HA3.out 0 _).setOther HA3.out 1 _
  rintro e w4 ⟨v4, rfl, hs4, hr4, hb4⟩
  have hz4 := hb4.size
  simp only [World.size_alloc, World.size_setCell] at hz4
  have HS4 := Lib.hid (((HS3.out.setOther HA3.out 0 (.int .i64 10)).setOther HA3.out 1 (.slice a3 2 k3)).below hb4)
  (have b4 : Box w4 w1.heap.size #[.int .i64 10, .slice a3 2 k3] 24 := (by (try have k4 := K3.out); ((apply Box.cast); (repeat (first | with_reducible assumption | ((with_reducible apply Box.new1); (first | with_reducible rfl | rfl | (solve | simp))) | with_reducible apply Box.drewN | with_reducible apply Box.drew | with_reducible apply Box.set | with_reducible apply Box.other | with_reducible apply Box.alloc | (with_reducible apply Box.below; rotate_left; with_reducible assumption; rotate_right) | with_reducible rfl | omega | (dsimp only; omega) | (simp only [drew_heap', drewN_heap', World.size_alloc, World.size_setCell]; omega) | rfl | (solve | simp) | (solve | (simp; omega))))))); (obtain ⟨hc4, hf4, hl4, hn4, hm4⟩ := b4.rules); (have K4 := Lib.hid b4); (clear b4)
  have hbw4 : Below w.heap.size w w4 := by (repeat (first | with_reducible assumption | with_reducible exact Below.refl _ _ | with_reducible refine Below.setCell ?_ ?_ _ | with_reducible refine Below.alloc ?_ ?_ _ | with_reducible refine below_drewN' ?_ _ | with_reducible refine Below.drew ?_ | with_reducible refine Below.trans ?_ (Below.mono (by assumption) ?_) | omega | (dsimp only; omega) | (simp only [drew_heap', drewN_heap', World.size_alloc, World.size_setCell]; omega) | (solve | simp) | (solve | (simp; omega))))
  obtain ⟨a4, k4, hv4, _⟩ := hs4.shape
  replace hv4 : v4 = .slice a4 2 k4 := hv4
  subst hv4
  clear hs4 hb4 hr4 hc3 hf3 hl3 hn3 hm3
  go_wp2_with fail
  with_reducible refine (HF.out _ _ (HS4.out.below (by (repeat (first | with_reducible assumption | with_reducible exact Below.refl _ _ | with_reducible refine Below.setCell ?_ ?_ _ | with_reducible refine Below.alloc ?_ ?_ _ | with_reducible refine below_drewN' ?_ _ | with_reducible refine Below.drew ?_ | with_reducible refine Below.trans ?_ (Below.mono (by assumption) ?_) | omega | (dsimp only; omega) | (simp only [drew_heap', drewN_heap', World.size_alloc, World.size_setCell]; omega) | (solve | simp) | (solve | (simp; omega))))))).mono ?_
  rintro e w5 ⟨v5, rfl, hs5, hr5, hb5⟩
  have hz5 := hb5.size
  simp only [World.size_alloc, World.size_setCell] at hz5
  (have b5 : Box w5 w1.heap.size #[.int .i64 10, .slice a3 2 k3] 24 := (by (try have k5 := K4.out); ((apply Box.cast); (repeat (first | with_reducible assumption | ((with_reducible apply Box.new1); (first | with_reducible rfl | rfl | (solve | simp))) | with_reducible apply Box.drewN | with_reducible apply Box.drew | with_reducible apply Box.set | with_reducible apply Box.other | with_reducible apply Box.alloc | (with_reducible apply Box.below; rotate_left; with_reducible assumption; rotate_right) | with_reducible rfl | omega | (dsimp only; omega) | (simp only [drew_heap', drewN_heap', World.size_alloc, World.size_setCell]; omega) | rfl | (solve | simp) | (solve | (simp; omega))))))); (obtain ⟨hc5, hf5, hl5, hn5, hm5⟩ := b5.rules); (have K5 := Lib.hid b5); (clear b5)
  have hbw5 : Below w.heap.size w w5 := by (repeat (first | with_reducible assumption | with_reducible exact Below.refl _ _ | with_reducible refine Below.setCell ?_ ?_ _ | with_reducible refine Below.alloc ?_ ?_ _ | with_reducible refine below_drewN' ?_ _ | with_reducible refine Below.drew ?_ | with_reducible refine Below.trans ?_ (Below.mono (by assumption) ?_) | omega | (dsimp only; omega) | (simp only [drew_heap', drewN_heap', World.size_alloc, World.size_setCell]; omega) | (solve | simp) | (solve | (simp; omega))))
  have HA5 := Lib.hid (hr5.apart (B := w1.heap.size) HA3.out (by simp only [World.size_alloc, World.size_setCell]; omega))
  replace hs5 : Sl w5 true 3 v5 (sps [(4, 4, 2)]) := hs5
  obtain ⟨a5, k5, hv5, _⟩ := hs5.shape
  replace hv5 : v5 = .slice a5 1 k5 := hv5
  subst hv5
  have HS5 := Lib.hid hs5
  clear hs5 hb5 hr5 hc4 hf4 hl4 hn4 hm4
  go_wp2_with fail
  with_reducible refine (HT4.out _ _ ?_).mono ?_
  focus exact (HS5.out.setOther HA5.out 0 _).setOther HA5.out 1 _
  rintro e w6 ⟨v6, rfl, hs6, hr6, hb6⟩
  have hz6 := hb6.size
  simp only [World.size_alloc, World.size_setCell] at hz6
  have hbw6 : Below w.heap.size w w6 := by (repeat (first | with_reducible assumption | with_reducible exact Below.refl _ _ | with_reducible refine Below.setCell ?_ ?_ _ | with_reducible refine Below.alloc ?_ ?_ _ | with_reducible refine below_drewN' ?_ _ | with_reducible refine Below.drew ?_ | with_reducible refine Below.trans ?_ (Below.mono (by assumption) ?_) | omega | (dsimp only; omega) | (simp only [drew_heap', drewN_heap', World.size_alloc, World.size_setCell]; omega) | (solve | simp) | (solve | (simp; omega))))
  obtain ⟨a6, k6, hv6, _⟩ := hs6.shape
  replace hv6 : v6 = .slice a6 2 k6 := hv6
  subst hv6
  clear hs6 hb6 hr6 hc5 hf5 hl5 hn5 hm5
  go_wp2_with fail
  go_ret
  exact ⟨by simp, by (repeat (first | with_reducible assumption | with_reducible exact Below.refl _ _ | with_reducible refine Below.setCell ?_ ?_ _ | with_reducible refine Below.alloc ?_ ?_ _ | with_reducible refine below_drewN' ?_ _ | with_reducible refine Below.drew ?_ | with_reducible refine Below.trans ?_ (Below.mono (by assumption) ?_) | omega | (dsimp only; omega) | (simp only [drew_heap', drewN_heap', World.size_alloc, World.size_setCell]; omega) | (solve | simp) | (solve | (simp; omega))))⟩
end Go.Proofs.Ytdfkfoffinchhaa
