/- The law TurnSpends: its walk. Conditions: what came in is shaped. -/
import Derived.Test.YtbehjbiicopgpaaTurnShown
import Derived.Deep.RegionHeld3
namespace Go.Proofs.Ytbehjbiicopgpaa
open Go Go.RowKit Go.Tm
set_option linter.unusedVariables false
set_option linter.unusedSimpArgs false

/-- What a drawing region leans on: two boxes of a turn. -/
def ST (w : World) (p q : Nat) (v u : Value) (n k : Int) (W : World) : Prop :=
  W.cell? ⟨p, 0, none⟩ = some v ∧ W.cell? ⟨p, 1, none⟩ = some (.int .i64 n) ∧ W.cell? ⟨q, 0, none⟩ = some u ∧ W.cell? ⟨q, 1, none⟩ = some (.int .i64 k) ∧ Below w.heap.size w W
theorem cellKeep {W W' : World} {a : Addr} {v : Value} (hb : Below W.heap.size W W') (h : W.cell? a = some v) : W'.cell? a = some v := (Below.cell hb (block_lt_of_cell h)).trans h
theorem ST.keep {w : World} {p q : Nat} {v u : Value} {n k : Int} {W W' : World} (h : ST w p q v u n k W) (hb : Below W.heap.size W W') : ST w p q v u n k W' := by
  obtain ⟨h0, h1, h2, h3, h4⟩ := h
  exact ⟨cellKeep hb h0, cellKeep hb h1, cellKeep hb h2, cellKeep hb h3, h4.trans (hb.mono h4.size)⟩

set_option maxHeartbeats 4000000 in
theorem turnSpends_walk (v : Value) (l : List Int) (n : Int) (w : World) (hv : Sl w false 1 v (ints l)) (hby : l.length * 8 ≤ 140737488351232) (hn : -9223372036854775808 ≤ n ∧ n ≤ 9223372036854775807) :
    Calls Try.prog 6 #[.agg #[v, .int .i64 n]] w fun e w' => e = .returned (.bool true) ∧ Below w.heap.size w w' := by
  have HV := Lib.hid hv
  have hS := fun W h => spend_any v l n W h hby
  have hY := fun W h => yield_any v l n W h hby
  obtain ⟨a, cap, rfl, hl⟩ := hv.shape
  clear hv
  rw [ints_len] at hl HV hS hY ⊢
  obtain ⟨hn1, hn2⟩ := hn
  -- up to the first test
  have HS := Lib.hid hS
  have HY := Lib.hid hY
  clear hS hY
  by_cases h0 : l = []
  · subst h0
    rw [show spendS [] n = ([], n) from rfl] at HS
    simp only [List.length_nil] at HS HV HY ⊢
    go_enter Try.func6, Try.ntmps6
    ((go_wp2_with fail); (with_reducible refine (shown_any _).mono ?_); (rintro e w1 ⟨rfl, hb1⟩); (have hz1 := hb1.size); (try simp only [World.size_alloc, World.size_setCell] at hz1))
    (have b1 : Box w1 w.heap.size #[.slice a 0 cap, .int .i64 n] 24 := (by (try have k1 := (Lib.hid True.intro).out); ((apply Box.cast); (repeat (first | with_reducible assumption | ((with_reducible apply Box.new1); (first | with_reducible rfl | rfl | (solve | simp))) | with_reducible apply Box.drewN | with_reducible apply Box.drew | with_reducible apply Box.set | with_reducible apply Box.other | with_reducible apply Box.alloc | (with_reducible apply Box.below; rotate_left; with_reducible assumption; rotate_right) | with_reducible rfl | omega | (dsimp only; omega) | (simp only [drew_heap', drewN_heap', World.size_alloc, World.size_setCell]; omega) | rfl | (solve | simp) | (solve | (simp; omega))))))); (obtain ⟨hc1, hf1, hl1, hn1, hm1⟩ := b1.rules); (have K1 := Lib.hid b1); (clear b1)
    have hbw : Below w.heap.size w w1 := by (repeat (first | with_reducible assumption | with_reducible exact Below.refl _ _ | with_reducible refine Below.setCell ?_ ?_ _ | with_reducible refine Below.alloc ?_ ?_ _ | with_reducible refine below_drewN' ?_ _ | with_reducible refine Below.drew ?_ | with_reducible refine Below.trans ?_ (Below.mono (by assumption) ?_) | omega | (dsimp only; omega) | (simp only [drew_heap', drewN_heap', World.size_alloc, World.size_setCell]; omega) | (solve | simp) | (solve | (simp; omega))))
    go_wp2_with fail
    with_reducible refine (HS.out _ (HV.out.below hbw)).mono ?_
    rintro e w2 ⟨v2, rfl, hs2, hr2, hb2⟩
    have hz2 := hb2.size
    (have b2 : Box w2 w.heap.size #[.slice a 0 cap, .int .i64 n] 24 := (by (try have k2 := K1.out); ((apply Box.cast); (repeat (first | with_reducible assumption | ((with_reducible apply Box.new1); (first | with_reducible rfl | rfl | (solve | simp))) | with_reducible apply Box.drewN | with_reducible apply Box.drew | with_reducible apply Box.set | with_reducible apply Box.other | with_reducible apply Box.alloc | (with_reducible apply Box.below; rotate_left; with_reducible assumption; rotate_right) | with_reducible rfl | omega | (dsimp only; omega) | (simp only [drew_heap', drewN_heap', World.size_alloc, World.size_setCell]; omega) | rfl | (solve | simp) | (solve | (simp; omega))))))); (obtain ⟨hc2, hf2, hl2, hn2, hm2⟩ := b2.rules); (have K2 := Lib.hid b2); (clear b2)
    have HS2 := Lib.hid hs2
    obtain ⟨a2, cap2, hv2, _⟩ := hs2.shape
    replace hv2 : v2 = .slice a2 0 cap2 := hv2
    subst hv2
    clear hs2 hr2
    go_wp2_with fail
    with_reducible refine (same_any _ _ [] [] n n _ (HS2.out.alloc _) (HV.out.below (by (repeat (first | with_reducible assumption | with_reducible exact Below.refl _ _ | with_reducible refine Below.setCell ?_ ?_ _ | with_reducible refine Below.alloc ?_ ?_ _ | with_reducible refine below_drewN' ?_ _ | with_reducible refine Below.drew ?_ | with_reducible refine Below.trans ?_ (Below.mono (by assumption) ?_) | omega | (dsimp only; omega) | (simp only [drew_heap', drewN_heap', World.size_alloc, World.size_setCell]; omega) | (solve | simp) | (solve | (simp; omega))))))).mono ?_
    rintro e w3 ⟨rfl, hb3⟩
    have hz3 := hb3.size
    go_wp2_with fail
    go_ret
    exact ⟨by simp, by (repeat (first | with_reducible assumption | with_reducible exact Below.refl _ _ | with_reducible refine Below.setCell ?_ ?_ _ | with_reducible refine Below.alloc ?_ ?_ _ | with_reducible refine below_drewN' ?_ _ | with_reducible refine Below.drew ?_ | with_reducible refine Below.trans ?_ (Below.mono (by assumption) ?_) | omega | (dsimp only; omega) | (simp only [drew_heap', drewN_heap', World.size_alloc, World.size_setCell]; omega) | (solve | simp) | (solve | (simp; omega))))⟩
  have hlp : 0 < l.length := List.length_pos_iff.2 h0
  have hne : ((l.length : Int) == 0) = false := by rw [beq_eq_false_iff_ne]; omega
  by_cases h1 : 1 < n
  · rw [spendS_dec h0 h1 hn2] at HS
    have hw : IntKind.i64.wrap (n - 1) = n - 1 := IntWalk.i64_in _ (by omega)
    clear h0
    go_enter Try.func6, Try.ntmps6
    ((go_wp2_with fail); (with_reducible refine (shown_any _).mono ?_); (rintro e w1 ⟨rfl, hb1⟩); (have hz1 := hb1.size); (try simp only [World.size_alloc, World.size_setCell] at hz1))
    (have b1 : Box w1 w.heap.size #[.slice a l.length cap, .int .i64 n] 24 := (by (try have k1 := (Lib.hid True.intro).out); ((apply Box.cast); (repeat (first | with_reducible assumption | ((with_reducible apply Box.new1); (first | with_reducible rfl | rfl | (solve | simp))) | with_reducible apply Box.drewN | with_reducible apply Box.drew | with_reducible apply Box.set | with_reducible apply Box.other | with_reducible apply Box.alloc | (with_reducible apply Box.below; rotate_left; with_reducible assumption; rotate_right) | with_reducible rfl | omega | (dsimp only; omega) | (simp only [drew_heap', drewN_heap', World.size_alloc, World.size_setCell]; omega) | rfl | (solve | simp) | (solve | (simp; omega))))))); (obtain ⟨hc1, hf1, hl1, hn1, hm1⟩ := b1.rules); (have K1 := Lib.hid b1); (clear b1)
    have hbw : Below w.heap.size w w1 := by (repeat (first | with_reducible assumption | with_reducible exact Below.refl _ _ | with_reducible refine Below.setCell ?_ ?_ _ | with_reducible refine Below.alloc ?_ ?_ _ | with_reducible refine below_drewN' ?_ _ | with_reducible refine Below.drew ?_ | with_reducible refine Below.trans ?_ (Below.mono (by assumption) ?_) | omega | (dsimp only; omega) | (simp only [drew_heap', drewN_heap', World.size_alloc, World.size_setCell]; omega) | (solve | simp) | (solve | (simp; omega))))
    go_wp2_with fail
    with_reducible refine (HS.out _ (HV.out.below hbw)).mono ?_
    rintro e w2 ⟨v2, rfl, hs2, hr2, hb2⟩
    have hz2 := hb2.size
    (have b2 : Box w2 w.heap.size #[.slice a l.length cap, .int .i64 n] 24 := (by (try have k2 := K1.out); ((apply Box.cast); (repeat (first | with_reducible assumption | ((with_reducible apply Box.new1); (first | with_reducible rfl | rfl | (solve | simp))) | with_reducible apply Box.drewN | with_reducible apply Box.drew | with_reducible apply Box.set | with_reducible apply Box.other | with_reducible apply Box.alloc | (with_reducible apply Box.below; rotate_left; with_reducible assumption; rotate_right) | with_reducible rfl | omega | (dsimp only; omega) | (simp only [drew_heap', drewN_heap', World.size_alloc, World.size_setCell]; omega) | rfl | (solve | simp) | (solve | (simp; omega))))))); (obtain ⟨hc2, hf2, hl2, hn2, hm2⟩ := b2.rules); (have K2 := Lib.hid b2); (clear b2)
    have HS2 := Lib.hid hs2
    obtain ⟨a2, cap2, rfl, _⟩ := hs2.shape
    rw [ints_len] at HS2 ⊢
    clear hs2 hr2
    go_wp2_with fail
    with_reducible refine (same_any _ _ l l (n - 1) (n - 1) _ (HS2.out.alloc _) (HV.out.below (by (repeat (first | with_reducible assumption | with_reducible exact Below.refl _ _ | with_reducible refine Below.setCell ?_ ?_ _ | with_reducible refine Below.alloc ?_ ?_ _ | with_reducible refine below_drewN' ?_ _ | with_reducible refine Below.drew ?_ | with_reducible refine Below.trans ?_ (Below.mono (by assumption) ?_) | omega | (dsimp only; omega) | (simp only [drew_heap', drewN_heap', World.size_alloc, World.size_setCell]; omega) | (solve | simp) | (solve | (simp; omega))))))).mono ?_
    rintro e w3 ⟨rfl, hb3⟩
    have hz3 := hb3.size
    go_wp2_with fail
    go_ret
    exact ⟨by simp, by (repeat (first | with_reducible assumption | with_reducible exact Below.refl _ _ | with_reducible refine Below.setCell ?_ ?_ _ | with_reducible refine Below.alloc ?_ ?_ _ | with_reducible refine below_drewN' ?_ _ | with_reducible refine Below.drew ?_ | with_reducible refine Below.trans ?_ (Below.mono (by assumption) ?_) | omega | (dsimp only; omega) | (simp only [drew_heap', drewN_heap', World.size_alloc, World.size_setCell]; omega) | (solve | simp) | (solve | (simp; omega))))⟩
  by_cases h2 : n < -4611686018427387904
  · have hg : decide (n < -4611686018427387904) = true := by simpa using h2
    generalize spendS l n = y at *
    clear h0 HY
    go_enter Try.func6, Try.ntmps6
    ((go_wp2_with fail); (with_reducible refine (shown_any _).mono ?_); (rintro e w1 ⟨rfl, hb1⟩); (have hz1 := hb1.size); (try simp only [World.size_alloc, World.size_setCell] at hz1))
    (have b1 : Box w1 w.heap.size #[.slice a l.length cap, .int .i64 n] 24 := (by (try have k1 := (Lib.hid True.intro).out); ((apply Box.cast); (repeat (first | with_reducible assumption | ((with_reducible apply Box.new1); (first | with_reducible rfl | rfl | (solve | simp))) | with_reducible apply Box.drewN | with_reducible apply Box.drew | with_reducible apply Box.set | with_reducible apply Box.other | with_reducible apply Box.alloc | (with_reducible apply Box.below; rotate_left; with_reducible assumption; rotate_right) | with_reducible rfl | omega | (dsimp only; omega) | (simp only [drew_heap', drewN_heap', World.size_alloc, World.size_setCell]; omega) | rfl | (solve | simp) | (solve | (simp; omega))))))); (obtain ⟨hc1, hf1, hl1, hn1, hm1⟩ := b1.rules); (have K1 := Lib.hid b1); (clear b1)
    have hbw : Below w.heap.size w w1 := by (repeat (first | with_reducible assumption | with_reducible exact Below.refl _ _ | with_reducible refine Below.setCell ?_ ?_ _ | with_reducible refine Below.alloc ?_ ?_ _ | with_reducible refine below_drewN' ?_ _ | with_reducible refine Below.drew ?_ | with_reducible refine Below.trans ?_ (Below.mono (by assumption) ?_) | omega | (dsimp only; omega) | (simp only [drew_heap', drewN_heap', World.size_alloc, World.size_setCell]; omega) | (solve | simp) | (solve | (simp; omega))))
    go_wp2_with fail
    with_reducible refine (HS.out _ (HV.out.below hbw)).mono ?_
    rintro e w2 ⟨v2, rfl, hs2, hr2, hb2⟩
    have hz2 := hb2.size
    (have b2 : Box w2 w.heap.size #[.slice a l.length cap, .int .i64 n] 24 := (by (try have k2 := K1.out); ((apply Box.cast); (repeat (first | with_reducible assumption | ((with_reducible apply Box.new1); (first | with_reducible rfl | rfl | (solve | simp))) | with_reducible apply Box.drewN | with_reducible apply Box.drew | with_reducible apply Box.set | with_reducible apply Box.other | with_reducible apply Box.alloc | (with_reducible apply Box.below; rotate_left; with_reducible assumption; rotate_right) | with_reducible rfl | omega | (dsimp only; omega) | (simp only [drew_heap', drewN_heap', World.size_alloc, World.size_setCell]; omega) | rfl | (solve | simp) | (solve | (simp; omega))))))); (obtain ⟨hc2, hf2, hl2, hn2, hm2⟩ := b2.rules); (have K2 := Lib.hid b2); (clear b2)
    obtain ⟨a2, cap2, rfl, _⟩ := hs2.shape
    clear hs2 hr2
    go_wp2_with fail
    generalize hW3 : w2.alloc _ = w3
    have hb3 : Below w2.heap.size w2 w3 := by rw [← hW3]; (repeat (first | with_reducible assumption | with_reducible exact Below.refl _ _ | with_reducible refine Below.setCell ?_ ?_ _ | with_reducible refine Below.alloc ?_ ?_ _ | with_reducible refine below_drewN' ?_ _ | with_reducible refine Below.drew ?_ | with_reducible refine Below.trans ?_ (Below.mono (by assumption) ?_) | omega | (dsimp only; omega) | (simp only [drew_heap', drewN_heap', World.size_alloc, World.size_setCell]; omega) | (solve | simp) | (solve | (simp; omega))))
    have hz3 := hb3.size
    (have b3 : Box w3 w.heap.size #[.slice a l.length cap, .int .i64 n] 24 := (by (try have k3 := K2.out); ((apply Box.cast); (repeat (first | with_reducible assumption | ((with_reducible apply Box.new1); (first | with_reducible rfl | rfl | (solve | simp))) | with_reducible apply Box.drewN | with_reducible apply Box.drew | with_reducible apply Box.set | with_reducible apply Box.other | with_reducible apply Box.alloc | (with_reducible apply Box.below; rotate_left; with_reducible assumption; rotate_right) | with_reducible rfl | omega | (dsimp only; omega) | (simp only [drew_heap', drewN_heap', World.size_alloc, World.size_setCell]; omega) | rfl | (solve | simp) | (solve | (simp; omega))))))); (obtain ⟨hc3, hf3, hl3, hn3, hm3⟩ := b3.rules); (have K3 := Lib.hid b3); (clear b3)
    clear hW3 hc1 hf1 hl1 hn1 hm1 hc2 hf2 hl2 hn2 hm2
    have k3 := K3.out.regrown
    ((refine wp_region_quiet_below (by kernel_rfl) (by kernel_rfl) ?_); (repeat (go_big_quiet_step (fail))); (refine wpQuiet_nil ?_); (intro _ hw'); (obtain ⟨⟨dq, osq⟩, hw''⟩ := hw'); (subst hw''); (have hb4 := below_regrown w3 dq osq); (generalize Go.Sort.grow (redrawn w3 dq) osq = w4 at *); (have hz4 := hb4.size))
    go_wp2_with fail
    go_ret
    exact ⟨by simp, by (repeat (first | with_reducible assumption | with_reducible exact Below.refl _ _ | with_reducible refine Below.setCell ?_ ?_ _ | with_reducible refine Below.alloc ?_ ?_ _ | with_reducible refine below_drewN' ?_ _ | with_reducible refine Below.drew ?_ | with_reducible refine Below.trans ?_ (Below.mono (by assumption) ?_) | omega | (dsimp only; omega) | (simp only [drew_heap', drewN_heap', World.size_alloc, World.size_setCell]; omega) | (solve | simp) | (solve | (simp; omega))))⟩
  · have hg : decide (n < -4611686018427387904) = false := by simpa using h2
    rw [spendS_one h0 (by omega) (by omega) n] at HS
    clear h0
    generalize yieldS l n = y at *
    go_enter Try.func6, Try.ntmps6
    ((go_wp2_with fail); (with_reducible refine (shown_any _).mono ?_); (rintro e w1 ⟨rfl, hb1⟩); (have hz1 := hb1.size); (try simp only [World.size_alloc, World.size_setCell] at hz1))
    (have b1 : Box w1 w.heap.size #[.slice a l.length cap, .int .i64 n] 24 := (by (try have k1 := (Lib.hid True.intro).out); ((apply Box.cast); (repeat (first | with_reducible assumption | ((with_reducible apply Box.new1); (first | with_reducible rfl | rfl | (solve | simp))) | with_reducible apply Box.drewN | with_reducible apply Box.drew | with_reducible apply Box.set | with_reducible apply Box.other | with_reducible apply Box.alloc | (with_reducible apply Box.below; rotate_left; with_reducible assumption; rotate_right) | with_reducible rfl | omega | (dsimp only; omega) | (simp only [drew_heap', drewN_heap', World.size_alloc, World.size_setCell]; omega) | rfl | (solve | simp) | (solve | (simp; omega))))))); (obtain ⟨hc1, hf1, hl1, hn1, hm1⟩ := b1.rules); (have K1 := Lib.hid b1); (clear b1)
    have hbw : Below w.heap.size w w1 := by (repeat (first | with_reducible assumption | with_reducible exact Below.refl _ _ | with_reducible refine Below.setCell ?_ ?_ _ | with_reducible refine Below.alloc ?_ ?_ _ | with_reducible refine below_drewN' ?_ _ | with_reducible refine Below.drew ?_ | with_reducible refine Below.trans ?_ (Below.mono (by assumption) ?_) | omega | (dsimp only; omega) | (simp only [drew_heap', drewN_heap', World.size_alloc, World.size_setCell]; omega) | (solve | simp) | (solve | (simp; omega))))
    go_wp2_with fail
    with_reducible refine (HS.out _ (HV.out.below hbw)).mono ?_
    rintro e w2 ⟨v2, rfl, hs2, hr2, hb2⟩
    have hz2 := hb2.size
    (have b2 : Box w2 w.heap.size #[.slice a l.length cap, .int .i64 n] 24 := (by (try have k2 := K1.out); ((apply Box.cast); (repeat (first | with_reducible assumption | ((with_reducible apply Box.new1); (first | with_reducible rfl | rfl | (solve | simp))) | with_reducible apply Box.drewN | with_reducible apply Box.drew | with_reducible apply Box.set | with_reducible apply Box.other | with_reducible apply Box.alloc | (with_reducible apply Box.below; rotate_left; with_reducible assumption; rotate_right) | with_reducible rfl | omega | (dsimp only; omega) | (simp only [drew_heap', drewN_heap', World.size_alloc, World.size_setCell]; omega) | rfl | (solve | simp) | (solve | (simp; omega))))))); (obtain ⟨hc2, hf2, hl2, hn2, hm2⟩ := b2.rules); (have K2 := Lib.hid b2); (clear b2)
    have HS2 := Lib.hid hs2
    obtain ⟨a2, cap2, rfl, _⟩ := hs2.shape
    rw [ints_len] at HS2 ⊢
    clear hs2 hr2
    go_wp2_with fail
    generalize hW3 : w2.alloc _ = w3
    have hb3 : Below w2.heap.size w2 w3 := by rw [← hW3]; (repeat (first | with_reducible assumption | with_reducible exact Below.refl _ _ | with_reducible refine Below.setCell ?_ ?_ _ | with_reducible refine Below.alloc ?_ ?_ _ | with_reducible refine below_drewN' ?_ _ | with_reducible refine Below.drew ?_ | with_reducible refine Below.trans ?_ (Below.mono (by assumption) ?_) | omega | (dsimp only; omega) | (simp only [drew_heap', drewN_heap', World.size_alloc, World.size_setCell]; omega) | (solve | simp) | (solve | (simp; omega))))
    have hz3 := hb3.size
    have kd : Box w3 w2.heap.size #[.slice a2 y.1.length cap2, .int .i64 y.2] 24 := by rw [← hW3]; ((apply Box.cast); (repeat (first | with_reducible assumption | ((with_reducible apply Box.new1); (first | with_reducible rfl | rfl | (solve | simp))) | with_reducible apply Box.drewN | with_reducible apply Box.drew | with_reducible apply Box.set | with_reducible apply Box.other | with_reducible apply Box.alloc | (with_reducible apply Box.below; rotate_left; with_reducible assumption; rotate_right) | with_reducible rfl | omega | (dsimp only; omega) | (simp only [drew_heap', drewN_heap', World.size_alloc, World.size_setCell]; omega) | rfl | (solve | simp) | (solve | (simp; omega)))))
    (have b3 : Box w3 w.heap.size #[.slice a l.length cap, .int .i64 n] 24 := (by (try have k3 := K2.out); ((apply Box.cast); (repeat (first | with_reducible assumption | ((with_reducible apply Box.new1); (first | with_reducible rfl | rfl | (solve | simp))) | with_reducible apply Box.drewN | with_reducible apply Box.drew | with_reducible apply Box.set | with_reducible apply Box.other | with_reducible apply Box.alloc | (with_reducible apply Box.below; rotate_left; with_reducible assumption; rotate_right) | with_reducible rfl | omega | (dsimp only; omega) | (simp only [drew_heap', drewN_heap', World.size_alloc, World.size_setCell]; omega) | rfl | (solve | simp) | (solve | (simp; omega))))))); (obtain ⟨hc3, hf3, hl3, hn3, hm3⟩ := b3.rules); (have K3 := Lib.hid b3); (clear b3)
    have hbw3 : Below w.heap.size w w3 := by (repeat (first | with_reducible assumption | with_reducible exact Below.refl _ _ | with_reducible refine Below.setCell ?_ ?_ _ | with_reducible refine Below.alloc ?_ ?_ _ | with_reducible refine below_drewN' ?_ _ | with_reducible refine Below.drew ?_ | with_reducible refine Below.trans ?_ (Below.mono (by assumption) ?_) | omega | (dsimp only; omega) | (simp only [drew_heap', drewN_heap', World.size_alloc, World.size_setCell]; omega) | (solve | simp) | (solve | (simp; omega))))
    have HA := Lib.hid (HS2.out.below hb3)
    have HB := Lib.hid (HV.out.below hbw3)
    have hP0 := hc3 0
    have hP1 := hc3 1
    have hP2 := kd.rules.1 0
    have hP3 := kd.rules.1 1
    have hS0 : ST w3 w.heap.size w2.heap.size (.slice a l.length cap) (.slice a2 y.1.length cap2) n y.2 w3 := ⟨hP0, hP1, hP2, hP3, Below.refl _ _⟩
    clear hW3 kd HS2 hc1 hf1 hl1 hn1 hm1 hc2 hf2 hl2 hn2 hm2 hc3 hf3 hl3 hn3 hm3 hb1 hb2 hb3 hbw
    go_region_held3 (fun W => W.cell? ⟨w.heap.size, 0, none⟩ = some (.slice a l.length cap) ∧ W.cell? ⟨w.heap.size, 1, none⟩ = some (.int .i64 n) ∧ W.cell? ⟨w2.heap.size, 0, none⟩ = some (.slice a2 y.1.length cap2) ∧ W.cell? ⟨w2.heap.size, 1, none⟩ = some (.int .i64 y.2) ∧ Below w3.heap.size w3 W) ((refine ST.keep hS0 ?_; (repeat (first | with_reducible assumption | with_reducible exact Below.refl _ _ | with_reducible refine Below.setCell ?_ ?_ _ | with_reducible refine Below.alloc ?_ ?_ _ | with_reducible refine below_drewN' ?_ _ | with_reducible refine Below.drew ?_ | with_reducible refine Below.trans ?_ (Below.mono (by assumption) ?_) | omega | (dsimp only; omega) | (simp only [drew_heap', drewN_heap', World.size_alloc, World.size_setCell]; omega) | (solve | simp) | (solve | (simp; omega))))))
      ((first
        | (go_at_call 12; with_reducible refine (HY.out _ (HB.out.below (by (repeat (first | with_reducible assumption | with_reducible exact Below.refl _ _ | with_reducible refine Below.setCell ?_ ?_ _ | with_reducible refine Below.alloc ?_ ?_ _ | with_reducible refine below_drewN' ?_ _ | with_reducible refine Below.drew ?_ | with_reducible refine Below.trans ?_ (Below.mono (by assumption) ?_) | omega | (dsimp only; omega) | (simp only [drew_heap', drewN_heap', World.size_alloc, World.size_setCell]; omega) | (solve | simp) | (solve | (simp; omega))))))).mono ?_; rintro en w5 ⟨v5, rfl, hs5, hr5, hb5⟩; (have hz5 := hb5.size); (try simp only [drew_heap', drewN_heap'] at hz5); (have HS5 := Lib.hid hs5); clear hs5 hr5)
        | (go_at_call 13; with_reducible refine (same_any _ _ y.1 y.1 y.2 y.2 _ (HA.out.below (by (repeat (first | with_reducible assumption | with_reducible exact Below.refl _ _ | with_reducible refine Below.setCell ?_ ?_ _ | with_reducible refine Below.alloc ?_ ?_ _ | with_reducible refine below_drewN' ?_ _ | with_reducible refine Below.drew ?_ | with_reducible refine Below.trans ?_ (Below.mono (by assumption) ?_) | omega | (dsimp only; omega) | (simp only [drew_heap', drewN_heap', World.size_alloc, World.size_setCell]; omega) | (solve | simp) | (solve | (simp; omega)))))) HS5.out).mono ?_; rintro en w6 ⟨rfl, hb6⟩; (have hz6 := hb6.size); (try simp only [drew_heap', drewN_heap'] at hz6))))
    clear hP0 hP1 hP2 hP3 hS0
    go_wp2_with fail
    go_ret
    exact ⟨by simp, by (repeat (first | with_reducible assumption | with_reducible exact Below.refl _ _ | with_reducible refine Below.setCell ?_ ?_ _ | with_reducible refine Below.alloc ?_ ?_ _ | with_reducible refine below_drewN' ?_ _ | with_reducible refine Below.drew ?_ | with_reducible refine Below.trans ?_ (Below.mono (by assumption) ?_) | omega | (dsimp only; omega) | (simp only [drew_heap', drewN_heap', World.size_alloc, World.size_setCell]; omega) | (solve | simp) | (solve | (simp; omega))))⟩
end Go.Proofs.Ytbehjbiicopgpaa
