/- The laws TurnNearer and TurnRound: their walks. Conditions: what came in is shaped. -/
import Derived.Test.YtbehjbiicopgpaaTurnSpends
namespace Go.Proofs.Ytbehjbiicopgpaa
open Go Go.RowKit Go.Tm
set_option linter.unusedVariables false
set_option linter.unusedSimpArgs false

theorem Sl.int {w : World} {a : Option Addr} {n cap : Nat} {l : List Int} (h : Sl w false 1 (.slice a n cap) (ints l)) {i : Nat} {x : Int} (hx : l[i]? = some x) :
    ∃ b off, a = some ⟨b, off, none⟩ ∧ b < w.heap.size ∧ w.cell? ⟨b, off + i, none⟩ = some (.int .i64 x) := by
  obtain ⟨b, off, ha, hb, hcell⟩ := h.at (ints_get hx)
  have := hcell 0 _ rfl
  exact ⟨b, off, ha, hb, by simpa using this⟩

set_option maxHeartbeats 4000000 in
theorem turnNearer_walk (v : Value) (l : List Int) (n : Int) (w : World) (hv : Sl w false 1 v (ints l)) (hby : l.length * 8 ≤ 140737488351232) :
    Calls Try.prog 4 #[.agg #[v, .int .i64 n]] w fun e w' => e = .returned (.bool true) ∧ Below w.heap.size w w' := by
  have HV := Lib.hid hv
  have hY := fun W h => yield_any v l n W h hby
  obtain ⟨a, cap, rfl, hl⟩ := hv.shape
  clear hv
  rw [ints_len] at hl HV hY ⊢
  have HY := Lib.hid hY
  clear hY
  cases l with
  | nil =>
    rw [show yieldS [] n = ([], n) from rfl] at HY
    simp only [List.length_nil] at HY HV ⊢
    go_enter Try.func4, Try.ntmps4
    ((go_wp2_with fail); (with_reducible refine (shown_any _).mono ?_); (rintro e w1 ⟨rfl, hb1⟩); (have hz1 := hb1.size); (try simp only [World.size_alloc, World.size_setCell] at hz1))
    (have b1 : Box w1 w.heap.size #[.slice a 0 cap, .int .i64 n] 24 := (by (try have k1 := (Lib.hid True.intro).out); ((apply Box.cast); (repeat (first | with_reducible assumption | ((with_reducible apply Box.new1); (first | with_reducible rfl | rfl | (solve | simp))) | with_reducible apply Box.drewN | with_reducible apply Box.drew | with_reducible apply Box.set | with_reducible apply Box.other | with_reducible apply Box.alloc | (with_reducible apply Box.below; rotate_left; with_reducible assumption; rotate_right) | with_reducible rfl | omega | (dsimp only; omega) | (simp only [drew_heap', drewN_heap', World.size_alloc, World.size_setCell]; omega) | rfl | (solve | simp) | (solve | (simp; omega))))))); (obtain ⟨hc1, hf1, hl1, hn1, hm1⟩ := b1.rules); (have K1 := Lib.hid b1); (clear b1)
    have hbw : Below w.heap.size w w1 := by (repeat (first | with_reducible assumption | with_reducible exact Below.refl _ _ | with_reducible refine Below.setCell ?_ ?_ _ | with_reducible refine Below.alloc ?_ ?_ _ | with_reducible refine below_drewN' ?_ _ | with_reducible refine Below.drew ?_ | with_reducible refine Below.trans ?_ (Below.mono (by assumption) ?_) | omega | (dsimp only; omega) | (simp only [drew_heap', drewN_heap', World.size_alloc, World.size_setCell]; omega) | (solve | simp) | (solve | (simp; omega))))
    go_wp2_with fail
    with_reducible refine (HY.out _ (HV.out.below hbw)).mono ?_
    rintro e w2 ⟨v2, rfl, hs2, hr2, hb2⟩
    have hz2 := hb2.size
    (have b2 : Box w2 w.heap.size #[.slice a 0 cap, .int .i64 n] 24 := (by (try have k2 := K1.out); ((apply Box.cast); (repeat (first | with_reducible assumption | ((with_reducible apply Box.new1); (first | with_reducible rfl | rfl | (solve | simp))) | with_reducible apply Box.drewN | with_reducible apply Box.drew | with_reducible apply Box.set | with_reducible apply Box.other | with_reducible apply Box.alloc | (with_reducible apply Box.below; rotate_left; with_reducible assumption; rotate_right) | with_reducible rfl | omega | (dsimp only; omega) | (simp only [drew_heap', drewN_heap', World.size_alloc, World.size_setCell]; omega) | rfl | (solve | simp) | (solve | (simp; omega))))))); (obtain ⟨hc2, hf2, hl2, hn2, hm2⟩ := b2.rules); (have K2 := Lib.hid b2); (clear b2)
    have HS2 := Lib.hid hs2
    obtain ⟨a2, cap2, hv2, _⟩ := hs2.shape
    replace hv2 : v2 = .slice a2 0 cap2 := hv2
    subst hv2
    clear hs2 hr2
    go_wp2_with fail
    with_reducible refine (same_any _ _ [] [] n n _ (HS2.out.alloc _) (HV.out.below (by (repeat (first | with_reducible assumption | with_reducible exact Below.refl _ _ | with_reducible refine Below.setCell ?_ ?_ _ | with_reducible refine Below.alloc ?_ ?_ _ | with_reducible refine below_drewN' ?_ _ | with_reducible refine Below.drew ?_ | with_reducible refine Below.trans ?_ (Below.mono (by assumption) ?_) | omega | (dsimp only; omega) | (simp only [drew_heap', drewN_heap', World.size_alloc, World.size_setCell]; omega) | (solve | simp) | (solve | (simp; omega))))))).mono ?_
    rintro e w3 ⟨rfl, hb3⟩
    have hz3 := hb3.size
    go_wp2_with fail
    go_ret
    exact ⟨by simp, by (repeat (first | with_reducible assumption | with_reducible exact Below.refl _ _ | with_reducible refine Below.setCell ?_ ?_ _ | with_reducible refine Below.alloc ?_ ?_ _ | with_reducible refine below_drewN' ?_ _ | with_reducible refine Below.drew ?_ | with_reducible refine Below.trans ?_ (Below.mono (by assumption) ?_) | omega | (dsimp only; omega) | (simp only [drew_heap', drewN_heap', World.size_alloc, World.size_setCell]; omega) | (solve | simp) | (solve | (simp; omega))))⟩
  | cons x r =>
    rw [show yieldS (x :: r) n = (r ++ [x], 5) from rfl] at HY
    simp only [List.length_cons] at HY HV hby hl ⊢
    have hsub : IntKind.i64.wrap ((r.length : Int) + 1 - 1) = r.length := by rw [IntWalk.i64_in _ (by omega)]; omega
    have hne : ((r.length : Int) + 1 == 0) = false := by rw [beq_eq_false_iff_ne]; omega
    go_enter Try.func4, Try.ntmps4
    ((go_wp2_with fail); (with_reducible refine (shown_any _).mono ?_); (rintro e w1 ⟨rfl, hb1⟩); (have hz1 := hb1.size); (try simp only [World.size_alloc, World.size_setCell] at hz1))
    (have b1 : Box w1 w.heap.size #[.slice a (r.length + 1) cap, .int .i64 n] 24 := (by (try have k1 := (Lib.hid True.intro).out); ((apply Box.cast); (repeat (first | with_reducible assumption | ((with_reducible apply Box.new1); (first | with_reducible rfl | rfl | (solve | simp))) | with_reducible apply Box.drewN | with_reducible apply Box.drew | with_reducible apply Box.set | with_reducible apply Box.other | with_reducible apply Box.alloc | (with_reducible apply Box.below; rotate_left; with_reducible assumption; rotate_right) | with_reducible rfl | omega | (dsimp only; omega) | (simp only [drew_heap', drewN_heap', World.size_alloc, World.size_setCell]; omega) | rfl | (solve | simp) | (solve | (simp; omega))))))); (obtain ⟨hc1, hf1, hl1, hn1, hm1⟩ := b1.rules); (have K1 := Lib.hid b1); (clear b1)
    have hbw : Below w.heap.size w w1 := by (repeat (first | with_reducible assumption | with_reducible exact Below.refl _ _ | with_reducible refine Below.setCell ?_ ?_ _ | with_reducible refine Below.alloc ?_ ?_ _ | with_reducible refine below_drewN' ?_ _ | with_reducible refine Below.drew ?_ | with_reducible refine Below.trans ?_ (Below.mono (by assumption) ?_) | omega | (dsimp only; omega) | (simp only [drew_heap', drewN_heap', World.size_alloc, World.size_setCell]; omega) | (solve | simp) | (solve | (simp; omega))))
    go_wp2_with fail
    with_reducible refine (HY.out _ (HV.out.below hbw)).mono ?_
    rintro e w2 ⟨v2, rfl, hs2, hr2, hb2⟩
    have hz2 := hb2.size
    (have b2 : Box w2 w.heap.size #[.slice a (r.length + 1) cap, .int .i64 n] 24 := (by (try have k2 := K1.out); ((apply Box.cast); (repeat (first | with_reducible assumption | ((with_reducible apply Box.new1); (first | with_reducible rfl | rfl | (solve | simp))) | with_reducible apply Box.drewN | with_reducible apply Box.drew | with_reducible apply Box.set | with_reducible apply Box.other | with_reducible apply Box.alloc | (with_reducible apply Box.below; rotate_left; with_reducible assumption; rotate_right) | with_reducible rfl | omega | (dsimp only; omega) | (simp only [drew_heap', drewN_heap', World.size_alloc, World.size_setCell]; omega) | rfl | (solve | simp) | (solve | (simp; omega))))))); (obtain ⟨hc2, hf2, hl2, hn2, hm2⟩ := b2.rules); (have K2 := Lib.hid b2); (clear b2)
    obtain ⟨a2, cap2, rfl, _⟩ := hs2.shape
    rw [show (ints (r ++ [x])).length = r.length + 1 by simp] at hs2 ⊢
    obtain ⟨b2, o2, rfl, hb2l, e2⟩ := Sl.int hs2 (i := r.length) (x := x) (by simp)
    obtain ⟨b1, o1, rfl, hb1l, e1⟩ := Sl.int (HV.out.below (show Below w.heap.size w w2 by (repeat (first | with_reducible assumption | with_reducible exact Below.refl _ _ | with_reducible refine Below.setCell ?_ ?_ _ | with_reducible refine Below.alloc ?_ ?_ _ | with_reducible refine below_drewN' ?_ _ | with_reducible refine Below.drew ?_ | with_reducible refine Below.trans ?_ (Below.mono (by assumption) ?_) | omega | (dsimp only; omega) | (simp only [drew_heap', drewN_heap', World.size_alloc, World.size_setCell]; omega) | (solve | simp) | (solve | (simp; omega)))))) (i := 0) (x := x) rfl
    have HS2 := Lib.hid hs2
    clear hs2 hr2
    rw [Nat.add_zero] at e1
    go_wp2_with fail
    generalize hW3 : w2.alloc _ = w3
    have hb3 : Below w2.heap.size w2 w3 := by rw [← hW3]; (repeat (first | with_reducible assumption | with_reducible exact Below.refl _ _ | with_reducible refine Below.setCell ?_ ?_ _ | with_reducible refine Below.alloc ?_ ?_ _ | with_reducible refine below_drewN' ?_ _ | with_reducible refine Below.drew ?_ | with_reducible refine Below.trans ?_ (Below.mono (by assumption) ?_) | omega | (dsimp only; omega) | (simp only [drew_heap', drewN_heap', World.size_alloc, World.size_setCell]; omega) | (solve | simp) | (solve | (simp; omega))))
    have hz3 := hb3.size
    have kd : Box w3 w2.heap.size #[.slice (some ⟨b2, o2, none⟩) (r.length + 1) cap2, .int .i64 5] 24 := by rw [← hW3]; ((apply Box.cast); (repeat (first | with_reducible assumption | ((with_reducible apply Box.new1); (first | with_reducible rfl | rfl | (solve | simp))) | with_reducible apply Box.drewN | with_reducible apply Box.drew | with_reducible apply Box.set | with_reducible apply Box.other | with_reducible apply Box.alloc | (with_reducible apply Box.below; rotate_left; with_reducible assumption; rotate_right) | with_reducible rfl | omega | (dsimp only; omega) | (simp only [drew_heap', drewN_heap', World.size_alloc, World.size_setCell]; omega) | rfl | (solve | simp) | (solve | (simp; omega)))))
    (have b3 : Box w3 w.heap.size #[.slice (some ⟨b1, o1, none⟩) (r.length + 1) cap, .int .i64 n] 24 := (by (try have k3 := K2.out); ((apply Box.cast); (repeat (first | with_reducible assumption | ((with_reducible apply Box.new1); (first | with_reducible rfl | rfl | (solve | simp))) | with_reducible apply Box.drewN | with_reducible apply Box.drew | with_reducible apply Box.set | with_reducible apply Box.other | with_reducible apply Box.alloc | (with_reducible apply Box.below; rotate_left; with_reducible assumption; rotate_right) | with_reducible rfl | omega | (dsimp only; omega) | (simp only [drew_heap', drewN_heap', World.size_alloc, World.size_setCell]; omega) | rfl | (solve | simp) | (solve | (simp; omega))))))); (obtain ⟨hc3, hf3, hl3, hn3, hm3⟩ := b3.rules); (have K3 := Lib.hid b3); (clear b3)
    have hbw3 : Below w.heap.size w w3 := by (repeat (first | with_reducible assumption | with_reducible exact Below.refl _ _ | with_reducible refine Below.setCell ?_ ?_ _ | with_reducible refine Below.alloc ?_ ?_ _ | with_reducible refine below_drewN' ?_ _ | with_reducible refine Below.drew ?_ | with_reducible refine Below.trans ?_ (Below.mono (by assumption) ?_) | omega | (dsimp only; omega) | (simp only [drew_heap', drewN_heap', World.size_alloc, World.size_setCell]; omega) | (solve | simp) | (solve | (simp; omega))))
    have KD := Lib.hid kd
    have hkl := kd.lt
    have g1 := K3.out.regrown
    have g2 := kd.regrown
    have g3 := cell_rg (cellKeep hb3 e1) (by omega)
    have g4 := cell_rg (cellKeep hb3 e2) (by omega)
    clear hW3 kd hc1 hf1 hl1 hn1 hm1 hc2 hf2 hl2 hn2 hm2 hc3 hf3 hl3 hn3 hm3 e1 e2
    ((refine wp_region_quiet_below (by kernel_rfl) (by kernel_rfl) ?_); (repeat (go_big_quiet_step (fail))); (refine wpQuiet_nil ?_); (intro _ hw'); (obtain ⟨⟨dq, osq⟩, hw''⟩ := hw'); (subst hw''); (have hb4 := below_regrown w3 dq osq); (generalize Go.Sort.grow (redrawn w3 dq) osq = w4 at *); (have hz4 := hb4.size))
    clear g1 g2 g3 g4
    (have b4 : Box w4 w.heap.size #[.slice (some ⟨b1, o1, none⟩) (r.length + 1) cap, .int .i64 n] 24 := (by (try have k4 := K3.out); ((apply Box.cast); (repeat (first | with_reducible assumption | ((with_reducible apply Box.new1); (first | with_reducible rfl | rfl | (solve | simp))) | with_reducible apply Box.drewN | with_reducible apply Box.drew | with_reducible apply Box.set | with_reducible apply Box.other | with_reducible apply Box.alloc | (with_reducible apply Box.below; rotate_left; with_reducible assumption; rotate_right) | with_reducible rfl | omega | (dsimp only; omega) | (simp only [drew_heap', drewN_heap', World.size_alloc, World.size_setCell]; omega) | rfl | (solve | simp) | (solve | (simp; omega))))))); (obtain ⟨hc4, hf4, hl4, hn4, hm4⟩ := b4.rules); (have K4 := Lib.hid b4); (clear b4)
    (have b5 : Box w4 w2.heap.size #[.slice (some ⟨b2, o2, none⟩) (r.length + 1) cap2, .int .i64 5] 24 := (by (try have k5 := KD.out); ((apply Box.cast); (repeat (first | with_reducible assumption | ((with_reducible apply Box.new1); (first | with_reducible rfl | rfl | (solve | simp))) | with_reducible apply Box.drewN | with_reducible apply Box.drew | with_reducible apply Box.set | with_reducible apply Box.other | with_reducible apply Box.alloc | (with_reducible apply Box.below; rotate_left; with_reducible assumption; rotate_right) | with_reducible rfl | omega | (dsimp only; omega) | (simp only [drew_heap', drewN_heap', World.size_alloc, World.size_setCell]; omega) | rfl | (solve | simp) | (solve | (simp; omega))))))); (obtain ⟨hc5, hf5, hl5, hn5, hm5⟩ := b5.rules); (have K5 := Lib.hid b5); (clear b5)
    have hb24 : Below w2.heap.size w2 w4 := hb3.trans (hb4.mono hz3)
    have hbw4 : Below w.heap.size w w4 := hbw3.trans (hb4.mono hbw3.size)
    have HS4 := Lib.hid (HS2.out.below hb24)
    have HV4 := Lib.hid (HV.out.below hbw4)
    clear hbw hbw3 hb24 hb1 hb2 hb3 hb4
    go_wp2_with fail
    go_loopw [5] (fun t W => ∃ j : Nat, 1 ≤ j ∧ j ≤ r.length + 1 ∧ t = .int .i64 j ∧ Below w4.heap.size w4 W) (fun t _ => r.length + 1 - (intOf t).toNat)
    case atStart => exact ⟨1, Nat.le_refl _, by omega, rfl, Below.refl _ _⟩
    case round =>
      obtain ⟨j, hj1, hj2, rfl, hbx⟩ := hrel
      have hwx := hbx.size
      obtain ⟨i, rfl⟩ : ∃ i, j = i + 1 := ⟨j - 1, by omega⟩
      (have b6 : Box wr w.heap.size #[.slice (some ⟨b1, o1, none⟩) (r.length + 1) cap, .int .i64 n] 24 := (by (try have k6 := K4.out); ((apply Box.cast); (repeat (first | with_reducible assumption | ((with_reducible apply Box.new1); (first | with_reducible rfl | rfl | (solve | simp))) | with_reducible apply Box.drewN | with_reducible apply Box.drew | with_reducible apply Box.set | with_reducible apply Box.other | with_reducible apply Box.alloc | (with_reducible apply Box.below; rotate_left; with_reducible assumption; rotate_right) | with_reducible rfl | omega | (dsimp only; omega) | (simp only [drew_heap', drewN_heap', World.size_alloc, World.size_setCell]; omega) | rfl | (solve | simp) | (solve | (simp; omega))))))); (obtain ⟨hc6, hf6, hl6, hn6, hm6⟩ := b6.rules); (have K6 := Lib.hid b6); (clear b6)
      (have b7 : Box wr w2.heap.size #[.slice (some ⟨b2, o2, none⟩) (r.length + 1) cap2, .int .i64 5] 24 := (by (try have k7 := K5.out); ((apply Box.cast); (repeat (first | with_reducible assumption | ((with_reducible apply Box.new1); (first | with_reducible rfl | rfl | (solve | simp))) | with_reducible apply Box.drewN | with_reducible apply Box.drew | with_reducible apply Box.set | with_reducible apply Box.other | with_reducible apply Box.alloc | (with_reducible apply Box.below; rotate_left; with_reducible assumption; rotate_right) | with_reducible rfl | omega | (dsimp only; omega) | (simp only [drew_heap', drewN_heap', World.size_alloc, World.size_setCell]; omega) | rfl | (solve | simp) | (solve | (simp; omega))))))); (obtain ⟨hc7, hf7, hl7, hn7, hm7⟩ := b7.rules); (have K7 := Lib.hid b7); (clear b7)
      clear hc4 hf4 hl4 hn4 hm4 hc5 hf5 hl5 hn5 hm5
      by_cases hlt : i + 1 < r.length + 1
      · obtain ⟨y, hy⟩ : ∃ y, r[i]? = some y := ⟨_, List.getElem?_eq_getElem (by omega)⟩
        obtain ⟨_, _, he2, hl2', e2⟩ := Sl.int (HS4.out.below hbx) (i := i) (x := y) (by rw [List.getElem?_append_left (by omega)]; exact hy)
        simp only [Option.some.injEq, Addr.mk.injEq, and_true] at he2
        obtain ⟨rfl, rfl⟩ := he2
        obtain ⟨_, _, he1, hl1', e1⟩ := Sl.int (HV4.out.below hbx) (i := i + 1) (x := y) (by simpa using hy)
        simp only [Option.some.injEq, Addr.mk.injEq, and_true] at he1
        obtain ⟨rfl, rfl⟩ := he1
        have hwr : IntKind.i64.wrap ((i : Int) + 1 + 1) = i + 1 + 1 := IntWalk.i64_in _ (by omega)
        have hws : IntKind.i64.wrap ((i : Int) + 1 - 1) = i := by rw [IntWalk.i64_in _ (by omega)]; omega
        have hlt' : (i : Int) + 1 < r.length + 1 := by omega
        clear hy
        go_wp2_with fail
        have g1 := K6.out.regrown
        have g2 := K7.out.regrown
        have g3 := cell_rg e1 hl1'
        have g4 := cell_rg e2 hl2'
        ((refine wp_region_quiet_below (by kernel_rfl) (by kernel_rfl) ?_); (repeat (go_big_quiet_step (fail))); (refine wpQuiet_nil ?_); (intro _ hw'); (obtain ⟨⟨dq, osq⟩, hw''⟩ := hw'); (subst hw''); (have hb7 := below_regrown wr dq osq); (generalize Go.Sort.grow (redrawn wr dq) osq = w7 at *); (have hz7 := hb7.size))
        clear g1 g2 g3 g4
        go_wp2_with fail
        go_roundw
        case rel => exact ⟨i + 1 + 1, by omega, by omega, by go_num, by (repeat (first | with_reducible assumption | with_reducible exact Below.refl _ _ | with_reducible refine Below.setCell ?_ ?_ _ | with_reducible refine Below.alloc ?_ ?_ _ | with_reducible refine below_drewN' ?_ _ | with_reducible refine Below.drew ?_ | with_reducible refine Below.trans ?_ (Below.mono (by assumption) ?_) | omega | (dsimp only; omega) | (simp only [drew_heap', drewN_heap', World.size_alloc, World.size_setCell]; omega) | (solve | simp) | (solve | (simp; omega))))⟩
        case measure => simp [intOf]; omega
      · have hlt' : ¬ (i : Int) + 1 < r.length + 1 := by omega
        go_wp2_with fail
        go_ret
        exact ⟨by simp, by (repeat (first | with_reducible assumption | with_reducible exact Below.refl _ _ | with_reducible refine Below.setCell ?_ ?_ _ | with_reducible refine Below.alloc ?_ ?_ _ | with_reducible refine below_drewN' ?_ _ | with_reducible refine Below.drew ?_ | with_reducible refine Below.trans ?_ (Below.mono (by assumption) ?_) | omega | (dsimp only; omega) | (simp only [drew_heap', drewN_heap', World.size_alloc, World.size_setCell]; omega) | (solve | simp) | (solve | (simp; omega))))⟩
end Go.Proofs.Ytbehjbiicopgpaa
