/- The law TurnRound: its walk. Conditions: what came in is shaped. -/
import Derived.Test.YtbehjbiicopgpaaTurnSpends
namespace Go.Proofs.Ytbehjbiicopgpaa
open Go Go.RowKit Go.Tm
set_option linter.unusedVariables false
set_option linter.unusedSimpArgs false

/-- A row, turned by i. -/
def rot (l : List Int) (i : Nat) : List Int := l.drop i ++ l.take i
theorem rot_zero (l : List Int) : rot l 0 = l := by simp [rot]
theorem rot_len (l : List Int) (i : Nat) : (rot l i).length = l.length := by simp [rot]; omega
theorem rot_all (l : List Int) : rot l l.length = l := by simp [rot]
theorem yield_rot {l : List Int} {i : Nat} (h : i < l.length) (n : Int) : yieldS (rot l i) n = (rot l (i + 1), 5) := by
  have hd : l.drop i = l[i] :: l.drop (i + 1) := (List.drop_eq_getElem_cons h)
  unfold rot
  rw [hd]
  simp only [List.cons_append, yieldS, List.append_assoc]
  rw [take_step (x := l[i]) (List.getElem?_eq_getElem h)]

set_option maxHeartbeats 4000000 in
theorem turnRound_walk (v : Value) (l : List Int) (n : Int) (w : World) (hv : Sl w false 1 v (ints l)) (hby : l.length * 8 ≤ 140737488351232) :
    Calls Try.prog 5 #[.agg #[v, .int .i64 n]] w fun e w' => e = .returned (.bool true) ∧ Below w.heap.size w w' := by
  have HV := Lib.hid hv
  obtain ⟨a, cap, rfl, hl⟩ := hv.shape
  clear hv
  rw [ints_len] at hl HV ⊢
  by_cases h100 : 100 < l.length
  · have h100' : (100 : Int) < l.length := by omega
    go_enter Try.func5, Try.ntmps5
    ((go_wp2_with fail); (with_reducible refine (shown_any _).mono ?_); (rintro e w1 ⟨rfl, hb1⟩); (have hz1 := hb1.size); (try simp only [World.size_alloc, World.size_setCell] at hz1))
    (have b1 : Box w1 w.heap.size #[.slice a l.length cap, .int .i64 n] 24 := (by (try have k1 := (Lib.hid True.intro).out); ((apply Box.cast); (repeat (first | with_reducible assumption | ((with_reducible apply Box.new1); (first | with_reducible rfl | rfl | (solve | simp))) | with_reducible apply Box.drewN | with_reducible apply Box.drew | with_reducible apply Box.set | with_reducible apply Box.other | with_reducible apply Box.alloc | (with_reducible apply Box.below; rotate_left; with_reducible assumption; rotate_right) | with_reducible rfl | omega | (dsimp only; omega) | (simp only [drew_heap', drewN_heap', World.size_alloc, World.size_setCell]; omega) | rfl | (solve | simp) | (solve | (simp; omega))))))); (obtain ⟨hc1, hf1, hl1, hn1, hm1⟩ := b1.rules); (have K1 := Lib.hid b1); (clear b1)
    go_wp2_with fail
    go_ret
    exact ⟨by simp, by (repeat (first | with_reducible assumption | with_reducible exact Below.refl _ _ | with_reducible refine Below.setCell ?_ ?_ _ | with_reducible refine Below.alloc ?_ ?_ _ | with_reducible refine below_drewN' ?_ _ | with_reducible refine Below.drew ?_ | with_reducible refine Below.trans ?_ (Below.mono (by assumption) ?_) | omega | (dsimp only; omega) | (simp only [drew_heap', drewN_heap', World.size_alloc, World.size_setCell]; omega) | (solve | simp) | (solve | (simp; omega))))⟩
  · have h100' : ¬ (100 : Int) < l.length := by omega
    go_enter Try.func5, Try.ntmps5
    ((go_wp2_with fail); (with_reducible refine (shown_any _).mono ?_); (rintro e w1 ⟨rfl, hb1⟩); (have hz1 := hb1.size); (try simp only [World.size_alloc, World.size_setCell] at hz1))
    (have b1 : Box w1 w.heap.size #[.slice a l.length cap, .int .i64 n] 24 := (by (try have k1 := (Lib.hid True.intro).out); ((apply Box.cast); (repeat (first | with_reducible assumption | ((with_reducible apply Box.new1); (first | with_reducible rfl | rfl | (solve | simp))) | with_reducible apply Box.drewN | with_reducible apply Box.drew | with_reducible apply Box.set | with_reducible apply Box.other | with_reducible apply Box.alloc | (with_reducible apply Box.below; rotate_left; with_reducible assumption; rotate_right) | with_reducible rfl | omega | (dsimp only; omega) | (simp only [drew_heap', drewN_heap', World.size_alloc, World.size_setCell]; omega) | rfl | (solve | simp) | (solve | (simp; omega))))))); (obtain ⟨hc1, hf1, hl1, hn1, hm1⟩ := b1.rules); (have K1 := Lib.hid b1); (clear b1)
    have hbw : Below w.heap.size w w1 := by (repeat (first | with_reducible assumption | with_reducible exact Below.refl _ _ | with_reducible refine Below.setCell ?_ ?_ _ | with_reducible refine Below.alloc ?_ ?_ _ | with_reducible refine below_drewN' ?_ _ | with_reducible refine Below.drew ?_ | with_reducible refine Below.trans ?_ (Below.mono (by assumption) ?_) | omega | (dsimp only; omega) | (simp only [drew_heap', drewN_heap', World.size_alloc, World.size_setCell]; omega) | (solve | simp) | (solve | (simp; omega))))
    go_wp2_with fail
    go_loopw [5] (fun t W => ∃ (i : Nat) (u : Value), i ≤ l.length ∧ t = .int .i64 i ∧ Below w.heap.size w W ∧ w1.heap.size + 1 ≤ W.heap.size ∧ Box W w.heap.size #[.slice a l.length cap, .int .i64 n] 24 ∧
      Box W w1.heap.size #[u, .int .i64 (if i = 0 then n else 5)] 24 ∧ Sl W false 1 u (ints (rot l i)) ∧ Apart w1.heap.size u (ints (rot l i)) ∧ Apart w.heap.size u (ints (rot l i))) (fun t _ => l.length - (intOf t).toNat)
    case atStart =>
      refine ⟨0, _, Nat.zero_le _, rfl, by (repeat (first | with_reducible assumption | with_reducible exact Below.refl _ _ | with_reducible refine Below.setCell ?_ ?_ _ | with_reducible refine Below.alloc ?_ ?_ _ | with_reducible refine below_drewN' ?_ _ | with_reducible refine Below.drew ?_ | with_reducible refine Below.trans ?_ (Below.mono (by assumption) ?_) | omega | (dsimp only; omega) | (simp only [drew_heap', drewN_heap', World.size_alloc, World.size_setCell]; omega) | (solve | simp) | (solve | (simp; omega)))), by simp, by (have k1 := K1.out); ((apply Box.cast); (repeat (first | with_reducible assumption | ((with_reducible apply Box.new1); (first | with_reducible rfl | rfl | (solve | simp))) | with_reducible apply Box.drewN | with_reducible apply Box.drew | with_reducible apply Box.set | with_reducible apply Box.other | with_reducible apply Box.alloc | (with_reducible apply Box.below; rotate_left; with_reducible assumption; rotate_right) | with_reducible rfl | omega | (dsimp only; omega) | (simp only [drew_heap', drewN_heap', World.size_alloc, World.size_setCell]; omega) | rfl | (solve | simp) | (solve | (simp; omega))))), by ((apply Box.cast); (repeat (first | with_reducible assumption | ((with_reducible apply Box.new1); (first | with_reducible rfl | rfl | (solve | simp))) | with_reducible apply Box.drewN | with_reducible apply Box.drew | with_reducible apply Box.set | with_reducible apply Box.other | with_reducible apply Box.alloc | (with_reducible apply Box.below; rotate_left; with_reducible assumption; rotate_right) | with_reducible rfl | omega | (dsimp only; omega) | (simp only [drew_heap', drewN_heap', World.size_alloc, World.size_setCell]; omega) | rfl | (solve | simp) | (solve | (simp; omega))))), ?_, ?_, ?_⟩
      · rw [rot_zero]; exact (HV.out.below hbw).alloc _
      · rw [rot_zero]; exact HV.out.apart (by omega)
      · rw [rot_zero]; exact HV.out.apart (Nat.le_refl _)
    case round =>
      obtain ⟨i, u, hi, rfl, hbx, hws, bx0, bx1, hsl, hap, hap0⟩ := hrel
      have K2 := Lib.hid bx0
      have K3 := Lib.hid bx1
      obtain ⟨hc2, hf2, hl2, hn2, hm2⟩ := bx0.rules
      obtain ⟨hc3, hf3, hl3, hn3, hm3⟩ := bx1.rules
      have HSL := Lib.hid hsl
      have HAP := Lib.hid hap
      have HAP0 := Lib.hid hap0
      obtain ⟨a2, cap2, hu, _⟩ := hsl.shape
      rw [ints_len, rot_len] at hu
      subst hu
      clear bx0 bx1 hsl hap hap0 hc1 hf1 hl1 hn1 hm1
      by_cases hlt : i < l.length
      · have hY := yield_any (.slice a2 l.length cap2) (rot l i) (if i = 0 then n else 5) wr HSL.out (by rw [rot_len]; exact hby)
        rw [yield_rot hlt] at hY
        have HY := Lib.hid hY
        have hwr : IntKind.i64.wrap ((i : Int) + 1) = i + 1 := IntWalk.i64_in _ (by omega)
        clear hY
        generalize (if i = 0 then n else 5) = q at *
        go_wp2_with fail
        with_reducible refine HY.out.mono ?_
        rintro e w3 ⟨v3, rfl, hs3, hr3, hb3⟩
        have hz3 := hb3.size
        have HA3 := Lib.hid (hr3.apart HAP.out hl3)
        have HA4 := Lib.hid (hr3.apart HAP0.out hl2)
        have HS3 := Lib.hid hs3
        (have b4 : Box w3 w.heap.size #[.slice a l.length cap, .int .i64 n] 24 := (by (try have k4 := K2.out); ((apply Box.cast); (repeat (first | with_reducible assumption | ((with_reducible apply Box.new1); (first | with_reducible rfl | rfl | (solve | simp))) | with_reducible apply Box.drewN | with_reducible apply Box.drew | with_reducible apply Box.set | with_reducible apply Box.other | with_reducible apply Box.alloc | (with_reducible apply Box.below; rotate_left; with_reducible assumption; rotate_right) | with_reducible rfl | omega | (dsimp only; omega) | (simp only [drew_heap', drewN_heap', World.size_alloc, World.size_setCell]; omega) | rfl | (solve | simp) | (solve | (simp; omega))))))); (obtain ⟨hc4, hf4, hl4, hn4, hm4⟩ := b4.rules); (have K4 := Lib.hid b4); (clear b4)
        (have b5 : Box w3 w1.heap.size #[.slice a2 l.length cap2, .int .i64 q] 24 := (by (try have k5 := K3.out); ((apply Box.cast); (repeat (first | with_reducible assumption | ((with_reducible apply Box.new1); (first | with_reducible rfl | rfl | (solve | simp))) | with_reducible apply Box.drewN | with_reducible apply Box.drew | with_reducible apply Box.set | with_reducible apply Box.other | with_reducible apply Box.alloc | (with_reducible apply Box.below; rotate_left; with_reducible assumption; rotate_right) | with_reducible rfl | omega | (dsimp only; omega) | (simp only [drew_heap', drewN_heap', World.size_alloc, World.size_setCell]; omega) | rfl | (solve | simp) | (solve | (simp; omega))))))); (obtain ⟨hc5, hf5, hl5, hn5, hm5⟩ := b5.rules); (have K5 := Lib.hid b5); (clear b5)
        obtain ⟨a3, cap3, hu3, _⟩ := hs3.shape
        rw [ints_len, rot_len] at hu3
        subst hu3
        have hbx3 : Below w.heap.size w w3 := by (repeat (first | with_reducible assumption | with_reducible exact Below.refl _ _ | with_reducible refine Below.setCell ?_ ?_ _ | with_reducible refine Below.alloc ?_ ?_ _ | with_reducible refine below_drewN' ?_ _ | with_reducible refine Below.drew ?_ | with_reducible refine Below.trans ?_ (Below.mono (by assumption) ?_) | omega | (dsimp only; omega) | (simp only [drew_heap', drewN_heap', World.size_alloc, World.size_setCell]; omega) | (solve | simp) | (solve | (simp; omega))))
        have hne : ¬ w.heap.size = w1.heap.size := by omega
        clear hs3 hr3 hc2 hf2 hl2 hn2 hm2 hc3 hf3 hl3 hn3 hm3
        go_wp2_with fail
        go_roundw
        case rel =>
          refine ⟨i + 1, .slice a3 l.length cap3, by omega, by go_num, by (repeat (first | with_reducible assumption | with_reducible exact Below.refl _ _ | with_reducible refine Below.setCell ?_ ?_ _ | with_reducible refine Below.alloc ?_ ?_ _ | with_reducible refine below_drewN' ?_ _ | with_reducible refine Below.drew ?_ | with_reducible refine Below.trans ?_ (Below.mono (by assumption) ?_) | omega | (dsimp only; omega) | (simp only [drew_heap', drewN_heap', World.size_alloc, World.size_setCell]; omega) | (solve | simp) | (solve | (simp; omega)))), by (simp only [World.size_setCell]; omega), by (have k4 := K4.out); ((apply Box.cast); (repeat (first | with_reducible assumption | ((with_reducible apply Box.new1); (first | with_reducible rfl | rfl | (solve | simp))) | with_reducible apply Box.drewN | with_reducible apply Box.drew | with_reducible apply Box.set | with_reducible apply Box.other | with_reducible apply Box.alloc | (with_reducible apply Box.below; rotate_left; with_reducible assumption; rotate_right) | with_reducible rfl | omega | (dsimp only; omega) | (simp only [drew_heap', drewN_heap', World.size_alloc, World.size_setCell]; omega) | rfl | (solve | simp) | (solve | (simp; omega))))), by (have k5 := K5.out); ((apply Box.cast); (repeat (first | with_reducible assumption | ((with_reducible apply Box.new1); (first | with_reducible rfl | rfl | (solve | simp))) | with_reducible apply Box.drewN | with_reducible apply Box.drew | with_reducible apply Box.set | with_reducible apply Box.other | with_reducible apply Box.alloc | (with_reducible apply Box.below; rotate_left; with_reducible assumption; rotate_right) | with_reducible rfl | omega | (dsimp only; omega) | (simp only [drew_heap', drewN_heap', World.size_alloc, World.size_setCell]; omega) | rfl | (solve | simp) | (solve | (simp; omega))))), (HS3.out.setOther HA3.out _ _).setOther HA3.out _ _, HA3.out, HA4.out⟩
        case measure => simp [intOf]; omega
      · obtain rfl : i = l.length := by omega
        have HSL := Lib.hid (show Sl wr false 1 (.slice a2 l.length cap2) (ints l) by have := HSL.out; rwa [rot_all] at this)
        have HVR := Lib.hid (HV.out.below hbx)
        by_cases h0 : l.length = 0
        · have hl0 : l = [] := List.eq_nil_of_length_eq_zero h0
          subst hl0
          simp only [List.length_nil, ↓reduceIte] at HSL HVR hc2 hc3 K2 K3 ⊢
          go_wp2_with fail
          with_reducible refine (same_any _ _ [] [] n n _ (HSL.out.alloc _) (HVR.out.alloc _)).mono ?_
          rintro e w3 ⟨rfl, hb3⟩
          have hz3 := hb3.size
          go_wp2_with fail
          go_ret
          exact ⟨by simp, by (repeat (first | with_reducible assumption | with_reducible exact Below.refl _ _ | with_reducible refine Below.setCell ?_ ?_ _ | with_reducible refine Below.alloc ?_ ?_ _ | with_reducible refine below_drewN' ?_ _ | with_reducible refine Below.drew ?_ | with_reducible refine Below.trans ?_ (Below.mono (by assumption) ?_) | omega | (dsimp only; omega) | (simp only [drew_heap', drewN_heap', World.size_alloc, World.size_setCell]; omega) | (solve | simp) | (solve | (simp; omega))))⟩
        · simp only [h0, ↓reduceIte] at hc3 K3
          have hpos : (0 : Int) < l.length := by omega
          go_wp2_with fail
          with_reducible refine (same_any _ _ l l 5 5 _ (HSL.out.alloc _) (HVR.out.alloc _)).mono ?_
          rintro e w3 ⟨rfl, hb3⟩
          have hz3 := hb3.size
          go_wp2_with fail
          go_ret
          exact ⟨by simp, by (repeat (first | with_reducible assumption | with_reducible exact Below.refl _ _ | with_reducible refine Below.setCell ?_ ?_ _ | with_reducible refine Below.alloc ?_ ?_ _ | with_reducible refine below_drewN' ?_ _ | with_reducible refine Below.drew ?_ | with_reducible refine Below.trans ?_ (Below.mono (by assumption) ?_) | omega | (dsimp only; omega) | (simp only [drew_heap', drewN_heap', World.size_alloc, World.size_setCell]; omega) | (solve | simp) | (solve | (simp; omega))))⟩
end Go.Proofs.Ytbehjbiicopgpaa
