/- The law TurnGone: its walk. Conditions: what came in is shaped. -/
import Derived.Test.YtbehjbiicopgpaaTurnNearer
namespace Go.Proofs.Ytbehjbiicopgpaa
open Go Go.RowKit Go.Tm
set_option linter.unusedVariables false
set_option linter.unusedSimpArgs false

abbrev others (l : List Int) (pid : Int) : List Int := l.filter fun y => decide (y ≠ pid)
theorem dropS_fst (l : List Int) (n pid : Int) : (dropS l n pid).1 = others l pid := by
  unfold dropS
  split
  · rfl
  · rename_i h
    exact (List.filter_eq_self.2 fun y hy => by simp; rintro rfl; exact h hy).symm
theorem others_step {l : List Int} {pid x : Int} {i : Nat} (h : l[i]? = some x) : others (l.take (i + 1)) pid = if x = pid then others (l.take i) pid else others (l.take i) pid ++ [x] := by
  unfold others
  rw [take_step h, List.filter_append]
  by_cases hx : x = pid <;> simp [hx]
theorem others_get {l : List Int} {pid x : Int} {i : Nat} (h : l[i]? = some x) (hx : x ≠ pid) : (others l pid)[(others (l.take i) pid).length]? = some x := by
  have hi := (List.getElem?_eq_some_iff.1 h)
  obtain ⟨hlt, hxe⟩ := hi
  have hs : l = l.take i ++ x :: l.drop (i + 1) := by
    rw [← hxe, ← List.drop_eq_getElem_cons hlt, List.take_append_drop]
  have hf : others l pid = others (l.take i) pid ++ x :: others (l.drop (i + 1)) pid := by
    have h1 : others l pid = others (l.take i ++ x :: l.drop (i + 1)) pid := congrArg (fun m => others m pid) hs
    rw [h1]
    unfold others
    rw [List.filter_append, List.filter_cons, if_pos (by simpa using hx)]
  rw [hf, List.getElem?_append_right (Nat.le_refl _)]
  simp
theorem addS_mem (l : List Int) (n pid : Int) : pid ∈ (addS l n pid).1 := by
  unfold addS
  split
  · assumption
  · simp
theorem addS_len (l : List Int) (n pid : Int) : (addS l n pid).1.length ≤ l.length + 1 := by
  unfold addS
  split <;> simp

set_option maxHeartbeats 4000000 in
theorem turnGone_walk (v : Value) (l : List Int) (n pid : Int) (w : World) (hv : Sl w false 1 v (ints l)) (hby : l.length * 8 ≤ 140737488351232) :
    Calls Try.prog 8 #[.agg #[v, .int .i64 n], .int .i64 pid] w fun e w' => e = .returned (.bool true) ∧ Below w.heap.size w w' := by
  have HV := Lib.hid hv
  have hD := fun W h => drop_any v l n pid W h hby
  have hA := fun W h => add_any v l n pid W h hby
  rw [dropS_fst] at hD
  obtain ⟨a, cap, rfl, hl⟩ := hv.shape
  clear hv
  rw [ints_len] at hl HV hD hA ⊢
  have HD := Lib.hid hD
  have HA := Lib.hid hA
  have hmem := addS_mem l n pid
  have halen := addS_len l n pid
  have HM := Lib.hid hmem
  generalize (dropS l n pid).2 = q at *
  generalize addS l n pid = A at *
  clear hD hA hmem
  go_enter Try.func8, Try.ntmps8
  ((go_wp2_with fail); (with_reducible refine (shown_any _).mono ?_); (rintro e w1 ⟨rfl, hb1⟩); (have hz1 := hb1.size); (try simp only [World.size_alloc, World.size_setCell] at hz1))
  (have b1 : Box w1 w.heap.size #[.slice a l.length cap, .int .i64 n] 24 := (by (try have k1 := (Lib.hid True.intro).out); ((apply Box.cast); (repeat (first | with_reducible assumption | ((with_reducible apply Box.new1); (first | with_reducible rfl | rfl | (solve | simp))) | with_reducible apply Box.drewN | with_reducible apply Box.drew | with_reducible apply Box.set | with_reducible apply Box.other | with_reducible apply Box.alloc | (with_reducible apply Box.below; rotate_left; with_reducible assumption; rotate_right) | with_reducible rfl | omega | (dsimp only; omega) | (simp only [drew_heap', drewN_heap', World.size_alloc, World.size_setCell]; omega) | rfl | (solve | simp) | (solve | (simp; omega))))))); (obtain ⟨hc1, hf1, hl1, hn1, hm1⟩ := b1.rules); (have K1 := Lib.hid b1); (clear b1)
  have hbw : Below w.heap.size w w1 := by (repeat (first | with_reducible assumption | with_reducible exact Below.refl _ _ | with_reducible refine Below.setCell ?_ ?_ _ | with_reducible refine Below.alloc ?_ ?_ _ | with_reducible refine below_drewN' ?_ _ | with_reducible refine Below.drew ?_ | with_reducible refine Below.trans ?_ (Below.mono (by assumption) ?_) | omega | (dsimp only; omega) | (simp only [drew_heap', drewN_heap', World.size_alloc, World.size_setCell]; omega) | (solve | simp) | (solve | (simp; omega))))
  go_wp2_with fail
  with_reducible refine (HD.out _ (HV.out.below hbw)).mono ?_
  rintro e w2 ⟨v2, rfl, hs2, hr2, hb2⟩
  have hz2 := hb2.size
  (have b2 : Box w2 w.heap.size #[.slice a l.length cap, .int .i64 n] 24 := (by (try have k2 := K1.out); ((apply Box.cast); (repeat (first | with_reducible assumption | ((with_reducible apply Box.new1); (first | with_reducible rfl | rfl | (solve | simp))) | with_reducible apply Box.drewN | with_reducible apply Box.drew | with_reducible apply Box.set | with_reducible apply Box.other | with_reducible apply Box.alloc | (with_reducible apply Box.below; rotate_left; with_reducible assumption; rotate_right) | with_reducible rfl | omega | (dsimp only; omega) | (simp only [drew_heap', drewN_heap', World.size_alloc, World.size_setCell]; omega) | rfl | (solve | simp) | (solve | (simp; omega))))))); (obtain ⟨hc2, hf2, hl2, hn2, hm2⟩ := b2.rules); (have K2 := Lib.hid b2); (clear b2)
  have HS2 := Lib.hid hs2
  obtain ⟨a2, cap2, rfl, hl2'⟩ := hs2.shape
  rw [ints_len] at HS2 hl2' ⊢
  have hbw2 : Below w.heap.size w w2 := by (repeat (first | with_reducible assumption | with_reducible exact Below.refl _ _ | with_reducible refine Below.setCell ?_ ?_ _ | with_reducible refine Below.alloc ?_ ?_ _ | with_reducible refine below_drewN' ?_ _ | with_reducible refine Below.drew ?_ | with_reducible refine Below.trans ?_ (Below.mono (by assumption) ?_) | omega | (dsimp only; omega) | (simp only [drew_heap', drewN_heap', World.size_alloc, World.size_setCell]; omega) | (solve | simp) | (solve | (simp; omega))))
  clear hs2 hr2 hc1 hf1 hl1 hn1 hm1 hb1 hb2 hbw
  go_wp2_with fail
  go_loopw [7, 8] (fun s t W => ∃ i : Nat, i ≤ l.length ∧ t = .int .i64 i ∧ s = .int .i64 ((others (l.take i) pid).length) ∧ Below w.heap.size w W ∧ Below w2.heap.size w2 W ∧ w2.heap.size + 1 ≤ W.heap.size ∧
    Box W w2.heap.size #[.slice a2 (others l pid).length cap2, .int .i64 q] 24) (fun _ t _ => l.length - (intOf t).toNat)
  case atStart => exact ⟨0, Nat.zero_le _, rfl, by simp, by (repeat (first | with_reducible assumption | with_reducible exact Below.refl _ _ | with_reducible refine Below.setCell ?_ ?_ _ | with_reducible refine Below.alloc ?_ ?_ _ | with_reducible refine below_drewN' ?_ _ | with_reducible refine Below.drew ?_ | with_reducible refine Below.trans ?_ (Below.mono (by assumption) ?_) | omega | (dsimp only; omega) | (simp only [drew_heap', drewN_heap', World.size_alloc, World.size_setCell]; omega) | (solve | simp) | (solve | (simp; omega)))), by (repeat (first | with_reducible assumption | with_reducible exact Below.refl _ _ | with_reducible refine Below.setCell ?_ ?_ _ | with_reducible refine Below.alloc ?_ ?_ _ | with_reducible refine below_drewN' ?_ _ | with_reducible refine Below.drew ?_ | with_reducible refine Below.trans ?_ (Below.mono (by assumption) ?_) | omega | (dsimp only; omega) | (simp only [drew_heap', drewN_heap', World.size_alloc, World.size_setCell]; omega) | (solve | simp) | (solve | (simp; omega)))), by simp, by ((apply Box.cast); (repeat (first | with_reducible assumption | ((with_reducible apply Box.new1); (first | with_reducible rfl | rfl | (solve | simp))) | with_reducible apply Box.drewN | with_reducible apply Box.drew | with_reducible apply Box.set | with_reducible apply Box.other | with_reducible apply Box.alloc | (with_reducible apply Box.below; rotate_left; with_reducible assumption; rotate_right) | with_reducible rfl | omega | (dsimp only; omega) | (simp only [drew_heap', drewN_heap', World.size_alloc, World.size_setCell]; omega) | rfl | (solve | simp) | (solve | (simp; omega)))))⟩
  case round =>
    obtain ⟨i, hi, rfl, rfl, hbx, hbx2, hws, bx1⟩ := hrel
    (have b3 : Box wr w.heap.size #[.slice a l.length cap, .int .i64 n] 24 := (by (try have k3 := K2.out); ((apply Box.cast); (repeat (first | with_reducible assumption | ((with_reducible apply Box.new1); (first | with_reducible rfl | rfl | (solve | simp))) | with_reducible apply Box.drewN | with_reducible apply Box.drew | with_reducible apply Box.set | with_reducible apply Box.other | with_reducible apply Box.alloc | (with_reducible apply Box.below; rotate_left; with_reducible assumption; rotate_right) | with_reducible rfl | omega | (dsimp only; omega) | (simp only [drew_heap', drewN_heap', World.size_alloc, World.size_setCell]; omega) | rfl | (solve | simp) | (solve | (simp; omega))))))); (obtain ⟨hc3, hf3, hl3, hn3, hm3⟩ := b3.rules); (have K3 := Lib.hid b3); (clear b3)
    have K4 := Lib.hid bx1
    obtain ⟨hc4, hf4, hl4, hn4, hm4⟩ := bx1.rules
    clear bx1 hc2 hf2 hl2 hn2 hm2
    by_cases hlt : i < l.length
    · obtain ⟨x, hx⟩ : ∃ x, l[i]? = some x := ⟨_, List.getElem?_eq_getElem hlt⟩
      have hst := others_step (pid := pid) hx
      have HST := Lib.hid hst
      obtain ⟨b1, o1, rfl, hb1l, e1⟩ := Sl.int (HV.out.below hbx) hx
      have hwr : IntKind.i64.wrap ((i : Int) + 1) = i + 1 := IntWalk.i64_in _ (by omega)
      by_cases hxp : x = pid
      · subst hxp
        clear hx hst
        go_wp2_with fail
        go_roundw
        case rel => exact ⟨i + 1, by omega, by go_num, by rw [HST.out, if_pos rfl], hbx, hbx2, hws, K4.out⟩
        case measure => simp [intOf]; omega
      · have hxp' : (x == pid) = false := by simpa using hxp
        have hg := others_get hx hxp
        have hat := (List.getElem?_eq_some_iff.1 hg).1
        obtain ⟨b2, o2, rfl, hb2l, e2⟩ := Sl.int (HS2.out.below hbx2) hg
        have hat' : ((others (List.take i l) pid).length : Int) < (others l pid).length := by omega
        have hg1 : decide (((others l pid).length : Int) ≤ (others (List.take i l) pid).length) = false := by simp; omega
        have hg2 : decide ((others l pid).length ≤ (others (List.take i l) pid).length) = false := by simp; omega
        have hwa : IntKind.i64.wrap (((others (List.take i l) pid).length : Int) + 1) = (others (List.take i l) pid).length + 1 := IntWalk.i64_in _ (by omega)
        rw [if_neg hxp] at HST
        have HLN := Lib.hid (show ((others (l.take (i + 1)) pid).length : Int) = (others (l.take i) pid).length + 1 by rw [HST.out, List.length_append]; simp)
        generalize (others (List.take i l) pid).length = at_ at *
        clear hx hst hg
        go_wp2_with fail
        have g1 := K3.out.regrown
        have g2 := K4.out.regrown
        have g3 := cell_rg e1 hb1l
        have g4 := cell_rg e2 hb2l
        ((refine wp_region_quiet_below (by kernel_rfl) (by kernel_rfl) ?_); (repeat (go_big_quiet_step (fail))); (refine wpQuiet_nil ?_); (intro _ hw'); (obtain ⟨⟨dq, osq⟩, hw''⟩ := hw'); (subst hw''); (have hb7 := below_regrown wr dq osq); (generalize Go.Sort.grow (redrawn wr dq) osq = w7 at *); (have hz7 := hb7.size))
        clear g1 g2 g3 g4
        go_wp2_with fail
        go_roundw
        case rel => exact ⟨i + 1, by omega, by go_num, by rw [HLN.out], hbx.trans (hb7.mono hbx.size), hbx2.trans (hb7.mono hbx2.size), by omega, K4.out.below hb7 hl4⟩
        case measure => simp [intOf]; omega
    · obtain rfl : i = l.length := by omega
      rw [List.take_length]
      have HVR := Lib.hid (HV.out.below hbx)
      go_wp2_with fail
      with_reducible refine (HA.out _ HVR.out).mono ?_
      rintro e w5 ⟨v5, rfl, hs5, hr5, hb5⟩
      have hz5 := hb5.size
      (have b5 : Box w5 w.heap.size #[.slice a l.length cap, .int .i64 n] 24 := (by (try have k5 := K3.out); ((apply Box.cast); (repeat (first | with_reducible assumption | ((with_reducible apply Box.new1); (first | with_reducible rfl | rfl | (solve | simp))) | with_reducible apply Box.drewN | with_reducible apply Box.drew | with_reducible apply Box.set | with_reducible apply Box.other | with_reducible apply Box.alloc | (with_reducible apply Box.below; rotate_left; with_reducible assumption; rotate_right) | with_reducible rfl | omega | (dsimp only; omega) | (simp only [drew_heap', drewN_heap', World.size_alloc, World.size_setCell]; omega) | rfl | (solve | simp) | (solve | (simp; omega))))))); (obtain ⟨hc5, hf5, hl5, hn5, hm5⟩ := b5.rules); (have K5 := Lib.hid b5); (clear b5)
      (have b6 : Box w5 w2.heap.size #[.slice a2 (others l pid).length cap2, .int .i64 q] 24 := (by (try have k6 := K4.out); ((apply Box.cast); (repeat (first | with_reducible assumption | ((with_reducible apply Box.new1); (first | with_reducible rfl | rfl | (solve | simp))) | with_reducible apply Box.drewN | with_reducible apply Box.drew | with_reducible apply Box.set | with_reducible apply Box.other | with_reducible apply Box.alloc | (with_reducible apply Box.below; rotate_left; with_reducible assumption; rotate_right) | with_reducible rfl | omega | (dsimp only; omega) | (simp only [drew_heap', drewN_heap', World.size_alloc, World.size_setCell]; omega) | rfl | (solve | simp) | (solve | (simp; omega))))))); (obtain ⟨hc6, hf6, hl6, hn6, hm6⟩ := b6.rules); (have K6 := Lib.hid b6); (clear b6)
      have HS5 := Lib.hid hs5
      obtain ⟨a5, cap5, rfl, hl5'⟩ := hs5.shape
      rw [ints_len] at HS5 hl5' ⊢
      have hbw5 : Below w.heap.size w w5 := by (repeat (first | with_reducible assumption | with_reducible exact Below.refl _ _ | with_reducible refine Below.setCell ?_ ?_ _ | with_reducible refine Below.alloc ?_ ?_ _ | with_reducible refine below_drewN' ?_ _ | with_reducible refine Below.drew ?_ | with_reducible refine Below.trans ?_ (Below.mono (by assumption) ?_) | omega | (dsimp only; omega) | (simp only [drew_heap', drewN_heap', World.size_alloc, World.size_setCell]; omega) | (solve | simp) | (solve | (simp; omega))))
      clear hs5 hr5 hc3 hf3 hl3 hn3 hm3 hc4 hf4 hl4 hn4 hm4 hbx hbx2 hb5
      go_wp2_with fail
      go_loopw [10, 11] (fun s t W => ∃ j : Nat, j ≤ A.1.length ∧ t = .int .i64 j ∧ s = .bool (decide (pid ∈ A.1.take j)) ∧ Below w5.heap.size w5 W ∧ Box W w5.heap.size #[.slice a5 A.1.length cap5, .int .i64 A.2] 24) (fun _ t _ => A.1.length - (intOf t).toNat)
      case atStart => exact ⟨0, Nat.zero_le _, rfl, by simp, by (repeat (first | with_reducible assumption | with_reducible exact Below.refl _ _ | with_reducible refine Below.setCell ?_ ?_ _ | with_reducible refine Below.alloc ?_ ?_ _ | with_reducible refine below_drewN' ?_ _ | with_reducible refine Below.drew ?_ | with_reducible refine Below.trans ?_ (Below.mono (by assumption) ?_) | omega | (dsimp only; omega) | (simp only [drew_heap', drewN_heap', World.size_alloc, World.size_setCell]; omega) | (solve | simp) | (solve | (simp; omega)))), by ((apply Box.cast); (repeat (first | with_reducible assumption | ((with_reducible apply Box.new1); (first | with_reducible rfl | rfl | (solve | simp))) | with_reducible apply Box.drewN | with_reducible apply Box.drew | with_reducible apply Box.set | with_reducible apply Box.other | with_reducible apply Box.alloc | (with_reducible apply Box.below; rotate_left; with_reducible assumption; rotate_right) | with_reducible rfl | omega | (dsimp only; omega) | (simp only [drew_heap', drewN_heap', World.size_alloc, World.size_setCell]; omega) | rfl | (solve | simp) | (solve | (simp; omega)))))⟩
      case round =>
        obtain ⟨j, hj, rfl, rfl, hby5, bx7⟩ := hrel
        have hzz := hby5.size
        (have b7 : Box wr w2.heap.size #[.slice a2 (others l pid).length cap2, .int .i64 q] 24 := (by (try have k7 := K6.out); ((apply Box.cast); (repeat (first | with_reducible assumption | ((with_reducible apply Box.new1); (first | with_reducible rfl | rfl | (solve | simp))) | with_reducible apply Box.drewN | with_reducible apply Box.drew | with_reducible apply Box.set | with_reducible apply Box.other | with_reducible apply Box.alloc | (with_reducible apply Box.below; rotate_left; with_reducible assumption; rotate_right) | with_reducible rfl | omega | (dsimp only; omega) | (simp only [drew_heap', drewN_heap', World.size_alloc, World.size_setCell]; omega) | rfl | (solve | simp) | (solve | (simp; omega))))))); (obtain ⟨hc7, hf7, hl7, hn7, hm7⟩ := b7.rules); (have K7 := Lib.hid b7); (clear b7)
        have K8 := Lib.hid bx7
        obtain ⟨hc8, hf8, hl8, hn8, hm8⟩ := bx7.rules
        clear bx7 hc5 hf5 hl5 hn5 hm5 hc6 hf6 hl6 hn6 hm6
        by_cases hlt : j < A.1.length
        · obtain ⟨y, hy⟩ : ∃ y, A.1[j]? = some y := ⟨_, List.getElem?_eq_getElem hlt⟩
          have hwr : IntKind.i64.wrap ((j : Int) + 1) = j + 1 := IntWalk.i64_in _ (by omega)
          have HT := Lib.hid (take_step hy)
          obtain ⟨b5, o5, rfl, hb5l, e5⟩ := Sl.int (HS5.out.below hby5) hy
          clear hy
          by_cases hin : pid ∈ A.1.take j
          · have HIN := Lib.hid hin
            rw [show decide (pid ∈ A.1.take j) = true by simpa using hin]
            clear hin
            go_wp2_with fail
            go_roundw
            case rel => exact ⟨j + 1, by omega, by go_num, by rw [HT.out]; simp [HIN.out], hby5, K8.out⟩
            case measure => simp [intOf]; omega
          · have HIN := Lib.hid hin
            rw [show decide (pid ∈ A.1.take j) = false by simpa using hin]
            clear hin
            by_cases hyp : y = pid
            · subst hyp
              go_wp2_with fail
              go_roundw
              case rel => exact ⟨j + 1, by omega, by go_num, by rw [HT.out]; simp, hby5, K8.out⟩
              case measure => simp [intOf]; omega
            · have hyp' : (y == pid) = false := by simpa using hyp
              have HYP := Lib.hid hyp
              go_wp2_with fail
              go_roundw
              case rel => exact ⟨j + 1, by omega, by go_num, by rw [HT.out]; simp [HIN.out, Ne.symm HYP.out], hby5, K8.out⟩
              case measure => simp [intOf]; omega
        · obtain rfl : j = A.1.length := by omega
          rw [List.take_length, show decide (pid ∈ A.1) = true by simpa using HM.out]
          go_wp2_with fail
          go_ret
          exact ⟨by simp, hbw5.trans (hby5.mono hbw5.size)⟩
end Go.Proofs.Ytbehjbiicopgpaa
