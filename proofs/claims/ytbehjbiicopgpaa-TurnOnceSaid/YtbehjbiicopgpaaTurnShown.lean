/- The document's example of package turn. Conditions: none. -/
import Derived.Test.YtbehjbiicopgpaaTurnDrop
namespace Go.Proofs.Ytbehjbiicopgpaa
open Go Go.RowKit Go.Tm
set_option linter.unusedVariables false
set_option linter.unusedSimpArgs false

theorem spendS_dec {l : List Int} (h : l ≠ []) {n : Int} (h1 : 1 < n) (h2 : n ≤ 9223372036854775807) : spendS l n = (l, n - 1) := by
  unfold spendS
  have hw : wrap64 (n - 1) = n - 1 := IntWalk.wrap64_in _ (by omega)
  rw [if_neg h, hw, if_neg (by omega)]
theorem spendS_one {l : List Int} (h : l ≠ []) {n : Int} (h1 : n ≤ 1) (h2 : -9223372036854775807 ≤ n) (m : Int) : spendS l n = yieldS l m := by
  unfold spendS
  have hw : wrap64 (n - 1) = n - 1 := IntWalk.wrap64_in _ (by omega)
  rw [if_neg h, hw, if_pos (by omega)]
  cases l with
  | nil => exact absurd rfl h
  | cons x r => rfl

set_option maxHeartbeats 2000000 in
theorem shown_any (w : World) : Calls Try.prog 9 #[] w fun e w' => e = .returned (.bool true) ∧ Below w.heap.size w w' := by
  have hA1 := fun W => add_any (.slice none 0 0) [] 0 1 W (Sl.nil _ _ _) (by decide)
  have hA2 := fun v W h => add_any v [1] 5 2 W h (by decide)
  have hA1 := Lib.hid hA1
  have hA2 := Lib.hid hA2
  go_enter Try.func9, Try.ntmps9
  go_wp2_with fail
  with_reducible refine (hA1.out _).mono ?_
  rintro e w1 ⟨v1, rfl, hs1, hr1, hb1⟩
  have hz1 := hb1.size
  replace hs1 : Sl w1 false 1 v1 (ints [1]) := hs1
  have HS1 := Lib.hid hs1
  obtain ⟨a1, cap1, hv1, _⟩ := hs1.shape
  replace hv1 : v1 = .slice a1 1 cap1 := hv1
  subst hv1
  rw [show (addS [] 0 1).2 = 5 from rfl]
  clear hs1 hr1
  go_wp2_with fail
  with_reducible refine (hA2.out _ _ HS1.out).mono ?_
  rintro e w2 ⟨v2, rfl, hs2, hr2, hb2⟩
  have hz2 := hb2.size
  replace hs2 : Sl w2 false 1 v2 (ints [1, 2]) := hs2
  have HS2 := Lib.hid hs2
  obtain ⟨a2, cap2, hv2, _⟩ := hs2.shape
  replace hv2 : v2 = .slice a2 2 cap2 := hv2
  subst hv2
  rw [show (addS [1] 5 2).2 = 5 from rfl]
  clear hs2 hr2
  go_wp2_with fail
  go_loopw [2] (fun t W => ∃ (i : Nat) (v : Value), i ≤ 4 ∧ t = .int .i64 i ∧ Below w.heap.size w W ∧ Box W w2.heap.size #[v, .int .i64 (5 - (i : Int))] 24 ∧ Sl W false 1 v (ints [1, 2]) ∧ Apart w2.heap.size v (ints [1, 2])) (fun t _ => 4 - (intOf t).toNat)
  case atStart => exact ⟨0, _, by omega, rfl, by (repeat (first | with_reducible assumption | with_reducible exact Below.refl _ _ | with_reducible refine Below.setCell ?_ ?_ _ | with_reducible refine Below.alloc ?_ ?_ _ | with_reducible refine below_drewN' ?_ _ | with_reducible refine Below.drew ?_ | with_reducible refine Below.trans ?_ (Below.mono (by assumption) ?_) | omega | (dsimp only; omega) | (simp only [drew_heap', drewN_heap', World.size_alloc, World.size_setCell]; omega) | (solve | simp) | (solve | (simp; omega)))), by ((apply Box.cast); (repeat (first | with_reducible assumption | ((with_reducible apply Box.new1); (first | with_reducible rfl | rfl | (solve | simp))) | with_reducible apply Box.drewN | with_reducible apply Box.drew | with_reducible apply Box.set | with_reducible apply Box.other | with_reducible apply Box.alloc | (with_reducible apply Box.below; rotate_left; with_reducible assumption; rotate_right) | with_reducible rfl | omega | (dsimp only; omega) | (simp only [drew_heap', drewN_heap', World.size_alloc, World.size_setCell]; omega) | rfl | (solve | simp) | (solve | (simp; omega))))), HS2.out.alloc _, HS2.out.apart (Nat.le_refl _)⟩
  case round =>
    obtain ⟨i, v, hi, rfl, hbw, hbx, hsl, hap⟩ := hrel
    have hws := hbw.size
    obtain ⟨c0, f0, l0, n0, m0⟩ := hbx.rules
    have KB := Lib.hid hbx
    have HSL := Lib.hid hsl
    have HAP := Lib.hid hap
    obtain ⟨a, cap, hv, _⟩ := hsl.shape
    replace hv : v = .slice a 2 cap := hv
    subst hv
    clear hbx hsl hap
    by_cases h4 : i < 4
    · have hS := spend_any (.slice a 2 cap) [1, 2] (5 - (i : Int)) wr HSL.out (by decide)
      rw [spendS_dec (by simp) (by omega) (by omega)] at hS
      have HSP := Lib.hid hS
      clear hS
      go_wp2_with fail
      with_reducible refine HSP.out.mono ?_
      rintro e w3 ⟨v3, rfl, hs3, hr3, hb3⟩
      have hz3 := hb3.size
      have hap3 := hr3.apart HAP.out l0
      have HS3 := Lib.hid hs3
      have HAP3 := Lib.hid hap3
      (have b3 : Box w3 w2.heap.size #[.slice a 2 cap, .int .i64 (5 - (i : Int))] 24 := (by (try have k3 := KB.out); ((apply Box.cast); (repeat (first | with_reducible assumption | ((with_reducible apply Box.new1); (first | with_reducible rfl | rfl | (solve | simp))) | with_reducible apply Box.drewN | with_reducible apply Box.drew | with_reducible apply Box.set | with_reducible apply Box.other | with_reducible apply Box.alloc | (with_reducible apply Box.below; rotate_left; with_reducible assumption; rotate_right) | with_reducible rfl | omega | (dsimp only; omega) | (simp only [drew_heap', drewN_heap', World.size_alloc, World.size_setCell]; omega) | rfl | (solve | simp) | (solve | (simp; omega))))))); (obtain ⟨hc3, hf3, hl3, hn3, hm3⟩ := b3.rules); (have K3 := Lib.hid b3); (clear b3)
      obtain ⟨a3, cap3, hv3, _⟩ := hs3.shape
      replace hv3 : v3 = .slice a3 2 cap3 := hv3
      subst hv3
      have hwr : IntKind.i64.wrap ((i : Int) + 1) = i + 1 := IntWalk.i64_in _ (by omega)
      have hsub : (5 : Int) - (i : Int) - 1 = 5 - ((i + 1 : Nat) : Int) := by omega
      rw [hsub]
      clear hs3 hr3 hap3 hsub c0 f0 l0 n0 m0
      go_wp2_with fail
      go_roundw
      case rel =>
        refine ⟨i + 1, _, by omega, by go_num, by (repeat (first | with_reducible assumption | with_reducible exact Below.refl _ _ | with_reducible refine Below.setCell ?_ ?_ _ | with_reducible refine Below.alloc ?_ ?_ _ | with_reducible refine below_drewN' ?_ _ | with_reducible refine Below.drew ?_ | with_reducible refine Below.trans ?_ (Below.mono (by assumption) ?_) | omega | (dsimp only; omega) | (simp only [drew_heap', drewN_heap', World.size_alloc, World.size_setCell]; omega) | (solve | simp) | (solve | (simp; omega)))), by (have k3 := K3.out); ((apply Box.cast); (repeat (first | with_reducible assumption | ((with_reducible apply Box.new1); (first | with_reducible rfl | rfl | (solve | simp))) | with_reducible apply Box.drewN | with_reducible apply Box.drew | with_reducible apply Box.set | with_reducible apply Box.other | with_reducible apply Box.alloc | (with_reducible apply Box.below; rotate_left; with_reducible assumption; rotate_right) | with_reducible rfl | omega | (dsimp only; omega) | (simp only [drew_heap', drewN_heap', World.size_alloc, World.size_setCell]; omega) | rfl | (solve | simp) | (solve | (simp; omega))))), (HS3.out.setOther HAP3.out _ _).setOther HAP3.out _ _, HAP3.out⟩
      case measure => simp [intOf]; omega
    · obtain rfl : i = 4 := by omega
      simp only [show (5 : Int) - ((4 : Nat) : Int) = 1 from by decide] at c0 KB
      have hF := first_any (.slice a 2 cap) [1, 2] 1 wr HSL.out
      have hS := fun W h => spend_any (.slice a 2 cap) [1, 2] 1 W h (by decide)
      rw [show spendS [1, 2] 1 = ([2, 1], 5) from (spendS_one (by simp) (by decide) (by decide) 0).trans rfl] at hS
      have HSP := Lib.hid hS
      clear hS
      go_wp2_with fail
      with_reducible refine hF.mono ?_
      rintro e w3 ⟨rfl, hb3⟩
      have hz3 := hb3.size
      (have b3 : Box w3 w2.heap.size #[.slice a 2 cap, .int .i64 1] 24 := (by (try have k3 := KB.out); ((apply Box.cast); (repeat (first | with_reducible assumption | ((with_reducible apply Box.new1); (first | with_reducible rfl | rfl | (solve | simp))) | with_reducible apply Box.drewN | with_reducible apply Box.drew | with_reducible apply Box.set | with_reducible apply Box.other | with_reducible apply Box.alloc | (with_reducible apply Box.below; rotate_left; with_reducible assumption; rotate_right) | with_reducible rfl | omega | (dsimp only; omega) | (simp only [drew_heap', drewN_heap', World.size_alloc, World.size_setCell]; omega) | rfl | (solve | simp) | (solve | (simp; omega))))))); (obtain ⟨hc3, hf3, hl3, hn3, hm3⟩ := b3.rules); (have K3 := Lib.hid b3); (clear b3)
      clear c0 f0 l0 n0 m0 hF
      go_wp2_with fail
      with_reducible refine (HSP.out _ (HSL.out.below (by (repeat (first | with_reducible assumption | with_reducible exact Below.refl _ _ | with_reducible refine Below.setCell ?_ ?_ _ | with_reducible refine Below.alloc ?_ ?_ _ | with_reducible refine below_drewN' ?_ _ | with_reducible refine Below.drew ?_ | with_reducible refine Below.trans ?_ (Below.mono (by assumption) ?_) | omega | (dsimp only; omega) | (simp only [drew_heap', drewN_heap', World.size_alloc, World.size_setCell]; omega) | (solve | simp) | (solve | (simp; omega))))))).mono ?_
      rintro e w4 ⟨v4, rfl, hs4, hr4, hb4⟩
      have hz4 := hb4.size
      have hF := first_any v4 [2, 1] 5 w4 hs4
      clear hs4 hr4
      go_wp2_with fail
      with_reducible refine hF.mono ?_
      rintro e w5 ⟨rfl, hb5⟩
      have hz5 := hb5.size
      go_wp2_with fail
      go_ret
      exact ⟨by simp, by (repeat (first | with_reducible assumption | with_reducible exact Below.refl _ _ | with_reducible refine Below.setCell ?_ ?_ _ | with_reducible refine Below.alloc ?_ ?_ _ | with_reducible refine below_drewN' ?_ _ | with_reducible refine Below.drew ?_ | with_reducible refine Below.trans ?_ (Below.mono (by assumption) ?_) | omega | (dsimp only; omega) | (simp only [drew_heap', drewN_heap', World.size_alloc, World.size_setCell]; omega) | (solve | simp) | (solve | (simp; omega))))⟩
end Go.Proofs.Ytbehjbiicopgpaa
