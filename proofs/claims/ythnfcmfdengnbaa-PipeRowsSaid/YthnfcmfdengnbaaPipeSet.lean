/- Ends and their places: pipe.Set, the reference's Set. Conditions: none. -/
import Derived.Test.YthnfcmfdengnbaaPipeRef2
import Derived.Test.YthnfcmfdengnbaaLib2
namespace Go.Proofs.Ythnfcmfdengnbaa
open Go Go.RowKit Go.Tm
set_option linter.unusedVariables false
set_option linter.unusedSimpArgs false

abbrev fds4 (p0 p1 p2 p3 : Int) (b0 b1 b2 b3 : Bool) : Array Value := #[.int .i64 p0, .bool b0, .int .i64 p1, .bool b1, .int .i64 p2, .bool b2, .int .i64 p3, .bool b3]
/-- The first empty place; 4: none. -/
def emptyAt (p0 p1 p2 p3 : Int) : Nat := if p0 = 0 then 0 else if p1 = 0 then 1 else if p2 = 0 then 2 else if p3 = 0 then 3 else 4
def setS (p0 p1 p2 p3 : Int) (b0 b1 b2 b3 : Bool) (p : Int) (b : Bool) : Array Value × Int × Int :=
  if p0 = 0 then (fds4 p p1 p2 p3 b b1 b2 b3, 0, 0) else if p1 = 0 then (fds4 p0 p p2 p3 b0 b b2 b3, 1, 0) else if p2 = 0 then (fds4 p0 p1 p p3 b0 b1 b b3, 2, 0)
  else if p3 = 0 then (fds4 p0 p1 p2 p b0 b1 b2 b, 3, 0) else (fds4 p0 p1 p2 p3 b0 b1 b2 b3, 0, 5)

set_option maxHeartbeats 4000000 in
theorem set_any (p0 p1 p2 p3 p : Int) (b0 b1 b2 b3 b : Bool) (w : World) :
    Calls Try.prog 17 #[.agg (fds4 p0 p1 p2 p3 b0 b1 b2 b3), .agg #[.int .i64 p, .bool b]] w fun e w' => e = .returned (.tuple #[.agg (setS p0 p1 p2 p3 b0 b1 b2 b3 p b).1, .int .i64 (setS p0 p1 p2 p3 b0 b1 b2 b3 p b).2.1, .int .i64 (setS p0 p1 p2 p3 b0 b1 b2 b3 p b).2.2]) ∧ Below w.heap.size w w' := by
  go_enter Try.func17, Try.ntmps17
  go_wp2_with fail
  go_loopw [8] (fun t W => ∃ i : Nat, i ≤ 4 ∧ t = .int .i64 i ∧ Below w.heap.size w W ∧ W.heap.size = w.heap.size + 3 ∧ Box W w.heap.size (fds4 p0 p1 p2 p3 b0 b1 b2 b3) 45 ∧ Box W (w.heap.size + 1) #[.int .i64 p, .bool b] 44 ∧ Box W (w.heap.size + 1 + 1) (fds4 0 0 0 0 false false false false) 45 ∧
    (0 < i → p0 ≠ 0) ∧ (1 < i → p1 ≠ 0) ∧ (2 < i → p2 ≠ 0) ∧ (3 < i → p3 ≠ 0)) (fun t _ => 4 - (intOf t).toNat)
  case atStart => exact ⟨0, by omega, rfl, by (repeat (first | with_reducible exact Below.refl _ _ | with_reducible refine Below.setCell ?_ ?_ _ | with_reducible refine Below.alloc ?_ ?_ _ | with_reducible refine below_drewN' ?_ _ | with_reducible refine Below.drew ?_ | with_reducible refine Below.trans ?_ (Below.mono (by assumption) ?_) | omega | (dsimp only; omega) | (simp only [drew_heap', drewN_heap', World.size_alloc, World.size_setCell]; omega) | (solve | simp) | (solve | (simp; omega)))), by simp, by ((apply Box.cast); (repeat (first | with_reducible assumption | ((with_reducible apply Box.new1); (first | with_reducible rfl | rfl | (solve | simp))) | with_reducible apply Box.drewN | with_reducible apply Box.drew | with_reducible apply Box.set | with_reducible apply Box.other | with_reducible apply Box.alloc | (with_reducible apply Box.below; rotate_left; with_reducible assumption; rotate_right) | with_reducible rfl | omega | (dsimp only; omega) | (simp only [drew_heap', drewN_heap', World.size_alloc, World.size_setCell]; omega) | rfl | (solve | simp) | (solve | (simp; omega))))), by ((apply Box.cast); (repeat (first | with_reducible assumption | ((with_reducible apply Box.new1); (first | with_reducible rfl | rfl | (solve | simp))) | with_reducible apply Box.drewN | with_reducible apply Box.drew | with_reducible apply Box.set | with_reducible apply Box.other | with_reducible apply Box.alloc | (with_reducible apply Box.below; rotate_left; with_reducible assumption; rotate_right) | with_reducible rfl | omega | (dsimp only; omega) | (simp only [drew_heap', drewN_heap', World.size_alloc, World.size_setCell]; omega) | rfl | (solve | simp) | (solve | (simp; omega))))), by ((apply Box.cast); (repeat (first | with_reducible assumption | ((with_reducible apply Box.new1); (first | with_reducible rfl | rfl | (solve | simp))) | with_reducible apply Box.drewN | with_reducible apply Box.drew | with_reducible apply Box.set | with_reducible apply Box.other | with_reducible apply Box.alloc | (with_reducible apply Box.below; rotate_left; with_reducible assumption; rotate_right) | with_reducible rfl | omega | (dsimp only; omega) | (simp only [drew_heap', drewN_heap', World.size_alloc, World.size_setCell]; omega) | rfl | (solve | simp) | (solve | (simp; omega))))), by omega, by omega, by omega, by omega⟩
  case round =>
    obtain ⟨i, hi, rfl, hbw, hsz, bx0, bx1, bx2, hp0, hp1, hp2, hp3⟩ := hrel
    obtain ⟨c0, f0, l0, n0, m0⟩ := bx0.rules
    obtain ⟨c1, f1, l1, n1, m1⟩ := bx1.rules
    obtain ⟨c2, f2, l2, n2, m2⟩ := bx2.rules
    have K0 := Lib.hid bx0
    have K1 := Lib.hid bx1
    have K2 := Lib.hid bx2
    clear bx0 bx1 bx2
    obtain rfl | rfl | rfl | rfl | rfl : i = 0 ∨ i = 1 ∨ i = 2 ∨ i = 3 ∨ i = 4 := by omega
    · by_cases h : p0 = 0
      · have hS : setS p0 p1 p2 p3 b0 b1 b2 b3 p b = (fds4 p p1 p2 p3 b b1 b2 b3, 0, 0) := by unfold setS; rw [if_pos h]
        have HS := Lib.hid hS
        clear hS hp0 hp1 hp2 hp3
        go_wp2_with fail
        exact bodyPost_ret (v := .tuple #[.agg (fds4 p p1 p2 p3 b b1 b2 b3), .int .i64 0, .int .i64 0]) (by simp [results, Try.results17, go_sem, h, c2, c0]) rfl ⟨by rw [HS.out], by (repeat (first | with_reducible exact Below.refl _ _ | with_reducible refine Below.setCell ?_ ?_ _ | with_reducible refine Below.alloc ?_ ?_ _ | with_reducible refine below_drewN' ?_ _ | with_reducible refine Below.drew ?_ | with_reducible refine Below.trans ?_ (Below.mono (by assumption) ?_) | omega | (dsimp only; omega) | (simp only [drew_heap', drewN_heap', World.size_alloc, World.size_setCell]; omega) | (solve | simp) | (solve | (simp; omega))))⟩
      · clear hp0 hp1 hp2 hp3
        go_wp2_with fail
        go_roundw
        case rel => exact ⟨0 + 1, by omega, by go_num, hbw, hsz, K0.out, K1.out, K2.out, fun _ => h, by omega, by omega, by omega⟩
        case measure => simp [intOf]
    · by_cases h : p1 = 0
      · have hS : setS p0 p1 p2 p3 b0 b1 b2 b3 p b = (fds4 p0 p p2 p3 b0 b b2 b3, 1, 0) := by unfold setS; rw [if_neg (hp0 (by omega)), if_pos h]
        have HS := Lib.hid hS
        clear hS hp0 hp1 hp2 hp3
        go_wp2_with fail
        exact bodyPost_ret (v := .tuple #[.agg (fds4 p0 p p2 p3 b0 b b2 b3), .int .i64 1, .int .i64 0]) (by simp [results, Try.results17, go_sem, h, c2, c0]) rfl ⟨by rw [HS.out], by (repeat (first | with_reducible exact Below.refl _ _ | with_reducible refine Below.setCell ?_ ?_ _ | with_reducible refine Below.alloc ?_ ?_ _ | with_reducible refine below_drewN' ?_ _ | with_reducible refine Below.drew ?_ | with_reducible refine Below.trans ?_ (Below.mono (by assumption) ?_) | omega | (dsimp only; omega) | (simp only [drew_heap', drewN_heap', World.size_alloc, World.size_setCell]; omega) | (solve | simp) | (solve | (simp; omega))))⟩
      · clear hp1 hp2 hp3
        go_wp2_with fail
        go_roundw
        case rel => exact ⟨1 + 1, by omega, by go_num, hbw, hsz, K0.out, K1.out, K2.out, fun _ => hp0 (by omega), fun _ => h, by omega, by omega⟩
        case measure => simp [intOf]
    · by_cases h : p2 = 0
      · have hS : setS p0 p1 p2 p3 b0 b1 b2 b3 p b = (fds4 p0 p1 p p3 b0 b1 b b3, 2, 0) := by unfold setS; rw [if_neg (hp0 (by omega)), if_neg (hp1 (by omega)), if_pos h]
        have HS := Lib.hid hS
        clear hS hp0 hp1 hp2 hp3
        go_wp2_with fail
        exact bodyPost_ret (v := .tuple #[.agg (fds4 p0 p1 p p3 b0 b1 b b3), .int .i64 2, .int .i64 0]) (by simp [results, Try.results17, go_sem, h, c2, c0]) rfl ⟨by rw [HS.out], by (repeat (first | with_reducible exact Below.refl _ _ | with_reducible refine Below.setCell ?_ ?_ _ | with_reducible refine Below.alloc ?_ ?_ _ | with_reducible refine below_drewN' ?_ _ | with_reducible refine Below.drew ?_ | with_reducible refine Below.trans ?_ (Below.mono (by assumption) ?_) | omega | (dsimp only; omega) | (simp only [drew_heap', drewN_heap', World.size_alloc, World.size_setCell]; omega) | (solve | simp) | (solve | (simp; omega))))⟩
      · clear hp2 hp3
        go_wp2_with fail
        go_roundw
        case rel => exact ⟨2 + 1, by omega, by go_num, hbw, hsz, K0.out, K1.out, K2.out, fun _ => hp0 (by omega), fun _ => hp1 (by omega), fun _ => h, by omega⟩
        case measure => simp [intOf]
    · by_cases h : p3 = 0
      · have hS : setS p0 p1 p2 p3 b0 b1 b2 b3 p b = (fds4 p0 p1 p2 p b0 b1 b2 b, 3, 0) := by unfold setS; rw [if_neg (hp0 (by omega)), if_neg (hp1 (by omega)), if_neg (hp2 (by omega)), if_pos h]
        have HS := Lib.hid hS
        clear hS hp0 hp1 hp2 hp3
        go_wp2_with fail
        exact bodyPost_ret (v := .tuple #[.agg (fds4 p0 p1 p2 p b0 b1 b2 b), .int .i64 3, .int .i64 0]) (by simp [results, Try.results17, go_sem, h, c2, c0]) rfl ⟨by rw [HS.out], by (repeat (first | with_reducible exact Below.refl _ _ | with_reducible refine Below.setCell ?_ ?_ _ | with_reducible refine Below.alloc ?_ ?_ _ | with_reducible refine below_drewN' ?_ _ | with_reducible refine Below.drew ?_ | with_reducible refine Below.trans ?_ (Below.mono (by assumption) ?_) | omega | (dsimp only; omega) | (simp only [drew_heap', drewN_heap', World.size_alloc, World.size_setCell]; omega) | (solve | simp) | (solve | (simp; omega))))⟩
      · clear hp3
        go_wp2_with fail
        go_roundw
        case rel => exact ⟨3 + 1, by omega, by go_num, hbw, hsz, K0.out, K1.out, K2.out, fun _ => hp0 (by omega), fun _ => hp1 (by omega), fun _ => hp2 (by omega), fun _ => h⟩
        case measure => simp [intOf]
    · have hS : setS p0 p1 p2 p3 b0 b1 b2 b3 p b = (fds4 p0 p1 p2 p3 b0 b1 b2 b3, 0, 5) := by unfold setS; rw [if_neg (hp0 (by omega)), if_neg (hp1 (by omega)), if_neg (hp2 (by omega)), if_neg (hp3 (by omega))]
      have HS := Lib.hid hS
      clear hS hp0 hp1 hp2 hp3
      go_wp2_with fail
      exact bodyPost_ret (v := .tuple #[.agg (fds4 p0 p1 p2 p3 b0 b1 b2 b3), .int .i64 0, .int .i64 5]) (by simp [results, Try.results17, go_sem, c2, c0]) rfl ⟨by rw [HS.out], by (repeat (first | with_reducible exact Below.refl _ _ | with_reducible refine Below.setCell ?_ ?_ _ | with_reducible refine Below.alloc ?_ ?_ _ | with_reducible refine below_drewN' ?_ _ | with_reducible refine Below.drew ?_ | with_reducible refine Below.trans ?_ (Below.mono (by assumption) ?_) | omega | (dsimp only; omega) | (simp only [drew_heap', drewN_heap', World.size_alloc, World.size_setCell]; omega) | (solve | simp) | (solve | (simp; omega))))⟩

set_option maxHeartbeats 4000000 in
theorem refSet_any (p0 p1 p2 p3 p : Int) (b0 b1 b2 b3 b : Bool) (w : World) :
    Calls Try.prog 22 #[.agg (fds4 p0 p1 p2 p3 b0 b1 b2 b3), .agg #[.int .i64 p, .bool b]] w fun e w' => e = .returned (.tuple #[.agg (setS p0 p1 p2 p3 b0 b1 b2 b3 p b).1, .int .i64 (setS p0 p1 p2 p3 b0 b1 b2 b3 p b).2.1, .int .i64 (setS p0 p1 p2 p3 b0 b1 b2 b3 p b).2.2]) ∧ Below w.heap.size w w' := by
  go_enter Try.func22, Try.ntmps22
  go_wp2_with fail
  go_loopw [7] (fun t W => ∃ i : Nat, i ≤ 4 ∧ t = .int .i64 i ∧ Below w.heap.size w W ∧ W.heap.size = w.heap.size + 3 ∧ Box W w.heap.size (fds4 p0 p1 p2 p3 b0 b1 b2 b3) 45 ∧ Box W (w.heap.size + 1) #[.int .i64 p, .bool b] 44 ∧ Box W (w.heap.size + 1 + 1) (fds4 0 0 0 0 false false false false) 45 ∧
    (0 < i → p0 ≠ 0) ∧ (1 < i → p1 ≠ 0) ∧ (2 < i → p2 ≠ 0) ∧ (3 < i → p3 ≠ 0)) (fun t _ => 4 - (intOf t).toNat)
  case atStart => exact ⟨0, by omega, rfl, by (repeat (first | with_reducible exact Below.refl _ _ | with_reducible refine Below.setCell ?_ ?_ _ | with_reducible refine Below.alloc ?_ ?_ _ | with_reducible refine below_drewN' ?_ _ | with_reducible refine Below.drew ?_ | with_reducible refine Below.trans ?_ (Below.mono (by assumption) ?_) | omega | (dsimp only; omega) | (simp only [drew_heap', drewN_heap', World.size_alloc, World.size_setCell]; omega) | (solve | simp) | (solve | (simp; omega)))), by simp, by ((apply Box.cast); (repeat (first | with_reducible assumption | ((with_reducible apply Box.new1); (first | with_reducible rfl | rfl | (solve | simp))) | with_reducible apply Box.drewN | with_reducible apply Box.drew | with_reducible apply Box.set | with_reducible apply Box.other | with_reducible apply Box.alloc | (with_reducible apply Box.below; rotate_left; with_reducible assumption; rotate_right) | with_reducible rfl | omega | (dsimp only; omega) | (simp only [drew_heap', drewN_heap', World.size_alloc, World.size_setCell]; omega) | rfl | (solve | simp) | (solve | (simp; omega))))), by ((apply Box.cast); (repeat (first | with_reducible assumption | ((with_reducible apply Box.new1); (first | with_reducible rfl | rfl | (solve | simp))) | with_reducible apply Box.drewN | with_reducible apply Box.drew | with_reducible apply Box.set | with_reducible apply Box.other | with_reducible apply Box.alloc | (with_reducible apply Box.below; rotate_left; with_reducible assumption; rotate_right) | with_reducible rfl | omega | (dsimp only; omega) | (simp only [drew_heap', drewN_heap', World.size_alloc, World.size_setCell]; omega) | rfl | (solve | simp) | (solve | (simp; omega))))), by ((apply Box.cast); (repeat (first | with_reducible assumption | ((with_reducible apply Box.new1); (first | with_reducible rfl | rfl | (solve | simp))) | with_reducible apply Box.drewN | with_reducible apply Box.drew | with_reducible apply Box.set | with_reducible apply Box.other | with_reducible apply Box.alloc | (with_reducible apply Box.below; rotate_left; with_reducible assumption; rotate_right) | with_reducible rfl | omega | (dsimp only; omega) | (simp only [drew_heap', drewN_heap', World.size_alloc, World.size_setCell]; omega) | rfl | (solve | simp) | (solve | (simp; omega))))), by omega, by omega, by omega, by omega⟩
  case round =>
    obtain ⟨i, hi, rfl, hbw, hsz, bx0, bx1, bx2, hp0, hp1, hp2, hp3⟩ := hrel
    obtain ⟨c0, f0, l0, n0, m0⟩ := bx0.rules
    obtain ⟨c1, f1, l1, n1, m1⟩ := bx1.rules
    obtain ⟨c2, f2, l2, n2, m2⟩ := bx2.rules
    have K0 := Lib.hid bx0
    have K1 := Lib.hid bx1
    have K2 := Lib.hid bx2
    clear bx0 bx1 bx2
    obtain rfl | rfl | rfl | rfl | rfl : i = 0 ∨ i = 1 ∨ i = 2 ∨ i = 3 ∨ i = 4 := by omega
    · by_cases h : p0 = 0
      · have hS : setS p0 p1 p2 p3 b0 b1 b2 b3 p b = (fds4 p p1 p2 p3 b b1 b2 b3, 0, 0) := by unfold setS; rw [if_pos h]
        have HS := Lib.hid hS
        clear hS hp0 hp1 hp2 hp3
        go_wp2_with fail
        exact bodyPost_ret (v := .tuple #[.agg (fds4 p p1 p2 p3 b b1 b2 b3), .int .i64 0, .int .i64 0]) (by simp [results, Try.results22, go_sem, h, c2, c0]) rfl ⟨by rw [HS.out], by (repeat (first | with_reducible exact Below.refl _ _ | with_reducible refine Below.setCell ?_ ?_ _ | with_reducible refine Below.alloc ?_ ?_ _ | with_reducible refine below_drewN' ?_ _ | with_reducible refine Below.drew ?_ | with_reducible refine Below.trans ?_ (Below.mono (by assumption) ?_) | omega | (dsimp only; omega) | (simp only [drew_heap', drewN_heap', World.size_alloc, World.size_setCell]; omega) | (solve | simp) | (solve | (simp; omega))))⟩
      · clear hp0 hp1 hp2 hp3
        go_wp2_with fail
        go_roundw
        case rel => exact ⟨0 + 1, by omega, by go_num, hbw, hsz, K0.out, K1.out, K2.out, fun _ => h, by omega, by omega, by omega⟩
        case measure => simp [intOf]
    · by_cases h : p1 = 0
      · have hS : setS p0 p1 p2 p3 b0 b1 b2 b3 p b = (fds4 p0 p p2 p3 b0 b b2 b3, 1, 0) := by unfold setS; rw [if_neg (hp0 (by omega)), if_pos h]
        have HS := Lib.hid hS
        clear hS hp0 hp1 hp2 hp3
        go_wp2_with fail
        exact bodyPost_ret (v := .tuple #[.agg (fds4 p0 p p2 p3 b0 b b2 b3), .int .i64 1, .int .i64 0]) (by simp [results, Try.results22, go_sem, h, c2, c0]) rfl ⟨by rw [HS.out], by (repeat (first | with_reducible exact Below.refl _ _ | with_reducible refine Below.setCell ?_ ?_ _ | with_reducible refine Below.alloc ?_ ?_ _ | with_reducible refine below_drewN' ?_ _ | with_reducible refine Below.drew ?_ | with_reducible refine Below.trans ?_ (Below.mono (by assumption) ?_) | omega | (dsimp only; omega) | (simp only [drew_heap', drewN_heap', World.size_alloc, World.size_setCell]; omega) | (solve | simp) | (solve | (simp; omega))))⟩
      · clear hp1 hp2 hp3
        go_wp2_with fail
        go_roundw
        case rel => exact ⟨1 + 1, by omega, by go_num, hbw, hsz, K0.out, K1.out, K2.out, fun _ => hp0 (by omega), fun _ => h, by omega, by omega⟩
        case measure => simp [intOf]
    · by_cases h : p2 = 0
      · have hS : setS p0 p1 p2 p3 b0 b1 b2 b3 p b = (fds4 p0 p1 p p3 b0 b1 b b3, 2, 0) := by unfold setS; rw [if_neg (hp0 (by omega)), if_neg (hp1 (by omega)), if_pos h]
        have HS := Lib.hid hS
        clear hS hp0 hp1 hp2 hp3
        go_wp2_with fail
        exact bodyPost_ret (v := .tuple #[.agg (fds4 p0 p1 p p3 b0 b1 b b3), .int .i64 2, .int .i64 0]) (by simp [results, Try.results22, go_sem, h, c2, c0]) rfl ⟨by rw [HS.out], by (repeat (first | with_reducible exact Below.refl _ _ | with_reducible refine Below.setCell ?_ ?_ _ | with_reducible refine Below.alloc ?_ ?_ _ | with_reducible refine below_drewN' ?_ _ | with_reducible refine Below.drew ?_ | with_reducible refine Below.trans ?_ (Below.mono (by assumption) ?_) | omega | (dsimp only; omega) | (simp only [drew_heap', drewN_heap', World.size_alloc, World.size_setCell]; omega) | (solve | simp) | (solve | (simp; omega))))⟩
      · clear hp2 hp3
        go_wp2_with fail
        go_roundw
        case rel => exact ⟨2 + 1, by omega, by go_num, hbw, hsz, K0.out, K1.out, K2.out, fun _ => hp0 (by omega), fun _ => hp1 (by omega), fun _ => h, by omega⟩
        case measure => simp [intOf]
    · by_cases h : p3 = 0
      · have hS : setS p0 p1 p2 p3 b0 b1 b2 b3 p b = (fds4 p0 p1 p2 p b0 b1 b2 b, 3, 0) := by unfold setS; rw [if_neg (hp0 (by omega)), if_neg (hp1 (by omega)), if_neg (hp2 (by omega)), if_pos h]
        have HS := Lib.hid hS
        clear hS hp0 hp1 hp2 hp3
        go_wp2_with fail
        exact bodyPost_ret (v := .tuple #[.agg (fds4 p0 p1 p2 p b0 b1 b2 b), .int .i64 3, .int .i64 0]) (by simp [results, Try.results22, go_sem, h, c2, c0]) rfl ⟨by rw [HS.out], by (repeat (first | with_reducible exact Below.refl _ _ | with_reducible refine Below.setCell ?_ ?_ _ | with_reducible refine Below.alloc ?_ ?_ _ | with_reducible refine below_drewN' ?_ _ | with_reducible refine Below.drew ?_ | with_reducible refine Below.trans ?_ (Below.mono (by assumption) ?_) | omega | (dsimp only; omega) | (simp only [drew_heap', drewN_heap', World.size_alloc, World.size_setCell]; omega) | (solve | simp) | (solve | (simp; omega))))⟩
      · clear hp3
        go_wp2_with fail
        go_roundw
        case rel => exact ⟨3 + 1, by omega, by go_num, hbw, hsz, K0.out, K1.out, K2.out, fun _ => hp0 (by omega), fun _ => hp1 (by omega), fun _ => hp2 (by omega), fun _ => h⟩
        case measure => simp [intOf]
    · have hS : setS p0 p1 p2 p3 b0 b1 b2 b3 p b = (fds4 p0 p1 p2 p3 b0 b1 b2 b3, 0, 5) := by unfold setS; rw [if_neg (hp0 (by omega)), if_neg (hp1 (by omega)), if_neg (hp2 (by omega)), if_neg (hp3 (by omega))]
      have HS := Lib.hid hS
      clear hS hp0 hp1 hp2 hp3
      go_wp2_with fail
      exact bodyPost_ret (v := .tuple #[.agg (fds4 p0 p1 p2 p3 b0 b1 b2 b3), .int .i64 0, .int .i64 5]) (by simp [results, Try.results22, go_sem, c2, c0]) rfl ⟨by rw [HS.out], by (repeat (first | with_reducible exact Below.refl _ _ | with_reducible refine Below.setCell ?_ ?_ _ | with_reducible refine Below.alloc ?_ ?_ _ | with_reducible refine below_drewN' ?_ _ | with_reducible refine Below.drew ?_ | with_reducible refine Below.trans ?_ (Below.mono (by assumption) ?_) | omega | (dsimp only; omega) | (simp only [drew_heap', drewN_heap', World.size_alloc, World.size_setCell]; omega) | (solve | simp) | (solve | (simp; omega))))⟩

end Go.Proofs.Ythnfcmfdengnbaa
