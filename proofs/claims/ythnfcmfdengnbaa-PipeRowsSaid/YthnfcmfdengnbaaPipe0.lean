/- pipe.Write, Read, Right: what they return. Conditions: lengths within the reach. -/
import Derived.Test.YthnfcmfdengnbaaRows
import Derived.Test.YthnfcmfdengnbaaLib2
import Derived.Outline
import Derived.RegionTactic
import Derived.BigRegion
namespace Go.Proofs.Ythnfcmfdengnbaa
open Go Go.RowKit Go.Tm
set_option linter.unusedVariables false
set_option linter.unusedSimpArgs false

/-- A pipe, as a value. -/
abbrev pv (d : ByteArray) (r w : Int) : Value := .agg #[.string d, .int .i64 r, .int .i64 w]

set_option maxHeartbeats 1000000 in
theorem write_empty (d : ByteArray) (r wr : Int) (s : ByteArray) (w : World) (hd : d.size ≤ 9223372036854775807) (hs : s.toList = []) :
    Calls Try.prog 13 #[.agg #[.string d, .int .i64 r, .int .i64 wr], .string s] w
      fun e w' => e = .returned (.tuple #[.agg #[.string d, .int .i64 r, .int .i64 wr], .int .i64 0, .int .i64 0]) ∧ Below w.heap.size w w' := by
  have hs2 : s.toList.isEmpty = true := by rw [hs]; rfl
  clear hs
  go_enter Try.func13, Try.ntmps13
  go_wp2_with fail
  refine bodyPost_ret (v := .tuple #[.agg #[.string d, .int .i64 r, .int .i64 wr], .int .i64 0, .int .i64 0]) (by simp [results, Try.results13, go_sem]) rfl ⟨rfl, ?_⟩
  (repeat (first | with_reducible exact Below.refl _ _ | with_reducible refine Below.setCell ?_ ?_ _ | with_reducible refine Below.alloc ?_ ?_ _ | with_reducible refine below_drewN' ?_ _ | with_reducible refine Below.drew ?_ | with_reducible refine Below.trans ?_ (Below.mono (by assumption) ?_) | omega | (dsimp only; omega) | (simp only [drew_heap', drewN_heap', World.size_alloc, World.size_setCell]; omega) | (solve | simp) | (solve | (simp; omega))))

set_option maxHeartbeats 1000000 in
theorem write_end (d : ByteArray) (r wr : Int) (s : ByteArray) (w : World) (hd : d.size ≤ 9223372036854775807) (hs2 : s.toList.isEmpty = false) (hr : r ≤ 0) :
    Calls Try.prog 13 #[.agg #[.string d, .int .i64 r, .int .i64 wr], .string s] w
      fun e w' => e = .returned (.tuple #[.agg #[.string d, .int .i64 r, .int .i64 wr], .int .i64 0, .int .i64 14]) ∧ Below w.heap.size w w' := by
  go_enter Try.func13, Try.ntmps13
  go_wp2_with fail
  refine bodyPost_ret (v := .tuple #[.agg #[.string d, .int .i64 r, .int .i64 wr], .int .i64 0, .int .i64 14]) (by simp [results, Try.results13, go_sem]) rfl ⟨rfl, ?_⟩
  (repeat (first | with_reducible exact Below.refl _ _ | with_reducible refine Below.setCell ?_ ?_ _ | with_reducible refine Below.alloc ?_ ?_ _ | with_reducible refine below_drewN' ?_ _ | with_reducible refine Below.drew ?_ | with_reducible refine Below.trans ?_ (Below.mono (by assumption) ?_) | omega | (dsimp only; omega) | (simp only [drew_heap', drewN_heap', World.size_alloc, World.size_setCell]; omega) | (solve | simp) | (solve | (simp; omega))))

set_option maxHeartbeats 1000000 in
theorem write_again (d : ByteArray) (r wr : Int) (s : ByteArray) (w : World) (hd : d.size ≤ 9223372036854775807) (hs2 : s.toList.isEmpty = false) (hr : 1 ≤ r) (h8 : 8 ≤ d.size) :
    Calls Try.prog 13 #[.agg #[.string d, .int .i64 r, .int .i64 wr], .string s] w
      fun e w' => e = .returned (.tuple #[.agg #[.string d, .int .i64 r, .int .i64 wr], .int .i64 0, .int .i64 6]) ∧ Below w.heap.size w w' := by
  go_enter Try.func13, Try.ntmps13
  go_wp2_with fail
  refine bodyPost_ret (v := .tuple #[.agg #[.string d, .int .i64 r, .int .i64 wr], .int .i64 0, .int .i64 6]) (by simp [results, Try.results13, go_sem]) rfl ⟨rfl, ?_⟩
  (repeat (first | with_reducible exact Below.refl _ _ | with_reducible refine Below.setCell ?_ ?_ _ | with_reducible refine Below.alloc ?_ ?_ _ | with_reducible refine below_drewN' ?_ _ | with_reducible refine Below.drew ?_ | with_reducible refine Below.trans ?_ (Below.mono (by assumption) ?_) | omega | (dsimp only; omega) | (simp only [drew_heap', drewN_heap', World.size_alloc, World.size_setCell]; omega) | (solve | simp) | (solve | (simp; omega))))

set_option maxHeartbeats 1000000 in
theorem write_all (d : ByteArray) (r wr : Int) (s : ByteArray) (w : World) (hd : d.size < 8) (hs2 : s.toList.isEmpty = false) (hr : 1 ≤ r) (hs : s.size + d.size < 8) :
    Calls Try.prog 13 #[.agg #[.string d, .int .i64 r, .int .i64 wr], .string s] w
      fun e w' => e = .returned (.tuple #[.agg #[.string (d ++ s), .int .i64 r, .int .i64 wr], .int .i64 s.size, .int .i64 0]) ∧ Below w.heap.size w w' := by
  go_enter Try.func13, Try.ntmps13
  go_wp2_with fail
  all_goals go_region
  all_goals go_wp2_with fail
  all_goals
    refine bodyPost_ret (v := .tuple #[.agg #[.string (d ++ s), .int .i64 r, .int .i64 wr], .int .i64 s.size, .int .i64 0]) (by simp [results, Try.results13, go_sem]) rfl ⟨rfl, ?_⟩
    (repeat (first | with_reducible exact Below.refl _ _ | with_reducible refine Below.setCell ?_ ?_ _ | with_reducible refine Below.alloc ?_ ?_ _ | with_reducible refine below_drewN' ?_ _ | with_reducible refine Below.drew ?_ | with_reducible refine Below.trans ?_ (Below.mono (by assumption) ?_) | omega | (dsimp only; omega) | (simp only [drew_heap', drewN_heap', World.size_alloc, World.size_setCell]; omega) | (solve | simp) | (solve | (simp; omega))))

set_option maxHeartbeats 1000000 in
theorem write_part (d : ByteArray) (r wr : Int) (s : ByteArray) (w : World) (hd : d.size < 8) (hs2 : s.toList.isEmpty = false) (hr : 1 ≤ r) (hs : 8 ≤ s.size + d.size) :
    Calls Try.prog 13 #[.agg #[.string d, .int .i64 r, .int .i64 wr], .string s] w
      fun e w' => e = .returned (.tuple #[.agg #[.string (d ++ s.extract 0 (8 - (d.size : Int)).toNat), .int .i64 r, .int .i64 wr], .int .i64 (8 - d.size), .int .i64 0]) ∧ Below w.heap.size w w' := by
  go_enter Try.func13, Try.ntmps13
  go_wp2_with fail
  all_goals go_region
  all_goals go_wp2_with fail
  all_goals
    refine bodyPost_ret (v := .tuple #[.agg #[.string (d ++ s.extract 0 (8 - (d.size : Int)).toNat), .int .i64 r, .int .i64 wr], .int .i64 (8 - d.size), .int .i64 0]) (by simp [results, Try.results13, go_sem]) rfl ⟨rfl, ?_⟩
    (repeat (first | with_reducible exact Below.refl _ _ | with_reducible refine Below.setCell ?_ ?_ _ | with_reducible refine Below.alloc ?_ ?_ _ | with_reducible refine below_drewN' ?_ _ | with_reducible refine Below.drew ?_ | with_reducible refine Below.trans ?_ (Below.mono (by assumption) ?_) | omega | (dsimp only; omega) | (simp only [drew_heap', drewN_heap', World.size_alloc, World.size_setCell]; omega) | (solve | simp) | (solve | (simp; omega))))

set_option maxHeartbeats 1000000 in
theorem read_neg (d : ByteArray) (r wr n : Int) (w : World) (hd : d.size ≤ 9223372036854775807) (hn : n < 0) :
    Calls Try.prog 12 #[.agg #[.string d, .int .i64 r, .int .i64 wr], .int .i64 n] w
      fun e w' => e = .returned (.tuple #[.agg #[.string d, .int .i64 r, .int .i64 wr], .string ⟨#[]⟩, .int .i64 1]) ∧ Below w.heap.size w w' := by
  go_enter Try.func12, Try.ntmps12
  go_wp2_with fail
  refine bodyPost_ret (v := .tuple #[.agg #[.string d, .int .i64 r, .int .i64 wr], .string ⟨#[]⟩, .int .i64 1]) (by simp [results, Try.results12, go_sem]) rfl ⟨rfl, ?_⟩
  (repeat (first | with_reducible exact Below.refl _ _ | with_reducible refine Below.setCell ?_ ?_ _ | with_reducible refine Below.alloc ?_ ?_ _ | with_reducible refine below_drewN' ?_ _ | with_reducible refine Below.drew ?_ | with_reducible refine Below.trans ?_ (Below.mono (by assumption) ?_) | omega | (dsimp only; omega) | (simp only [drew_heap', drewN_heap', World.size_alloc, World.size_setCell]; omega) | (solve | simp) | (solve | (simp; omega))))

set_option maxHeartbeats 1000000 in
theorem read_zero (d : ByteArray) (r wr : Int) (w : World) (hd : d.size ≤ 9223372036854775807) :
    Calls Try.prog 12 #[.agg #[.string d, .int .i64 r, .int .i64 wr], .int .i64 0] w
      fun e w' => e = .returned (.tuple #[.agg #[.string d, .int .i64 r, .int .i64 wr], .string ⟨#[]⟩, .int .i64 0]) ∧ Below w.heap.size w w' := by
  go_enter Try.func12, Try.ntmps12
  go_wp2_with fail
  refine bodyPost_ret (v := .tuple #[.agg #[.string d, .int .i64 r, .int .i64 wr], .string ⟨#[]⟩, .int .i64 0]) (by simp [results, Try.results12, go_sem]) rfl ⟨rfl, ?_⟩
  (repeat (first | with_reducible exact Below.refl _ _ | with_reducible refine Below.setCell ?_ ?_ _ | with_reducible refine Below.alloc ?_ ?_ _ | with_reducible refine below_drewN' ?_ _ | with_reducible refine Below.drew ?_ | with_reducible refine Below.trans ?_ (Below.mono (by assumption) ?_) | omega | (dsimp only; omega) | (simp only [drew_heap', drewN_heap', World.size_alloc, World.size_setCell]; omega) | (solve | simp) | (solve | (simp; omega))))

set_option maxHeartbeats 1000000 in
theorem read_again (d : ByteArray) (r wr n : Int) (w : World) (hd : d.size ≤ 9223372036854775807) (hn : 1 ≤ n) (he : d.toList.isEmpty = true) (hw : 1 ≤ wr) :
    Calls Try.prog 12 #[.agg #[.string d, .int .i64 r, .int .i64 wr], .int .i64 n] w
      fun e w' => e = .returned (.tuple #[.agg #[.string d, .int .i64 r, .int .i64 wr], .string ⟨#[]⟩, .int .i64 6]) ∧ Below w.heap.size w w' := by
  go_enter Try.func12, Try.ntmps12
  go_wp2_with fail
  refine bodyPost_ret (v := .tuple #[.agg #[.string d, .int .i64 r, .int .i64 wr], .string ⟨#[]⟩, .int .i64 6]) (by simp [results, Try.results12, go_sem]) rfl ⟨rfl, ?_⟩
  (repeat (first | with_reducible exact Below.refl _ _ | with_reducible refine Below.setCell ?_ ?_ _ | with_reducible refine Below.alloc ?_ ?_ _ | with_reducible refine below_drewN' ?_ _ | with_reducible refine Below.drew ?_ | with_reducible refine Below.trans ?_ (Below.mono (by assumption) ?_) | omega | (dsimp only; omega) | (simp only [drew_heap', drewN_heap', World.size_alloc, World.size_setCell]; omega) | (solve | simp) | (solve | (simp; omega))))

set_option maxHeartbeats 1000000 in
theorem read_over (d : ByteArray) (r wr n : Int) (w : World) (hd : d.size ≤ 9223372036854775807) (hn : 1 ≤ n) (he : d.toList.isEmpty = true) (hw : wr ≤ 0) :
    Calls Try.prog 12 #[.agg #[.string d, .int .i64 r, .int .i64 wr], .int .i64 n] w
      fun e w' => e = .returned (.tuple #[.agg #[.string d, .int .i64 r, .int .i64 wr], .string ⟨#[]⟩, .int .i64 0]) ∧ Below w.heap.size w w' := by
  go_enter Try.func12, Try.ntmps12
  go_wp2_with fail
  refine bodyPost_ret (v := .tuple #[.agg #[.string d, .int .i64 r, .int .i64 wr], .string ⟨#[]⟩, .int .i64 0]) (by simp [results, Try.results12, go_sem]) rfl ⟨rfl, ?_⟩
  (repeat (first | with_reducible exact Below.refl _ _ | with_reducible refine Below.setCell ?_ ?_ _ | with_reducible refine Below.alloc ?_ ?_ _ | with_reducible refine below_drewN' ?_ _ | with_reducible refine Below.drew ?_ | with_reducible refine Below.trans ?_ (Below.mono (by assumption) ?_) | omega | (dsimp only; omega) | (simp only [drew_heap', drewN_heap', World.size_alloc, World.size_setCell]; omega) | (solve | simp) | (solve | (simp; omega))))

set_option maxHeartbeats 1000000 in
theorem read_some (d : ByteArray) (r wr n : Int) (w : World) (hd : d.size ≤ 9223372036854775807) (hn : 1 ≤ n) (he : d.toList.isEmpty = false) (hle : n ≤ d.size) :
    Calls Try.prog 12 #[.agg #[.string d, .int .i64 r, .int .i64 wr], .int .i64 n] w
      fun e w' => e = .returned (.tuple #[.agg #[.string (d.extract n.toNat d.size), .int .i64 r, .int .i64 wr], .string (d.extract 0 n.toNat), .int .i64 0]) ∧ Below w.heap.size w w' := by
  go_enter Try.func12, Try.ntmps12
  go_wp2_with fail
  refine bodyPost_ret (v := .tuple #[.agg #[.string (d.extract n.toNat d.size), .int .i64 r, .int .i64 wr], .string (d.extract 0 n.toNat), .int .i64 0]) (by simp [results, Try.results12, go_sem]) rfl ⟨rfl, ?_⟩
  (repeat (first | with_reducible exact Below.refl _ _ | with_reducible refine Below.setCell ?_ ?_ _ | with_reducible refine Below.alloc ?_ ?_ _ | with_reducible refine below_drewN' ?_ _ | with_reducible refine Below.drew ?_ | with_reducible refine Below.trans ?_ (Below.mono (by assumption) ?_) | omega | (dsimp only; omega) | (simp only [drew_heap', drewN_heap', World.size_alloc, World.size_setCell]; omega) | (solve | simp) | (solve | (simp; omega))))

set_option maxHeartbeats 1000000 in
theorem read_all (d : ByteArray) (r wr n : Int) (w : World) (hd : d.size ≤ 9223372036854775807) (hn : 1 ≤ n) (he : d.toList.isEmpty = false) (hle : d.size < n) :
    Calls Try.prog 12 #[.agg #[.string d, .int .i64 r, .int .i64 wr], .int .i64 n] w
      fun e w' => e = .returned (.tuple #[.agg #[.string (d.extract d.size d.size), .int .i64 r, .int .i64 wr], .string (d.extract 0 d.size), .int .i64 0]) ∧ Below w.heap.size w w' := by
  go_enter Try.func12, Try.ntmps12
  go_wp2_with fail
  refine bodyPost_ret (v := .tuple #[.agg #[.string (d.extract d.size d.size), .int .i64 r, .int .i64 wr], .string (d.extract 0 d.size), .int .i64 0]) (by simp [results, Try.results12, go_sem]) rfl ⟨rfl, ?_⟩
  (repeat (first | with_reducible exact Below.refl _ _ | with_reducible refine Below.setCell ?_ ?_ _ | with_reducible refine Below.alloc ?_ ?_ _ | with_reducible refine below_drewN' ?_ _ | with_reducible refine Below.drew ?_ | with_reducible refine Below.trans ?_ (Below.mono (by assumption) ?_) | omega | (dsimp only; omega) | (simp only [drew_heap', drewN_heap', World.size_alloc, World.size_setCell]; omega) | (solve | simp) | (solve | (simp; omega))))

set_option maxHeartbeats 1000000 in
theorem right_any (d : ByteArray) (r wr : Int) (w : World) (hd : d.size ≤ 9223372036854775807) :
    Calls Try.prog 16 #[.agg #[.string d, .int .i64 r, .int .i64 wr]] w
      fun e w' => e = .returned (.bool (decide (d.size ≤ 8 ∧ 0 ≤ r ∧ 0 ≤ wr))) ∧ Below w.heap.size w w' := by
  by_cases h1 : d.size ≤ 8 <;> by_cases h2 : 0 ≤ r <;> by_cases h3 : 0 ≤ wr
  all_goals
    go_enter Try.func16, Try.ntmps16
    go_wp2_with fail
    go_ret
    refine ⟨?_, ?_⟩
    · simp [*]
    · (repeat (first | with_reducible exact Below.refl _ _ | with_reducible refine Below.setCell ?_ ?_ _ | with_reducible refine Below.alloc ?_ ?_ _ | with_reducible refine below_drewN' ?_ _ | with_reducible refine Below.drew ?_ | with_reducible refine Below.trans ?_ (Below.mono (by assumption) ?_) | omega | (dsimp only; omega) | (simp only [drew_heap', drewN_heap', World.size_alloc, World.size_setCell]; omega) | (solve | simp) | (solve | (simp; omega))))
end Go.Proofs.Ythnfcmfdengnbaa
