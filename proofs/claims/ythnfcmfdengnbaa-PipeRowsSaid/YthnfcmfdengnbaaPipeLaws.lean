/- The laws of pipes that ask no rows: their walks. Conditions: lengths within the reach. -/
import Derived.Test.YthnfcmfdengnbaaPipe0
namespace Go.Proofs.Ythnfcmfdengnbaa
open Go Go.RowKit Go.Tm
set_option linter.unusedVariables false
set_option linter.unusedSimpArgs false

theorem write_demo1 (w : World) : Calls Try.prog 13 #[.agg #[.string ⟨#[]⟩, .int .i64 1, .int .i64 1], .string ⟨#[48, 49, 50, 51, 52, 53, 54, 55, 56, 57]⟩] w
      fun e w' => e = .returned (.tuple #[.agg #[.string ⟨#[48, 49, 50, 51, 52, 53, 54, 55]⟩, .int .i64 1, .int .i64 1], .int .i64 8, .int .i64 0]) ∧ Below w.heap.size w w' :=
  write_part ⟨#[]⟩ 1 1 ⟨#[48, 49, 50, 51, 52, 53, 54, 55, 56, 57]⟩ w (by decide) (by rw [ByteArray.toList_eq]; decide) (by decide) (by decide)
theorem read_demo (w : World) : Calls Try.prog 12 #[.agg #[.string ⟨#[48, 49, 50, 51, 52, 53, 54, 55]⟩, .int .i64 1, .int .i64 1], .int .i64 3] w
      fun e w' => e = .returned (.tuple #[.agg #[.string ⟨#[51, 52, 53, 54, 55]⟩, .int .i64 1, .int .i64 1], .string ⟨#[48, 49, 50]⟩, .int .i64 0]) ∧ Below w.heap.size w w' :=
  read_some ⟨#[48, 49, 50, 51, 52, 53, 54, 55]⟩ 1 1 3 w (by decide) (by decide) (by rw [ByteArray.toList_eq]; decide) (by decide)
theorem write_demo2 (w : World) : Calls Try.prog 13 #[.agg #[.string ⟨#[51, 52, 53, 54, 55]⟩, .int .i64 1, .int .i64 1], .string ⟨#[97, 98, 99, 100]⟩] w
      fun e w' => e = .returned (.tuple #[.agg #[.string ⟨#[51, 52, 53, 54, 55, 97, 98, 99]⟩, .int .i64 1, .int .i64 1], .int .i64 3, .int .i64 0]) ∧ Below w.heap.size w w' :=
  write_part ⟨#[51, 52, 53, 54, 55]⟩ 1 1 ⟨#[97, 98, 99, 100]⟩ w (by decide) (by rw [ByteArray.toList_eq]; decide) (by decide) (by decide)

set_option maxHeartbeats 1000000 in
theorem shown_true (w : World) : Calls Try.prog 11 #[] w fun e w' => e = .returned (.bool true) ∧ Below w.heap.size w w' := by
  go_enter Try.func11, Try.ntmps11
  ((go_wp2_with fail); (with_reducible refine (write_demo1 _).mono ?_); (rintro e w1 ⟨rfl, hb1⟩); (have hz1 := hb1.size); (try simp only [World.size_alloc, World.size_setCell] at hz1))
  go_wp2_with fail
  ((go_wp2_with fail); (with_reducible refine (read_demo _).mono ?_); (rintro e w2 ⟨rfl, hb2⟩); (have hz2 := hb2.size); (try simp only [World.size_alloc, World.size_setCell] at hz2))
  (obtain ⟨hc, hf, hl, hn, hm⟩ := after (b := w1.heap.size) (cs := #[.string ⟨#[48, 49, 50, 51, 52, 53, 54, 55]⟩, .int .i64 1, .int .i64 1]) hb2 (by first | omega | (solve | simp) | (solve | (simp; omega))) (by intro o; simp [*]) (by intro o; simp [*]))
  go_wp2_with fail
  ((go_wp2_with fail); (with_reducible refine (write_demo2 _).mono ?_); (rintro e w3 ⟨rfl, hb3⟩); (have hz3 := hb3.size); (try simp only [World.size_alloc, World.size_setCell] at hz3))
  go_wp2_with fail
  go_ret
  exact ⟨rfl, by (repeat (first | with_reducible exact Below.refl _ _ | with_reducible refine Below.setCell ?_ ?_ _ | with_reducible refine Below.alloc ?_ ?_ _ | with_reducible refine below_drewN' ?_ _ | with_reducible refine Below.drew ?_ | with_reducible refine Below.trans ?_ (Below.mono (by assumption) ?_) | omega | (dsimp only; omega) | (simp only [drew_heap', drewN_heap', World.size_alloc, World.size_setCell]; omega) | (solve | simp) | (solve | (simp; omega))))⟩

theorem str_empty {s : ByteArray} (h : s.size = 0) : s.toList.isEmpty = true := by
  rw [ByteArray.toList_eq]
  have : s.data.toList.length = 0 := by simpa using h
  rw [List.length_eq_zero_iff.1 this]; rfl
theorem str_some {s : ByteArray} (h : s.size ≠ 0) : s.toList.isEmpty = false := by
  rw [ByteArray.toList_eq, List.isEmpty_eq_false_iff]
  intro h0
  exact h (by have : s.data.toList.length = 0 := by rw [h0]; rfl
              simpa using this)

set_option maxHeartbeats 1000000 in
theorem pipeEnds_walk (d s : ByteArray) (n r wr : Int) (w : World) (hd : d.size ≤ 9223372036854775807) (hs : s.size ≤ 9223372036854775807) :
    Calls Try.prog 3 #[.agg #[.string d, .int .i64 n, .string s, .int .i64 r, .int .i64 wr]] w fun e w' => e = .returned (.bool true) ∧ Below w.heap.size w w' := by
  have h0 : ((0 : Int) == 0) = true := rfl
  by_cases hg : 1 ≤ n ∧ s.size ≠ 0 ∧ r ≤ 0 ∧ wr ≤ 0
  · obtain ⟨hn, hsz, hr, hw⟩ := hg
    have hse := str_some hsz
    have hse2 : ((s.size : Int) == 0) = false := by rw [beq_eq_false_iff_ne]; omega
    have HE : (⟨#[]⟩ : ByteArray).toList.isEmpty = true := by rw [ByteArray.toList_eq]; rfl
    have HSE := Lib.hid hse
    have HEE := Lib.hid HE
    clear hsz hse HE
    go_enter Try.func3, Try.ntmps3
    ((go_wp2_with fail); (with_reducible refine (shown_true _).mono ?_); (rintro e w1 ⟨rfl, hb1⟩); (have hz1 := hb1.size); (try simp only [World.size_alloc, World.size_setCell] at hz1))
    ((go_wp2_with fail); (with_reducible refine (read_over ⟨#[]⟩ 1 wr n _ (by decide) hn HEE.out hw).mono ?_); (rintro e w2 ⟨rfl, hb2⟩); (have hz2 := hb2.size); (try simp only [World.size_alloc, World.size_setCell] at hz2))
    ((go_wp2_with fail); (with_reducible refine (write_end d r 1 s _ hd HSE.out hr).mono ?_); (rintro e w3 ⟨rfl, hb3⟩); (have hz3 := hb3.size); (try simp only [World.size_alloc, World.size_setCell] at hz3))
    go_wp2_with fail
    go_ret
    exact ⟨rfl, by (repeat (first | with_reducible exact Below.refl _ _ | with_reducible refine Below.setCell ?_ ?_ _ | with_reducible refine Below.alloc ?_ ?_ _ | with_reducible refine below_drewN' ?_ _ | with_reducible refine Below.drew ?_ | with_reducible refine Below.trans ?_ (Below.mono (by assumption) ?_) | omega | (dsimp only; omega) | (simp only [drew_heap', drewN_heap', World.size_alloc, World.size_setCell]; omega) | (solve | simp) | (solve | (simp; omega))))⟩
  · by_cases hsz : s.size = 0
    · have hse2 : ((s.size : Int) == 0) = true := by rw [beq_iff_eq]; omega
      clear hsz hg
      go_enter Try.func3, Try.ntmps3
      ((go_wp2_with fail); (with_reducible refine (shown_true _).mono ?_); (rintro e w1 ⟨rfl, hb1⟩); (have hz1 := hb1.size); (try simp only [World.size_alloc, World.size_setCell] at hz1))
      go_wp2_with fail
      all_goals
        go_ret
        exact ⟨rfl, by (repeat (first | with_reducible exact Below.refl _ _ | with_reducible refine Below.setCell ?_ ?_ _ | with_reducible refine Below.alloc ?_ ?_ _ | with_reducible refine below_drewN' ?_ _ | with_reducible refine Below.drew ?_ | with_reducible refine Below.trans ?_ (Below.mono (by assumption) ?_) | omega | (dsimp only; omega) | (simp only [drew_heap', drewN_heap', World.size_alloc, World.size_setCell]; omega) | (solve | simp) | (solve | (simp; omega))))⟩
    · have hse2 : ((s.size : Int) == 0) = false := by rw [beq_eq_false_iff_ne]; omega
      have hg2 : n < 1 ∨ 0 < r ∨ 0 < wr := by omega
      clear hsz hg
      rcases hg2 with hg | hg | hg
      all_goals
        go_enter Try.func3, Try.ntmps3
        ((go_wp2_with fail); (with_reducible refine (shown_true _).mono ?_); (rintro e w1 ⟨rfl, hb1⟩); (have hz1 := hb1.size); (try simp only [World.size_alloc, World.size_setCell] at hz1))
        go_wp2_with fail
        all_goals
          go_ret
          exact ⟨rfl, by (repeat (first | with_reducible exact Below.refl _ _ | with_reducible refine Below.setCell ?_ ?_ _ | with_reducible refine Below.alloc ?_ ?_ _ | with_reducible refine below_drewN' ?_ _ | with_reducible refine Below.drew ?_ | with_reducible refine Below.trans ?_ (Below.mono (by assumption) ?_) | omega | (dsimp only; omega) | (simp only [drew_heap', drewN_heap', World.size_alloc, World.size_setCell]; omega) | (solve | simp) | (solve | (simp; omega))))⟩
end Go.Proofs.Ythnfcmfdengnbaa
