/- transomref10.Write and Read: what they return; the same as pipe.Write and Read. Conditions: lengths within the reach. -/
import Derived.Test.YthnfcmfdengnbaaPipeLaws
namespace Go.Proofs.Ythnfcmfdengnbaa
open Go Go.RowKit Go.Tm
set_option linter.unusedVariables false
set_option linter.unusedSimpArgs false

/-- What is written: the pipe's bytes, how many, the error. -/
def writeS (d : ByteArray) (r : Int) (s : ByteArray) : ByteArray × Int × Int :=
  if s.size = 0 then (d, 0, 0) else if r ≤ 0 then (d, 0, 14) else if 8 ≤ d.size then (d, 0, 6) else (d ++ s.extract 0 (min (8 - d.size) s.size), ((min (8 - d.size) s.size : Nat) : Int), 0)
/-- What is read: the pipe's bytes, the text, the error. -/
def readS (d : ByteArray) (wr : Int) (n : Int) : ByteArray × ByteArray × Int :=
  if n < 0 then (d, ⟨#[]⟩, 1) else if n = 0 then (d, ⟨#[]⟩, 0) else if d.size = 0 then (d, ⟨#[]⟩, if 1 ≤ wr then 6 else 0) else
    (d.extract (min n.toNat d.size) d.size, d.extract 0 (min n.toNat d.size), 0)

theorem write_any (d : ByteArray) (r wr : Int) (s : ByteArray) (w : World) (hd : d.size ≤ 9223372036854775807) (hs : s.size ≤ 9223372036854775807) :
    Calls Try.prog 13 #[.agg #[.string d, .int .i64 r, .int .i64 wr], .string s] w
      fun e w' => e = .returned (.tuple #[.agg #[.string (writeS d r s).1, .int .i64 r, .int .i64 wr], .int .i64 (writeS d r s).2.1, .int .i64 (writeS d r s).2.2]) ∧ Below w.heap.size w w' := by
  unfold writeS
  by_cases h0 : s.size = 0
  · rw [if_pos h0]
    refine write_empty d r wr s w hd ?_
    have := str_empty h0
    simpa using this
  · rw [if_neg h0]
    have h1 := str_some h0
    by_cases h2 : r ≤ 0
    · rw [if_pos h2]; exact write_end d r wr s w hd h1 h2
    · rw [if_neg h2]
      by_cases h3 : 8 ≤ d.size
      · rw [if_pos h3]; exact write_again d r wr s w hd h1 (by omega) h3
      · rw [if_neg h3]
        by_cases h4 : s.size + d.size < 8
        · rw [show min (8 - d.size) s.size = s.size by omega]
          refine (write_all d r wr s w (by omega) h1 (by omega) h4).mono ?_
          rintro e w' ⟨rfl, hb⟩
          exact ⟨by simp, hb⟩
        · rw [show min (8 - d.size) s.size = 8 - d.size by omega]
          refine (write_part d r wr s w (by omega) h1 (by omega) (by omega)).mono ?_
          rintro e w' ⟨rfl, hb⟩
          refine ⟨?_, hb⟩
          rw [show (8 - (d.size : Int)).toNat = 8 - d.size by omega, show (8 - (d.size : Int)) = ((8 - d.size : Nat) : Int) by omega]

theorem read_any (d : ByteArray) (r wr : Int) (n : Int) (w : World) (hd : d.size ≤ 9223372036854775807) :
    Calls Try.prog 12 #[.agg #[.string d, .int .i64 r, .int .i64 wr], .int .i64 n] w
      fun e w' => e = .returned (.tuple #[.agg #[.string (readS d wr n).1, .int .i64 r, .int .i64 wr], .string (readS d wr n).2.1, .int .i64 (readS d wr n).2.2]) ∧ Below w.heap.size w w' := by
  unfold readS
  by_cases h0 : n < 0
  · rw [if_pos h0]; exact read_neg d r wr n w hd h0
  · rw [if_neg h0]
    by_cases h1 : n = 0
    · rw [if_pos h1]; subst h1; exact read_zero d r wr w hd
    · rw [if_neg h1]
      by_cases h2 : d.size = 0
      · rw [if_pos h2]
        by_cases h3 : 1 ≤ wr
        · rw [if_pos h3]; exact read_again d r wr n w hd (by omega) (str_empty h2) h3
        · rw [if_neg h3]; exact read_over d r wr n w hd (by omega) (str_empty h2) (by omega)
      · rw [if_neg h2]
        by_cases h4 : n ≤ d.size
        · rw [show min n.toNat d.size = n.toNat by omega]; exact read_some d r wr n w hd (by omega) (str_some h2) h4
        · rw [show min n.toNat d.size = d.size by omega]; exact read_all d r wr n w hd (by omega) (str_some h2) (by omega)

set_option maxHeartbeats 1000000 in
theorem rwrite_empty (d : ByteArray) (r wr : Int) (s : ByteArray) (w : World) (hd : d.size ≤ 9223372036854775807) (hs : ((s.size : Int) == 0) = true) :
    Calls Try.prog 14 #[.agg #[.string d, .int .i64 r, .int .i64 wr], .string s] w
      fun e w' => e = .returned (.tuple #[.agg #[.string d, .int .i64 r, .int .i64 wr], .int .i64 0, .int .i64 0]) ∧ Below w.heap.size w w' := by
  go_enter Try.func14, Try.ntmps14
  go_wp2_with fail
  refine bodyPost_ret (v := .tuple #[.agg #[.string d, .int .i64 r, .int .i64 wr], .int .i64 0, .int .i64 0]) (by simp [results, Try.results14, go_sem]) rfl ⟨rfl, ?_⟩
  (repeat (first | with_reducible exact Below.refl _ _ | with_reducible refine Below.setCell ?_ ?_ _ | with_reducible refine Below.alloc ?_ ?_ _ | with_reducible refine below_drewN' ?_ _ | with_reducible refine Below.drew ?_ | with_reducible refine Below.trans ?_ (Below.mono (by assumption) ?_) | omega | (dsimp only; omega) | (simp only [drew_heap', drewN_heap', World.size_alloc, World.size_setCell]; omega) | (solve | simp) | (solve | (simp; omega))))
set_option maxHeartbeats 1000000 in
theorem rwrite_end (d : ByteArray) (r wr : Int) (s : ByteArray) (w : World) (hd : d.size ≤ 9223372036854775807) (hs : ((s.size : Int) == 0) = false) (hr : r ≤ 0) :
    Calls Try.prog 14 #[.agg #[.string d, .int .i64 r, .int .i64 wr], .string s] w
      fun e w' => e = .returned (.tuple #[.agg #[.string d, .int .i64 r, .int .i64 wr], .int .i64 0, .int .i64 14]) ∧ Below w.heap.size w w' := by
  go_enter Try.func14, Try.ntmps14
  go_wp2_with fail
  refine bodyPost_ret (v := .tuple #[.agg #[.string d, .int .i64 r, .int .i64 wr], .int .i64 0, .int .i64 14]) (by simp [results, Try.results14, go_sem]) rfl ⟨rfl, ?_⟩
  (repeat (first | with_reducible exact Below.refl _ _ | with_reducible refine Below.setCell ?_ ?_ _ | with_reducible refine Below.alloc ?_ ?_ _ | with_reducible refine below_drewN' ?_ _ | with_reducible refine Below.drew ?_ | with_reducible refine Below.trans ?_ (Below.mono (by assumption) ?_) | omega | (dsimp only; omega) | (simp only [drew_heap', drewN_heap', World.size_alloc, World.size_setCell]; omega) | (solve | simp) | (solve | (simp; omega))))
set_option maxHeartbeats 1000000 in
theorem rwrite_again (d : ByteArray) (r wr : Int) (s : ByteArray) (w : World) (hd : d.size ≤ 9223372036854775807) (hs : ((s.size : Int) == 0) = false) (hr : 1 ≤ r) (h8 : 8 ≤ d.size) :
    Calls Try.prog 14 #[.agg #[.string d, .int .i64 r, .int .i64 wr], .string s] w
      fun e w' => e = .returned (.tuple #[.agg #[.string d, .int .i64 r, .int .i64 wr], .int .i64 0, .int .i64 6]) ∧ Below w.heap.size w w' := by
  go_enter Try.func14, Try.ntmps14
  go_wp2_with fail
  refine bodyPost_ret (v := .tuple #[.agg #[.string d, .int .i64 r, .int .i64 wr], .int .i64 0, .int .i64 6]) (by simp [results, Try.results14, go_sem]) rfl ⟨rfl, ?_⟩
  (repeat (first | with_reducible exact Below.refl _ _ | with_reducible refine Below.setCell ?_ ?_ _ | with_reducible refine Below.alloc ?_ ?_ _ | with_reducible refine below_drewN' ?_ _ | with_reducible refine Below.drew ?_ | with_reducible refine Below.trans ?_ (Below.mono (by assumption) ?_) | omega | (dsimp only; omega) | (simp only [drew_heap', drewN_heap', World.size_alloc, World.size_setCell]; omega) | (solve | simp) | (solve | (simp; omega))))

theorem ba_extract_succ (s : ByteArray) (n : Nat) : s.extract 0 n ++ s.extract n (n + 1) = s.extract 0 (n + 1) := by
  rw [ByteArray.extract_append_extract]; congr 1 <;> omega

set_option maxHeartbeats 1000000 in
theorem rwrite_some (d : ByteArray) (r q : Int) (s : ByteArray) (w : World) (hd : d.size < 8) (hs : ((s.size : Int) == 0) = false) (hr : 1 ≤ r) (hs2 : s.size ≤ 9223372036854775807) :
    Calls Try.prog 14 #[.agg #[.string d, .int .i64 r, .int .i64 q], .string s] w
      fun e w' => e = .returned (.tuple #[.agg #[.string (d ++ s.extract 0 (min (8 - d.size) s.size)), .int .i64 r, .int .i64 q], .int .i64 ((min (8 - d.size) s.size : Nat) : Int), .int .i64 0]) ∧ Below w.heap.size w w' := by
  go_enter Try.func14, Try.ntmps14
  go_wp2_with fail
  go_loopw [7] (fun t W => ∃ n : Nat, n ≤ s.size ∧ d.size + n ≤ 8 ∧ t = .int .i64 n ∧ Below w.heap.size w W ∧
      Box W w.heap.size #[.string (d ++ s.extract 0 n), .int .i64 r, .int .i64 q] 26 ∧ Box W (w.heap.size + 1) #[.string ⟨#[]⟩, .int .i64 0, .int .i64 0] 26) (fun t _ => s.size - (intOf t).toNat)
  case atStart =>
    refine ⟨0, Nat.zero_le _, by omega, rfl, by (repeat (first | with_reducible exact Below.refl _ _ | with_reducible refine Below.setCell ?_ ?_ _ | with_reducible refine Below.alloc ?_ ?_ _ | with_reducible refine below_drewN' ?_ _ | with_reducible refine Below.drew ?_ | with_reducible refine Below.trans ?_ (Below.mono (by assumption) ?_) | omega | (dsimp only; omega) | (simp only [drew_heap', drewN_heap', World.size_alloc, World.size_setCell]; omega) | (solve | simp) | (solve | (simp; omega)))), ?_, ?_⟩
    · refine Box.cast (cs := #[.string d, .int .i64 r, .int .i64 q]) ?_ (by simp)
      ((apply Box.cast); (repeat (first | with_reducible assumption | ((with_reducible apply Box.new1); (first | with_reducible rfl | rfl | (solve | simp))) | with_reducible apply Box.drewN | with_reducible apply Box.drew | with_reducible apply Box.set | with_reducible apply Box.other | with_reducible apply Box.alloc | (with_reducible apply Box.below; rotate_left; with_reducible assumption; rotate_right) | with_reducible rfl | omega | (dsimp only; omega) | (simp only [drew_heap', drewN_heap', World.size_alloc, World.size_setCell]; omega) | rfl | (solve | simp) | (solve | (simp; omega)))))
    · ((apply Box.cast); (repeat (first | with_reducible assumption | ((with_reducible apply Box.new1); (first | with_reducible rfl | rfl | (solve | simp))) | with_reducible apply Box.drewN | with_reducible apply Box.drew | with_reducible apply Box.set | with_reducible apply Box.other | with_reducible apply Box.alloc | (with_reducible apply Box.below; rotate_left; with_reducible assumption; rotate_right) | with_reducible rfl | omega | (dsimp only; omega) | (simp only [drew_heap', drewN_heap', World.size_alloc, World.size_setCell]; omega) | rfl | (solve | simp) | (solve | (simp; omega)))))
  case round =>
    obtain ⟨n, hn1, hn2, rfl, hbw, hB0, hB1⟩ := hrel
    obtain ⟨hc, hf, hl, hn, hm⟩ := hB0.rules
    obtain ⟨hc', hf', hl', hn', hm'⟩ := hB1.rules
    have hsz : (d ++ s.extract 0 n).size = d.size + n := by simp; omega
    have HB0 := Lib.hid hB0
    have HB1 := Lib.hid hB1
    clear hB0 hB1
    by_cases hlt : n < s.size ∧ d.size + n < 8
    · obtain ⟨h1, h2⟩ := hlt
      go_wp2_with fail
      have hsl := run_slice_str (P := Try.prog) Try.underlying9 s (n : Int) ((n : Int) + 1) n (n + 1) rfl (by omega) (by omega) (by omega)
      have hwr : IntKind.i64.wrap ((n : Int) + 1) = (n : Int) + 1 := IntWalk.i64_in _ (by omega)
      go_region
      clear hsl hwr
      go_wp2_with fail
      go_roundw
      case rel =>
        refine ⟨n + 1, by omega, by omega, by go_num, by (repeat (first | with_reducible exact Below.refl _ _ | with_reducible refine Below.setCell ?_ ?_ _ | with_reducible refine Below.alloc ?_ ?_ _ | with_reducible refine below_drewN' ?_ _ | with_reducible refine Below.drew ?_ | with_reducible refine Below.trans ?_ (Below.mono (by assumption) ?_) | omega | (dsimp only; omega) | (simp only [drew_heap', drewN_heap', World.size_alloc, World.size_setCell]; omega) | (solve | simp) | (solve | (simp; omega)))), ?_, ?_⟩
        · have hb0 := HB0.out
          refine Box.cast (cs := #[.string (d ++ s.extract 0 n ++ s.extract n (n + 1)), .int .i64 r, .int .i64 q]) ?_ (by rw [ByteArray.append_assoc, ba_extract_succ])
          ((apply Box.cast); (repeat (first | with_reducible assumption | ((with_reducible apply Box.new1); (first | with_reducible rfl | rfl | (solve | simp))) | with_reducible apply Box.drewN | with_reducible apply Box.drew | with_reducible apply Box.set | with_reducible apply Box.other | with_reducible apply Box.alloc | (with_reducible apply Box.below; rotate_left; with_reducible assumption; rotate_right) | with_reducible rfl | omega | (dsimp only; omega) | (simp only [drew_heap', drewN_heap', World.size_alloc, World.size_setCell]; omega) | rfl | (solve | simp) | (solve | (simp; omega)))))
        · have hb1 := HB1.out
          ((apply Box.cast); (repeat (first | with_reducible assumption | ((with_reducible apply Box.new1); (first | with_reducible rfl | rfl | (solve | simp))) | with_reducible apply Box.drewN | with_reducible apply Box.drew | with_reducible apply Box.set | with_reducible apply Box.other | with_reducible apply Box.alloc | (with_reducible apply Box.below; rotate_left; with_reducible assumption; rotate_right) | with_reducible rfl | omega | (dsimp only; omega) | (simp only [drew_heap', drewN_heap', World.size_alloc, World.size_setCell]; omega) | rfl | (solve | simp) | (solve | (simp; omega)))))
      case measure => simp [intOf]; omega
    · have hmin : min (8 - d.size) s.size = n := by omega
      have HMIN := Lib.hid hmin
      clear hmin
      by_cases h1 : n < s.size
      · have h2 : 8 ≤ d.size + n := by omega
        clear hlt
        go_wp2_with fail
        refine bodyPost_ret (v := .tuple #[.agg #[.string (d ++ s.extract 0 n), .int .i64 r, .int .i64 q], .int .i64 n, .int .i64 0]) (by simp [results, Try.results14, go_sem, hc, hc', hf, hf']) rfl ⟨by rw [HMIN.out], ?_⟩
        (repeat (first | with_reducible exact Below.refl _ _ | with_reducible refine Below.setCell ?_ ?_ _ | with_reducible refine Below.alloc ?_ ?_ _ | with_reducible refine below_drewN' ?_ _ | with_reducible refine Below.drew ?_ | with_reducible refine Below.trans ?_ (Below.mono (by assumption) ?_) | omega | (dsimp only; omega) | (simp only [drew_heap', drewN_heap', World.size_alloc, World.size_setCell]; omega) | (solve | simp) | (solve | (simp; omega))))
      · clear hlt
        go_wp2_with fail
        refine bodyPost_ret (v := .tuple #[.agg #[.string (d ++ s.extract 0 n), .int .i64 r, .int .i64 q], .int .i64 n, .int .i64 0]) (by simp [results, Try.results14, go_sem, hc, hc', hf, hf']) rfl ⟨by rw [HMIN.out], ?_⟩
        (repeat (first | with_reducible exact Below.refl _ _ | with_reducible refine Below.setCell ?_ ?_ _ | with_reducible refine Below.alloc ?_ ?_ _ | with_reducible refine below_drewN' ?_ _ | with_reducible refine Below.drew ?_ | with_reducible refine Below.trans ?_ (Below.mono (by assumption) ?_) | omega | (dsimp only; omega) | (simp only [drew_heap', drewN_heap', World.size_alloc, World.size_setCell]; omega) | (solve | simp) | (solve | (simp; omega))))
end Go.Proofs.Ythnfcmfdengnbaa
