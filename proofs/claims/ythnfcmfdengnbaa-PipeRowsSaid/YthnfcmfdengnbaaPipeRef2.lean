/- transomref10.Write and Read give what pipe.Write and Read give; == on pipes. Conditions: lengths within the reach. -/
import Derived.Test.YthnfcmfdengnbaaPipeRef
namespace Go.Proofs.Ythnfcmfdengnbaa
open Go Go.RowKit Go.Tm
set_option linter.unusedVariables false
set_option linter.unusedSimpArgs false

theorem rwrite_any (d : ByteArray) (r q : Int) (s : ByteArray) (w : World) (hd : d.size ≤ 9223372036854775807) (hs : s.size ≤ 9223372036854775807) :
    Calls Try.prog 14 #[.agg #[.string d, .int .i64 r, .int .i64 q], .string s] w
      fun e w' => e = .returned (.tuple #[.agg #[.string (writeS d r s).1, .int .i64 r, .int .i64 q], .int .i64 (writeS d r s).2.1, .int .i64 (writeS d r s).2.2]) ∧ Below w.heap.size w w' := by
  unfold writeS
  by_cases h0 : s.size = 0
  · rw [if_pos h0]
    exact rwrite_empty d r q s w hd (by rw [beq_iff_eq]; omega)
  · rw [if_neg h0]
    have h1 : ((s.size : Int) == 0) = false := by rw [beq_eq_false_iff_ne]; omega
    by_cases h2 : r ≤ 0
    · rw [if_pos h2]; exact rwrite_end d r q s w hd h1 h2
    · rw [if_neg h2]
      by_cases h3 : 8 ≤ d.size
      · rw [if_pos h3]; exact rwrite_again d r q s w hd h1 (by omega) h3
      · rw [if_neg h3]; exact rwrite_some d r q s w (by omega) h1 (by omega) hs

set_option maxHeartbeats 1000000 in
theorem rread_none (d : ByteArray) (r q n : Int) (w : World) (hd : d.size ≤ 9223372036854775807) (k : Int) (h : n < 0 ∧ k = 1 ∨ n = 0 ∧ k = 0) :
    Calls Try.prog 15 #[.agg #[.string d, .int .i64 r, .int .i64 q], .int .i64 n] w
      fun e w' => e = .returned (.tuple #[.agg #[.string d, .int .i64 r, .int .i64 q], .string ⟨#[]⟩, .int .i64 k]) ∧ Below w.heap.size w w' := by
  rcases h with ⟨h, rfl⟩ | ⟨rfl, rfl⟩
  · go_enter Try.func15, Try.ntmps15
    go_wp2_with fail
    refine bodyPost_ret (v := .tuple #[.agg #[.string d, .int .i64 r, .int .i64 q], .string ⟨#[]⟩, .int .i64 1]) (by simp [results, Try.results15, go_sem]) rfl ⟨rfl, ?_⟩
    (repeat (first | with_reducible exact Below.refl _ _ | with_reducible refine Below.setCell ?_ ?_ _ | with_reducible refine Below.alloc ?_ ?_ _ | with_reducible refine below_drewN' ?_ _ | with_reducible refine Below.drew ?_ | with_reducible refine Below.trans ?_ (Below.mono (by assumption) ?_) | omega | (dsimp only; omega) | (simp only [drew_heap', drewN_heap', World.size_alloc, World.size_setCell]; omega) | (solve | simp) | (solve | (simp; omega))))
  · go_enter Try.func15, Try.ntmps15
    go_wp2_with fail
    refine bodyPost_ret (v := .tuple #[.agg #[.string d, .int .i64 r, .int .i64 q], .string ⟨#[]⟩, .int .i64 0]) (by simp [results, Try.results15, go_sem]) rfl ⟨rfl, ?_⟩
    (repeat (first | with_reducible exact Below.refl _ _ | with_reducible refine Below.setCell ?_ ?_ _ | with_reducible refine Below.alloc ?_ ?_ _ | with_reducible refine below_drewN' ?_ _ | with_reducible refine Below.drew ?_ | with_reducible refine Below.trans ?_ (Below.mono (by assumption) ?_) | omega | (dsimp only; omega) | (simp only [drew_heap', drewN_heap', World.size_alloc, World.size_setCell]; omega) | (solve | simp) | (solve | (simp; omega))))
set_option maxHeartbeats 1000000 in
theorem rread_empty (d : ByteArray) (r q n : Int) (w : World) (hd : d.size ≤ 9223372036854775807) (hn : 1 ≤ n) (h0 : ((d.size : Int) == 0) = true) (k : Int) (h : 1 ≤ q ∧ k = 6 ∨ q ≤ 0 ∧ k = 0) :
    Calls Try.prog 15 #[.agg #[.string d, .int .i64 r, .int .i64 q], .int .i64 n] w
      fun e w' => e = .returned (.tuple #[.agg #[.string d, .int .i64 r, .int .i64 q], .string ⟨#[]⟩, .int .i64 k]) ∧ Below w.heap.size w w' := by
  have hn0 : (n == 0) = false := by rw [beq_eq_false_iff_ne]; omega
  rcases h with ⟨h, rfl⟩ | ⟨h, rfl⟩
  · go_enter Try.func15, Try.ntmps15
    go_wp2_with fail
    refine bodyPost_ret (v := .tuple #[.agg #[.string d, .int .i64 r, .int .i64 q], .string ⟨#[]⟩, .int .i64 6]) (by simp [results, Try.results15, go_sem]) rfl ⟨rfl, ?_⟩
    (repeat (first | with_reducible exact Below.refl _ _ | with_reducible refine Below.setCell ?_ ?_ _ | with_reducible refine Below.alloc ?_ ?_ _ | with_reducible refine below_drewN' ?_ _ | with_reducible refine Below.drew ?_ | with_reducible refine Below.trans ?_ (Below.mono (by assumption) ?_) | omega | (dsimp only; omega) | (simp only [drew_heap', drewN_heap', World.size_alloc, World.size_setCell]; omega) | (solve | simp) | (solve | (simp; omega))))
  · go_enter Try.func15, Try.ntmps15
    go_wp2_with fail
    refine bodyPost_ret (v := .tuple #[.agg #[.string d, .int .i64 r, .int .i64 q], .string ⟨#[]⟩, .int .i64 0]) (by simp [results, Try.results15, go_sem]) rfl ⟨rfl, ?_⟩
    (repeat (first | with_reducible exact Below.refl _ _ | with_reducible refine Below.setCell ?_ ?_ _ | with_reducible refine Below.alloc ?_ ?_ _ | with_reducible refine below_drewN' ?_ _ | with_reducible refine Below.drew ?_ | with_reducible refine Below.trans ?_ (Below.mono (by assumption) ?_) | omega | (dsimp only; omega) | (simp only [drew_heap', drewN_heap', World.size_alloc, World.size_setCell]; omega) | (solve | simp) | (solve | (simp; omega))))
set_option maxHeartbeats 1000000 in
theorem rread_some (d : ByteArray) (r q n : Int) (w : World) (hd : d.size ≤ 9223372036854775807) (hn : 1 ≤ n) (h0 : ((d.size : Int) == 0) = false) (hle : n ≤ d.size) :
    Calls Try.prog 15 #[.agg #[.string d, .int .i64 r, .int .i64 q], .int .i64 n] w
      fun e w' => e = .returned (.tuple #[.agg #[.string (d.extract n.toNat d.size), .int .i64 r, .int .i64 q], .string (d.extract 0 n.toNat), .int .i64 0]) ∧ Below w.heap.size w w' := by
  have hn0 : (n == 0) = false := by rw [beq_eq_false_iff_ne]; omega
  go_enter Try.func15, Try.ntmps15
  go_wp2_with fail
  refine bodyPost_ret (v := .tuple #[.agg #[.string (d.extract n.toNat d.size), .int .i64 r, .int .i64 q], .string (d.extract 0 n.toNat), .int .i64 0]) (by simp [results, Try.results15, go_sem]) rfl ⟨rfl, ?_⟩
  (repeat (first | with_reducible exact Below.refl _ _ | with_reducible refine Below.setCell ?_ ?_ _ | with_reducible refine Below.alloc ?_ ?_ _ | with_reducible refine below_drewN' ?_ _ | with_reducible refine Below.drew ?_ | with_reducible refine Below.trans ?_ (Below.mono (by assumption) ?_) | omega | (dsimp only; omega) | (simp only [drew_heap', drewN_heap', World.size_alloc, World.size_setCell]; omega) | (solve | simp) | (solve | (simp; omega))))
set_option maxHeartbeats 1000000 in
theorem rread_all (d : ByteArray) (r q n : Int) (w : World) (hd : d.size ≤ 9223372036854775807) (hn : 1 ≤ n) (h0 : ((d.size : Int) == 0) = false) (hle : d.size < n) :
    Calls Try.prog 15 #[.agg #[.string d, .int .i64 r, .int .i64 q], .int .i64 n] w
      fun e w' => e = .returned (.tuple #[.agg #[.string (d.extract d.size d.size), .int .i64 r, .int .i64 q], .string (d.extract 0 d.size), .int .i64 0]) ∧ Below w.heap.size w w' := by
  have hn0 : (n == 0) = false := by rw [beq_eq_false_iff_ne]; omega
  go_enter Try.func15, Try.ntmps15
  go_wp2_with fail
  refine bodyPost_ret (v := .tuple #[.agg #[.string (d.extract d.size d.size), .int .i64 r, .int .i64 q], .string (d.extract 0 d.size), .int .i64 0]) (by simp [results, Try.results15, go_sem]) rfl ⟨rfl, ?_⟩
  (repeat (first | with_reducible exact Below.refl _ _ | with_reducible refine Below.setCell ?_ ?_ _ | with_reducible refine Below.alloc ?_ ?_ _ | with_reducible refine below_drewN' ?_ _ | with_reducible refine Below.drew ?_ | with_reducible refine Below.trans ?_ (Below.mono (by assumption) ?_) | omega | (dsimp only; omega) | (simp only [drew_heap', drewN_heap', World.size_alloc, World.size_setCell]; omega) | (solve | simp) | (solve | (simp; omega))))

theorem rread_any (d : ByteArray) (r q : Int) (n : Int) (w : World) (hd : d.size ≤ 9223372036854775807) :
    Calls Try.prog 15 #[.agg #[.string d, .int .i64 r, .int .i64 q], .int .i64 n] w
      fun e w' => e = .returned (.tuple #[.agg #[.string (readS d q n).1, .int .i64 r, .int .i64 q], .string (readS d q n).2.1, .int .i64 (readS d q n).2.2]) ∧ Below w.heap.size w w' := by
  unfold readS
  by_cases h0 : n < 0
  · rw [if_pos h0]; exact rread_none d r q n w hd 1 (.inl ⟨h0, rfl⟩)
  · rw [if_neg h0]
    by_cases h1 : n = 0
    · rw [if_pos h1]; exact rread_none d r q n w hd 0 (.inr ⟨h1, rfl⟩)
    · rw [if_neg h1]
      by_cases h2 : d.size = 0
      · rw [if_pos h2]
        have h2' : ((d.size : Int) == 0) = true := by rw [beq_iff_eq]; omega
        by_cases h3 : 1 ≤ q
        · rw [if_pos h3]; exact rread_empty d r q n w hd (by omega) h2' 6 (.inl ⟨h3, rfl⟩)
        · rw [if_neg h3]; exact rread_empty d r q n w hd (by omega) h2' 0 (.inr ⟨by omega, rfl⟩)
      · rw [if_neg h2]
        have h2' : ((d.size : Int) == 0) = false := by rw [beq_eq_false_iff_ne]; omega
        by_cases h4 : n ≤ d.size
        · rw [show min n.toNat d.size = n.toNat by omega]; exact rread_some d r q n w hd (by omega) h2' h4
        · rw [show min n.toNat d.size = d.size by omega]; exact rread_all d r q n w hd (by omega) h2' (by omega)

theorem pipe_plain (d : ByteArray) (r q : Int) (hd : d.size ≤ maxLen) (hr : (Lit.int .i64 r).wf = true) (hq : (Lit.int .i64 q).wf = true) :
    Plain Try.prog 26 #[.string d, .int .i64 r, .int .i64 q] [.string d.data.toList, .int .i64 r, .int .i64 q] := by
  refine ⟨by kernel_rfl, 5, ?_⟩
  have h1 : Try.prog.cellsOf 26 = 3 := by kernel_rfl
  have h2 : Try.prog.cellsOf 9 = 1 := by kernel_rfl
  have h3 : Try.prog.cellsOf 3 = 1 := by kernel_rfl
  simp [Program.keyLits, Try.underlying26, Try.underlying9, Try.underlying3, h1, h2, h3, hd, hr, hq]

/-- '==' on pipes. -/
theorem eql_pipe (d d' : ByteArray) (r q r' q' : Int) (hd : d.size ≤ maxLen) (hr : (Lit.int .i64 r).wf = true) (hq : (Lit.int .i64 q).wf = true) (hd' : d'.size ≤ maxLen) (hr' : (Lit.int .i64 r').wf = true) (hq' : (Lit.int .i64 q').wf = true)
    (b : Bool) (hb : b = true ↔ d = d' ∧ r = r' ∧ q = q') :
    ∀ w, (Op.equalIn 10000 26 (.agg #[.string d, .int .i64 r, .int .i64 q]) (.agg #[.string d', .int .i64 r', .int .i64 q'])).run Try.prog w = .ok b w := by
  refine run_eql_plain (m := 5) (by omega) (by kernel_rfl) (by kernel_rfl) (pipe_plain d r q hd hr hq) (pipe_plain d' r' q' hd' hr' hq') b ?_
  rw [hb]
  constructor
  · rintro ⟨rfl, rfl, rfl⟩; rfl
  · intro h
    simp only [List.cons.injEq, Lit.string.injEq, Lit.int.injEq, and_true, true_and] at h
    refine ⟨?_, h.2.1, h.2.2⟩
    have := h.1
    cases d; cases d'
    simp only [ByteArray.mk.injEq]
    exact Array.ext' this
end Go.Proofs.Ythnfcmfdengnbaa
