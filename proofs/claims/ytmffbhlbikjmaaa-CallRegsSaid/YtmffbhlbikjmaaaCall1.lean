/- Back and From: what they return. Conditions: none. -/
import Derived.Test.YtmffbhlbikjmaaaCall0
import Derived.Deep.QuietTactic
import Derived.BigQuiet
import Derived.Test.YtmffbhlbikjmaaaLib0
namespace Go.Proofs.Ytmffbhlbikjmaaa
open Go Go.RowKit Go.Tm
set_option linter.unusedVariables false

set_option maxHeartbeats 1000000 in
theorem back_err (a b c d e f g h pc : Int) (k v : Int) (w : World) (hk : (k == 0) = false) :
    Calls Try.prog 10 #[.agg #[.int .u32 a, .int .u32 b, .int .u32 c, .int .u32 d, .int .u32 e, .int .u32 f, .int .u32 g, .int .u32 h, .int .u32 pc], .int .i64 k, .int .u32 v] w
      fun en w' => en = .returned (.agg #[.int .u32 (-(k % 4294967296) % 4294967296), .int .u32 b, .int .u32 c, .int .u32 d, .int .u32 e, .int .u32 f, .int .u32 g, .int .u32 h, .int .u32 pc]) ∧ (w.alloc (.cells #[.int .u32 (-(k % 4294967296) % 4294967296), .int .u32 b, .int .u32 c, .int .u32 d, .int .u32 e, .int .u32 f, .int .u32 g, .int .u32 h, .int .u32 pc] 32)).alloc (.cells #[.int .u32 (-(k % 4294967296) % 4294967296), .int .u32 b, .int .u32 c, .int .u32 d, .int .u32 e, .int .u32 f, .int .u32 g, .int .u32 h, .int .u32 pc] 32) = w' := by
  go_enter Try.func10, Try.ntmps10
  go_wp2_with fail
  refine (value_err k v _ hk).mono ?_
  rintro en w' ⟨rfl, rfl⟩
  go_wp2_with fail
  refine bodyPost_ret (v := .agg #[.int .u32 (-(k % 4294967296) % 4294967296), .int .u32 b, .int .u32 c, .int .u32 d, .int .u32 e, .int .u32 f, .int .u32 g, .int .u32 h, .int .u32 pc]) (by simp [results, Try.results10, go_sem]) rfl ⟨rfl, rfl⟩

set_option maxHeartbeats 1000000 in
theorem back_ok (a b c d e f g h pc : Int) (v : Int) (w : World) :
    Calls Try.prog 10 #[.agg #[.int .u32 a, .int .u32 b, .int .u32 c, .int .u32 d, .int .u32 e, .int .u32 f, .int .u32 g, .int .u32 h, .int .u32 pc], .int .i64 0, .int .u32 v] w
      fun en w' => en = .returned (.agg #[.int .u32 v, .int .u32 b, .int .u32 c, .int .u32 d, .int .u32 e, .int .u32 f, .int .u32 g, .int .u32 h, .int .u32 pc]) ∧ (w.alloc (.cells #[.int .u32 v, .int .u32 b, .int .u32 c, .int .u32 d, .int .u32 e, .int .u32 f, .int .u32 g, .int .u32 h, .int .u32 pc] 32)).alloc (.cells #[.int .u32 v, .int .u32 b, .int .u32 c, .int .u32 d, .int .u32 e, .int .u32 f, .int .u32 g, .int .u32 h, .int .u32 pc] 32) = w' := by
  go_enter Try.func10, Try.ntmps10
  go_wp2_with fail
  refine (value_ok v _).mono ?_
  rintro en w' ⟨rfl, rfl⟩
  go_wp2_with fail
  refine bodyPost_ret (v := .agg #[.int .u32 v, .int .u32 b, .int .u32 c, .int .u32 d, .int .u32 e, .int .u32 f, .int .u32 g, .int .u32 h, .int .u32 pc]) (by simp [results, Try.results10, go_sem]) rfl ⟨rfl, rfl⟩

set_option maxHeartbeats 1000000 in
theorem from_any (a b c d e f g h pc : Int) (w : World) :
    Calls Try.prog 11 #[.agg #[.int .u32 a, .int .u32 b, .int .u32 c, .int .u32 d, .int .u32 e, .int .u32 f, .int .u32 g, .int .u32 h, .int .u32 pc]] w
      fun en w' => en = .returned (.agg #[.int .u32 a, .int .u32 b, .int .u32 c, .int .u32 d]) ∧ (w.alloc (.cells #[.int .u32 a, .int .u32 b, .int .u32 c, .int .u32 d, .int .u32 e, .int .u32 f, .int .u32 g, .int .u32 h, .int .u32 pc] 32)).alloc (.cells #[.int .u32 a, .int .u32 b, .int .u32 c, .int .u32 d] 36) = w' := by
  go_enter Try.func11, Try.ntmps11
  go_wp2_with fail
  refine bodyPost_ret (v := .agg #[.int .u32 a, .int .u32 b, .int .u32 c, .int .u32 d]) (by simp [results, Try.results11, go_sem]) rfl ⟨rfl, rfl⟩

theorem failed_1 (k : Int) (w : World) (h1 : 1 ≤ k) (h2 : k ≤ 14) :
    Calls Try.prog 8 #[.int .u32 (4294967296 - k)] w fun e w' => e = .returned (.tuple #[.int .i64 k, .bool true]) ∧ w = w' := by
  refine (failed_yes (4294967296 - k) w (by omega) (by omega)).mono ?_
  rintro e w' ⟨rfl, rfl⟩
  rw [show (4294967296 : Int) - (4294967296 - k) = k by omega]
  exact ⟨rfl, rfl⟩

theorem field_R (a b c d e f g h pc : Value) (w : World) : (Instr.field 32 (.agg #[a, b, c, d, e, f, g, h, pc]) 0).run Try.prog w = .ok (.agg #[a, b, c, d, e, f, g, h]) w := by kernel_rfl
theorem index_R0 (a b c d e f g h : Value) (w : World) : (Instr.index 30 (.agg #[a, b, c, d, e, f, g, h]) (.int .i64 0)).run Try.prog w = .ok a w := by kernel_rfl

set_option maxHeartbeats 1000000 in
theorem callBack_walk (a b c d e f g h pc k : Int) (w : World) :
    Calls Try.prog 5 #[.agg #[.int .u32 a, .int .u32 b, .int .u32 c, .int .u32 d, .int .u32 e, .int .u32 f, .int .u32 g, .int .u32 h, .int .u32 pc], .int .i64 k] w
      fun en w' => en = .returned (.bool true) ∧ Below w.heap.size w w' := by
  by_cases hk : 1 ≤ k ∧ k ≤ 14
  · obtain ⟨hk1, hk2⟩ := hk
    have hz : (k == 0) = false := by simp; omega
    have e1 : -(k % 4294967296) % 4294967296 = 4294967296 - k := by omega
    have E1 := Lib.hid e1
    clear e1
    have fR := field_R
    have iR := index_R0
    go_enter Try.func5, Try.ntmps5
    go_wp2_with fail
    refine (shown_true _).mono ?_
    rintro en w' ⟨rfl, rfl⟩
    go_wp2_with fail
    refine (back_err _ _ _ _ _ _ _ _ _ k 0 _ hz).mono ?_
    rintro en w' ⟨rfl, rfl⟩
    rw [E1.out]
    go_wp2_with fail
    refine (failed_1 k _ hk1 hk2).mono ?_
    rintro en w'' ⟨rfl, rfl⟩
    go_wp2_with fail
    go_ret
    exact ⟨rfl, (((Below.refl _ _).alloc (Nat.le_refl _) _).alloc (by simp) _).alloc (by simp; omega) _⟩
  · go_enter Try.func5, Try.ntmps5
    go_wp2_with fail
    refine (shown_true _).mono ?_
    rintro en w' ⟨rfl, rfl⟩
    go_wp2_with fail
    all_goals
      go_ret
      exact ⟨rfl, (Below.refl _ _).alloc (Nat.le_refl _) _⟩


theorem cpu_plain (a b c d e f g h pc : Int) (ha : (Lit.int .u32 a).wf = true) (hb : (Lit.int .u32 b).wf = true) (hc : (Lit.int .u32 c).wf = true) (hd : (Lit.int .u32 d).wf = true) (he : (Lit.int .u32 e).wf = true) (hf : (Lit.int .u32 f).wf = true) (hg : (Lit.int .u32 g).wf = true) (hh : (Lit.int .u32 h).wf = true) (hpc : (Lit.int .u32 pc).wf = true) :
    Plain Try.prog 32 #[.int .u32 a, .int .u32 b, .int .u32 c, .int .u32 d, .int .u32 e, .int .u32 f, .int .u32 g, .int .u32 h, .int .u32 pc] [.int .u32 a, .int .u32 b, .int .u32 c, .int .u32 d, .int .u32 e, .int .u32 f, .int .u32 g, .int .u32 h, .int .u32 pc] := by
  refine ⟨by kernel_rfl, 5, ?_⟩
  have h1 : Try.prog.cellsOf 32 = 9 := by kernel_rfl
  have h2 : Try.prog.cellsOf 30 = 8 := by kernel_rfl
  have h3 : Try.prog.cellsOf 22 = 1 := by kernel_rfl
  simp [Program.keyLits, Try.underlying32, Try.underlying30, Try.underlying22, h1, h2, h3, List.range_succ, ha, hb, hc, hd, he, hf, hg, hh, hpc]

set_option maxHeartbeats 4000000 in
theorem callRegs_walk_ok (a b c d e f g h pc v : Int) (w : World) (ha : (Lit.int .u32 a).wf = true) (hb : (Lit.int .u32 b).wf = true) (hc : (Lit.int .u32 c).wf = true) (hd : (Lit.int .u32 d).wf = true) (he : (Lit.int .u32 e).wf = true) (hf : (Lit.int .u32 f).wf = true) (hg : (Lit.int .u32 g).wf = true) (hh : (Lit.int .u32 h).wf = true) (hpc : (Lit.int .u32 pc).wf = true) :
    Calls Try.prog 6 #[.agg #[.int .u32 a, .int .u32 b, .int .u32 c, .int .u32 d, .int .u32 e, .int .u32 f, .int .u32 g, .int .u32 h, .int .u32 pc], .int .i64 0, .int .u32 v] w
      fun en w' => en = .returned (.bool true) ∧ Below w.heap.size w w' := by
  have hp := cpu_plain a b c d e f g h pc ha hb hc hd he hf hg hh hpc
  have heq := run_eql_plain (P := Try.prog) (t := 32) (m := 5) (by omega) (by kernel_rfl) (by kernel_rfl) hp hp true (by simp)
  clear ha hb hc hd he hf hg hh hpc hp
  go_enter Try.func6, Try.ntmps6
  go_wp2_with fail
  refine (shown_true _).mono ?_
  rintro en w' ⟨rfl, rfl⟩
  go_wp2_with fail
  refine (back_ok _ _ _ _ _ _ _ _ _ _ _).mono ?_
  rintro en w1 ⟨rfl, rfl⟩
  go_wp2_with fail
  refine (from_any _ _ _ _ _ _ _ _ _ _).mono ?_
  rintro en w1 ⟨rfl, rfl⟩
  go_wp2_with fail
  go_quiet ((go_at_call 9; exact quiet_same (value_ok _ _)))
  go_wp2_with fail
  go_ret
  exact ⟨rfl, by (repeat (first | exact Below.refl _ _ | (refine Below.setCell ?_ (by first | (simp; done) | (simp; omega)) _) | (refine Below.alloc ?_ (by first | (simp; done) | (simp; omega)) _) | refine below_drewN' ?_ _ | refine Below.drew ?_))⟩

set_option maxHeartbeats 4000000 in
theorem callRegs_walk_err (a b c d e f g h pc k v : Int) (hk : (k == 0) = false) (w : World) (ha : (Lit.int .u32 a).wf = true) (hb : (Lit.int .u32 b).wf = true) (hc : (Lit.int .u32 c).wf = true) (hd : (Lit.int .u32 d).wf = true) (he : (Lit.int .u32 e).wf = true) (hf : (Lit.int .u32 f).wf = true) (hg : (Lit.int .u32 g).wf = true) (hh : (Lit.int .u32 h).wf = true) (hpc : (Lit.int .u32 pc).wf = true) :
    Calls Try.prog 6 #[.agg #[.int .u32 a, .int .u32 b, .int .u32 c, .int .u32 d, .int .u32 e, .int .u32 f, .int .u32 g, .int .u32 h, .int .u32 pc], .int .i64 k, .int .u32 v] w
      fun en w' => en = .returned (.bool true) ∧ Below w.heap.size w w' := by
  have hp := cpu_plain a b c d e f g h pc ha hb hc hd he hf hg hh hpc
  have heq := run_eql_plain (P := Try.prog) (t := 32) (m := 5) (by omega) (by kernel_rfl) (by kernel_rfl) hp hp true (by simp)
  clear ha hb hc hd he hf hg hh hpc hp
  go_enter Try.func6, Try.ntmps6
  go_wp2_with fail
  refine (shown_true _).mono ?_
  rintro en w' ⟨rfl, rfl⟩
  go_wp2_with fail
  refine (back_err _ _ _ _ _ _ _ _ _ _ _ _ hk).mono ?_
  rintro en w1 ⟨rfl, rfl⟩
  go_wp2_with fail
  refine (from_any _ _ _ _ _ _ _ _ _ _).mono ?_
  rintro en w1 ⟨rfl, rfl⟩
  go_wp2_with fail
  go_quiet ((go_at_call 9; exact quiet_same (value_err _ _ _ hk)))
  go_wp2_with fail
  go_ret
  exact ⟨rfl, by (repeat (first | exact Below.refl _ _ | (refine Below.setCell ?_ (by first | (simp; done) | (simp; omega)) _) | (refine Below.alloc ?_ (by first | (simp; done) | (simp; omega)) _) | refine below_drewN' ?_ _ | refine Below.drew ?_))⟩

end Go.Proofs.Ytmffbhlbikjmaaa
