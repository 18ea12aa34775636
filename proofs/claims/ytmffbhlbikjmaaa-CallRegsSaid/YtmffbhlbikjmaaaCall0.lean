/- The functions of package call: what each returns. Conditions: arguments within their kinds. -/
import Derived.Test.YtmffbhlbikjmaaaRows
import Derived.WalkKit
import Derived.Outline
namespace Go.Proofs.Ytmffbhlbikjmaaa
open Go Go.RowKit
set_option linter.unusedVariables false

set_option maxHeartbeats 400000 in
theorem failed_no (v : Int) (w : World) (h0 : 0 ≤ v) (h1 : v < 4294967282) :
    Calls Try.prog 8 #[.int .u32 v] w fun e w' => e = .returned (.tuple #[.int .i64 0, .bool false]) ∧ w = w' := by
  go_enter Try.func8, Try.ntmps8
  go_wp2
  all_goals
    go_ret2
    exact ⟨rfl, rfl⟩

set_option maxHeartbeats 400000 in
theorem failed_yes (v : Int) (w : World) (h0 : 4294967282 ≤ v) (h1 : v < 4294967296) :
    Calls Try.prog 8 #[.int .u32 v] w fun e w' => e = .returned (.tuple #[.int .i64 (4294967296 - v), .bool true]) ∧ w = w' := by
  have e1 : -v % 4294967296 = 4294967296 - v := by omega
  go_enter Try.func8, Try.ntmps8
  go_wp2
  go_ret2
  exact ⟨rfl, rfl⟩

set_option maxHeartbeats 400000 in
theorem value_ok (v : Int) (w : World) :
    Calls Try.prog 9 #[.int .i64 0, .int .u32 v] w fun e w' => e = .returned (.int .u32 v) ∧ w = w' := by
  go_enter Try.func9, Try.ntmps9
  go_wp2
  go_ret
  exact ⟨rfl, rfl⟩

set_option maxHeartbeats 400000 in
theorem value_err (e : Int) (v : Int) (w : World) (h : (e == 0) = false) :
    Calls Try.prog 9 #[.int .i64 e, .int .u32 v] w fun en w' => en = .returned (.int .u32 (-(e % 4294967296) % 4294967296)) ∧ w = w' := by
  go_enter Try.func9, Try.ntmps9
  go_wp2
  go_ret
  exact ⟨rfl, rfl⟩

set_option maxHeartbeats 400000 in
theorem value_1 (e : Int) (v : Int) (w : World) (h1 : 1 ≤ e) (h2 : e ≤ 14) :
    Calls Try.prog 9 #[.int .i64 e, .int .u32 v] w fun en w' => en = .returned (.int .u32 (4294967296 - e)) ∧ w = w' := by
  refine (value_err e v w (by simp; omega)).mono ?_
  rintro en w' ⟨rfl, rfl⟩
  have : -(e % 4294967296) % 4294967296 = 4294967296 - e := by omega
  rw [this]
  exact ⟨rfl, rfl⟩

set_option maxHeartbeats 400000 in
theorem shown_true (w : World) :
    Calls Try.prog 7 #[] w fun en w' => en = .returned (.bool true) ∧ w = w' := by
  go_enter Try.func7, Try.ntmps7
  go_wp2_with fail
  refine (value_1 1 7 _ (by omega) (by omega)).mono ?_
  rintro e w' ⟨rfl, rfl⟩
  go_wp2_with fail
  refine (failed_yes _ _ (by omega) (by omega)).mono ?_
  rintro e w' ⟨rfl, rfl⟩
  go_wp2_with fail
  go_ret
  exact ⟨rfl, rfl⟩
end Go.Proofs.Ytmffbhlbikjmaaa
