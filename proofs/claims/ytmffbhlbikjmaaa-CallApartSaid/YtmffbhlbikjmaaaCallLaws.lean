/- The laws CallErrors, CallApart, CallBack, CallRegs: their walks. Conditions: none beyond the arguments' kinds. -/
import Derived.Test.YtmffbhlbikjmaaaCall0
namespace Go.Proofs.Ytmffbhlbikjmaaa
open Go Go.RowKit
set_option linter.unusedVariables false

set_option maxHeartbeats 1000000 in
theorem callErrors_walk (e v : Int) (w : World) (h0 : 0 ≤ v) (h1 : v < 4294967296) :
    Calls Try.prog 3 #[.int .i64 e, .int .u32 v] w fun en w' => en = .returned (.bool true) ∧ w = w' := by
  by_cases he : 1 ≤ e ∧ e ≤ 14
  · obtain ⟨he1, he2⟩ := he
    by_cases hv : v < 4294967282
    · have hvd : decide (4294967282 ≤ v) = false := by simp; omega
      go_enter Try.func3, Try.ntmps3
      go_wp2_with fail
      refine (shown_true _).mono ?_
      rintro en w' ⟨rfl, rfl⟩
      go_wp2_with fail
      refine (value_1 e v _ he1 he2).mono ?_
      rintro en w' ⟨rfl, rfl⟩
      go_wp2_with fail
      refine (failed_yes _ _ (by omega) (by omega)).mono ?_
      rintro en w' ⟨rfl, rfl⟩
      go_wp2_with fail
      refine (failed_no _ _ h0 hv).mono ?_
      rintro en w' ⟨rfl, rfl⟩
      go_wp2_with fail
      refine (value_ok _ _).mono ?_
      rintro en w' ⟨rfl, rfl⟩
      go_wp2_with fail
      go_ret
      exact ⟨rfl, rfl⟩
    · go_enter Try.func3, Try.ntmps3
      go_wp2_with fail
      refine (shown_true _).mono ?_
      rintro en w' ⟨rfl, rfl⟩
      go_wp2_with fail
      refine (value_1 e v _ he1 he2).mono ?_
      rintro en w' ⟨rfl, rfl⟩
      go_wp2_with fail
      refine (failed_yes _ _ (by omega) (by omega)).mono ?_
      rintro en w' ⟨rfl, rfl⟩
      go_wp2_with fail
      refine (failed_yes _ _ (by omega) h1).mono ?_
      rintro en w' ⟨rfl, rfl⟩
      go_wp2_with fail
      refine (value_ok _ _).mono ?_
      rintro en w' ⟨rfl, rfl⟩
      go_wp2_with fail
      go_ret
      exact ⟨rfl, rfl⟩
  · by_cases hv : v < 4294967282
    · have hvd : decide (4294967282 ≤ v) = false := by simp; omega
      go_enter Try.func3, Try.ntmps3
      go_wp2_with fail
      refine (shown_true _).mono ?_
      rintro en w' ⟨rfl, rfl⟩
      go_wp2_with fail
      all_goals
        refine (failed_no _ _ h0 hv).mono ?_
        rintro en w' ⟨rfl, rfl⟩
        go_wp2_with fail
        refine (value_ok _ _).mono ?_
        rintro en w' ⟨rfl, rfl⟩
        go_wp2_with fail
        go_ret
        exact ⟨rfl, rfl⟩
    · go_enter Try.func3, Try.ntmps3
      go_wp2_with fail
      refine (shown_true _).mono ?_
      rintro en w' ⟨rfl, rfl⟩
      go_wp2_with fail
      all_goals
        refine (failed_yes _ _ (by omega) h1).mono ?_
        rintro en w' ⟨rfl, rfl⟩
        go_wp2_with fail
        refine (value_ok _ _).mono ?_
        rintro en w' ⟨rfl, rfl⟩
        go_wp2_with fail
        go_ret
        exact ⟨rfl, rfl⟩

set_option maxHeartbeats 1000000 in
theorem callApart_walk (a b v : Int) (w : World) (h0 : 0 ≤ v) (h1 : v < 4294967296) :
    Calls Try.prog 4 #[.int .i64 a, .int .i64 b, .int .u32 v] w fun en w' => en = .returned (.bool true) ∧ w = w' := by
  by_cases hg : 1 ≤ a ∧ a ≤ 14 ∧ 1 ≤ b ∧ b ≤ 14 ∧ v ≤ 2147483648
  · obtain ⟨ha1, ha2, hb1, hb2, hv⟩ := hg
    have h3 : ((4294967296 : Int) - a == v) = false := by simp; omega
    have h4 : ((4294967296 : Int) - a != v) = true := by simp; omega
    by_cases hab : a = b
    · subst hab
      go_enter Try.func4, Try.ntmps4
      go_wp2_with fail
      refine (shown_true _).mono ?_
      rintro en w' ⟨rfl, rfl⟩
      go_wp2_with fail
      refine (value_1 a v _ ha1 ha2).mono ?_
      rintro en w' ⟨rfl, rfl⟩
      go_wp2_with fail
      refine (value_1 a v _ ha1 ha2).mono ?_
      rintro en w' ⟨rfl, rfl⟩
      go_wp2_with fail
      refine (value_ok _ _).mono ?_
      rintro en w' ⟨rfl, rfl⟩
      go_wp2_with fail
      go_ret
      exact ⟨rfl, rfl⟩
    · have h5 : (a == b) = false := by simpa using hab
      have h6 : ((4294967296 : Int) - a == 4294967296 - b) = false := by simp; omega
      go_enter Try.func4, Try.ntmps4
      go_wp2_with fail
      refine (shown_true _).mono ?_
      rintro en w' ⟨rfl, rfl⟩
      go_wp2_with fail
      refine (value_1 a v _ ha1 ha2).mono ?_
      rintro en w' ⟨rfl, rfl⟩
      go_wp2_with fail
      refine (value_1 b v _ hb1 hb2).mono ?_
      rintro en w' ⟨rfl, rfl⟩
      go_wp2_with fail
      refine (value_ok _ _).mono ?_
      rintro en w' ⟨rfl, rfl⟩
      go_wp2_with fail
      go_ret
      exact ⟨rfl, rfl⟩
  · go_enter Try.func4, Try.ntmps4
    go_wp2_with fail
    refine (shown_true _).mono ?_
    rintro en w' ⟨rfl, rfl⟩
    go_wp2_with fail
    all_goals
      go_ret
      exact ⟨rfl, rfl⟩
end Go.Proofs.Ytmffbhlbikjmaaa
