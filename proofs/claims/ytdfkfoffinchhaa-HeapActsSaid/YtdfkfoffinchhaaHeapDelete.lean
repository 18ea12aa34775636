/- slices.Delete of one span out of the call's own row. Conditions: lengths within the reach. -/
import Derived.Test.YtdfkfoffinchhaaHeapLib
import Derived.Test.YtdfkfoffinchhaaLib13
namespace Go.Proofs.Ytdfkfoffinchhaa
open Go Go.RowKit Go.Tm
set_option linter.unusedVariables false
set_option linter.unusedSimpArgs false

set_option maxHeartbeats 1000000 in
theorem delete_span (v : Value) (xs : List Value) (i : Nat) (w : World) (base : Nat) (ho : Owned w base 31 true 3 v xs) (hi : i < xs.length) :
    Calls Try.prog 34 #[v, .int .i64 i, .int .i64 ((i : Int) + 1)] w fun e w' => ∃ v', e = .returned v' ∧ Sl w' true 3 v' (xs.eraseIdx i) ∧ v'.ownBlock = v.ownBlock ∧ w.grownBy w' v.ownBlock := by
  obtain ⟨g, cap, rfl, hlc, hcm, hbg, hgw, _, _⟩ := ho.form (by omega)
  unfold maxLen at hcm
  have HO := Lib.hid ho
  have hine : ((i : Int) == (i : Int) + 1) = false := by rw [beq_eq_false_iff_ne]; omega
  have h1 : (i : Int) + 1 ≤ xs.length := by omega
  have h2 : (i : Int) ≤ (i : Int) + 1 := by omega
  have h3 : (0 : Int) ≤ (i : Int) + 1 := by omega
  have h4 : ((i : Int) + 1).toNat = i + 1 := by omega
  have hup := fun W => run_upto (P := Try.prog) (t := 22) ty_span Try.underlying22 g 0 xs.length cap (i : Int) i rfl (by omega) W
  obtain ⟨ad, cs, hdn, hsl⟩ : ∃ ad cs, (∀ W, (Instr.slice 22 (.slice (some ⟨g, 0, none⟩) xs.length cap) (some (.int .i64 ((i : Int) + 1))) none none).run Try.prog W = .ok (.slice (some ad) (xs.length - (i + 1)) cs) W) ∧ Sl w true 3 (.slice (some ad) (xs.drop (i + 1)).length cs) (xs.drop (i + 1)) := by
    by_cases hc : cap = i + 1
    · subst hc
      refine ⟨⟨g, 0, none⟩, 0, fun W => run_from_end ty_span Try.underlying22 g 0 xs.length ((i : Int) + 1) (i + 1) (by omega) (by omega) (by omega) W, ?_⟩
      have e : xs.drop (i + 1) = [] := List.drop_of_length_le (by omega)
      rw [e]
      exact ⟨by simp, _, 0, rfl, by simp, by simp, .inl rfl⟩
    · refine ⟨⟨g, 0 + (i + 1) * 3, none⟩, cap - (i + 1), fun W => run_from ty_span Try.underlying22 g 0 xs.length cap ((i : Int) + 1) (i + 1) (by omega) (by omega) (by omega) (by omega) W, ?_⟩
      exact HO.out.sl.dropAt (by omega)
  have HSL := Lib.hid hsl
  clear ho hsl
  go_enter Try.func34, Try.ntmps34
  go_wp2_with fail
  ((refine wp_region_below_tail 6 (by kernel_rfl) (by kernel_rfl) ?_); (simp only [List.take_succ_cons, List.take_zero, List.drop_succ_cons, List.drop_zero]); (repeat (go_big_quiet_step (fail))); (refine wpQuiet_nil ?_); (intro _ hw'); (obtain ⟨⟨dq, osq⟩, hw''⟩ := hw'); (subst hw''); (have hq := below_regrown w dq osq); (generalize Go.Sort.grow (redrawn w dq) osq = w3 at *); (have hz3 := hq.size))
  obtain ⟨w4, hrun, ho4, hg4⟩ := Owned.appendIn (P := Try.prog) (t := 22) (ty := 22) (i := i) ty_span Try.underlying22 (HO.out.kept hq) (HSL.out.below hq) (by simp; omega)
  rw [List.length_drop] at hrun ho4
  have hn : i + (xs.length - (i + 1)) = xs.length - 1 := by omega
  rw [hn] at hrun ho4
  have HRUN := Lib.hid hrun
  have HO4 := Lib.hid ho4
  have HG4 := Lib.hid (grown_trans (grown_of_below hq (some g)) hg4)
  have hzl : (xs.take i ++ xs.drop (i + 1) ++ xs.drop (xs.length - 1)).length = xs.length := by simp; omega
  have htk : (xs.take i ++ xs.drop (i + 1) ++ xs.drop (xs.length - 1)).take (xs.length - 1) = xs.eraseIdx i := by
    rw [List.take_left' (by simp; omega), List.eraseIdx_eq_take_drop_succ]
  have HTK := Lib.hid htk
  obtain ⟨i1, hi1, hq0, hq1, hq2⟩ := info_parts info_span
  have hzv : ∀ w, (zeroValue 31).run Try.prog w = .ok (.agg #[.int .i64 0, .int .i64 0, .int .i64 0]) w := fun w => by simp [zeroValue, typeInfo, hi1, hq0]
  have HZV := Lib.hid hzv
  have hsl8 := fun W => run_from (P := Try.prog) (t := 22) ty_span Try.underlying22 g 0 xs.length cap ((xs.length - 1 : Nat) : Int) (xs.length - 1) rfl (by omega) (by omega) (by omega) W
  clear hrun ho4 hg4 hi1 hq0 hq1 hq2 hzv htk
  generalize xs.take i ++ xs.drop (i + 1) ++ xs.drop (xs.length - 1) = zs at *
  have hzi : xs.length - 1 < zs.length := by rw [hzl]; omega
  have HZL := Lib.hid (show zs.length - (xs.length - 1) = xs.length - (xs.length - 1) by rw [hzl])
  clear hzl
  go_wp2_with (first | ((with_reducible refine at_app ?_); (refine Lib.wpList_append_run _ rfl _ _ 22 22 rfl _ _ ?_ ?_ _ _ HRUN.out ?_; (focus (solve | simp [Act.eval, Act.put])); (focus (solve | simp [Act.eval, Act.put])))) | (refine wpList_clear_own (base := base) rfl _ 22 rfl ty_span Try.underlying22 HZV.out zero_span g xs.length cap (cap - (xs.length - 1)) HO4.out (xs.length - 1) hzi ?_ ?_; (focus (rw [HZL.out]; simp [Act.eval])); (intro w5 ho5 hg5; (have HO5 := Lib.hid ho5); (have HG5 := Lib.hid (grown_trans HG4.out hg5)); clear ho5 hg5)) | fail)
  go_ret
  refine ⟨_, rfl, ?_, rfl, HG5.out⟩
  have h := HO5.out.sl
  rw [HTK.out] at h
  exact h
end Go.Proofs.Ytdfkfoffinchhaa
