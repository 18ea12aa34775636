/- The references of package table: what they answer. Conditions: lengths within the reach. -/
import Derived.Test.YtianochlnbehnaaTabShown
namespace Go.Proofs.Ytianochlnbehnaa
open Go Go.RowKit Go.Tm
set_option linter.unusedVariables false
set_option linter.unusedSimpArgs false

theorem at_no {l : List Prc} {pid : Int} (h : ∀ x ∈ l, x.pid ≠ pid) : atI l pid = -1 := by
  rcases at_cases l pid with ⟨h1, _⟩ | ⟨i, x, h1, h2, h3, _⟩
  · exact h1
  · exact absurd h3 (h x (List.mem_of_getElem? h2))
theorem at_at {l : List Prc} {pid : Int} {i : Nat} {x : Prc} (hx : l[i]? = some x) (hp : x.pid = pid) (hno : ∀ (j : Nat) (y : Prc), j < i → l[j]? = some y → y.pid ≠ pid) : atI l pid = i := by
  rcases at_cases l pid with ⟨_, h1⟩ | ⟨k, y, h1, h2, h3, h4⟩
  · exact absurd hp (h1 x (List.mem_of_getElem? hx))
  · rcases Nat.lt_trichotomy i k with h | h | h
    · exact absurd hp (h4 i x h hx)
    · rw [h]; exact h1
    · exact absurd h3 (hno k y h h2)
set_option maxHeartbeats 4000000 in
theorem refAt_any (v : Value) (l : List Prc) (pid : Int) (w : World) (hv : Sl w true 26 v (prs l)) :
    Calls Try.prog 41 #[v, .int .i64 pid] w fun e w' => e = .returned (.int .i64 (atI l pid)) ∧ Below w.heap.size w w' := by
  have HV := Lib.hid hv
  obtain ⟨a, cap, rfl, hl⟩ := hv.shape
  rw [prs_len] at hl HV ⊢
  clear hv
  go_enter Try.func41, Try.ntmps41
  go_wp2_with fail
  go_loopw [5] (fun t W => ∃ i : Nat, i ≤ l.length ∧ t = .int .i64 i ∧ Below w.heap.size w W ∧ ∀ (j : Nat) (x : Prc), j < i → l[j]? = some x → x.pid ≠ pid) (fun t _ => l.length - (intOf t).toNat)
  case atStart => exact ⟨0, Nat.zero_le _, rfl, Below.refl _ _, by intro j x h; omega⟩
  case round =>
    obtain ⟨i, hi, rfl, hbw, hprev⟩ := hrel
    have hws := hbw.size
    have HP := Lib.hid hprev
    clear hprev
    by_cases hlt : i < l.length
    · have hwr : IntKind.i64.wrap ((i : Int) + 1) = i + 1 := IntWalk.i64_in _ (by omega)
      obtain ⟨x, hx⟩ : ∃ x, l[i]? = some x := ⟨_, List.getElem?_eq_getElem hlt⟩
      obtain ⟨b, off, rfl, hb, -, c0, -, -⟩ := Sl.pr (HV.out.below hbw) hx
      have HX := Lib.hid hx
      clear hx
      by_cases hp : x.pid = pid
      · have HA := Lib.hid (at_at HX.out hp HP.out)
        have hpb : (x.pid == pid) = true := by simpa using hp
        clear hp
        go_wp2_with fail
        go_ret
        exact ⟨by rw [HA.out]; rfl, hbw⟩
      · have hpb : (x.pid == pid) = false := by simpa using hp
        have HN := Lib.hid hp
        clear hp
        go_wp2_with fail
        go_roundw
        case rel =>
          refine ⟨i + 1, by omega, by go_num, hbw, fun j y hj hy => ?_⟩
          rcases Nat.lt_succ_iff_lt_or_eq.1 hj with hj | rfl
          · exact HP.out j y hj hy
          · rw [HX.out] at hy; cases hy; exact HN.out
        case measure => simp [intOf]; omega
    · obtain rfl : i = l.length := by omega
      have HA := Lib.hid (at_no (l := l) (pid := pid) (fun x hx => by
        obtain ⟨j, hj, rfl⟩ := List.getElem_of_mem hx
        exact HP.out j _ hj (List.getElem?_eq_getElem hj)))
      go_wp2_with fail
      go_ret
      exact ⟨by rw [HA.out]; rfl, hbw⟩

set_option maxHeartbeats 1000000 in
theorem refFind_any (v : Value) (l : List Prc) (pid : Int) (w : World) (hv : Sl w true 26 v (prs l)) :
    Calls Try.prog 21 #[v, .int .i64 pid] w fun e w' => e = .returned (.tuple #[prV (findS l pid).1, .bool (findS l pid).2]) ∧ Below w.heap.size w w' := by
  have HV := Lib.hid hv
  have HA := Lib.hid (fun W h => refAt_any v l pid W h)
  obtain ⟨a, cap, rfl, hl⟩ := hv.shape
  rw [prs_len] at hl HV HA ⊢
  clear hv
  rcases at_cases l pid with ⟨hi, hno⟩ | ⟨i, x, hi, hx, hp, hno⟩
  · rw [hi] at HA
    rw [findS_none hno]
    clear hi hno
    go_enter Try.func21, Try.ntmps21
    go_wp2_with fail
    have hb0 := fun cs => Box.new w cs 33
    with_reducible refine (HA.out _ (HV.out.below ?_)).mono ?_
    focus (repeat (first | with_reducible assumption | with_reducible exact Below.refl _ _ | with_reducible refine Below.setCell ?_ ?_ _ | with_reducible refine Below.alloc ?_ ?_ _ | with_reducible refine below_drewN' ?_ _ | with_reducible refine Below.drew ?_ | with_reducible refine Below.trans ?_ (Below.mono (by assumption) ?_) | omega | (dsimp only; omega) | (simp only [drew_heap', drewN_heap', World.size_alloc, World.size_setCell]; omega) | (solve | simp) | (solve | (simp; omega))))
    rintro e w1 ⟨rfl, hb1⟩
    have hz1 := hb1.size
    simp only [World.size_alloc] at hz1
    have bx1 := (hb0 _).below hb1 (by simp only [World.size_alloc]; omega)
    have hbw : Below w.heap.size w w1 := by (repeat (first | with_reducible assumption | with_reducible exact Below.refl _ _ | with_reducible refine Below.setCell ?_ ?_ _ | with_reducible refine Below.alloc ?_ ?_ _ | with_reducible refine below_drewN' ?_ _ | with_reducible refine Below.drew ?_ | with_reducible refine Below.trans ?_ (Below.mono (by assumption) ?_) | omega | (dsimp only; omega) | (simp only [drew_heap', drewN_heap', World.size_alloc, World.size_setCell]; omega) | (solve | simp) | (solve | (simp; omega))))
    clear hb0 hb1
    have hv0 : Val true 26 (.agg (prC (oneP 0))) := pr_val _
    go_wp2_with (first | (refine wpList_store_boxA rfl 33 _ _ rfl bx1 (prC (oneP 0)) ty_proc hv0 (by rfl) (by simp [Act.eval]) (by simp [Act.eval, one_eq]) ?_; (intro w2 bx2 hb2 hz2 hg2); (have HB2 := Lib.hid bx2); (clear bx2)) | fail)
    exact bodyPost_ret (v := .tuple #[prV (oneP 0), .bool false]) ((results_cell_val Try.results21 _ rfl ty_proc hv0 HB2.out).trans rfl) rfl ⟨rfl, hbw.trans hb2⟩
  · rw [hi] at HA
    rw [findS_some hx hp hno]
    have hlt := (List.getElem?_eq_some_iff.1 hx).1
    have HX := Lib.hid hx
    clear hi hno hx
    go_enter Try.func21, Try.ntmps21
    go_wp2_with fail
    have hb0 := fun cs => Box.new w cs 33
    with_reducible refine (HA.out _ (HV.out.below ?_)).mono ?_
    focus (repeat (first | with_reducible assumption | with_reducible exact Below.refl _ _ | with_reducible refine Below.setCell ?_ ?_ _ | with_reducible refine Below.alloc ?_ ?_ _ | with_reducible refine below_drewN' ?_ _ | with_reducible refine Below.drew ?_ | with_reducible refine Below.trans ?_ (Below.mono (by assumption) ?_) | omega | (dsimp only; omega) | (simp only [drew_heap', drewN_heap', World.size_alloc, World.size_setCell]; omega) | (solve | simp) | (solve | (simp; omega))))
    rintro e w1 ⟨rfl, hb1⟩
    have hz1 := hb1.size
    simp only [World.size_alloc] at hz1
    have bx1 := (hb0 _).below hb1 (by simp only [World.size_alloc]; omega)
    have hbw : Below w.heap.size w w1 := by (repeat (first | with_reducible assumption | with_reducible exact Below.refl _ _ | with_reducible refine Below.setCell ?_ ?_ _ | with_reducible refine Below.alloc ?_ ?_ _ | with_reducible refine below_drewN' ?_ _ | with_reducible refine Below.drew ?_ | with_reducible refine Below.trans ?_ (Below.mono (by assumption) ?_) | omega | (dsimp only; omega) | (simp only [drew_heap', drewN_heap', World.size_alloc, World.size_setCell]; omega) | (solve | simp) | (solve | (simp; omega))))
    clear hb0 hb1
    obtain ⟨b, off, rfl, hb, hcells, -, -, -⟩ := Sl.pr (HV.out.below hbw) HX.out
    have hv0 : Val true 26 (.agg (prC x)) := pr_val _
    go_wp2_with (first | (refine wpList_load_val rfl 33 _ rfl b (off + i * 26) (by simp [Act.eval]) (prV x) ty_proc (pr_val x) hcells ?_) | (refine wpList_store_boxA rfl 33 _ _ rfl bx1 (prC x) ty_proc hv0 (by rfl) (by simp [Act.eval, Act.put]) (by simp [Act.eval, Act.put]) ?_; (intro w2 bx2 hb2 hz2 hg2); (have HB2 := Lib.hid bx2); (clear bx2)) | fail)
    exact bodyPost_ret (v := .tuple #[prV x, .bool true]) ((results_cell_val Try.results21 _ rfl ty_proc hv0 HB2.out).trans rfl) rfl ⟨rfl, hbw.trans hb2⟩

set_option maxHeartbeats 4000000 in
theorem refNext_any (v : Value) (l : List Prc) (w : World) (hv : Sl w true 26 v (prs l)) :
    Calls Try.prog 29 #[v] w fun e w' => e = .returned (.int .i64 (wrap64 (mostS l + 1))) ∧ Below w.heap.size w w' := by
  have HV := Lib.hid hv
  obtain ⟨a, cap, rfl, hl⟩ := hv.shape
  rw [prs_len] at hl HV ⊢
  clear hv
  go_enter Try.func29, Try.ntmps29
  go_wp2_with fail
  go_loopw [3, 4] (fun m t W => ∃ i : Nat, i ≤ l.length ∧ t = .int .i64 i ∧ m = .int .i64 (mostS (l.take i)) ∧ Below w.heap.size w W) (fun _ t _ => l.length - (intOf t).toNat)
  case atStart => exact ⟨0, Nat.zero_le _, rfl, rfl, Below.refl _ _⟩
  case round =>
    obtain ⟨i, hi, rfl, rfl, hbw⟩ := hrel
    have hws := hbw.size
    by_cases hlt : i < l.length
    · obtain ⟨x, hx⟩ : ∃ x, l[i]? = some x := ⟨_, List.getElem?_eq_getElem hlt⟩
      obtain ⟨b, off, rfl, hb, -, c0, -, -⟩ := Sl.pr (HV.out.below hbw) hx
      have hst := mostS_step hx
      have hwr : IntKind.i64.wrap ((i : Int) + 1) = i + 1 := IntWalk.i64_in _ (by omega)
      clear hx
      by_cases hm : mostS (l.take i) < x.pid
      · have HST := Lib.hid (show mostS (l.take (i + 1)) = x.pid by omega)
        clear hst
        generalize mostS (l.take i) = m at *
        go_wp2_with fail
        go_roundw
        case rel => exact ⟨i + 1, by omega, by go_num, by rw [HST.out], hbw⟩
        case measure => simp [intOf]; omega
      · have HST := Lib.hid (show mostS (l.take (i + 1)) = mostS (l.take i) by omega)
        clear hst
        generalize mostS (l.take i) = m at *
        go_wp2_with fail
        go_roundw
        case rel => exact ⟨i + 1, by omega, by go_num, by rw [HST.out], hbw⟩
        case measure => simp [intOf]; omega
    · obtain rfl : i = l.length := by omega
      rw [List.take_length]
      go_wp2_with fail
      go_ret
      exact ⟨by simp, hbw⟩

theorem remove_step {l : List Prc} {i : Nat} {x : Prc} (h : l[i]? = some x) (pid : Int) : prs (removeS (l.take (i + 1)) pid) = prs (removeS (l.take i) pid) ++ (if x.pid = pid then [] else [prV x]) := by
  unfold removeS
  rw [filter_take_step h]
  by_cases hx : x.pid = pid <;> simp [hx]
set_option maxHeartbeats 4000000 in
theorem refRemove_any (v : Value) (l : List Prc) (pid : Int) (w : World) (hv : Sl w true 26 v (prs l)) (hby : l.length * 168 ≤ 140737488355328) :
    Calls Try.prog 25 #[v, .int .i64 pid] w fun e w' => ∃ v', e = .returned v' ∧ Sl w' true 26 v' (prs (removeS l pid)) ∧ Below w.heap.size w w' := by
  have HV := Lib.hid hv
  obtain ⟨i0, hi0, hq0, hq1, hq2⟩ := info_parts info_proc
  have HI := Lib.hid (And.intro hi0 (And.intro hq0 (And.intro hq1 hq2)))
  clear hi0 hq0 hq1 hq2
  obtain ⟨a, cap, rfl, hl⟩ := hv.shape
  rw [prs_len] at hl HV ⊢
  clear hv
  go_enter Try.func25, Try.ntmps25
  go_wp2_with fail
  go_loopw [5, 6] (fun u t W => ∃ (i : Nat) (s : Value), i ≤ l.length ∧ s = u ∧ t = .int .i64 i ∧ Below w.heap.size w W ∧ Owned W w.heap.size 33 true 26 u (prs (removeS (l.take i) pid))) (fun _ t _ => l.length - (intOf t).toNat)
  case atStart => exact ⟨0, _, Nat.zero_le _, rfl, rfl, Below.refl _ _, Owned.nil⟩
  case round =>
    obtain ⟨i, s, hi, rfl, rfl, hbw, hown⟩ := hrel
    have hws := hbw.size
    have HO := Lib.hid hown
    clear hown
    have hwr : IntKind.i64.wrap ((i : Int) + 1) = i + 1 := IntWalk.i64_in _ (by omega)
    by_cases hil : i < l.length
    · obtain ⟨x, hx⟩ : ∃ x, l[i]? = some x := ⟨_, List.getElem?_eq_getElem hil⟩
      obtain ⟨b, off, rfl, hb, hcx, c0, -, -⟩ := Sl.pr (HV.out.below hbw) hx
      have HCX := Lib.hid hcx
      have hst := remove_step hx pid
      have hle := removeS_le (l.take i) pid
      have htl : (l.take i).length = i := by simp; omega
      rw [htl] at hle
      clear hx htl hcx
      by_cases hp : x.pid = pid
      · rw [if_pos hp, List.append_nil] at hst
        have HT := Lib.hid hst
        have hp1 : (x.pid != pid) = false := by simpa using hp
        clear hst hp
        go_wp2_with fail
        go_roundw
        case rel => exact ⟨i + 1, _, by omega, rfl, by go_num, hbw, by rw [HT.out]; exact HO.out⟩
        case measure => simp [intOf]; omega
      · rw [if_neg hp] at hst
        have HT := Lib.hid hst
        have hp1 : (x.pid != pid) = true := by simpa using hp
        clear hst hp
        go_wp2_with (first | ((with_reducible refine at_ld 33 ?_); (refine wpList_load_val rfl 33 _ rfl b (off + i * 26) ?_ (prV x) ty_proc (pr_val x) HCX.out ?_; (focus (solve | simp [Act.eval, Act.put])))) | ((with_reducible refine at_bs 22 ?_); (refine wpList_build_one rfl 22 _ rfl ty_proc (by decide) i0 (.agg #[.int .i64 0, .int .i64 0, .int .i64 0, .int .u32 0, .int .u32 0, .int .u32 0, .int .u32 0, .int .u32 0, .int .u32 0, .int .u32 0, .int .u32 0, .int .u32 0, .string ⟨#[]⟩, .int .i64 0, .int .i64 0, .bool false, .int .i64 0, .bool false, .int .i64 0, .bool false, .int .i64 0, .bool false, .int .u32 0, .int .u32 0, .int .u32 0, .int .u32 0]) Try.underlying22 HI.out.1 HI.out.2.1 HI.out.2.2.1 (prV x) ?_ (pr_val x) ?_; (focus (solve | simp [Act.eval, Act.put])))) | (refine wpList_append_sl (v := s) (xs := prs (removeS (l.take i) pid)) (base := w.heap.size) rfl _ _ 22 rfl ty_proc i0 (.agg #[.int .i64 0, .int .i64 0, .int .i64 0, .int .u32 0, .int .u32 0, .int .u32 0, .int .u32 0, .int .u32 0, .int .u32 0, .int .u32 0, .int .u32 0, .int .u32 0, .string ⟨#[]⟩, .int .i64 0, .int .i64 0, .bool false, .int .i64 0, .bool false, .int .i64 0, .bool false, .int .i64 0, .bool false, .int .u32 0, .int .u32 0, .int .u32 0, .int .u32 0]) 168 Try.underlying22 HI.out.1 HI.out.2.1 HI.out.2.2.1 HI.out.2.2.2 rfl ?_ ?_ (.slice (some ⟨wr.heap.size, 0, none⟩) 1 1) ([prV x]) ?_ ?_ ?_ ?_ ?_ ?_; (focus (solve | simp [Act.eval, Act.put])); (focus (exact (HO.out.kept (by (repeat (first | with_reducible assumption | with_reducible exact Below.refl _ _ | with_reducible refine Below.setCell ?_ ?_ _ | with_reducible refine Below.alloc ?_ ?_ _ | with_reducible refine below_drewN' ?_ _ | with_reducible refine Below.drew ?_ | with_reducible refine Below.trans ?_ (Below.mono (by assumption) ?_) | omega | (dsimp only; omega) | (simp only [drew_heap', drewN_heap', World.size_alloc, World.size_setCell]; omega) | (solve | simp) | (solve | (simp; omega)))))))); (focus (solve | simp [Act.eval, Act.put])); (focus (exact (Sl.made1 (pr_val x) rfl))); (focus (first | (simp [maxLen]; omega) | (solve | simp [maxLen]))); (focus (first | (simp; omega) | (solve | simp))); (focus (first | omega | (simp only [World.size_alloc, World.size_setCell]; omega))); (intro v4 w4 ho4 hg4 hf4; (have hb4 : Below w.heap.size w w4 := (HO.out.kept (by (repeat (first | with_reducible assumption | with_reducible exact Below.refl _ _ | with_reducible refine Below.setCell ?_ ?_ _ | with_reducible refine Below.alloc ?_ ?_ _ | with_reducible refine below_drewN' ?_ _ | with_reducible refine Below.drew ?_ | with_reducible refine Below.trans ?_ (Below.mono (by assumption) ?_) | omega | (dsimp only; omega) | (simp only [drew_heap', drewN_heap', World.size_alloc, World.size_setCell]; omega) | (solve | simp) | (solve | (simp; omega)))))).below hg4 (by (repeat (first | with_reducible assumption | with_reducible exact Below.refl _ _ | with_reducible refine Below.setCell ?_ ?_ _ | with_reducible refine Below.alloc ?_ ?_ _ | with_reducible refine below_drewN' ?_ _ | with_reducible refine Below.drew ?_ | with_reducible refine Below.trans ?_ (Below.mono (by assumption) ?_) | omega | (dsimp only; omega) | (simp only [drew_heap', drewN_heap', World.size_alloc, World.size_setCell]; omega) | (solve | simp) | (solve | (simp; omega))))) (Nat.le_refl _) (by simp only [World.size_alloc]; omega)); (have HO4 := Lib.hid ho4); (clear ho4 hg4 hf4))) | fail)
        go_roundw
        case rel => exact ⟨i + 1, _, by omega, rfl, by go_num, hb4, by rw [HT.out]; exact HO4.out⟩
        case measure => simp [intOf]; omega
    · obtain rfl : i = l.length := by omega
      go_wp2_with fail
      go_ret
      refine ⟨_, rfl, ?_, hbw⟩
      have h := HO.out.sl
      rw [List.take_length] at h
      exact h

end Go.Proofs.Ytianochlnbehnaa
