/- The reference's Events on equal rows, Of, Until, Rises, Count, Errors, Gap. Conditions: lengths within the reach. -/
import Derived.Test.YtnjhnkbjbkbnoaaTraceGaps
import Derived.Test.YtnjhnkbjbkbnoaaTraceAhead
namespace Go.Proofs.Ytnjhnkbjbkbnoaa
open Go Go.RowKit Go.Tm
set_option linter.unusedVariables false
set_option linter.unusedSimpArgs false

set_option maxHeartbeats 4000000 in
/-- Equal rows are the same. -/
theorem events_true (v u : Value) (l : List Ev) (w : World) (hv : Sl w true 4 v (evs l)) (hu : Sl w true 4 u (evs l)) (hw : ∀ x ∈ l, EvWf x) :
    Calls Try.prog 13 #[v, u] w fun e w' => e = .returned (.bool true) ∧ Below w.heap.size w w' := by
  have HV := Lib.hid hv
  have HU := Lib.hid hu
  have HW := Lib.hid hw
  obtain ⟨a, cap, rfl, hl⟩ := hv.shape
  obtain ⟨a2, cap2, rfl, _⟩ := hu.shape
  rw [evs_len] at hl HV HU ⊢
  clear hv hu hw
  go_enter Try.func13, Try.ntmps13
  go_wp2_with fail
  go_loopw [5] (fun t W => ∃ i : Nat, i ≤ l.length ∧ t = .int .i64 i ∧ Below w.heap.size w W) (fun t _ => l.length - (intOf t).toNat)
  case atStart => exact ⟨0, Nat.zero_le _, rfl, Below.refl _ _⟩
  case round =>
    obtain ⟨i, hi, rfl, hbw⟩ := hrel
    have hws := hbw.size
    by_cases hlt : i < l.length
    · obtain ⟨x, hx⟩ : ∃ x, l[i]? = some x := ⟨_, List.getElem?_eq_getElem hlt⟩
      have heq := eql_ev x x (HW.out x (List.mem_of_getElem? hx)) (HW.out x (List.mem_of_getElem? hx)) true (by simp)
      obtain ⟨b, off, rfl, hb, c0, c1, c2, c3⟩ := Sl.ev (HV.out.below hbw) hx
      obtain ⟨b2, off2, rfl, hb2, e0, e1, e2, e3⟩ := Sl.ev (HU.out.below hbw) hx
      have hwr : IntKind.i64.wrap ((i : Int) + 1) = i + 1 := IntWalk.i64_in _ (by omega)
      have hbr : b < wr.heap.size := by omega
      have hbr2 : b2 < wr.heap.size := by omega
      have g0 := cell_rg c0 hbr
      have g1 := cell_rg c1 hbr
      have g2 := cell_rg c2 hbr
      have g3 := cell_rg c3 hbr
      have k0 := cell_rg e0 hbr2
      have k1 := cell_rg e1 hbr2
      have k2 := cell_rg e2 hbr2
      have k3 := cell_rg e3 hbr2
      clear hx
      go_wp2_with fail
      ((refine wp_region_quiet_below (by kernel_rfl) (by kernel_rfl) ?_); (repeat (go_big_quiet_step (fail))); (refine wpQuiet_nil ?_); (intro _ hw'); (obtain ⟨⟨dq, osq⟩, hw''⟩ := hw'); (subst hw''); (have hb7 := below_regrown wr dq osq); (generalize Go.Sort.grow (redrawn wr dq) osq = w7 at *); (have hz7 := hb7.size))
      clear g0 g1 g2 g3 k0 k1 k2 k3
      go_wp2_with fail
      exact ⟨⟨i + 1, by omega, by go_num, hbw.trans (hb7.mono hws)⟩, by simp [intOf]; omega⟩
    · go_wp2_with fail
      go_ret
      exact ⟨rfl, hbw⟩

set_option maxHeartbeats 8000000 in
theorem refOf_any (v : Value) (l : List Ev) (pid : Int) (w : World) (hv : Sl w true 4 v (evs l)) (hby : l.length * 24 ≤ 140737488355328) :
    Calls Try.prog 17 #[v, .int .i64 pid] w fun e w' => ∃ v', e = .returned v' ∧ Sl w' true 4 v' (evs (ofP l pid)) ∧ Below w.heap.size w w' := by
  have HV := Lib.hid hv
  obtain ⟨i0, hi0, hq0, hq1, hq2⟩ := info_parts info_event
  have HI := Lib.hid (And.intro hi0 (And.intro hq0 (And.intro hq1 hq2)))
  clear hi0 hq0 hq1 hq2
  obtain ⟨a, cap, rfl, hl⟩ := hv.shape
  rw [evs_len] at hl HV ⊢
  clear hv
  go_enter Try.func17, Try.ntmps17
  go_wp2_with fail
  go_loopw [5, 6] (fun u t W => ∃ (i : Nat) (s : Value), i ≤ l.length ∧ s = u ∧ t = .int .i64 i ∧ Below w.heap.size w W ∧ Owned W w.heap.size 29 true 4 u (evs (ofP (l.take i) pid))) (fun _ t _ => l.length - (intOf t).toNat)
  case atStart => exact ⟨0, _, Nat.zero_le _, rfl, rfl, Below.refl _ _, Owned.nil⟩
  case round =>
    obtain ⟨i, s, hi, rfl, rfl, hbw, hown⟩ := hrel
    have hws := hbw.size
    have HO := Lib.hid hown
    clear hown
    have hwr : IntKind.i64.wrap ((i : Int) + 1) = i + 1 := IntWalk.i64_in _ (by omega)
    by_cases hil : i < l.length
    · obtain ⟨x, hx⟩ : ∃ x, l[i]? = some x := ⟨_, List.getElem?_eq_getElem hil⟩
      obtain ⟨b, off, rfl, hb, c0, c1, c2, c3⟩ := Sl.ev (HV.out.below hbw) hx
      have hst := filter_take_step hx (fun x => decide (x.1 = pid))
      have hle := filter_take_le l i (fun x => decide (x.1 = pid))
      change (ofP (l.take i) pid).length ≤ i at hle
      change ofP (l.take (i + 1)) pid = ofP (l.take i) pid ++ _ at hst
      clear hx
      by_cases hp : x.1 = pid
      · rw [if_pos (by simpa using hp)] at hst
        obtain ⟨p, n, r, u⟩ := x
        dsimp only at hp c0 c1 c2 c3
        subst p
        have HT := Lib.hid hst
        clear hst
        go_wp2_with (first | (refine wpList_append_sl (v := s) (xs := evs (ofP (l.take i) pid)) (base := w.heap.size) rfl _ _ 22 rfl ty_event i0 (.agg #[.int .i64 0, .int .u32 0, .int .u32 0, .int .u64 0]) 24 Try.underlying22 HI.out.1 HI.out.2.1 HI.out.2.2.1 HI.out.2.2.2 rfl ?_ ?_ (.slice (some ⟨wr.heap.size, 0, none⟩) 1 1) ([evV (pid, n, r, u)]) ?_ ?_ ?_ ?_ ?_ ?_; (focus (simp [Act.eval])); (focus (exact (HO.out.kept (by (repeat (first | with_reducible assumption | with_reducible exact Below.refl _ _ | with_reducible refine Below.setCell ?_ ?_ _ | with_reducible refine Below.alloc ?_ ?_ _ | with_reducible refine below_drewN' ?_ _ | with_reducible refine Below.drew ?_ | with_reducible refine Below.trans ?_ (Below.mono (by assumption) ?_) | omega | (dsimp only; omega) | (simp only [drew_heap', drewN_heap', World.size_alloc, World.size_setCell]; omega) | (solve | simp) | (solve | (simp; omega)))))))); (focus (simp [Act.eval])); (focus (exact (Sl.made1 (ev_val (pid, n, r, u)) rfl))); (focus (first | (simp [maxLen]; omega) | (solve | simp [maxLen]))); (focus (first | (simp; omega) | (solve | simp))); (focus (first | omega | (simp only [World.size_alloc, World.size_setCell]; omega))); (intro v4 w4 ho4 hg4 hf4; (have hb4 : Below w.heap.size w w4 := (HO.out.kept (by (repeat (first | with_reducible assumption | with_reducible exact Below.refl _ _ | with_reducible refine Below.setCell ?_ ?_ _ | with_reducible refine Below.alloc ?_ ?_ _ | with_reducible refine below_drewN' ?_ _ | with_reducible refine Below.drew ?_ | with_reducible refine Below.trans ?_ (Below.mono (by assumption) ?_) | omega | (dsimp only; omega) | (simp only [drew_heap', drewN_heap', World.size_alloc, World.size_setCell]; omega) | (solve | simp) | (solve | (simp; omega)))))).below hg4 (by (repeat (first | with_reducible assumption | with_reducible exact Below.refl _ _ | with_reducible refine Below.setCell ?_ ?_ _ | with_reducible refine Below.alloc ?_ ?_ _ | with_reducible refine below_drewN' ?_ _ | with_reducible refine Below.drew ?_ | with_reducible refine Below.trans ?_ (Below.mono (by assumption) ?_) | omega | (dsimp only; omega) | (simp only [drew_heap', drewN_heap', World.size_alloc, World.size_setCell]; omega) | (solve | simp) | (solve | (simp; omega))))) (Nat.le_refl _) (by simp only [World.size_alloc]; omega)); (have HO4 := Lib.hid ho4); (clear ho4 hg4 hf4))) | fail)
        go_roundw
        case rel => exact ⟨i + 1, _, by omega, rfl, by go_num, hb4, by rw [HT.out, evs, List.map_append]; exact HO4.out⟩
        case measure => simp [intOf]; omega
      · rw [if_neg (by simpa using hp), List.append_nil] at hst
        have HT := Lib.hid hst
        have hp1 : (x.1 == pid) = false := by simpa using hp
        clear hst
        go_wp2_with fail
        go_roundw
        case rel => exact ⟨i + 1, _, by omega, rfl, by go_num, hbw, by rw [HT.out]; exact HO.out⟩
        case measure => simp [intOf]; omega
    · obtain rfl : i = l.length := by omega
      go_wp2_with fail
      go_ret
      refine ⟨_, rfl, ?_, hbw⟩
      have h := HO.out.sl
      rw [List.take_length] at h
      exact h

set_option maxHeartbeats 8000000 in
theorem refUntil_any (v : Value) (l : List Ev) (t : Int) (w : World) (hv : Sl w true 4 v (evs l)) (hby : l.length * 24 ≤ 140737488355328) :
    Calls Try.prog 18 #[v, .int .u64 t] w fun e w' => ∃ v', e = .returned v' ∧ Sl w' true 4 v' (evs (l.take (untilN l t))) ∧ Below w.heap.size w w' := by
  have HV := Lib.hid hv
  have hla := untilN_le l t
  have HAT := Lib.hid (fun i x (hx : l[i]? = some x) (h : i < untilN l t) => until_at hx h)
  have HST := Lib.hid (fun x (hx : l[untilN l t]? = some x) => until_stop hx)
  obtain ⟨i0, hi0, hq0, hq1, hq2⟩ := info_parts info_event
  have HI := Lib.hid (And.intro hi0 (And.intro hq0 (And.intro hq1 hq2)))
  clear hi0 hq0 hq1 hq2
  obtain ⟨a, cap, rfl, hl⟩ := hv.shape
  rw [evs_len] at hl HV ⊢
  clear hv
  generalize untilN l t = m at *
  go_enter Try.func18, Try.ntmps18
  go_wp2_with fail
  go_loopw [5, 6] (fun u t W => ∃ (i : Nat) (s : Value), i ≤ m ∧ s = u ∧ t = .int .i64 i ∧ Below w.heap.size w W ∧ Owned W w.heap.size 29 true 4 u (evs (l.take i))) (fun _ t _ => l.length - (intOf t).toNat)
  case atStart => exact ⟨0, _, Nat.zero_le _, rfl, rfl, Below.refl _ _, Owned.nil⟩
  case round =>
    obtain ⟨i, s, hi, rfl, rfl, hbw, hown⟩ := hrel
    have hws := hbw.size
    have HO := Lib.hid hown
    clear hown
    have hwr : IntKind.i64.wrap ((i : Int) + 1) = i + 1 := IntWalk.i64_in _ (by omega)
    by_cases him : i < m
    · obtain ⟨x, hx⟩ : ∃ x, l[i]? = some x := ⟨_, List.getElem?_eq_getElem (by omega)⟩
      obtain ⟨b, off, rfl, hb, c0, c1, c2, c3⟩ := Sl.ev (HV.out.below hbw) hx
      have HT := Lib.hid (take_step hx)
      have hle : (l.take i).length ≤ i := by simp; omega
      have hlx := HAT.out i x hx him
      have hil : i < l.length := by omega
      clear hx
      go_wp2_with (first | (refine wpList_append_sl (v := s) (xs := evs (l.take i)) (base := w.heap.size) rfl _ _ 22 rfl ty_event i0 (.agg #[.int .i64 0, .int .u32 0, .int .u32 0, .int .u64 0]) 24 Try.underlying22 HI.out.1 HI.out.2.1 HI.out.2.2.1 HI.out.2.2.2 rfl ?_ ?_ (.slice (some ⟨wr.heap.size, 0, none⟩) 1 1) ([evV x]) ?_ ?_ ?_ ?_ ?_ ?_; (focus (simp [Act.eval])); (focus (exact (HO.out.kept (by (repeat (first | with_reducible assumption | with_reducible exact Below.refl _ _ | with_reducible refine Below.setCell ?_ ?_ _ | with_reducible refine Below.alloc ?_ ?_ _ | with_reducible refine below_drewN' ?_ _ | with_reducible refine Below.drew ?_ | with_reducible refine Below.trans ?_ (Below.mono (by assumption) ?_) | omega | (dsimp only; omega) | (simp only [drew_heap', drewN_heap', World.size_alloc, World.size_setCell]; omega) | (solve | simp) | (solve | (simp; omega)))))))); (focus (simp [Act.eval])); (focus (exact (Sl.made1 (ev_val x) rfl))); (focus (first | (simp [maxLen]; omega) | (solve | simp [maxLen]))); (focus (first | (simp; omega) | (solve | simp))); (focus (first | omega | (simp only [World.size_alloc, World.size_setCell]; omega))); (intro v4 w4 ho4 hg4 hf4; (have hb4 : Below w.heap.size w w4 := (HO.out.kept (by (repeat (first | with_reducible assumption | with_reducible exact Below.refl _ _ | with_reducible refine Below.setCell ?_ ?_ _ | with_reducible refine Below.alloc ?_ ?_ _ | with_reducible refine below_drewN' ?_ _ | with_reducible refine Below.drew ?_ | with_reducible refine Below.trans ?_ (Below.mono (by assumption) ?_) | omega | (dsimp only; omega) | (simp only [drew_heap', drewN_heap', World.size_alloc, World.size_setCell]; omega) | (solve | simp) | (solve | (simp; omega)))))).below hg4 (by (repeat (first | with_reducible assumption | with_reducible exact Below.refl _ _ | with_reducible refine Below.setCell ?_ ?_ _ | with_reducible refine Below.alloc ?_ ?_ _ | with_reducible refine below_drewN' ?_ _ | with_reducible refine Below.drew ?_ | with_reducible refine Below.trans ?_ (Below.mono (by assumption) ?_) | omega | (dsimp only; omega) | (simp only [drew_heap', drewN_heap', World.size_alloc, World.size_setCell]; omega) | (solve | simp) | (solve | (simp; omega))))) (Nat.le_refl _) (by simp only [World.size_alloc]; omega)); (have HO4 := Lib.hid ho4); (clear ho4 hg4 hf4))) | fail)
      go_roundw
      case rel => exact ⟨i + 1, _, by omega, rfl, by go_num, hb4, by rw [HT.out, evs, List.map_append]; exact HO4.out⟩
      case measure => simp [intOf]; omega
    · obtain rfl : i = m := by omega
      by_cases hil : i < l.length
      · obtain ⟨x, hx⟩ : ∃ x, l[i]? = some x := ⟨_, List.getElem?_eq_getElem hil⟩
        obtain ⟨b, off, rfl, hb, c0, c1, c2, c3⟩ := Sl.ev (HV.out.below hbw) hx
        have hsx := HST.out x hx
        have hsx' : ¬ x.2.2.2 < t := by omega
        clear hx
        go_wp2_with fail
        go_ret
        exact ⟨s, by simp, by first | exact HO.out.sl | (have h := HO.out.sl; rw [evs, List.map_take] at h; exact h), hbw⟩
      · go_wp2_with fail
        go_ret
        exact ⟨s, by simp, by first | exact HO.out.sl | (have h := HO.out.sl; rw [evs, List.map_take] at h; exact h), hbw⟩

set_option maxHeartbeats 2000000 in
theorem refRises_any (v : Value) (l : List Ev) (w : World) (hv : Sl w true 4 v (evs l)) :
    Calls Try.prog 19 #[v] w fun e w' => e = .returned (.bool (riseB l)) ∧ Below w.heap.size w w' := by
  have HV := Lib.hid hv
  obtain ⟨a, cap, rfl, hl⟩ := hv.shape
  rw [evs_len] at hl HV ⊢
  clear hv
  go_enter Try.func19, Try.ntmps19
  go_wp2_with fail
  go_loopw [3] (fun t W => ∃ i : Nat, i ≤ l.length ∧ t = .int .i64 i ∧ (0 < i → i < l.length) ∧ Below w.heap.size w W ∧ ∀ (j : Nat) (x y : Ev), j < i → l[j]? = some x → l[j + 1]? = some y → x.2.2.2 ≤ y.2.2.2) (fun t _ => l.length + 1 - (intOf t).toNat)
  case atStart => exact ⟨0, Nat.zero_le _, rfl, by omega, Below.refl _ _, by omega⟩
  case round =>
    obtain ⟨i, hi, rfl, hi2, hbx, hprev⟩ := hrel
    have HPR := Lib.hid hprev
    clear hprev
    have hws := hbx.size
    by_cases hmax : (i : Int) + 1 < 9223372036854775808
    case neg => omega
    have hwr : IntKind.i64.wrap ((i : Int) + 1) = i + 1 := IntWalk.i64_in _ (by omega)
    by_cases hlt : i + 1 < l.length
    · obtain ⟨x, hx⟩ : ∃ x, l[i]? = some x := ⟨_, List.getElem?_eq_getElem (by omega)⟩
      obtain ⟨y, hy⟩ : ∃ y, l[i + 1]? = some y := ⟨_, List.getElem?_eq_getElem hlt⟩
      obtain ⟨b, off, rfl, hb, c0, c1, c2, c3⟩ := Sl.ev (HV.out.below hbx) hx
      obtain ⟨_, _, he, hb2, e0, e1, e2, e3⟩ := Sl.ev (HV.out.below hbx) hy
      simp only [Option.some.injEq, Addr.mk.injEq, and_true] at he
      obtain ⟨rfl, rfl⟩ := he
      have hlt' : (i : Int) + 1 < l.length := by omega
      have g0 := cell_rg c3 hb
      have g1 := cell_rg e3 hb2
      have HX := Lib.hid (And.intro hx hy)
      clear hx hy
      by_cases hc : y.2.2.2 < x.2.2.2
      · have hcd : decide (y.2.2.2 < x.2.2.2) = true := by simpa using hc
        go_wp2_with fail
        ((refine wp_region_quiet_below (by kernel_rfl) (by kernel_rfl) ?_); (repeat (go_big_quiet_step (fail))); (refine wpQuiet_nil ?_); (intro _ hw'); (obtain ⟨⟨dq, osq⟩, hw''⟩ := hw'); (subst hw''); (have hb7 := below_regrown wr dq osq); (generalize Go.Sort.grow (redrawn wr dq) osq = w7 at *); (have hz7 := hb7.size))
        clear g0 g1
        go_wp2_with fail
        go_ret
        refine ⟨?_, hbx.trans (hb7.mono hws)⟩
        have : riseB l = false := by
          rw [Bool.eq_false_iff]
          intro h
          have := (riseB_iff l).1 h i x y HX.out.1 HX.out.2
          omega
        rw [this]; rfl
      · have hcd : decide (y.2.2.2 < x.2.2.2) = false := by simpa using hc
        go_wp2_with fail
        ((refine wp_region_quiet_below (by kernel_rfl) (by kernel_rfl) ?_); (repeat (go_big_quiet_step (fail))); (refine wpQuiet_nil ?_); (intro _ hw'); (obtain ⟨⟨dq, osq⟩, hw''⟩ := hw'); (subst hw''); (have hb7 := below_regrown wr dq osq); (generalize Go.Sort.grow (redrawn wr dq) osq = w7 at *); (have hz7 := hb7.size))
        clear g0 g1
        go_wp2_with fail
        refine ⟨⟨i + 1, by omega, by go_num, by omega, hbx.trans (hb7.mono hws), ?_⟩, by simp [intOf]; omega⟩
        intro j x' y' hj hx' hy'
        rcases Nat.lt_succ_iff_lt_or_eq.1 hj with hj | rfl
        · exact HPR.out j x' y' hj hx' hy'
        · rw [HX.out.1] at hx'; rw [HX.out.2] at hy'; cases hx'; cases hy'; omega
    · have hlt' : ¬ (i : Int) + 1 < l.length := by omega
      go_wp2_with fail
      go_ret
      refine ⟨?_, hbx⟩
      have : riseB l = true := by
        rw [riseB_iff]
        intro j x y hx hy
        have : j + 1 < l.length := (List.getElem?_eq_some_iff.1 hy).1
        exact HPR.out j x y (by omega) hx hy
      rw [this]; rfl

set_option maxHeartbeats 2000000 in
theorem refCount_any (v : Value) (l : List Ev) (n : Int) (w : World) (hv : Sl w true 4 v (evs l)) :
    Calls Try.prog 22 #[v, .int .u32 n] w fun e w' => e = .returned (.int .i64 (cntE l n)) ∧ Below w.heap.size w w' := by
  have HV := Lib.hid hv
  obtain ⟨a, cap, rfl, hl⟩ := hv.shape
  rw [evs_len] at hl HV ⊢
  clear hv
  go_enter Try.func22, Try.ntmps22
  go_wp2_with fail
  go_loopw [5, 6] (fun s t W => ∃ i : Nat, i ≤ l.length ∧ t = .int .i64 i ∧ s = .int .i64 (cntE (l.take i) n) ∧ Below w.heap.size w W) (fun _ t _ => l.length - (intOf t).toNat)
  case atStart => exact ⟨0, Nat.zero_le _, rfl, rfl, Below.refl _ _⟩
  case round =>
    obtain ⟨i, hi, rfl, rfl, hbw⟩ := hrel
    have hws := hbw.size
    by_cases hlt : i < l.length
    · obtain ⟨x, hx⟩ : ∃ x, l[i]? = some x := ⟨_, List.getElem?_eq_getElem hlt⟩
      obtain ⟨b, off, rfl, hb, c0, c1, c2, c3⟩ := Sl.ev (HV.out.below hbw) hx
      have hst := congrArg List.length (filter_take_step hx (fun x => decide (x.2.1 = n)))
      have hle := filter_take_le l i (fun x => decide (x.2.1 = n))
      change cntE (l.take i) n ≤ i at hle
      change cntE (l.take (i + 1)) n = _ at hst
      rw [List.length_append] at hst
      change _ = cntE (l.take i) n + _ at hst
      have hwr : IntKind.i64.wrap ((i : Int) + 1) = i + 1 := IntWalk.i64_in _ (by omega)
      clear hx
      by_cases hp : x.2.1 = n
      · rw [if_pos (by simpa using hp)] at hst
        have HT := Lib.hid hst
        clear hst
        have hwj : IntKind.i64.wrap ((cntE (l.take i) n : Int) + 1) = cntE (l.take i) n + 1 := IntWalk.i64_in _ (by omega)
        go_wp2_with fail
        go_roundw
        case rel => exact ⟨i + 1, by omega, by go_num, by rw [HT.out]; go_num, hbw⟩
        case measure => simp [intOf]; omega
      · rw [if_neg (by simpa using hp)] at hst
        have HT := Lib.hid hst
        have hp1 : (x.2.1 == n) = false := by simpa using hp
        clear hst
        go_wp2_with fail
        go_roundw
        case rel => exact ⟨i + 1, by omega, by go_num, by rw [HT.out]; rfl, hbw⟩
        case measure => simp [intOf]; omega
    · obtain rfl : i = l.length := by omega
      go_wp2_with fail
      go_ret
      exact ⟨by simp, hbw⟩

set_option maxRecDepth 100000 in
set_option maxHeartbeats 4000000 in
theorem refFailed_any (r : Int) (w : World) (h0 : 0 ≤ r) (h1 : r < 4294967296) : Calls Try.prog 32 #[.int .u32 r] w fun e w' => (∃ k, e = .returned (.tuple #[.int .i64 k, .bool (decide (4294967282 ≤ r))])) ∧ Below w.heap.size w w' := by
  go_enter Try.func32, Try.ntmps32
  go_wp2_with fail
  go_loopw [4] (fun t W => ∃ i : Int, 1 ≤ i ∧ i ≤ 15 ∧ t = .int .u32 i ∧ r < 4294967297 - i ∧ Below w.heap.size w W) (fun t _ => 15 - (intOf t).toNat)
  case atStart => exact ⟨1, by omega, by omega, rfl, by omega, Below.refl _ _⟩
  case round =>
    obtain ⟨i, hi1, hi, rfl, hr, hbw⟩ := hrel
    have hwr : (i + 1) % 4294967296 = i + 1 := by omega
    obtain ⟨q, hwn⟩ : ∃ q, -i % 4294967296 = q := ⟨_, rfl⟩
    have HQ := Lib.hid (show q = 4294967296 - i by omega)
    have HR := Lib.hid hr
    clear hr
    by_cases hlt : i ≤ 14
    · cases hq : (q == r)
      · go_wp2_with fail
        go_roundw
        case rel =>
          have h1 := HQ.out
          have h2 := HR.out
          have h3 : q ≠ r := by simpa using hq
          exact ⟨i + 1, by omega, by omega, by go_num, by omega, hbw⟩
        case measure => simp [intOf]; omega
      · go_wp2_with fail
        go_ret2
        have h1 := HQ.out
        have h3 : q = r := by simpa using hq
        exact ⟨⟨_, by simp [show 4294967282 ≤ r by omega]; rfl⟩, hbw⟩
    · go_wp2_with fail
      go_ret2
      have h2 := HR.out
      exact ⟨⟨_, by simp [show ¬ 4294967282 ≤ r by omega]; rfl⟩, hbw⟩
end Go.Proofs.Ytnjhnkbjbkbnoaa
