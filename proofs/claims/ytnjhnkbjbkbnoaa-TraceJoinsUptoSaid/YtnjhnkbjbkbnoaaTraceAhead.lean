/- The laws TraceAhead, TraceOwn: their walks. Conditions: what came in is shaped. -/
import Derived.Test.YtnjhnkbjbkbnoaaTraceCuts
namespace Go.Proofs.Ytnjhnkbjbkbnoaa
open Go Go.RowKit Go.Tm
set_option linter.unusedVariables false
set_option linter.unusedSimpArgs false

theorem rise_le {l : List Ev} (h : Rise l) : ∀ {j i : Nat} {x y : Ev}, i ≤ j → l[i]? = some x → l[j]? = some y → x.2.2.2 ≤ y.2.2.2 := by
  intro j
  induction j with
  | zero =>
    intro i x y hi hx hy
    obtain rfl : i = 0 := by omega
    rw [hx] at hy; cases hy; exact Int.le_refl _
  | succ j ih =>
    intro i x y hi hx hy
    rcases Nat.lt_or_ge i (j + 1) with h' | h'
    · have hj : j < l.length := by have := (List.getElem?_eq_some_iff.1 hy).1; omega
      exact Int.le_trans (ih (by omega) hx (List.getElem?_eq_getElem hj)) (h j _ _ (List.getElem?_eq_getElem hj) hy)
    · obtain rfl : i = j + 1 := by omega
      rw [hx] at hy; cases hy; exact Int.le_refl _
theorem until_ge {l : List Ev} (h : Rise l) {t : Int} {i : Nat} {x : Ev} (hx : l[i]? = some x) (hi : untilN l t ≤ i) : t ≤ x.2.2.2 := by
  have hl := (List.getElem?_eq_some_iff.1 hx).1
  have hy := List.getElem?_eq_getElem (l := l) (show untilN l t < l.length by omega)
  exact Int.le_trans (until_stop hy) (rise_le h hi hy hx)
theorem rise_take {l : List Ev} (h : Rise l) (m : Nat) : riseB (l.take m) = true := by
  rw [riseB_iff]
  intro j x y hx hy
  rw [List.getElem?_take] at hx hy
  split at hx
  · split at hy
    · exact h j x y hx hy
    · cases hy
  · cases hx

set_option maxHeartbeats 8000000 in
theorem traceAhead_walk (v : Value) (l : List Ev) (t : Int) (w : World) (hv : Sl w true 4 v (evs l)) (hw : ∀ x ∈ l, EvWf x) :
    Calls Try.prog 6 #[v, .int .u64 t] w fun e w' => e = .returned (.bool true) ∧ Below w.heap.size w w' := by
  have HV := Lib.hid hv
  have HW := Lib.hid hw
  have HR := Lib.hid (fun W h => rises_any v l W h)
  have HX := Lib.hid (fun W h => until_any v l t W h)
  have hla := untilN_le l t
  have HRM := Lib.hid (fun u W h => rises_any u (l.take (untilN l t)) W h)
  have HAT := Lib.hid (fun i x (hx : l[i]? = some x) (h : i < untilN l t) => until_at hx h)
  obtain ⟨av, cv, rfl, hl⟩ := hv.shape
  rw [evs_len] at hl HV HX HR ⊢
  have HT := Lib.hid (fun (m i : Nat) (x : Ev) (h : i < m) (hx : l[i]? = some x) => (show (l.take m)[i]? = some x by rw [List.getElem?_take, if_pos h]; exact hx))
  by_cases hr : Rise l
  · rw [rise_take hr, ] at HRM
    rw [(riseB_iff l).2 hr] at HR
    have HGE := Lib.hid (fun i x (hx : l[i]? = some x) (h : untilN l t ≤ i) => until_ge hr hx h)
    generalize untilN l t = m at *
    clear hv hw hr
    go_enter Try.func6, Try.ntmps6
    ((go_wp2_with fail); (with_reducible refine (shown_any _).mono ?_); (rintro e w1 ⟨rfl, hb1⟩); (have hz1 := hb1.size); (try simp only [World.size_alloc, World.size_setCell] at hz1))
    go_wp2_with fail
    with_reducible refine (HR.out _ (HV.out.below (by (repeat (first | with_reducible assumption | with_reducible exact Below.refl _ _ | with_reducible refine Below.setCell ?_ ?_ _ | with_reducible refine Below.alloc ?_ ?_ _ | with_reducible refine below_drewN' ?_ _ | with_reducible refine Below.drew ?_ | with_reducible refine Below.trans ?_ (Below.mono (by assumption) ?_) | omega | (dsimp only; omega) | (simp only [drew_heap', drewN_heap', World.size_alloc, World.size_setCell]; omega) | (solve | simp) | (solve | (simp; omega))))))).mono ?_
    rintro e w2 ⟨rfl, hb2⟩
    have hz2 := hb2.size
    go_wp2_with fail
    with_reducible refine (HX.out _ (HV.out.below (by (repeat (first | with_reducible assumption | with_reducible exact Below.refl _ _ | with_reducible refine Below.setCell ?_ ?_ _ | with_reducible refine Below.alloc ?_ ?_ _ | with_reducible refine below_drewN' ?_ _ | with_reducible refine Below.drew ?_ | with_reducible refine Below.trans ?_ (Below.mono (by assumption) ?_) | omega | (dsimp only; omega) | (simp only [drew_heap', drewN_heap', World.size_alloc, World.size_setCell]; omega) | (solve | simp) | (solve | (simp; omega))))))).mono ?_
    rintro e w3 ⟨v3, rfl, hs3, hb3⟩
    have hz3 := hb3.size
    obtain ⟨a3, c3, rfl, hl3⟩ := hs3.shape
    have hn2 : (evs (l.take m)).length = m := by rw [evs_len, List.length_take]; omega
    rw [hn2] at hl3 hs3 ⊢
    have HS3 := Lib.hid hs3
    have hbw : Below w.heap.size w w3 := by (repeat (first | with_reducible assumption | with_reducible exact Below.refl _ _ | with_reducible refine Below.setCell ?_ ?_ _ | with_reducible refine Below.alloc ?_ ?_ _ | with_reducible refine below_drewN' ?_ _ | with_reducible refine Below.drew ?_ | with_reducible refine Below.trans ?_ (Below.mono (by assumption) ?_) | omega | (dsimp only; omega) | (simp only [drew_heap', drewN_heap', World.size_alloc, World.size_setCell]; omega) | (solve | simp) | (solve | (simp; omega))))
    clear hs3 hn2
    go_wp2_with fail
    go_loopw [7] (fun t W => ∃ i : Nat, i ≤ l.length ∧ t = .int .i64 i ∧ Below w3.heap.size w3 W) (fun t _ => l.length - (intOf t).toNat)
    case atStart => exact ⟨0, Nat.zero_le _, rfl, Below.refl _ _⟩
    case round =>
      obtain ⟨i, hi, rfl, hbx⟩ := hrel
      have hws := hbx.size
      by_cases hlt : i < l.length
      · obtain ⟨x, hx⟩ : ∃ x, l[i]? = some x := ⟨_, List.getElem?_eq_getElem (by omega)⟩
        have hxw := HW.out x (List.mem_of_getElem? hx)
        have heq := eql_ev x x hxw hxw true (by simp)
        have hwr : IntKind.i64.wrap ((i : Int) + 1) = i + 1 := IntWalk.i64_in _ (by omega)
        obtain ⟨b1, off, rfl, hb, p0, p1, p2, p3⟩ := Sl.ev (HV.out.below (hbw.trans (hbx.mono (by omega)))) hx
        have hbr : b1 < wr.heap.size := by omega
        have g0 := cell_rg p0 hbr
        have g1 := cell_rg p1 hbr
        have g2 := cell_rg p2 hbr
        have g3 := cell_rg p3 hbr
        by_cases him : i < m
        · have hlx := HAT.out i x hx him
          obtain ⟨b2, off2, rfl, hb2', e0, e1, e2, e3⟩ := Sl.ev (HS3.out.below hbx) (HT.out m i x him hx)
          have k0 := cell_rg e0 hb2'
          have k1 := cell_rg e1 hb2'
          have k2 := cell_rg e2 hb2'
          have k3 := cell_rg e3 hb2'
          have hcd : decide (x.2.2.2 < t) = true := by simpa using hlx
          have hmd : decide (i < m) = true := by simpa using him
          clear hx hxw
          go_wp2_with fail
          ((refine wp_region_quiet_below (by kernel_rfl) (by kernel_rfl) ?_); (repeat (go_big_quiet_step (fail))); (refine wpQuiet_nil ?_); (intro _ hw'); (obtain ⟨⟨dq, osq⟩, hw''⟩ := hw'); (subst hw''); (have hb7 := below_regrown wr dq osq); (generalize Go.Sort.grow (redrawn wr dq) osq = w7 at *); (have hz7 := hb7.size))
          clear g0 g1 g2 g3 k0 k1 k2 k3
          go_wp2_with fail
          go_roundw
          case rel => exact ⟨i + 1, by omega, by go_num, hbx.trans (hb7.mono hws)⟩
          case measure => simp [intOf]; omega
        · have hlx := HGE.out i x hx (by omega)
          have hcd : decide (x.2.2.2 < t) = false := by simp; omega
          have hmd : decide (i < m) = false := by simpa using him
          clear hx hxw
          go_wp2_with fail
          ((refine wp_region_quiet_below (by kernel_rfl) (by kernel_rfl) ?_); (repeat (go_big_quiet_step (fail))); (refine wpQuiet_nil ?_); (intro _ hw'); (obtain ⟨⟨dq, osq⟩, hw''⟩ := hw'); (subst hw''); (have hb7 := below_regrown wr dq osq); (generalize Go.Sort.grow (redrawn wr dq) osq = w7 at *); (have hz7 := hb7.size))
          clear g0 g1 g2 g3
          go_wp2_with fail
          go_roundw
          case rel => exact ⟨i + 1, by omega, by go_num, hbx.trans (hb7.mono hws)⟩
          case measure => simp [intOf]; omega
      · obtain rfl : i = l.length := by omega
        go_wp2_with fail
        with_reducible refine (HRM.out _ _ (HS3.out.below hbx)).mono ?_
        rintro e w4 ⟨rfl, hb4⟩
        go_wp2_with fail
        go_ret
        exact ⟨rfl, (hbw.trans (hbx.mono (by omega))).trans (hb4.mono (by omega))⟩
  · have hrf : riseB l = false := by rw [Bool.eq_false_iff]; intro h; exact hr ((riseB_iff l).1 h)
    rw [hrf] at HR
    clear hv hw hr
    go_enter Try.func6, Try.ntmps6
    ((go_wp2_with fail); (with_reducible refine (shown_any _).mono ?_); (rintro e w1 ⟨rfl, hb1⟩); (have hz1 := hb1.size); (try simp only [World.size_alloc, World.size_setCell] at hz1))
    go_wp2_with fail
    with_reducible refine (HR.out _ (HV.out.below (by (repeat (first | with_reducible assumption | with_reducible exact Below.refl _ _ | with_reducible refine Below.setCell ?_ ?_ _ | with_reducible refine Below.alloc ?_ ?_ _ | with_reducible refine below_drewN' ?_ _ | with_reducible refine Below.drew ?_ | with_reducible refine Below.trans ?_ (Below.mono (by assumption) ?_) | omega | (dsimp only; omega) | (simp only [drew_heap', drewN_heap', World.size_alloc, World.size_setCell]; omega) | (solve | simp) | (solve | (simp; omega))))))).mono ?_
    rintro e w2 ⟨rfl, hb2⟩
    go_wp2_with fail
    go_ret
    exact ⟨rfl, by (repeat (first | with_reducible assumption | with_reducible exact Below.refl _ _ | with_reducible refine Below.setCell ?_ ?_ _ | with_reducible refine Below.alloc ?_ ?_ _ | with_reducible refine below_drewN' ?_ _ | with_reducible refine Below.drew ?_ | with_reducible refine Below.trans ?_ (Below.mono (by assumption) ?_) | omega | (dsimp only; omega) | (simp only [drew_heap', drewN_heap', World.size_alloc, World.size_setCell]; omega) | (solve | simp) | (solve | (simp; omega))))⟩

theorem filter_at {α : Type} {l : List α} {i : Nat} {x : α} (h : l[i]? = some x) {q : α → Bool} (hq : q x = true) : (l.filter q)[((l.take i).filter q).length]? = some x := by
  have hl := (List.getElem?_eq_some_iff.1 h).1
  have h2 : l.filter q = (l.take i).filter q ++ (l.drop i).filter q := by rw [← List.filter_append, List.take_append_drop]
  have h3 : l.drop i = x :: l.drop (i + 1) := by
    rw [List.drop_eq_getElem_cons hl]
    rw [List.getElem?_eq_getElem hl] at h
    cases h; rfl
  rw [h2, h3, List.filter_cons, if_pos hq]
  simp
theorem filter_le {α : Type} (l : List α) (p q : α → Bool) : ((l.filter p).filter q).length ≤ (l.filter q).length := (List.filter_sublist.filter q).length_le

set_option maxHeartbeats 8000000 in
theorem traceOwn_walk (v : Value) (l : List Ev) (pid n : Int) (w : World) (hv : Sl w true 4 v (evs l)) (hby : l.length * 24 ≤ 140737488355328) (hw : ∀ x ∈ l, EvWf x) :
    Calls Try.prog 7 #[v, .int .i64 pid, .int .u32 n] w fun e w' => e = .returned (.bool true) ∧ Below w.heap.size w w' := by
  have HV := Lib.hid hv
  have HW := Lib.hid hw
  have HO := Lib.hid (fun W h => traceOf_any v l pid W h hby)
  have HC := Lib.hid (fun W h => count_any v l n W h)
  have HE := Lib.hid (fun W h => errors_any v l W h hw)
  have HCK := Lib.hid (fun u W h => count_any u (ofP l pid) n W h)
  have HEK := Lib.hid (fun u W h => errors_any u (ofP l pid) W h (fun x hx => hw x (List.mem_filter.1 hx).1))
  have hcl : cntE (ofP l pid) n ≤ cntE l n := filter_le _ _ _
  have hel : errE (ofP l pid) ≤ errE l := filter_le _ _ _
  have hkl : (ofP l pid).length ≤ l.length := List.length_filter_le _ _
  have hc63 : cntE l n ≤ l.length := List.length_filter_le _ _
  have he63 : errE l ≤ l.length := List.length_filter_le _ _
  have HFA := Lib.hid (fun i x (hx : l[i]? = some x) (h : x.1 = pid) => (show (ofP l pid)[(ofP (l.take i) pid).length]? = some x from filter_at hx (by simpa using h)))
  obtain ⟨av, cv, rfl, hl⟩ := hv.shape
  rw [evs_len] at hl HV HO HC HE ⊢
  have hfin : (ofP (l.take l.length) pid).length = (ofP l pid).length := by rw [List.take_length]
  have HFIN := Lib.hid hfin
  generalize ofP l pid = k at *
  generalize cntE l n = c1 at *
  generalize cntE k n = c2 at *
  generalize errE l = d1 at *
  generalize errE k = d2 at *
  have hcd : decide (c2 ≤ c1) = true := by simpa using hcl
  have hed : decide (d2 ≤ d1) = true := by simpa using hel
  clear hv hw hfin
  go_enter Try.func7, Try.ntmps7
  ((go_wp2_with fail); (with_reducible refine (shown_any _).mono ?_); (rintro e w1 ⟨rfl, hb1⟩); (have hz1 := hb1.size); (try simp only [World.size_alloc, World.size_setCell] at hz1))
  go_wp2_with fail
  with_reducible refine (HO.out _ (HV.out.below (by (repeat (first | with_reducible assumption | with_reducible exact Below.refl _ _ | with_reducible refine Below.setCell ?_ ?_ _ | with_reducible refine Below.alloc ?_ ?_ _ | with_reducible refine below_drewN' ?_ _ | with_reducible refine Below.drew ?_ | with_reducible refine Below.trans ?_ (Below.mono (by assumption) ?_) | omega | (dsimp only; omega) | (simp only [drew_heap', drewN_heap', World.size_alloc, World.size_setCell]; omega) | (solve | simp) | (solve | (simp; omega))))))).mono ?_
  rintro e w2 ⟨v2, rfl, ho2, hb2⟩
  have hz2 := hb2.size
  have HK := Lib.hid ho2.sl
  obtain ⟨a, cap, rfl, hl2⟩ := ho2.sl.shape
  rw [evs_len] at hl2 HK ⊢
  have hbw : Below w.heap.size w w2 := by (repeat (first | with_reducible assumption | with_reducible exact Below.refl _ _ | with_reducible refine Below.setCell ?_ ?_ _ | with_reducible refine Below.alloc ?_ ?_ _ | with_reducible refine below_drewN' ?_ _ | with_reducible refine Below.drew ?_ | with_reducible refine Below.trans ?_ (Below.mono (by assumption) ?_) | omega | (dsimp only; omega) | (simp only [drew_heap', drewN_heap', World.size_alloc, World.size_setCell]; omega) | (solve | simp) | (solve | (simp; omega))))
  clear ho2
  go_wp2_with fail
  go_loopw [9, 10] (fun s t W => ∃ i : Nat, i ≤ l.length ∧ t = .int .i64 i ∧ s = .int .i64 (ofP (l.take i) pid).length ∧ Below w2.heap.size w2 W) (fun _ t _ => l.length - (intOf t).toNat)
  case atStart => exact ⟨0, Nat.zero_le _, rfl, rfl, Below.refl _ _⟩
  case round =>
    obtain ⟨i, hi, rfl, rfl, hbx⟩ := hrel
    have hws := hbx.size
    by_cases hlt : i < l.length
    · obtain ⟨x, hx⟩ : ∃ x, l[i]? = some x := ⟨_, List.getElem?_eq_getElem (by omega)⟩
      have hxw := HW.out x (List.mem_of_getElem? hx)
      have heq := eql_ev x x hxw hxw true (by simp)
      have hwr : IntKind.i64.wrap ((i : Int) + 1) = i + 1 := IntWalk.i64_in _ (by omega)
      obtain ⟨b1, off, rfl, hb, p0, p1, p2, p3⟩ := Sl.ev (HV.out.below (hbw.trans (hbx.mono (by omega)))) hx
      have hbr : b1 < wr.heap.size := by omega
      have hst := filter_take_step hx (fun x => decide (x.1 = pid))
      by_cases hp : x.1 = pid
      · rw [if_pos (by simpa using hp)] at hst
        have hkx := HFA.out i x hx hp
        have hst2 := congrArg List.length hst
        have hst3 : (ofP (l.take (i + 1)) pid).length = (ofP (l.take i) pid).length + 1 := by simpa [ofP] using hst2
        have hlk : (ofP (l.take i) pid).length < k.length := (List.getElem?_eq_some_iff.1 hkx).1
        have HST := Lib.hid hst3
        clear hst hst2 hst3
        generalize (ofP (l.take i) pid).length = j at *
        have hwj : IntKind.i64.wrap ((j : Int) + 1) = j + 1 := IntWalk.i64_in _ (by omega)
        obtain ⟨b2, off2, rfl, hb2', e0, e1, e2, e3⟩ := Sl.ev (HK.out.below hbx) hkx
        have g0 := cell_rg p0 hbr
        have g1 := cell_rg p1 hbr
        have g2 := cell_rg p2 hbr
        have g3 := cell_rg p3 hbr
        have k0 := cell_rg e0 hb2'
        have k1 := cell_rg e1 hb2'
        have k2 := cell_rg e2 hb2'
        have k3 := cell_rg e3 hb2'
        have hjd : decide (k.length ≤ j) = false := by simp; omega
        clear hx hxw hkx
        go_wp2_with fail
        ((refine wp_region_quiet_below (by kernel_rfl) (by kernel_rfl) ?_); (repeat (go_big_quiet_step (fail))); (refine wpQuiet_nil ?_); (intro _ hw'); (obtain ⟨⟨dq, osq⟩, hw''⟩ := hw'); (subst hw''); (have hb7 := below_regrown wr dq osq); (generalize Go.Sort.grow (redrawn wr dq) osq = w7 at *); (have hz7 := hb7.size))
        clear g0 g1 g2 g3 k0 k1 k2 k3
        go_wp2_with fail
        go_roundw
        case rel => exact ⟨i + 1, by omega, by go_num, by rw [HST.out]; go_num, hbx.trans (hb7.mono hws)⟩
        case measure => simp [intOf]; omega
      · rw [if_neg (by simpa using hp), List.append_nil] at hst
        have hp' : (x.1 == pid) = false := by simpa using hp
        have HST := Lib.hid (show (ofP (l.take (i + 1)) pid).length = (ofP (l.take i) pid).length from congrArg List.length hst)
        clear hx hxw hst
        go_wp2_with fail
        go_roundw
        case rel => exact ⟨i + 1, by omega, by go_num, by rw [HST.out], hbx⟩
        case measure => simp [intOf]; omega
    · obtain rfl : i = l.length := by omega
      rw [HFIN.out]
      go_wp2_with fail
      with_reducible refine (HCK.out _ _ (HK.out.below (by (repeat (first | with_reducible assumption | with_reducible exact Below.refl _ _ | with_reducible refine Below.setCell ?_ ?_ _ | with_reducible refine Below.alloc ?_ ?_ _ | with_reducible refine below_drewN' ?_ _ | with_reducible refine Below.drew ?_ | with_reducible refine Below.trans ?_ (Below.mono (by assumption) ?_) | omega | (dsimp only; omega) | (simp only [drew_heap', drewN_heap', World.size_alloc, World.size_setCell]; omega) | (solve | simp) | (solve | (simp; omega))))))).mono ?_
      rintro e w4 ⟨rfl, hb4⟩
      have hz4 := hb4.size
      have hb4w : Below w.heap.size w w4 := (hbw.trans (hbx.mono (by omega))).trans (hb4.mono (by omega))
      go_wp2_with fail
      with_reducible refine (HC.out _ (HV.out.below hb4w)).mono ?_
      rintro e w5 ⟨rfl, hb5⟩
      have hz5 := hb5.size
      have hb5w : Below w.heap.size w w5 := hb4w.trans (hb5.mono (by omega))
      go_wp2_with fail
      with_reducible refine (HEK.out _ _ (HK.out.below ((hbx.trans (hb4.mono (by omega))).trans (hb5.mono (by omega))))).mono ?_
      rintro e w6 ⟨rfl, hb6⟩
      have hz6 := hb6.size
      have hb6w : Below w.heap.size w w6 := hb5w.trans (hb6.mono (by omega))
      go_wp2_with fail
      with_reducible refine (HE.out _ (HV.out.below hb6w)).mono ?_
      rintro e w8 ⟨rfl, hb8⟩
      go_wp2_with fail
      go_ret
      exact ⟨rfl, hb6w.trans (hb8.mono (by omega))⟩
end Go.Proofs.Ytnjhnkbjbkbnoaa
