/- The law TraceGaps: its walk. Conditions: what came in is shaped. -/
import Derived.Test.YtnjhnkbjbkbnoaaTraceFns2
namespace Go.Proofs.Ytnjhnkbjbkbnoaa
open Go Go.RowKit Go.Tm
set_option linter.unusedVariables false
set_option linter.unusedSimpArgs false

theorem gapM_mono (k : List Ev) {i j : Nat} (h : i ≤ j) : gapM k i ≤ gapM k j := by
  induction j with
  | zero => obtain rfl : i = 0 := by omega
            exact Int.le_refl _
  | succ j ih =>
    rcases Nat.lt_or_ge i (j + 1) with h' | h'
    · exact Int.le_trans (ih (by omega)) (by show gapM k j ≤ max (gapM k j) (diff k j); omega)
    · obtain rfl : i = j + 1 := by omega
      exact Int.le_refl _
theorem diff_le (k : List Ev) {j n : Nat} (h : j < n) : diff k j ≤ gapM k n :=
  Int.le_trans (show diff k j ≤ max (gapM k j) (diff k j) by omega) (gapM_mono k (i := j + 1) h)
/-- Some two are just so far apart. -/
def hitS (k : List Ev) (g : Int) : Nat → Bool | 0 => g == 0 | j + 1 => hitS k g j || diff k j == g
theorem hit_true (k : List Ev) (g : Int) : ∀ n, (∃ j, j ≤ n ∧ gapM k j = g) → hitS k g n = true := by
  intro n
  induction n with
  | zero =>
    rintro ⟨j, hj, h⟩
    obtain rfl : j = 0 := by omega
    have : g = 0 := by rw [← h]; rfl
    simp [hitS, this]
  | succ n ih =>
    rintro ⟨j, hj, h⟩
    rcases Nat.lt_or_ge j (n + 1) with h' | h'
    · simp [hitS, ih ⟨j, by omega, h⟩]
    · obtain rfl : j = n + 1 := by omega
      have h2 : max (gapM k n) (diff k n) = g := h
      by_cases hc : diff k n ≤ gapM k n
      · simp [hitS, ih ⟨n, Nat.le_refl _, by omega⟩]
      · have : diff k n = g := by omega
        simp [hitS, this]

set_option maxHeartbeats 4000000 in
theorem traceGaps_walk (v : Value) (l : List Ev) (pid : Int) (w : World) (hv : Sl w true 4 v (evs l)) (hby : l.length * 24 ≤ 140737488355328) :
    Calls Try.prog 3 #[v, .int .i64 pid] w fun e w' => e = .returned (.bool true) ∧ Below w.heap.size w w' := by
  have HV := Lib.hid hv
  have HO := Lib.hid (fun W h => traceOf_any v l pid W h hby)
  have HG := Lib.hid (fun W h => gap_any v l pid W h hby)
  have hkl : (ofP l pid).length ≤ l.length := List.length_filter_le _ _
  obtain ⟨av, cv, rfl, hl⟩ := hv.shape
  rw [evs_len] at hl HV HO HG ⊢
  generalize ofP l pid = k at *
  have HLE := Lib.hid (fun j (h : j < k.length - 1) => diff_le k h)
  have HH := Lib.hid (hit_true k (gapM k (k.length - 1)) (k.length - 1) ⟨_, Nat.le_refl _, rfl⟩)
  generalize hg : gapM k (k.length - 1) = g at *
  obtain ⟨b0, hb0⟩ : ∃ b, (g == 0) = b := ⟨_, rfl⟩
  have HB := Lib.hid (show hitS k g 0 = b0 from hb0)
  clear hv hg
  go_enter Try.func3, Try.ntmps3
  ((go_wp2_with fail); (with_reducible refine (shown_any _).mono ?_); (rintro e w1 ⟨rfl, hb1⟩); (have hz1 := hb1.size); (try simp only [World.size_alloc, World.size_setCell] at hz1))
  go_wp2_with fail
  with_reducible refine (HO.out _ (HV.out.below (by (repeat (first | with_reducible assumption | with_reducible exact Below.refl _ _ | with_reducible refine Below.setCell ?_ ?_ _ | with_reducible refine Below.alloc ?_ ?_ _ | with_reducible refine below_drewN' ?_ _ | with_reducible refine Below.drew ?_ | with_reducible refine Below.trans ?_ (Below.mono (by assumption) ?_) | omega | (dsimp only; omega) | (simp only [drew_heap', drewN_heap', World.size_alloc, World.size_setCell]; omega) | (solve | simp) | (solve | (simp; omega))))))).mono ?_
  rintro e w2 ⟨v2, rfl, ho2, hb2⟩
  have hz2 := hb2.size
  have HK := Lib.hid ho2.sl
  obtain ⟨a, cap, rfl, hl2⟩ := ho2.sl.shape
  rw [evs_len] at hl2 HK ⊢
  clear ho2
  go_wp2_with fail
  with_reducible refine (HG.out _ (HV.out.below (by (repeat (first | with_reducible assumption | with_reducible exact Below.refl _ _ | with_reducible refine Below.setCell ?_ ?_ _ | with_reducible refine Below.alloc ?_ ?_ _ | with_reducible refine below_drewN' ?_ _ | with_reducible refine Below.drew ?_ | with_reducible refine Below.trans ?_ (Below.mono (by assumption) ?_) | omega | (dsimp only; omega) | (simp only [drew_heap', drewN_heap', World.size_alloc, World.size_setCell]; omega) | (solve | simp) | (solve | (simp; omega))))))).mono ?_
  rintro e w3 ⟨rfl, hb3⟩
  have hz3 := hb3.size
  have hbw : Below w.heap.size w w3 := by (repeat (first | with_reducible assumption | with_reducible exact Below.refl _ _ | with_reducible refine Below.setCell ?_ ?_ _ | with_reducible refine Below.alloc ?_ ?_ _ | with_reducible refine below_drewN' ?_ _ | with_reducible refine Below.drew ?_ | with_reducible refine Below.trans ?_ (Below.mono (by assumption) ?_) | omega | (dsimp only; omega) | (simp only [drew_heap', drewN_heap', World.size_alloc, World.size_setCell]; omega) | (solve | simp) | (solve | (simp; omega))))
  have HK3 := Lib.hid (HK.out.below hb3)
  clear HK
  go_wp2_with fail
  go_loopw [8, 9] (fun m t W => ∃ i : Nat, i ≤ k.length ∧ t = .int .i64 ((i : Int) + 1) ∧ m = .bool (hitS k g i) ∧ (0 < i → i < k.length) ∧ Below w3.heap.size w3 W) (fun _ t _ => k.length + 1 - (intOf t).toNat)
  case atStart => exact ⟨0, Nat.zero_le _, rfl, by rw [HB.out], by omega, Below.refl _ _⟩
  case round =>
    obtain ⟨i, hi, rfl, rfl, hi2, hbx⟩ := hrel
    have hws := hbx.size
    by_cases hlt : i + 1 < k.length
    · obtain ⟨x, hx⟩ : ∃ x, k[i]? = some x := ⟨_, List.getElem?_eq_getElem (by omega)⟩
      obtain ⟨y, hy⟩ : ∃ y, k[i + 1]? = some y := ⟨_, List.getElem?_eq_getElem hlt⟩
      obtain ⟨b, off, rfl, hb, c0, c1, c2, c3⟩ := Sl.ev (HK3.out.below hbx) hx
      obtain ⟨_, _, he, hb2', e0, e1, e2, e3⟩ := Sl.ev (HK3.out.below hbx) hy
      simp only [Option.some.injEq, Addr.mk.injEq, and_true] at he
      obtain ⟨rfl, rfl⟩ := he
      have hwr : IntKind.i64.wrap ((i : Int) + 1 + 1) = i + 1 + 1 := IntWalk.i64_in _ (by omega)
      have hws1 : IntKind.i64.wrap ((i : Int) + 1 - 1) = i := by rw [IntWalk.i64_in _ (by omega)]; omega
      have hlt' : (i : Int) + 1 < k.length := by omega
      have hd := diff_at hx hy
      have hdl := HLE.out i (by omega)
      have hst : hitS k g (i + 1) = (hitS k g i || diff k i == g) := rfl
      rw [hd] at hst hdl
      have HST := Lib.hid hst
      have g0 := cell_rg c3 hb
      have g1 := cell_rg e3 hb2'
      clear hx hy hd hst
      have hng : ¬ g < IntKind.u64.wrap (y.2.2.2 - x.2.2.2) := by omega
      cases hh : hitS k g i
      · obtain ⟨b1, hb1e⟩ : ∃ b, (IntKind.u64.wrap (y.2.2.2 - x.2.2.2) == g) = b := ⟨_, rfl⟩
        rw [hh, hb1e] at HST
        go_wp2_with fail
        ((refine wp_region_quiet_below (by kernel_rfl) (by kernel_rfl) ?_); (repeat (go_big_quiet_step (fail))); (refine wpQuiet_nil ?_); (intro _ hw'); (obtain ⟨⟨dq, osq⟩, hw''⟩ := hw'); (subst hw''); (have hb7 := below_regrown wr dq osq); (generalize Go.Sort.grow (redrawn wr dq) osq = w7 at *); (have hz7 := hb7.size))
        clear g0 g1
        go_wp2_with fail
        exact ⟨⟨i + 1, by omega, by go_num, by rw [HST.out]; simp, by omega, hbx.trans (hb7.mono hws)⟩, by simp [intOf]; omega⟩
      · rw [hh] at HST
        go_wp2_with fail
        ((refine wp_region_quiet_below (by kernel_rfl) (by kernel_rfl) ?_); (repeat (go_big_quiet_step (fail))); (refine wpQuiet_nil ?_); (intro _ hw'); (obtain ⟨⟨dq, osq⟩, hw''⟩ := hw'); (subst hw''); (have hb7 := below_regrown wr dq osq); (generalize Go.Sort.grow (redrawn wr dq) osq = w7 at *); (have hz7 := hb7.size))
        clear g0 g1
        go_wp2_with fail
        exact ⟨⟨i + 1, by omega, by go_num, by rw [HST.out]; simp, by omega, hbx.trans (hb7.mono hws)⟩, by simp [intOf]; omega⟩
    · have hlt' : ¬ (i : Int) + 1 < k.length := by omega
      have hki : k.length - 1 = i := by omega
      have hh := HH.out
      rw [hki] at hh
      rw [hh]
      go_wp2_with fail
      go_ret
      exact ⟨rfl, hbw.trans (hbx.mono (by omega))⟩
end Go.Proofs.Ytnjhnkbjbkbnoaa
