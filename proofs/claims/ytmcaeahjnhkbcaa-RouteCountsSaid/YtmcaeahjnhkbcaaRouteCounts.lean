/- The law RouteCounts: its walk. Conditions: what came in is shaped. -/
import Derived.Test.YtmcaeahjnhkbcaaRouteShown
namespace Go.Proofs.Ytmcaeahjnhkbcaa
open Go Go.RowKit Go.Tm
set_option linter.unusedVariables false
set_option linter.unusedSimpArgs false

/-- How many have a partition at that end. -/
def cntF (cs : List Ch) (f : Ch → Int) (n : Nat) : Nat := (cs.filter fun c => okN n (f c)).length
theorem cntF_le (cs : List Ch) (f : Ch → Int) (n : Nat) : cntF cs f n ≤ cs.length := List.length_filter_le _ _
theorem cntF_next (cs : List Ch) (f : Ch → Int) (n : Nat) : cntF cs f (n + 1) = cntF cs f n + (cs.filter fun c => decide (f c = (n : Int))).length := by
  unfold cntF
  rw [← sum_parts, ← sum_parts, List.range_succ, List.map_append, List.sum_append]
  simp
theorem cntF_zero (cs : List Ch) (f : Ch → Int) : cntF cs f 0 = 0 := by
  unfold cntF; rw [← sum_parts]; rfl
theorem cntT_in {cs : List Ch} {f : Ch → Int} {n i : Nat} {x : Ch} (hx : cs[i]? = some x) (h : okN n (f x) = true) : cntF (cs.take (i + 1)) f n = cntF (cs.take i) f n + 1 := by
  unfold cntF; rw [take_step hx, List.filter_append]; simp [h]
theorem cntT_out {cs : List Ch} {f : Ch → Int} {n i : Nat} {x : Ch} (hx : cs[i]? = some x) (h : okN n (f x) = false) : cntF (cs.take (i + 1)) f n = cntF (cs.take i) f n := by
  unfold cntF; rw [take_step hx, List.filter_append]; simp [h]

set_option maxRecDepth 100000 in
set_option maxHeartbeats 4000000 in
theorem routeCounts_walk (pa : Option Addr) (np pc : Nat) (fr : Int) (wv cv : Value) (cs : List Ch) (w : World) (hv : Sl w true 5 cv (chs cs)) (hby : cs.length * 40 ≤ 140737488355328) (hnp : np * 32 ≤ 140737488355328) :
    Calls Try.prog 7 #[.agg #[.slice pa np pc, .int .i64 fr, wv, cv]] w fun e w' => e = .returned (.bool true) ∧ Below w.heap.size w w' := by
  have HV := Lib.hid hv
  have HF := Lib.hid (fun W h => few_any pa np pc fr wv cv cs W h)
  have HO := Lib.hid (fun a W h => outs_any pa np pc fr wv cv cs a W h hby)
  have HI := Lib.hid (fun a W h => ins_any pa np pc fr wv cv cs a W h hby)
  obtain ⟨a, cap, rfl, hl⟩ := hv.shape
  rw [chs_len] at hl HV HF HO HI ⊢
  clear hv
  go_enter Try.func7, Try.ntmps7
  ((go_wp2_with fail); (with_reducible refine (shown_any _).mono ?_); (rintro e w1 ⟨rfl, hb1⟩); (have hz1 := hb1.size); (try simp only [World.size_alloc, World.size_setCell] at hz1))
  (have b1 : Box w1 w.heap.size #[.slice pa np pc, .int .i64 fr, wv, .slice a cs.length cap] 26 := (by (try have k1 := (Lib.hid True.intro).out); ((apply Box.cast); (repeat (first | with_reducible assumption | ((with_reducible apply Box.new1); (first | with_reducible rfl | rfl | (solve | simp))) | with_reducible apply Box.drewN | with_reducible apply Box.drew | with_reducible apply Box.set | with_reducible apply Box.other | with_reducible apply Box.alloc | (with_reducible apply Box.below; rotate_left; with_reducible assumption; rotate_right) | with_reducible rfl | omega | (dsimp only; omega) | (simp only [drew_heap', drewN_heap', World.size_alloc, World.size_setCell]; omega) | rfl | (solve | simp) | (solve | (simp; omega))))))); (obtain ⟨hc1, hf1, hl1, hn1, hm1⟩ := b1.rules); (have K1 := Lib.hid b1); (clear b1)
  have hbw1 : Below w.heap.size w w1 := by (repeat (first | with_reducible assumption | with_reducible exact Below.refl _ _ | with_reducible refine Below.setCell ?_ ?_ _ | with_reducible refine Below.alloc ?_ ?_ _ | with_reducible refine below_drewN' ?_ _ | with_reducible refine Below.drew ?_ | with_reducible refine Below.trans ?_ (Below.mono (by assumption) ?_) | omega | (dsimp only; omega) | (simp only [drew_heap', drewN_heap', World.size_alloc, World.size_setCell]; omega) | (solve | simp) | (solve | (simp; omega))))
  clear hb1
  go_wp2_with fail
  with_reducible refine (HF.out _ (HV.out.below hbw1)).mono ?_
  rintro e w2 ⟨rfl, hb2⟩
  ((have b2 := K1.out.below hb2 K1.out.lt); (obtain ⟨hc2, hf2, hl2, hn2, hm2⟩ := b2.rules); (have K2 := Lib.hid b2); (clear b2))
  have hbw2 : Below w.heap.size w w2 := hbw1.trans (hb2.mono hbw1.size)
  have hz2 := hbw2.size
  clear hb2 K1 hc1 hf1 hl1 hn1 hm1
  by_cases hfew : cs.length ≤ 50 ∧ np ≤ 50
  rotate_left
  · have hd : (decide (cs.length ≤ 50) && decide (np ≤ 50)) = false := by
      rw [Bool.and_eq_false_iff]
      by_cases h1 : cs.length ≤ 50
      · exact .inr (decide_eq_false fun h2 => hfew ⟨h1, h2⟩)
      · exact .inl (decide_eq_false h1)
    rw [hd]
    clear hd hfew
    go_wp2_with fail
    go_ret
    exact ⟨by simp, hbw2⟩
  obtain ⟨hc50, hn50⟩ := hfew
  rw [show (decide (cs.length ≤ 50) && decide (np ≤ 50)) = true by simp [hc50, hn50]]
  have HV2 := Lib.hid (HV.out.below hbw2)
  go_wp2_with fail
  clear hc2 hf2 hl2 hn2 hm2
  go_loopw [5, 6, 7] (fun o s t W => ∃ i : Nat, i ≤ np ∧ t = .int .i64 i ∧ o = .int .i64 (cntF cs (fun c => c.2.1) i : Nat) ∧ s = .int .i64 (cntF cs (fun c => c.2.2.1) i : Nat) ∧ Below w2.heap.size w2 W) (fun _ _ t _ => np - (intOf t).toNat)
  case atStart => exact ⟨0, Nat.zero_le _, rfl, by rw [cntF_zero]; rfl, by rw [cntF_zero]; rfl, Below.refl _ _⟩
  case round =>
    obtain ⟨i, hi, rfl, rfl, rfl, hbw⟩ := hrel
    have hwz := hbw.size
    ((have b3 := K2.out.below hbw K2.out.lt); (obtain ⟨hc3, hf3, hl3, hn3, hm3⟩ := b3.rules); (have K3 := Lib.hid b3); (clear b3))
    have h1 := cntF_le cs (fun c => c.2.1) (i + 1)
    have h2 := cntF_le cs (fun c => c.2.2.1) (i + 1)
    by_cases hlt : i < np
    · have HN1 := Lib.hid (cntF_next cs (fun c => c.2.1) i)
      have HN2 := Lib.hid (cntF_next cs (fun c => c.2.2.1) i)
      have e1 : (cs.filter fun c => decide (c.2.1 = (i : Int))).length = (outsS cs i).length := rfl
      have e2 : (cs.filter fun c => decide (c.2.2.1 = (i : Int))).length = (insS cs i).length := rfl
      have HO2 := HO.out i
      have HI2 := HI.out i
      rw [e1] at HN1
      rw [e2] at HN2
      rw [HN1.out] at h1
      rw [HN2.out] at h2
      have hwi : IntKind.i64.wrap ((i : Int) + 1) = i + 1 := IntWalk.i64_in _ (by omega)
      clear e1 e2
      obtain ⟨co, hco⟩ : ∃ co, co = cntF cs (fun c => c.2.1) i := ⟨_, rfl⟩
      obtain ⟨ci, hci⟩ : ∃ ci, ci = cntF cs (fun c => c.2.2.1) i := ⟨_, rfl⟩
      rw [← hco] at HN1 h1 ⊢
      rw [← hci] at HN2 h2 ⊢
      clear hco hci
      generalize outsS cs i = lo at *
      generalize insS cs i = li at *
      have HO3 := Lib.hid HO2
      have HI3 := Lib.hid HI2
      clear HO2 HI2
      have hw1 : IntKind.i64.wrap ((co : Int) + (lo.length : Int)) = co + lo.length := IntWalk.i64_in _ (by omega)
      have hw2 : IntKind.i64.wrap ((ci : Int) + (li.length : Int)) = ci + li.length := IntWalk.i64_in _ (by omega)
      go_wp2_with fail
      with_reducible refine (HO3.out _ (HV2.out.below hbw)).mono ?_
      rintro e w4 ⟨v4, rfl, hs4, hb4⟩
      obtain ⟨a4, k4, hv4, _⟩ := hs4.shape
      rw [chs_len] at hv4
      subst hv4
      ((have b4 := K3.out.below hb4 K3.out.lt); (obtain ⟨hc4, hf4, hl4, hn4, hm4⟩ := b4.rules); (have K4 := Lib.hid b4); (clear b4))
      have hbw4 : Below w2.heap.size w2 w4 := hbw.trans (hb4.mono hwz)
      have hz4 := hbw4.size
      clear hs4 hb4 hc3 hf3 hl3 hn3 hm3
      go_wp2_with fail
      with_reducible refine (HI3.out _ (HV2.out.below hbw4)).mono ?_
      rintro e w5 ⟨v5, rfl, hs5, hb5⟩
      obtain ⟨a5, k5, hv5, _⟩ := hs5.shape
      rw [chs_len] at hv5
      subst hv5
      have hbw5 : Below w2.heap.size w2 w5 := hbw4.trans (hb5.mono hz4)
      clear hs5 hb5 hc4 hf4 hl4 hn4 hm4
      go_wp2_with fail
      go_roundw
      case rel => exact ⟨i + 1, by omega, by go_num, by rw [HN1.out]; simp, by rw [HN2.out]; simp, hbw5⟩
      case measure => simp [intOf]; omega
    · obtain rfl : i = np := by omega
      have hc1' := cntF_le cs (fun c => c.2.1) i
      have hc2' := cntF_le cs (fun c => c.2.2.1) i
      go_wp2_with fail
      clear hc3 hf3 hl3 hn3 hm3
      have HVr := Lib.hid (HV2.out.below hbw)
      have hbwr : Below w.heap.size w wr := hbw2.trans (hbw.mono hz2)
      have hwrz := hbwr.size
      obtain ⟨wA, hwA⟩ : ∃ wA, wA = wr := ⟨_, rfl⟩
      subst hwA
      go_loopw [8, 9, 10] (fun o s t W => ∃ j : Nat, j ≤ cs.length ∧ t = .int .i64 j ∧ o = .int .i64 (cntF (cs.take j) (fun c => c.2.1) i : Nat) ∧ s = .int .i64 (cntF (cs.take j) (fun c => c.2.2.1) i : Nat) ∧ Below wA.heap.size wA W) (fun _ _ t _ => cs.length - (intOf t).toNat)
      case atStart => exact ⟨0, Nat.zero_le _, rfl, rfl, rfl, Below.refl _ _⟩
      case round =>
        obtain ⟨j, hj, rfl, rfl, rfl, hbv⟩ := hrel
        have hvz := hbv.size
        ((have b4 := K3.out.below hbv K3.out.lt); (obtain ⟨hc4, hf4, hl4, hn4, hm4⟩ := b4.rules); (have K4 := Lib.hid b4); (clear b4))
        by_cases hjl : j < cs.length
        · obtain ⟨x, hx⟩ : ∃ x, cs[j]? = some x := ⟨_, List.getElem?_eq_getElem hjl⟩
          obtain ⟨b, off, rfl, hb, e0, e1, e2, e3, e4⟩ := Sl.ch (HVr.out.below hbv) hx
          have hwj : IntKind.i64.wrap ((j : Int) + 1) = j + 1 := IntWalk.i64_in _ (by omega)
          have hd1 := cntF_le (cs.take j) (fun c => c.2.1) i
          have hd2 := cntF_le (cs.take j) (fun c => c.2.2.1) i
          rw [List.length_take] at hd1 hd2
          have hin1 := fun h => cntT_in (f := fun c => c.2.1) (n := i) hx h
          have hout1 := fun h => cntT_out (f := fun c => c.2.1) (n := i) hx h
          have hin2 := fun h => cntT_in (f := fun c => c.2.2.1) (n := i) hx h
          have hout2 := fun h => cntT_out (f := fun c => c.2.2.1) (n := i) hx h
          have H1 : Hid ((0 ≤ x.2.1 ∧ x.2.1 < (i : Int) ∧ cntF (cs.take (j + 1)) (fun c => c.2.1) i = cntF (cs.take j) (fun c => c.2.1) i + 1) ∨ ((x.2.1 < 0 ∨ (0 ≤ x.2.1 ∧ (i : Int) ≤ x.2.1)) ∧ cntF (cs.take (j + 1)) (fun c => c.2.1) i = cntF (cs.take j) (fun c => c.2.1) i)) := Lib.hid (by
            cases hok : okN i x.2.1
            · right; refine ⟨?_, hout1 hok⟩
              by_cases h0 : x.2.1 < 0
              · exact .inl h0
              · refine .inr ⟨by omega, ?_⟩
                apply Classical.byContradiction; intro h; rw [okN_true (by omega) (by omega)] at hok; cases hok
            · left; have := okN_iff.1 hok; exact ⟨this.1, this.2, hin1 hok⟩)
          have H2 : Hid ((0 ≤ x.2.2.1 ∧ x.2.2.1 < (i : Int) ∧ cntF (cs.take (j + 1)) (fun c => c.2.2.1) i = cntF (cs.take j) (fun c => c.2.2.1) i + 1) ∨ ((x.2.2.1 < 0 ∨ (0 ≤ x.2.2.1 ∧ (i : Int) ≤ x.2.2.1)) ∧ cntF (cs.take (j + 1)) (fun c => c.2.2.1) i = cntF (cs.take j) (fun c => c.2.2.1) i)) := Lib.hid (by
            cases hok : okN i x.2.2.1
            · right; refine ⟨?_, hout2 hok⟩
              by_cases h0 : x.2.2.1 < 0
              · exact .inl h0
              · refine .inr ⟨by omega, ?_⟩
                apply Classical.byContradiction; intro h; rw [okN_true (by omega) (by omega)] at hok; cases hok
            · left; have := okN_iff.1 hok; exact ⟨this.1, this.2, hin2 hok⟩)
          have HX := Lib.hid hx
          clear hin1 hout1 hin2 hout2 hx
          rcases H1.out with ⟨p0, p1, E1⟩ | ⟨p0 | ⟨p0, p1⟩, E1⟩
          · have HE1 := Lib.hid E1
            clear E1
            have d10 : decide (0 ≤ x.2.1) = true := decide_eq_true p0
            have d11 : decide (x.2.1 < (i : Int)) = true := decide_eq_true p1
            have g0 := cell_rg e1 hb
            have g1 := K4.out.regrown
            go_wp2_with fail
            ((refine wp_region_quiet_below (by kernel_rfl) (by kernel_rfl) ?_); (repeat (go_big_quiet_step (fail))); (refine wpQuiet_nil ?_); (intro _ hw'); (obtain ⟨⟨dq, osq⟩, hw''⟩ := hw'); (subst hw''); (have hb7 := below_regrown wr dq osq); (generalize Go.Sort.grow (redrawn wr dq) osq = w7 at *); (have hz7 := hb7.size))
            have hbv7 : Below wA.heap.size wA w7 := hbv.trans (hb7.mono hvz)
            have hvz7 := hbv7.size
            ((have b7 := K4.out.below hb7 K4.out.lt); (obtain ⟨hc7, hf7, hl7, hn7, hm7⟩ := b7.rules); (have K7 := Lib.hid b7); (clear b7))
            clear g0 g1 hc4 hf4 hl4 hn4 hm4 e0 e1 e2 e3 e4
            obtain ⟨_, _, hex, hb', e0, e1, e2, e3, e4⟩ := Sl.ch (HVr.out.below hbv7) HX.out
            simp only [Option.some.injEq, Addr.mk.injEq, and_true] at hex
            obtain ⟨rfl, rfl⟩ := hex
            have hwc : IntKind.i64.wrap (((cntF (cs.take j) (fun c => c.2.1) i : Nat) : Int) + 1) = ((cntF (cs.take j) (fun c => c.2.1) i : Nat) : Int) + 1 := IntWalk.i64_in _ (by omega)
            go_wp2_with fail
            have g0 := cell_rg e2 hb'
            have g1 := K7.out.regrown
            rcases H2.out with ⟨q0, q1, E2⟩ | ⟨q0 | ⟨q0, q1⟩, E2⟩
            · have HE2 := Lib.hid E2
              clear E2
              have d20 : decide (0 ≤ x.2.2.1) = true := decide_eq_true q0
              have d21 : decide (x.2.2.1 < (i : Int)) = true := decide_eq_true q1
              ((refine wp_region_quiet_below (by kernel_rfl) (by kernel_rfl) ?_); (repeat (go_big_quiet_step (fail))); (refine wpQuiet_nil ?_); (intro _ hw'); (obtain ⟨⟨dq, osq⟩, hw''⟩ := hw'); (subst hw''); (have hb9 := below_regrown w7 dq osq); (generalize Go.Sort.grow (redrawn w7 dq) osq = w9 at *); (have hz9 := hb9.size))
              clear g0 g1 hc7 hf7 hl7 hn7 hm7 e0 e1 e2 e3 e4
              have hwd : IntKind.i64.wrap (((cntF (cs.take j) (fun c => c.2.2.1) i : Nat) : Int) + 1) = ((cntF (cs.take j) (fun c => c.2.2.1) i : Nat) : Int) + 1 := IntWalk.i64_in _ (by omega)
              go_wp2_with fail
              go_roundw
              case rel => exact ⟨j + 1, by omega, by go_num, by rw [HE1.out]; simp, by rw [HE2.out]; simp, hbv7.trans (hb9.mono hvz7)⟩
              case measure => simp [intOf]; omega
            · have HE2 := Lib.hid E2
              clear E2
              have d20 : decide (0 ≤ x.2.2.1) = false := decide_eq_false (by omega)
              ((refine wp_region_quiet_below (by kernel_rfl) (by kernel_rfl) ?_); (repeat (go_big_quiet_step (fail))); (refine wpQuiet_nil ?_); (intro _ hw'); (obtain ⟨⟨dq, osq⟩, hw''⟩ := hw'); (subst hw''); (have hb9 := below_regrown w7 dq osq); (generalize Go.Sort.grow (redrawn w7 dq) osq = w9 at *); (have hz9 := hb9.size))
              clear g0 g1 hc7 hf7 hl7 hn7 hm7 e0 e1 e2 e3 e4
              go_wp2_with fail
              go_roundw
              case rel => exact ⟨j + 1, by omega, by go_num, by rw [HE1.out]; simp, by rw [HE2.out], hbv7.trans (hb9.mono hvz7)⟩
              case measure => simp [intOf]; omega
            · have HE2 := Lib.hid E2
              clear E2
              have d20 : decide (0 ≤ x.2.2.1) = true := decide_eq_true q0
              have d21 : decide (x.2.2.1 < (i : Int)) = false := decide_eq_false (by omega)
              ((refine wp_region_quiet_below (by kernel_rfl) (by kernel_rfl) ?_); (repeat (go_big_quiet_step (fail))); (refine wpQuiet_nil ?_); (intro _ hw'); (obtain ⟨⟨dq, osq⟩, hw''⟩ := hw'); (subst hw''); (have hb9 := below_regrown w7 dq osq); (generalize Go.Sort.grow (redrawn w7 dq) osq = w9 at *); (have hz9 := hb9.size))
              clear g0 g1 hc7 hf7 hl7 hn7 hm7 e0 e1 e2 e3 e4
              go_wp2_with fail
              go_roundw
              case rel => exact ⟨j + 1, by omega, by go_num, by rw [HE1.out]; simp, by rw [HE2.out], hbv7.trans (hb9.mono hvz7)⟩
              case measure => simp [intOf]; omega
          · have HE1 := Lib.hid E1
            clear E1
            have d10 : decide (0 ≤ x.2.1) = false := decide_eq_false (by omega)
            have g0 := cell_rg e1 hb
            have g1 := K4.out.regrown
            go_wp2_with fail
            ((refine wp_region_quiet_below (by kernel_rfl) (by kernel_rfl) ?_); (repeat (go_big_quiet_step (fail))); (refine wpQuiet_nil ?_); (intro _ hw'); (obtain ⟨⟨dq, osq⟩, hw''⟩ := hw'); (subst hw''); (have hb7 := below_regrown wr dq osq); (generalize Go.Sort.grow (redrawn wr dq) osq = w7 at *); (have hz7 := hb7.size))
            have hbv7 : Below wA.heap.size wA w7 := hbv.trans (hb7.mono hvz)
            have hvz7 := hbv7.size
            ((have b7 := K4.out.below hb7 K4.out.lt); (obtain ⟨hc7, hf7, hl7, hn7, hm7⟩ := b7.rules); (have K7 := Lib.hid b7); (clear b7))
            clear g0 g1 hc4 hf4 hl4 hn4 hm4 e0 e1 e2 e3 e4
            obtain ⟨_, _, hex, hb', e0, e1, e2, e3, e4⟩ := Sl.ch (HVr.out.below hbv7) HX.out
            simp only [Option.some.injEq, Addr.mk.injEq, and_true] at hex
            obtain ⟨rfl, rfl⟩ := hex
            go_wp2_with fail
            have g0 := cell_rg e2 hb'
            have g1 := K7.out.regrown
            rcases H2.out with ⟨q0, q1, E2⟩ | ⟨q0 | ⟨q0, q1⟩, E2⟩
            · have HE2 := Lib.hid E2
              clear E2
              have d20 : decide (0 ≤ x.2.2.1) = true := decide_eq_true q0
              have d21 : decide (x.2.2.1 < (i : Int)) = true := decide_eq_true q1
              ((refine wp_region_quiet_below (by kernel_rfl) (by kernel_rfl) ?_); (repeat (go_big_quiet_step (fail))); (refine wpQuiet_nil ?_); (intro _ hw'); (obtain ⟨⟨dq, osq⟩, hw''⟩ := hw'); (subst hw''); (have hb9 := below_regrown w7 dq osq); (generalize Go.Sort.grow (redrawn w7 dq) osq = w9 at *); (have hz9 := hb9.size))
              clear g0 g1 hc7 hf7 hl7 hn7 hm7 e0 e1 e2 e3 e4
              have hwd : IntKind.i64.wrap (((cntF (cs.take j) (fun c => c.2.2.1) i : Nat) : Int) + 1) = ((cntF (cs.take j) (fun c => c.2.2.1) i : Nat) : Int) + 1 := IntWalk.i64_in _ (by omega)
              go_wp2_with fail
              go_roundw
              case rel => exact ⟨j + 1, by omega, by go_num, by rw [HE1.out], by rw [HE2.out]; simp, hbv7.trans (hb9.mono hvz7)⟩
              case measure => simp [intOf]; omega
            · have HE2 := Lib.hid E2
              clear E2
              have d20 : decide (0 ≤ x.2.2.1) = false := decide_eq_false (by omega)
              ((refine wp_region_quiet_below (by kernel_rfl) (by kernel_rfl) ?_); (repeat (go_big_quiet_step (fail))); (refine wpQuiet_nil ?_); (intro _ hw'); (obtain ⟨⟨dq, osq⟩, hw''⟩ := hw'); (subst hw''); (have hb9 := below_regrown w7 dq osq); (generalize Go.Sort.grow (redrawn w7 dq) osq = w9 at *); (have hz9 := hb9.size))
              clear g0 g1 hc7 hf7 hl7 hn7 hm7 e0 e1 e2 e3 e4
              go_wp2_with fail
              go_roundw
              case rel => exact ⟨j + 1, by omega, by go_num, by rw [HE1.out], by rw [HE2.out], hbv7.trans (hb9.mono hvz7)⟩
              case measure => simp [intOf]; omega
            · have HE2 := Lib.hid E2
              clear E2
              have d20 : decide (0 ≤ x.2.2.1) = true := decide_eq_true q0
              have d21 : decide (x.2.2.1 < (i : Int)) = false := decide_eq_false (by omega)
              ((refine wp_region_quiet_below (by kernel_rfl) (by kernel_rfl) ?_); (repeat (go_big_quiet_step (fail))); (refine wpQuiet_nil ?_); (intro _ hw'); (obtain ⟨⟨dq, osq⟩, hw''⟩ := hw'); (subst hw''); (have hb9 := below_regrown w7 dq osq); (generalize Go.Sort.grow (redrawn w7 dq) osq = w9 at *); (have hz9 := hb9.size))
              clear g0 g1 hc7 hf7 hl7 hn7 hm7 e0 e1 e2 e3 e4
              go_wp2_with fail
              go_roundw
              case rel => exact ⟨j + 1, by omega, by go_num, by rw [HE1.out], by rw [HE2.out], hbv7.trans (hb9.mono hvz7)⟩
              case measure => simp [intOf]; omega
          · have HE1 := Lib.hid E1
            clear E1
            have d10 : decide (0 ≤ x.2.1) = true := decide_eq_true p0
            have d11 : decide (x.2.1 < (i : Int)) = false := decide_eq_false (by omega)
            have g0 := cell_rg e1 hb
            have g1 := K4.out.regrown
            go_wp2_with fail
            ((refine wp_region_quiet_below (by kernel_rfl) (by kernel_rfl) ?_); (repeat (go_big_quiet_step (fail))); (refine wpQuiet_nil ?_); (intro _ hw'); (obtain ⟨⟨dq, osq⟩, hw''⟩ := hw'); (subst hw''); (have hb7 := below_regrown wr dq osq); (generalize Go.Sort.grow (redrawn wr dq) osq = w7 at *); (have hz7 := hb7.size))
            have hbv7 : Below wA.heap.size wA w7 := hbv.trans (hb7.mono hvz)
            have hvz7 := hbv7.size
            ((have b7 := K4.out.below hb7 K4.out.lt); (obtain ⟨hc7, hf7, hl7, hn7, hm7⟩ := b7.rules); (have K7 := Lib.hid b7); (clear b7))
            clear g0 g1 hc4 hf4 hl4 hn4 hm4 e0 e1 e2 e3 e4
            obtain ⟨_, _, hex, hb', e0, e1, e2, e3, e4⟩ := Sl.ch (HVr.out.below hbv7) HX.out
            simp only [Option.some.injEq, Addr.mk.injEq, and_true] at hex
            obtain ⟨rfl, rfl⟩ := hex
            go_wp2_with fail
            have g0 := cell_rg e2 hb'
            have g1 := K7.out.regrown
            rcases H2.out with ⟨q0, q1, E2⟩ | ⟨q0 | ⟨q0, q1⟩, E2⟩
            · have HE2 := Lib.hid E2
              clear E2
              have d20 : decide (0 ≤ x.2.2.1) = true := decide_eq_true q0
              have d21 : decide (x.2.2.1 < (i : Int)) = true := decide_eq_true q1
              ((refine wp_region_quiet_below (by kernel_rfl) (by kernel_rfl) ?_); (repeat (go_big_quiet_step (fail))); (refine wpQuiet_nil ?_); (intro _ hw'); (obtain ⟨⟨dq, osq⟩, hw''⟩ := hw'); (subst hw''); (have hb9 := below_regrown w7 dq osq); (generalize Go.Sort.grow (redrawn w7 dq) osq = w9 at *); (have hz9 := hb9.size))
              clear g0 g1 hc7 hf7 hl7 hn7 hm7 e0 e1 e2 e3 e4
              have hwd : IntKind.i64.wrap (((cntF (cs.take j) (fun c => c.2.2.1) i : Nat) : Int) + 1) = ((cntF (cs.take j) (fun c => c.2.2.1) i : Nat) : Int) + 1 := IntWalk.i64_in _ (by omega)
              go_wp2_with fail
              go_roundw
              case rel => exact ⟨j + 1, by omega, by go_num, by rw [HE1.out], by rw [HE2.out]; simp, hbv7.trans (hb9.mono hvz7)⟩
              case measure => simp [intOf]; omega
            · have HE2 := Lib.hid E2
              clear E2
              have d20 : decide (0 ≤ x.2.2.1) = false := decide_eq_false (by omega)
              ((refine wp_region_quiet_below (by kernel_rfl) (by kernel_rfl) ?_); (repeat (go_big_quiet_step (fail))); (refine wpQuiet_nil ?_); (intro _ hw'); (obtain ⟨⟨dq, osq⟩, hw''⟩ := hw'); (subst hw''); (have hb9 := below_regrown w7 dq osq); (generalize Go.Sort.grow (redrawn w7 dq) osq = w9 at *); (have hz9 := hb9.size))
              clear g0 g1 hc7 hf7 hl7 hn7 hm7 e0 e1 e2 e3 e4
              go_wp2_with fail
              go_roundw
              case rel => exact ⟨j + 1, by omega, by go_num, by rw [HE1.out], by rw [HE2.out], hbv7.trans (hb9.mono hvz7)⟩
              case measure => simp [intOf]; omega
            · have HE2 := Lib.hid E2
              clear E2
              have d20 : decide (0 ≤ x.2.2.1) = true := decide_eq_true q0
              have d21 : decide (x.2.2.1 < (i : Int)) = false := decide_eq_false (by omega)
              ((refine wp_region_quiet_below (by kernel_rfl) (by kernel_rfl) ?_); (repeat (go_big_quiet_step (fail))); (refine wpQuiet_nil ?_); (intro _ hw'); (obtain ⟨⟨dq, osq⟩, hw''⟩ := hw'); (subst hw''); (have hb9 := below_regrown w7 dq osq); (generalize Go.Sort.grow (redrawn w7 dq) osq = w9 at *); (have hz9 := hb9.size))
              clear g0 g1 hc7 hf7 hl7 hn7 hm7 e0 e1 e2 e3 e4
              go_wp2_with fail
              go_roundw
              case rel => exact ⟨j + 1, by omega, by go_num, by rw [HE1.out], by rw [HE2.out], hbv7.trans (hb9.mono hvz7)⟩
              case measure => simp [intOf]; omega
        · obtain rfl : j = cs.length := by omega
          rw [List.take_length]
          go_wp2_with fail
          go_ret
          exact ⟨by simp, hbwr.trans (hbv.mono hwrz)⟩
end Go.Proofs.Ytmcaeahjnhkbcaa
