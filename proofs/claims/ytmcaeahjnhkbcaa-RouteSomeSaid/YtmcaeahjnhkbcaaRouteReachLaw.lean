/- The law RouteReach: its walk. Conditions: what came in is shaped. -/
import Derived.Test.YtmcaeahjnhkbcaaRouteOwn
namespace Go.Proofs.Ytmcaeahjnhkbcaa
open Go Go.RowKit Go.Tm
set_option linter.unusedVariables false
set_option linter.unusedSimpArgs false

theorem mem_step {l : List Int} {i : Nat} {x y : Int} (hx : l[i]? = some x) : decide (y ∈ l.take (i + 1)) = (decide (y ∈ l.take i) || decide (x = y)) := by
  rw [take_step hx, Bool.eq_iff_iff]
  simp only [List.mem_append, List.mem_singleton, decide_eq_true_eq, Bool.or_eq_true]
  constructor
  · rintro (h | h)
    · exact .inl h
    · exact .inr h.symm
  · rintro (h | h)
    · exact .inl h
    · exact .inr h.symm
theorem rises_at {l : List Int} (h : l.Pairwise (· < ·)) {k : Nat} {x y : Int} (hx : l[k]? = some x) (hy : l[k + 1]? = some y) : x < y := by
  obtain ⟨h1, e1⟩ := List.getElem?_eq_some_iff.1 hx
  obtain ⟨h2, e2⟩ := List.getElem?_eq_some_iff.1 hy
  rw [← e1, ← e2]
  exact List.pairwise_iff_getElem.1 h k (k + 1) h1 h2 (by omega)

set_option maxRecDepth 100000 in
set_option maxHeartbeats 8000000 in
theorem routeReach_walk (pa : Option Addr) (np pc : Nat) (fr : Int) (wa : Option Addr) (wn wc : Nat) (cv : Value) (cs : List Ch) (part idx : Int) (w : World) (hv : Sl w true 5 cv (chs cs)) (hw : ∀ x ∈ cs, ChWf x) (hby : cs.length * 40 ≤ 140737488355328) (hnp : np * 32 ≤ 140737488355328)
    (hp : (Lit.int .i64 part).wf = true) :
    Calls Try.prog 4 #[.agg #[.slice pa np pc, .int .i64 fr, .slice wa wn wc, cv], .int .i64 part, .int .i64 idx] w fun e w' => e = .returned (.bool true) ∧ Below w.heap.size w w' := by
  have HV := Lib.hid hv
  have HF := Lib.hid (fun W h => few_any pa np pc fr (.slice wa wn wc) cv cs W h)
  have HR := Lib.hid (fun x W h hx => reach_any pa np pc fr (.slice wa wn wc) cv cs x W h hw hx hby hnp)
  have HRP := Lib.hid (fun W h => reach_any pa np pc fr (.slice wa wn wc) cv cs part W h hw hp hby hnp)
  have HSELF := Lib.hid (fun h => reachS_self (n := np) (cs := cs) (part := part) h)
  have HRISE := Lib.hid (reachS_rises (n := np) (cs := cs) (part := part))
  have HTR := Lib.hid (fun x y hx hy => reachS_trans (n := np) (cs := cs) (part := part) (x := x) (y := y) hx hy)
  have HOKS := Lib.hid (fun x hx => reachS_ok (n := np) (cs := cs) (part := part) (x := x) hx)
  obtain ⟨a, cap, rfl, hl⟩ := hv.shape
  rw [chs_len] at hl HV HF HR HRP ⊢
  clear hv hw hp
  generalize reachS np cs part = L at *
  go_enter Try.func4, Try.ntmps4
  ((go_wp2_with fail); (with_reducible refine (shown_any _).mono ?_); (rintro e w1 ⟨rfl, hb1⟩); (have hz1 := hb1.size); (try simp only [World.size_alloc, World.size_setCell] at hz1))
  (have b1 : Box w1 w.heap.size #[.slice pa np pc, .int .i64 fr, .slice wa wn wc, .slice a cs.length cap] 26 := (by (try have k1 := (Lib.hid True.intro).out); ((apply Box.cast); (repeat (first | with_reducible assumption | ((with_reducible apply Box.new1); (first | with_reducible rfl | rfl | (solve | simp))) | with_reducible apply Box.drewN | with_reducible apply Box.drew | with_reducible apply Box.set | with_reducible apply Box.other | with_reducible apply Box.alloc | (with_reducible apply Box.below; rotate_left; with_reducible assumption; rotate_right) | with_reducible rfl | omega | (dsimp only; omega) | (simp only [drew_heap', drewN_heap', World.size_alloc, World.size_setCell]; omega) | rfl | (solve | simp) | (solve | (simp; omega))))))); (obtain ⟨hc1, hf1, hl1, hn1, hm1⟩ := b1.rules); (have K1 := Lib.hid b1); (clear b1)
  have hbw1 : Below w.heap.size w w1 := by (repeat (first | with_reducible assumption | with_reducible exact Below.refl _ _ | with_reducible refine Below.setCell ?_ ?_ _ | with_reducible refine Below.alloc ?_ ?_ _ | with_reducible refine below_drewN' ?_ _ | with_reducible refine Below.drew ?_ | with_reducible refine Below.trans ?_ (Below.mono (by assumption) ?_) | omega | (dsimp only; omega) | (simp only [drew_heap', drewN_heap', World.size_alloc, World.size_setCell]; omega) | (solve | simp) | (solve | (simp; omega))))
  clear hb1
  go_wp2_with fail
  with_reducible refine (HF.out _ (HV.out.below hbw1)).mono ?_
  rintro e w2 ⟨rfl, hb2⟩
  ((have b2 := K1.out.below hb2 K1.out.lt); (obtain ⟨hc2, hf2, hl2, hn2, hm2⟩ := b2.rules); (have K2 := Lib.hid b2); (clear b2))
  have hbw2 : Below w.heap.size w w2 := hbw1.trans (hb2.mono hbw1.size)
  have hz2 := hbw2.size
  clear hb2 K1 hc1 hf1 hl1 hn1 hm1
  go_wp2_with fail
  with_reducible refine (HRP.out _ (HV.out.below hbw2)).mono ?_
  rintro e w3 ⟨v3, rfl, ho3, hb3⟩
  ((have b3 := K2.out.below hb3 K2.out.lt); (obtain ⟨hc3, hf3, hl3, hn3, hm3⟩ := b3.rules); (have K3 := Lib.hid b3); (clear b3))
  have hbw3 : Below w.heap.size w w3 := hbw2.trans (hb3.mono hz2)
  have hz3 := hbw3.size
  obtain ⟨a3, k3, hv3, hl63⟩ := ho3.sl.shape
  rw [ints_len] at hv3 hl63
  subst hv3
  have HL3 := Lib.hid ho3.sl
  clear hb3 ho3 hc2 hf2 hl2 hn2 hm2 K2
  by_cases hfew : cs.length ≤ 50 ∧ np ≤ 50
  rotate_left
  · rw [few_false hfew]
    clear hfew
    go_wp2_with fail
    go_ret
    exact ⟨by simp, hbw3⟩
  rw [show (decide (cs.length ≤ 50) && decide (np ≤ 50)) = true by simp [hfew.1, hfew.2]]
  clear hfew
  by_cases hp0 : part < 0
  · have d0 : decide (part < 0) = true := decide_eq_true hp0
    go_wp2_with fail
    go_ret
    exact ⟨by simp, hbw3⟩
  have d0 : decide (part < 0) = false := decide_eq_false hp0
  by_cases hp1 : (np : Int) ≤ part
  · have d1 : decide ((np : Int) ≤ part) = true := decide_eq_true hp1
    go_wp2_with fail
    go_ret
    exact ⟨by simp, hbw3⟩
  have d1 : decide ((np : Int) ≤ part) = false := decide_eq_false hp1
  by_cases hi0 : idx < 0
  · have d2 : decide (idx < 0) = true := decide_eq_true hi0
    go_wp2_with fail
    go_ret
    exact ⟨by simp, hbw3⟩
  have d2 : decide (idx < 0) = false := decide_eq_false hi0
  by_cases hi1 : (L.length : Int) ≤ idx
  · have d3 : decide ((L.length : Int) ≤ idx) = true := decide_eq_true hi1
    go_wp2_with fail
    go_ret
    exact ⟨by simp, hbw3⟩
  have d3 : decide ((L.length : Int) ≤ idx) = false := decide_eq_false hi1
  have HSE := Lib.hid (HSELF.out (okN_true (by omega) (by omega)))
  obtain ⟨q, rfl⟩ : ∃ q : Nat, idx = q := ⟨idx.toNat, by omega⟩
  have hql : q < L.length := by omega
  have d3' : decide (L.length ≤ q) = false := decide_eq_false (by omega)
  have d2' : decide ((q : Int) < 0) = false := decide_eq_false (by omega)
  clear hi0 hi1 hp0 hp1 HSELF
  go_wp2_with fail
  clear hc3 hf3 hl3 hn3 hm3 d0 d1 d2 d3 d3' d2'
  go_loopw [10, 11] (fun o t W => ∃ (j : Nat) (d : Bool), j ≤ L.length ∧ t = .int .i64 j ∧ o = .bool d ∧ Hid (d = decide (part ∈ L.take j)) ∧ Below w3.heap.size w3 W) (fun _ t _ => L.length - (intOf t).toNat)
  case atStart => exact ⟨0, false, Nat.zero_le _, rfl, rfl, Lib.hid (by simp), Below.refl _ _⟩
  case round =>
    obtain ⟨j, d, hj, rfl, rfl, HD, hbw⟩ := hrel
    have hwz := hbw.size
    by_cases hlt : j < L.length
    · obtain ⟨x, hx⟩ : ∃ x, L[j]? = some x := ⟨_, List.getElem?_eq_getElem hlt⟩
      obtain ⟨b, off, rfl, hb, e0⟩ := Sl.int (HL3.out.below hbw) hx
      have HM := Lib.hid (mem_step (y := part) hx)
      have hwj : IntKind.i64.wrap ((j : Int) + 1) = j + 1 := IntWalk.i64_in _ (by omega)
      obtain ⟨d', hd', hcase⟩ : ∃ d' : Bool, Hid (d' = decide (part ∈ L.take (j + 1))) ∧ ((d = true ∧ d' = true) ∨ (d = false ∧ (x == part) = d')) := by
        refine ⟨decide (part ∈ L.take (j + 1)), Lib.hid rfl, ?_⟩
        rw [HM.out, ← HD.out]
        cases d
        · right; exact ⟨rfl, by rw [Bool.eq_iff_iff]; simp⟩
        · left; exact ⟨rfl, by simp⟩
      have HX := Lib.hid hx
      have hcase2 : (j = 0) ∨ ∃ k z, j = k + 1 ∧ L[k]? = some z ∧ z < x := by
        rcases Nat.eq_zero_or_pos j with h0 | h0
        · exact .inl h0
        · obtain ⟨k, rfl⟩ : ∃ k, j = k + 1 := ⟨j - 1, by omega⟩
          obtain ⟨z, hz⟩ : ∃ z, L[k]? = some z := ⟨_, List.getElem?_eq_getElem (by omega)⟩
          exact .inr ⟨k, z, rfl, hz, rises_at HRISE.out hz hx⟩
      clear hx
      rcases hcase2 with rfl | ⟨k, z, rfl, hz, hzx⟩
      · simp only [Nat.add_zero] at e0
        rcases hcase with ⟨rfl, rfl⟩ | ⟨rfl, hxp⟩
        · have g0 := cell_rg e0 hb
          go_wp2_with fail
          ((refine wp_region_quiet_below (by kernel_rfl) (by kernel_rfl) ?_); (repeat (go_big_quiet_step (fail))); (refine wpQuiet_nil ?_); (intro _ hw'); (obtain ⟨⟨dq, osq⟩, hw''⟩ := hw'); (subst hw''); (have hb7 := below_regrown wr dq osq); (generalize Go.Sort.grow (redrawn wr dq) osq = w7 at *); (have hz7 := hb7.size))
          clear g0
          go_wp2_with fail
          go_roundw
          case rel => exact ⟨0 + 1, true, by omega, by go_num, rfl, hd', hbw.trans (hb7.mono hwz)⟩
          case measure => simp [intOf]; omega
        · have g0 := cell_rg e0 hb
          go_wp2_with fail
          ((refine wp_region_quiet_below (by kernel_rfl) (by kernel_rfl) ?_); (repeat (go_big_quiet_step (fail))); (refine wpQuiet_nil ?_); (intro _ hw'); (obtain ⟨⟨dq, osq⟩, hw''⟩ := hw'); (subst hw''); (have hb7 := below_regrown wr dq osq); (generalize Go.Sort.grow (redrawn wr dq) osq = w7 at *); (have hz7 := hb7.size))
          clear g0
          go_wp2_with fail
          go_roundw
          case rel => exact ⟨0 + 1, d', by omega, by go_num, rfl, hd', hbw.trans (hb7.mono hwz)⟩
          case measure => simp [intOf]; omega
      · obtain ⟨_, _, he2, hb2, e1⟩ := Sl.int (HL3.out.below hbw) hz
        simp only [Option.some.injEq, Addr.mk.injEq, and_true] at he2
        obtain ⟨rfl, rfl⟩ := he2
        have hgt : decide ((0 : Int) < (k : Int) + 1) = true := decide_eq_true (by omega)
        have hgt2 : decide (0 < k + 1) = true := by simp
        have hws1 : IntKind.i64.wrap ((k : Int) + 1 - 1) = k := by rw [IntWalk.i64_in _ (by omega)]; omega
        have hlt' : (k : Int) + 1 < L.length := by omega
        have hge : decide (x ≤ z) = false := decide_eq_false (by omega)
        have hkl : k < L.length := by omega
        have g0 := cell_rg e0 hb
        have g1 := cell_rg e1 hb2
        clear hz hzx
        rcases hcase with ⟨rfl, rfl⟩ | ⟨rfl, hxp⟩
        · go_wp2_with fail
          ((refine wp_region_quiet_below (by kernel_rfl) (by kernel_rfl) ?_); (repeat (go_big_quiet_step (fail))); (refine wpQuiet_nil ?_); (intro _ hw'); (obtain ⟨⟨dq, osq⟩, hw''⟩ := hw'); (subst hw''); (have hb7 := below_regrown wr dq osq); (generalize Go.Sort.grow (redrawn wr dq) osq = w7 at *); (have hz7 := hb7.size))
          clear g0 g1
          go_wp2_with fail
          go_roundw
          case rel => exact ⟨k + 1 + 1, true, by omega, by go_num, rfl, hd', hbw.trans (hb7.mono hwz)⟩
          case measure => simp [intOf]; omega
        · go_wp2_with fail
          ((refine wp_region_quiet_below (by kernel_rfl) (by kernel_rfl) ?_); (repeat (go_big_quiet_step (fail))); (refine wpQuiet_nil ?_); (intro _ hw'); (obtain ⟨⟨dq, osq⟩, hw''⟩ := hw'); (subst hw''); (have hb7 := below_regrown wr dq osq); (generalize Go.Sort.grow (redrawn wr dq) osq = w7 at *); (have hz7 := hb7.size))
          clear g0 g1
          go_wp2_with fail
          go_roundw
          case rel => exact ⟨k + 1 + 1, d', by omega, by go_num, rfl, hd', hbw.trans (hb7.mono hwz)⟩
          case measure => simp [intOf]; omega
    · obtain rfl : j = L.length := by omega
      obtain rfl : d = true := by rw [HD.out, List.take_length]; exact decide_eq_true HSE.out
      obtain ⟨x, hx⟩ : ∃ x, L[q]? = some x := ⟨_, List.getElem?_eq_getElem hql⟩
      have hxo := okN_iff.1 (HOKS.out x (List.mem_of_getElem? hx))
      have HRX := Lib.hid (fun W h => HR.out x W h (wf_of (by omega)))
      have HSUB := Lib.hid (fun y hy => HTR.out x y (List.mem_of_getElem? hx) hy)
      obtain ⟨b, off, rfl, hb, e0⟩ := Sl.int (HL3.out.below hbw) hx
      have hbwr : Below w.heap.size w wr := hbw3.trans (hbw.mono hz3)
      have K4 := Lib.hid (K3.out.below hbw K3.out.lt)
      generalize reachS np cs x = M at *
      clear hx hxo HSE
      have hge2 : decide (L.length ≤ L.length) = true := by simp
      go_wp2_with fail
      have g0 := cell_rg e0 hb
      have g1 := K4.out.regrown
      ((refine wp_region_below_tail 5 (by kernel_rfl) (by kernel_rfl) ?_); (simp only [List.take_succ_cons, List.take_zero, List.drop_succ_cons, List.drop_zero]); (repeat (go_big_quiet_step (fail))); (refine wpQuiet_nil ?_); (intro _ hw'); (obtain ⟨⟨dq, osq⟩, hw''⟩ := hw'); (subst hw''); (have hq5 := below_regrown wr dq osq); (generalize Go.Sort.grow (redrawn wr dq) osq = w5 at *); (have hz5 := hq5.size))
      clear g0 g1
      have hbw5 : Below w.heap.size w w5 := hbwr.trans (hq5.mono hbwr.size)
      go_wp2_with fail
      with_reducible refine (HRX.out _ (HV.out.below hbw5)).mono ?_
      rintro e w6 ⟨v6, rfl, ho6, hb6⟩
      have hbw6 : Below w.heap.size w w6 := hbw5.trans (hb6.mono hbw5.size)
      have hz6 := hbw6.size
      obtain ⟨a6, k6, hv6, hm63⟩ := ho6.sl.shape
      rw [ints_len] at hv6 hm63
      subst hv6
      have HM6 := Lib.hid ho6.sl
      have HL6 := Lib.hid ((HL3.out.below (hbw.trans (hq5.mono hwz))).below hb6)
      clear ho6 hb6
      go_wp2_with fail
      go_loopw [13, 14, 15] (fun t _ _ W => ∃ n : Nat, n ≤ M.length ∧ t = .int .i64 n ∧ Below w6.heap.size w6 W) (fun t _ _ _ => M.length - (intOf t).toNat)
      case atStart => exact ⟨0, Nat.zero_le _, rfl, Below.refl _ _⟩
      case round =>
        obtain ⟨n, hn, rfl, hbv⟩ := hrel
        have hvz := hbv.size
        by_cases hnl : n < M.length
        · obtain ⟨y, hy⟩ : ∃ y, M[n]? = some y := ⟨_, List.getElem?_eq_getElem hnl⟩
          have HYL := Lib.hid (HSUB.out y (List.mem_of_getElem? hy))
          have HY := Lib.hid hy
          have hwn : IntKind.i64.wrap ((n : Int) + 1) = n + 1 := IntWalk.i64_in _ (by omega)
          obtain ⟨b2, off2, rfl, hb2, -⟩ := Sl.int (HM6.out.below hbv) hy
          clear hy
          go_wp2_with fail
          obtain ⟨wA, hwA⟩ : ∃ wA, wA = wr := ⟨_, rfl⟩
          subst hwA
          go_loopw [14, 15] (fun o t W => ∃ (k : Nat) (d : Bool), k ≤ L.length ∧ t = .int .i64 k ∧ o = .bool d ∧ Hid (d = decide (y ∈ L.take k)) ∧ Below w6.heap.size w6 W) (fun _ t _ => L.length - (intOf t).toNat)
          case atStart => exact ⟨0, false, Nat.zero_le _, rfl, rfl, Lib.hid (by simp), hbv⟩
          case round =>
            obtain ⟨k, d, hk, rfl, rfl, HD2, hbu⟩ := hrel
            have huz := hbu.size
            by_cases hkl : k < L.length
            · obtain ⟨z, hz⟩ : ∃ z, L[k]? = some z := ⟨_, List.getElem?_eq_getElem hkl⟩
              obtain ⟨_, _, he2, hb3, e3⟩ := Sl.int (HL6.out.below hbu) hz
              simp only [Option.some.injEq, Addr.mk.injEq, and_true] at he2
              obtain ⟨rfl, rfl⟩ := he2
              obtain ⟨_, _, he2, hb4, e4⟩ := Sl.int (HM6.out.below hbu) HY.out
              simp only [Option.some.injEq, Addr.mk.injEq, and_true] at he2
              obtain ⟨rfl, rfl⟩ := he2
              have HMS := Lib.hid (mem_step (y := y) hz)
              have hwk : IntKind.i64.wrap ((k : Int) + 1) = k + 1 := IntWalk.i64_in _ (by omega)
              obtain ⟨d', hd', hcase⟩ : ∃ d' : Bool, Hid (d' = decide (y ∈ L.take (k + 1))) ∧ ((d = true ∧ d' = true) ∨ (d = false ∧ (z == y) = d')) := by
                refine ⟨decide (y ∈ L.take (k + 1)), Lib.hid rfl, ?_⟩
                rw [HMS.out, ← HD2.out]
                cases d
                · right; exact ⟨rfl, by rw [Bool.eq_iff_iff]; simp⟩
                · left; exact ⟨rfl, by simp⟩
              have g0 := cell_rg e3 hb3
              have g1 := cell_rg e4 hb4
              clear hz
              rcases hcase with ⟨rfl, rfl⟩ | ⟨rfl, hzy⟩
              · go_wp2_with fail
                ((refine wp_region_quiet_below (by kernel_rfl) (by kernel_rfl) ?_); (repeat (go_big_quiet_step (fail))); (refine wpQuiet_nil ?_); (intro _ hw'); (obtain ⟨⟨dq, osq⟩, hw''⟩ := hw'); (subst hw''); (have hb7 := below_regrown wr dq osq); (generalize Go.Sort.grow (redrawn wr dq) osq = w7 at *); (have hz7 := hb7.size))
                clear g0 g1
                go_wp2_with fail
                go_roundw
                case rel => exact ⟨k + 1, true, by omega, by go_num, rfl, hd', hbu.trans (hb7.mono huz)⟩
                case measure => simp [intOf]; omega
              · go_wp2_with fail
                ((refine wp_region_quiet_below (by kernel_rfl) (by kernel_rfl) ?_); (repeat (go_big_quiet_step (fail))); (refine wpQuiet_nil ?_); (intro _ hw'); (obtain ⟨⟨dq, osq⟩, hw''⟩ := hw'); (subst hw''); (have hb7 := below_regrown wr dq osq); (generalize Go.Sort.grow (redrawn wr dq) osq = w7 at *); (have hz7 := hb7.size))
                clear g0 g1
                go_wp2_with fail
                go_roundw
                case rel => exact ⟨k + 1, d', by omega, by go_num, rfl, hd', hbu.trans (hb7.mono huz)⟩
                case measure => simp [intOf]; omega
            · obtain rfl : k = L.length := by omega
              obtain rfl : d = true := by rw [HD2.out, List.take_length]; exact decide_eq_true HYL.out
              go_wp2_with fail
              go_roundw
              case rel => exact ⟨n + 1, by omega, by go_num, hbu⟩
              case measure => simp [intOf]; omega
        · obtain rfl : n = M.length := by omega
          go_wp2_with fail
          go_ret
          exact ⟨by simp, hbw6.trans (hbv.mono hz6)⟩
end Go.Proofs.Ytmcaeahjnhkbcaa
