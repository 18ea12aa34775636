/- The law HeapDrops: its walk. Conditions: what came in is shaped. -/
import Derived.Test.YtdfkfoffinchhaaHeapShown
namespace Go.Proofs.Ytdfkfoffinchhaa
open Go Go.RowKit Go.Tm
set_option linter.unusedVariables false
set_option linter.unusedSimpArgs false

theorem dropS_step_in {l : List Sp} {who : Int} {i : Nat} {x : Sp} (hx : l[i]? = some x) (h : x.2.2 ≠ who) : dropS (l.take (i + 1)) who = dropS (l.take i) who ++ [x] := by
  unfold dropS; rw [take_step hx, List.filter_append]; simp [h]
theorem dropS_step_out {l : List Sp} {who : Int} {i : Nat} {x : Sp} (hx : l[i]? = some x) (h : x.2.2 = who) : dropS (l.take (i + 1)) who = dropS (l.take i) who := by
  unfold dropS; rw [take_step hx, List.filter_append]; simp [h]
theorem dropS_at {l : List Sp} {who : Int} {i : Nat} {x : Sp} (hx : l[i]? = some x) (h : x.2.2 ≠ who) : (dropS l who)[(dropS (l.take i) who).length]? = some x := by
  have e : dropS l who = dropS (l.take i) who ++ (x :: dropS (l.drop (i + 1)) who) := by
    conv => lhs; rw [← List.take_append_drop (i + 1) l]
    unfold dropS
    rw [List.filter_append, take_step hx, List.filter_append]
    simp [h]
  rw [e]; simp

set_option maxRecDepth 100000 in
set_option maxHeartbeats 4000000 in
theorem heapDrops_walk (size : Int) (v : Value) (l : List Sp) (who : Int) (w : World) (hv : Sl w true 3 v (sps l)) (hw : ∀ x ∈ l, SpWf x) (hby : l.length * 24 ≤ 140737488355328) :
    Calls Try.prog 6 #[.agg #[.int .i64 size, v], .int .i64 who] w fun e w' => e = .returned (.bool true) ∧ Below w.heap.size w w' := by
  have HV := Lib.hid hv
  have HD := Lib.hid (fun W h => drop_any size v l who W h hby)
  have HW := Lib.hid hw
  obtain ⟨a, cap, rfl, hl⟩ := hv.shape
  rw [sps_len] at hl HV HD ⊢
  clear hv hw
  go_enter Try.func6, Try.ntmps6
  ((go_wp2_with fail); (with_reducible refine (shown_any _).mono ?_); (rintro e w1 ⟨rfl, hb1⟩); (have hz1 := hb1.size); (try simp only [World.size_alloc, World.size_setCell] at hz1))
  (have b1 : Box w1 w.heap.size #[.int .i64 size, .slice a l.length cap] 24 := (by (try have k1 := (Lib.hid True.intro).out); ((apply Box.cast); (repeat (first | with_reducible assumption | ((with_reducible apply Box.new1); (first | with_reducible rfl | rfl | (solve | simp))) | with_reducible apply Box.drewN | with_reducible apply Box.drew | with_reducible apply Box.set | with_reducible apply Box.other | with_reducible apply Box.alloc | (with_reducible apply Box.below; rotate_left; with_reducible assumption; rotate_right) | with_reducible rfl | omega | (dsimp only; omega) | (simp only [drew_heap', drewN_heap', World.size_alloc, World.size_setCell]; omega) | rfl | (solve | simp) | (solve | (simp; omega))))))); (obtain ⟨hc1, hf1, hl1, hn1, hm1⟩ := b1.rules); (have K1 := Lib.hid b1); (clear b1)
  have hbw1 : Below w.heap.size w w1 := by (repeat (first | with_reducible assumption | with_reducible exact Below.refl _ _ | with_reducible refine Below.setCell ?_ ?_ _ | with_reducible refine Below.alloc ?_ ?_ _ | with_reducible refine below_drewN' ?_ _ | with_reducible refine Below.drew ?_ | with_reducible refine Below.trans ?_ (Below.mono (by assumption) ?_) | omega | (dsimp only; omega) | (simp only [drew_heap', drewN_heap', World.size_alloc, World.size_setCell]; omega) | (solve | simp) | (solve | (simp; omega))))
  clear hb1
  go_wp2_with fail
  with_reducible refine (HD.out _ (HV.out.below hbw1)).mono ?_
  rintro e w2 ⟨v2, rfl, hs2, hb2⟩
  have hz2 := hb2.size
  ((have b2 := K1.out.below hb2 K1.out.lt); (obtain ⟨hc2, hf2, hl2, hn2, hm2⟩ := b2.rules); (have K2 := Lib.hid b2); (clear b2))
  have hbw2 : Below w.heap.size w w2 := hbw1.trans (hb2.mono hbw1.size)
  obtain ⟨a2, k2, hv2, hml⟩ := hs2.shape
  rw [sps_len] at hml hv2
  subst hv2
  have HM0 := Lib.hid hs2
  clear hb2 hs2 K1 hc1 hf1 hl1 hn1 hm1
  have hdl := dropS_le l who
  go_wp2_with fail
  have hbA0 : Below w2.heap.size w2 (w2.alloc (.cells #[.int .i64 size, .slice a2 (dropS l who).length k2] 24)) := (Below.refl _ _).alloc (Nat.le_refl _) _
  have K3 : Hid (Box (w2.alloc (.cells #[.int .i64 size, .slice a2 (dropS l who).length k2] 24)) w2.heap.size #[.int .i64 size, .slice a2 (dropS l who).length k2] 24) := Lib.hid (Box.new _ _ _)
  have K4 : Hid (Box (w2.alloc (.cells #[.int .i64 size, .slice a2 (dropS l who).length k2] 24)) w.heap.size #[.int .i64 size, .slice a l.length cap] 24) := Lib.hid (K2.out.alloc _)
  have HM := Lib.hid (HM0.out.below hbA0)
  have hbA : Below w.heap.size w (w2.alloc (.cells #[.int .i64 size, .slice a2 (dropS l who).length k2] 24)) := hbw2.trans (hbA0.mono hbw2.size)
  have HVA := Lib.hid (HV.out.below hbA)
  clear K2 hc2 hf2 hl2 hn2 hm2 HM0 hbA0 hbw1 hbw2
  generalize w2.alloc (.cells #[.int .i64 size, .slice a2 (dropS l who).length k2] 24) = wA at *
  have hzA := hbA.size
  go_loopw [7, 8] (fun s t W => ∃ i : Nat, i ≤ l.length ∧ t = .int .i64 i ∧ s = .int .i64 ((dropS (l.take i) who).length : Nat) ∧ Below wA.heap.size wA W) (fun _ t _ => l.length - (intOf t).toNat)
  case atStart => exact ⟨0, Nat.zero_le _, rfl, rfl, Below.refl _ _⟩
  case round =>
    obtain ⟨i, hi, rfl, rfl, hbw⟩ := hrel
    have hwz := hbw.size
    ((have b5 := K3.out.below hbw K3.out.lt); (obtain ⟨hc5, hf5, hl5, hn5, hm5⟩ := b5.rules); (have K5 := Lib.hid b5); (clear b5))
    ((have b6 := K4.out.below hbw K4.out.lt); (obtain ⟨hc6, hf6, hl6, hn6, hm6⟩ := b6.rules); (have K6 := Lib.hid b6); (clear b6))
    have hcl : (dropS (l.take i) who).length ≤ l.length := Nat.le_trans (dropS_le _ _) (by rw [List.length_take]; omega)
    by_cases hlt : i < l.length
    · obtain ⟨x, hx⟩ : ∃ x, l[i]? = some x := ⟨_, List.getElem?_eq_getElem hlt⟩
      obtain ⟨b, off, rfl, hb, c0, c1, c2⟩ := Sl.sp (HVA.out.below hbw) hx
      have hwr : IntKind.i64.wrap ((i : Int) + 1) = i + 1 := IntWalk.i64_in _ (by omega)
      by_cases hq : x.2.2 = who
      · have HN := Lib.hid (dropS_step_out hx hq)
        have hqb : (x.2.2 == who) = true := by simpa using hq
        clear hx hq
        go_wp2_with fail
        go_roundw
        case rel => exact ⟨i + 1, by omega, by go_num, by rw [HN.out], hbw⟩
        case measure => simp [intOf]; omega
      · have HN := Lib.hid (dropS_step_in hx hq)
        have hat := dropS_at hx hq
        have hqb : (x.2.2 == who) = false := by simpa using hq
        have hcd := (List.getElem?_eq_some_iff.1 hat).1
        obtain ⟨b2, off2, rfl, hb2, e0, e1, e2⟩ := Sl.sp (HM.out.below hbw) hat
        have heq := eql_sp x x (HW.out x (List.mem_of_getElem? hx)) (HW.out x (List.mem_of_getElem? hx)) true (by simp)
        generalize hcc : (dropS (l.take i) who).length = c at *
        have HCC := Lib.hid hcc
        have hwc : IntKind.i64.wrap ((c : Int) + 1) = c + 1 := IntWalk.i64_in _ (by omega)
        have hge : decide (((dropS l who).length : Int) ≤ (c : Int)) = false := by simp; omega
        have hge2 : decide ((dropS l who).length ≤ c) = false := by simp; omega
        clear hx hq hat hcc
        go_wp2_with fail
        have g0 := cell_rg c0 hb
        have g1 := cell_rg c1 hb
        have g2 := cell_rg c2 hb
        have k0 := cell_rg e0 hb2
        have k1 := cell_rg e1 hb2
        have k2' := cell_rg e2 hb2
        have k5 := K5.out.regrown
        have k6 := K6.out.regrown
        ((refine wp_region_quiet_below (by kernel_rfl) (by kernel_rfl) ?_); (repeat (go_big_quiet_step (fail))); (refine wpQuiet_nil ?_); (intro _ hw'); (obtain ⟨⟨dq, osq⟩, hw''⟩ := hw'); (subst hw''); (have hb7 := below_regrown wr dq osq); (generalize Go.Sort.grow (redrawn wr dq) osq = w7 at *); (have hz7 := hb7.size))
        clear g0 g1 g2 k0 k1 k2' k5 k6
        go_wp2_with fail
        go_roundw
        case rel => exact ⟨i + 1, by omega, by go_num, by rw [HN.out, List.length_append, HCC.out]; rfl, hbw.trans (hb7.mono hwz)⟩
        case measure => simp [intOf]; omega
    · obtain rfl : i = l.length := by omega
      rw [List.take_length]
      go_wp2_with fail
      go_ret
      exact ⟨by simp, hbA.trans (hbw.mono hzA)⟩
end Go.Proofs.Ytdfkfoffinchhaa
