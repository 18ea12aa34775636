/- The reference's Holes, Left: what they answer. Conditions: lengths within the reach. -/
import Derived.Test.YtdfkfoffinchhaaHeapTake
namespace Go.Proofs.Ytdfkfoffinchhaa
open Go Go.RowKit Go.Tm
set_option linter.unusedVariables false
set_option linter.unusedSimpArgs false

set_option maxRecDepth 100000 in
set_option maxHeartbeats 4000000 in
theorem refHoles_any (size : Int) (v : Value) (l : List Sp) (w : World) (hv : Sl w true 3 v (sps l)) (hs : (Lit.int .i64 size).wf = true) (hw : ∀ x ∈ l, SpWf x) (hby : (l.length + 1) * 24 ≤ 140737488355328) :
    Calls Try.prog 13 #[.agg #[.int .i64 size, v]] w fun e w' => ∃ v', e = .returned v' ∧ Owned w' w.heap.size 31 true 3 v' (sps (holesB size l)) ∧ Below w.heap.size w w' := by
  have HV := Lib.hid hv
  have HR := Lib.hid (fun W h => refRight_any size v l W h hs hw)
  have hsz : -9223372036854775808 ≤ size ∧ size ≤ 9223372036854775807 := by simpa [Lit.wf, IntKind.min, IntKind.max, IntKind.bits, IntKind.signed] using hs
  obtain ⟨i0, hi0, hq0, hq1, hq2⟩ := info_parts info_span
  have HI := Lib.hid (And.intro hi0 (And.intro hq0 (And.intro hq1 hq2)))
  obtain ⟨a, cap, rfl, hl⟩ := hv.shape
  rw [sps_len] at hl HV HR ⊢
  clear hv hw hs hi0 hq0 hq1 hq2
  go_enter Try.func13, Try.ntmps13
  go_wp2_with fail
  with_reducible refine (HR.out _ (HV.out.below (by (repeat (first | with_reducible assumption | with_reducible exact Below.refl _ _ | with_reducible refine Below.setCell ?_ ?_ _ | with_reducible refine Below.alloc ?_ ?_ _ | with_reducible refine below_drewN' ?_ _ | with_reducible refine Below.drew ?_ | with_reducible refine Below.trans ?_ (Below.mono (by assumption) ?_) | omega | (dsimp only; omega) | (simp only [drew_heap', drewN_heap', World.size_alloc, World.size_setCell]; omega) | (solve | simp) | (solve | (simp; omega))))))).mono ?_
  rintro e w1 ⟨rfl, hb1⟩
  have hz1 := hb1.size
  simp only [World.size_alloc] at hz1
  have hbx : Box w1 w.heap.size #[.int .i64 size, .slice a l.length cap] 24 := (Box.new _ _ _).below hb1 (by simp)
  have hbw1 : Below w.heap.size w w1 := by (repeat (first | with_reducible assumption | with_reducible exact Below.refl _ _ | with_reducible refine Below.setCell ?_ ?_ _ | with_reducible refine Below.alloc ?_ ?_ _ | with_reducible refine below_drewN' ?_ _ | with_reducible refine Below.drew ?_ | with_reducible refine Below.trans ?_ (Below.mono (by assumption) ?_) | omega | (dsimp only; omega) | (simp only [drew_heap', drewN_heap', World.size_alloc, World.size_setCell]; omega) | (solve | simp) | (solve | (simp; omega))))
  obtain ⟨c1, f1, l1, n1, m1⟩ := hbx.rules
  have KB1 := Lib.hid hbx
  clear hb1 hbx
  by_cases hr : RightP size l
  rotate_left
  · rw [rightB_false hr]
    have HQ := Lib.hid (holesB_false hr)
    clear hr
    go_wp2_with fail
    go_ret
    exact ⟨_, rfl, by rw [HQ.out]; exact Owned.nil, hbw1⟩
  rw [rightB_true hr]
  have HQ := Lib.hid (holesB_true hr)
  have HRR := Lib.hid hr
  clear hr
  generalize hm : l ++ [(size, 0, 0)] = m
  have hml : m.length = l.length + 1 := by rw [← hm]; simp
  have HM := Lib.hid hm
  clear hm
  go_wp2_with fail
  clear c1 f1 l1 n1 m1
  go_loopw [4, 5, 6, 7] (fun u d t _ W => ∃ (i : Nat) (s : Value) (c : Int), i ≤ l.length + 1 ∧ s = u ∧ t = .int .i64 i ∧ d = .int .i64 c ∧ (i ≤ l.length → c = endG 0 (m.take i)) ∧ Below w1.heap.size w1 W ∧ Owned W w1.heap.size 31 true 3 u (sps (holesG 0 (m.take i)))) (fun _ _ t _ _ => l.length + 1 - (intOf t).toNat)
  case atStart => exact ⟨0, _, 0, by omega, rfl, rfl, rfl, fun _ => by simp [endG], Below.refl _ _, Owned.nil⟩
  case round =>
    obtain ⟨i, s, c, hi, rfl, rfl, rfl, hce, hbw, hown⟩ := hrel
    have hwz := hbw.size
    ((have b2 := KB1.out.below hbw KB1.out.lt); (obtain ⟨hc2, hf2, hl2, hn2, hm2⟩ := b2.rules); (have K2 := Lib.hid b2); (clear b2))
    have HO := Lib.hid hown
    clear hown
    by_cases hle : i ≤ l.length
    · obtain rfl := hce hle
      clear hce
      obtain ⟨x, hx⟩ : ∃ x, m[i]? = some x := ⟨_, List.getElem?_eq_getElem (by omega)⟩
      have hat := holes_at HRR.out (k := i) (x := x) (by rw [HM.out]; exact hx)
      rw [HM.out] at hat
      have HN := Lib.hid (holes_step (a := 0) hx)
      have HE := Lib.hid (end_next (a := 0) hx)
      have hlen := holes_len 0 (m.take i)
      rw [List.length_take] at hlen
      generalize endG 0 (m.take i) = c at *
      generalize holesG 0 (m.take i) = hs at *
      have hby2 : (hs.length + 1) * 24 ≤ 140737488355328 := by omega
      have hwr : IntKind.i64.wrap ((i : Int) + 1) = i + 1 := IntWalk.i64_in _ (by omega)
      have hhole : (hole c x = [(c, x.1 - c, 0)] ∧ c < x.1) ∨ (hole c x = [] ∧ ¬ c < x.1) := by
        unfold hole
        by_cases h : c < x.1
        · rw [if_pos h]; exact .inl ⟨rfl, h⟩
        · rw [if_neg h]; exact .inr ⟨rfl, h⟩
      by_cases hlt : i < l.length
      · have hx' : l[i]? = some x := by rw [← HM.out, List.getElem?_append_left hlt] at hx; exact hx
        obtain ⟨b, off, rfl, hb, c0, c1, c2⟩ := Sl.sp (HV.out.below (hbw1.trans (hbw.mono hbw1.size))) hx'
        have HX := Lib.hid hx'
        clear hx hx'
        obtain ⟨p, q, u⟩ := x
        dsimp only at hat c0 c1 c2 hhole
        have hws : IntKind.i64.wrap (p - c) = p - c := IntWalk.i64_in _ (by omega)
        have hwp : IntKind.i64.wrap (p + q) = p + q := IntWalk.i64_in _ (by omega)
        rcases hhole with ⟨hh, hc⟩ | ⟨hh, hc⟩
        · have HHH := Lib.hid hh
          clear hh
          go_wp2_with (first | (refine wpList_append_sl (v := s) (xs := sps hs) (base := w1.heap.size) rfl _ _ 22 rfl ty_span i0 (.agg #[.int .i64 0, .int .i64 0, .int .i64 0]) 24 Try.underlying22 HI.out.1 HI.out.2.1 HI.out.2.2.1 HI.out.2.2.2 rfl ?_ ?_ (.slice (some ⟨wr.heap.size, 0, none⟩) 1 1) ([spV (c, p - c, 0)]) ?_ ?_ ?_ ?_ ?_ ?_; (focus (solve | simp [Act.eval, Act.put])); (focus (exact (HO.out.kept (by (repeat (first | with_reducible assumption | with_reducible exact Below.refl _ _ | with_reducible refine Below.setCell ?_ ?_ _ | with_reducible refine Below.alloc ?_ ?_ _ | with_reducible refine below_drewN' ?_ _ | with_reducible refine Below.drew ?_ | with_reducible refine Below.trans ?_ (Below.mono (by assumption) ?_) | omega | (dsimp only; omega) | (simp only [drew_heap', drewN_heap', World.size_alloc, World.size_setCell]; omega) | (solve | simp) | (solve | (simp; omega)))))))); (focus (solve | simp [Act.eval, Act.put])); (focus (exact (Sl.made1 (sp_val (c, p - c, 0)) rfl))); (focus (first | (simp [maxLen]; omega) | (solve | simp [maxLen]))); (focus (first | (simp; omega) | (solve | simp))); (focus (first | omega | (simp only [World.size_alloc, World.size_setCell]; omega))); (intro v4 w4 ho4 hg4 hf4; (have hb4 : Below w1.heap.size w1 w4 := (HO.out.kept (by (repeat (first | with_reducible assumption | with_reducible exact Below.refl _ _ | with_reducible refine Below.setCell ?_ ?_ _ | with_reducible refine Below.alloc ?_ ?_ _ | with_reducible refine below_drewN' ?_ _ | with_reducible refine Below.drew ?_ | with_reducible refine Below.trans ?_ (Below.mono (by assumption) ?_) | omega | (dsimp only; omega) | (simp only [drew_heap', drewN_heap', World.size_alloc, World.size_setCell]; omega) | (solve | simp) | (solve | (simp; omega)))))).below hg4 (by (repeat (first | with_reducible assumption | with_reducible exact Below.refl _ _ | with_reducible refine Below.setCell ?_ ?_ _ | with_reducible refine Below.alloc ?_ ?_ _ | with_reducible refine below_drewN' ?_ _ | with_reducible refine Below.drew ?_ | with_reducible refine Below.trans ?_ (Below.mono (by assumption) ?_) | omega | (dsimp only; omega) | (simp only [drew_heap', drewN_heap', World.size_alloc, World.size_setCell]; omega) | (solve | simp) | (solve | (simp; omega))))) (Nat.le_refl _) (by simp only [World.size_alloc]; omega)); (have hz4 := hb4.size); (have HO4 := Lib.hid ho4); (obtain ⟨c4, f4, l4, n4, m4⟩ := (KB1.out.below hb4 KB1.out.lt).rules); (clear ho4 hg4 hf4))) | fail)
          have g4 := (KB1.out.below hb4 KB1.out.lt).regrown
          obtain ⟨_, _, he7, hb70, d0, d1, -⟩ := Sl.sp (HV.out.below (hbw1.trans (hb4.mono hbw1.size))) HX.out
          simp only [Option.some.injEq, Addr.mk.injEq, and_true] at he7
          obtain ⟨rfl, rfl⟩ := he7
          dsimp only at d0 d1
          have g0 := cell_rg d0 hb70
          have g1 := cell_rg d1 hb70
          ((refine wp_region_quiet_below (by kernel_rfl) (by kernel_rfl) ?_); (repeat (go_big_quiet_step (fail))); (refine wpQuiet_nil ?_); (intro _ hw'); (obtain ⟨⟨dq, osq⟩, hw''⟩ := hw'); (subst hw''); (have hb7 := below_regrown w4 dq osq); (generalize Go.Sort.grow (redrawn w4 dq) osq = w7 at *); (have hz7 := hb7.size))
          clear g0 g1 g4
          go_wp2_with fail
          go_roundw
          case rel => exact ⟨i + 1, _, p + q, by omega, rfl, by go_num, rfl, fun _ => HE.out.symm, hb4.trans (hb7.mono hz4), by rw [HN.out, HHH.out, sps, List.map_append]; exact HO4.out.kept hb7⟩
          case measure => simp [intOf]; omega
        · have HHH := Lib.hid hh
          have hcb : decide (c < p) = false := by simpa using hc
          clear hh
          go_wp2_with fail
          have g4 := (KB1.out.below hbw KB1.out.lt).regrown
          have g0 := cell_rg c0 hb
          have g1 := cell_rg c1 hb
          ((refine wp_region_quiet_below (by kernel_rfl) (by kernel_rfl) ?_); (repeat (go_big_quiet_step (fail))); (refine wpQuiet_nil ?_); (intro _ hw'); (obtain ⟨⟨dq, osq⟩, hw''⟩ := hw'); (subst hw''); (have hb7 := below_regrown wr dq osq); (generalize Go.Sort.grow (redrawn wr dq) osq = w7 at *); (have hz7 := hb7.size))
          clear g0 g1 g4
          go_wp2_with fail
          go_roundw
          case rel => exact ⟨i + 1, _, p + q, by omega, rfl, by go_num, rfl, fun _ => HE.out.symm, hbw.trans (hb7.mono hwz), by rw [HN.out, HHH.out, List.append_nil]; exact HO.out.kept hb7⟩
          case measure => simp [intOf]; omega
      · obtain rfl : i = l.length := by omega
        have hxe : x = (size, 0, 0) := by
          rw [← HM.out] at hx
          simpa using hx.symm
        subst hxe
        clear hx
        dsimp only at hat hhole
        have hws : IntKind.i64.wrap (size - c) = size - c := IntWalk.i64_in _ (by omega)
        rcases hhole with ⟨hh, hc⟩ | ⟨hh, hc⟩
        · have HHH := Lib.hid hh
          clear hh
          go_wp2_with (first | (refine wpList_append_sl (v := s) (xs := sps hs) (base := w1.heap.size) rfl _ _ 22 rfl ty_span i0 (.agg #[.int .i64 0, .int .i64 0, .int .i64 0]) 24 Try.underlying22 HI.out.1 HI.out.2.1 HI.out.2.2.1 HI.out.2.2.2 rfl ?_ ?_ (.slice (some ⟨wr.heap.size, 0, none⟩) 1 1) ([spV (c, size - c, 0)]) ?_ ?_ ?_ ?_ ?_ ?_; (focus (solve | simp [Act.eval, Act.put])); (focus (exact (HO.out.kept (by (repeat (first | with_reducible assumption | with_reducible exact Below.refl _ _ | with_reducible refine Below.setCell ?_ ?_ _ | with_reducible refine Below.alloc ?_ ?_ _ | with_reducible refine below_drewN' ?_ _ | with_reducible refine Below.drew ?_ | with_reducible refine Below.trans ?_ (Below.mono (by assumption) ?_) | omega | (dsimp only; omega) | (simp only [drew_heap', drewN_heap', World.size_alloc, World.size_setCell]; omega) | (solve | simp) | (solve | (simp; omega)))))))); (focus (solve | simp [Act.eval, Act.put])); (focus (exact (Sl.made1 (sp_val (c, size - c, 0)) rfl))); (focus (first | (simp [maxLen]; omega) | (solve | simp [maxLen]))); (focus (first | (simp; omega) | (solve | simp))); (focus (first | omega | (simp only [World.size_alloc, World.size_setCell]; omega))); (intro v4 w4 ho4 hg4 hf4; (have hb4 : Below w1.heap.size w1 w4 := (HO.out.kept (by (repeat (first | with_reducible assumption | with_reducible exact Below.refl _ _ | with_reducible refine Below.setCell ?_ ?_ _ | with_reducible refine Below.alloc ?_ ?_ _ | with_reducible refine below_drewN' ?_ _ | with_reducible refine Below.drew ?_ | with_reducible refine Below.trans ?_ (Below.mono (by assumption) ?_) | omega | (dsimp only; omega) | (simp only [drew_heap', drewN_heap', World.size_alloc, World.size_setCell]; omega) | (solve | simp) | (solve | (simp; omega)))))).below hg4 (by (repeat (first | with_reducible assumption | with_reducible exact Below.refl _ _ | with_reducible refine Below.setCell ?_ ?_ _ | with_reducible refine Below.alloc ?_ ?_ _ | with_reducible refine below_drewN' ?_ _ | with_reducible refine Below.drew ?_ | with_reducible refine Below.trans ?_ (Below.mono (by assumption) ?_) | omega | (dsimp only; omega) | (simp only [drew_heap', drewN_heap', World.size_alloc, World.size_setCell]; omega) | (solve | simp) | (solve | (simp; omega))))) (Nat.le_refl _) (by simp only [World.size_alloc]; omega)); (have hz4 := hb4.size); (have HO4 := Lib.hid ho4); (obtain ⟨c4, f4, l4, n4, m4⟩ := (KB1.out.below hb4 KB1.out.lt).rules); (clear ho4 hg4 hf4))) | fail)
          go_roundw
          case rel => exact ⟨l.length + 1, _, c, by omega, rfl, by go_num, rfl, fun h => by omega, hb4, by rw [HN.out, HHH.out, sps, List.map_append]; exact HO4.out⟩
          case measure => simp [intOf]
        · have HHH := Lib.hid hh
          have hcb : decide (c < size) = false := by simpa using hc
          clear hh
          go_wp2_with fail
          go_roundw
          case rel => exact ⟨l.length + 1, _, c, by omega, rfl, by go_num, rfl, fun h => by omega, hbw, by rw [HN.out, HHH.out, List.append_nil]; exact HO.out⟩
          case measure => simp [intOf]
    · obtain rfl : i = l.length + 1 := by omega
      rw [← hml, List.take_length] at HO
      have hgt : decide ((l.length : Int) + 1 ≤ (l.length : Int)) = false := decide_eq_false (by omega)
      have hgt2 : decide (l.length + 1 ≤ l.length) = false := decide_eq_false (by omega)
      go_wp2_with fail
      go_ret
      exact ⟨_, rfl, by rw [HQ.out]; unfold holesS; rw [HM.out]; exact HO.out.le hbw1.size, hbw1.trans (hbw.mono hbw1.size)⟩

set_option maxHeartbeats 1000000 in
theorem refLeft_any (size : Int) (v : Value) (l : List Sp) (w : World) (hv : Sl w true 3 v (sps l)) (hs : (Lit.int .i64 size).wf = true) (hw : ∀ x ∈ l, SpWf x) (hby : (l.length + 1) * 24 ≤ 140737488355328) :
    Calls Try.prog 27 #[.agg #[.int .i64 size, v]] w fun e w' => e = .returned (.int .i64 (sumN (holesB size l))) ∧ Below w.heap.size w w' := by
  have HV := Lib.hid hv
  have HC := Lib.hid (fun W h => refHoles_any size v l W h hs hw hby)
  have HSUM := Lib.hid (fun i => holesB_sum (l := l) i hs)
  have hlen := holesB_len size l
  obtain ⟨a, cap, rfl, hl⟩ := hv.shape
  rw [sps_len] at hl HV HC ⊢
  clear hv hw hs
  generalize holesB size l = m at *
  go_enter Try.func27, Try.ntmps27
  go_wp2_with fail
  with_reducible refine (HC.out _ (HV.out.below (by (repeat (first | with_reducible assumption | with_reducible exact Below.refl _ _ | with_reducible refine Below.setCell ?_ ?_ _ | with_reducible refine Below.alloc ?_ ?_ _ | with_reducible refine below_drewN' ?_ _ | with_reducible refine Below.drew ?_ | with_reducible refine Below.trans ?_ (Below.mono (by assumption) ?_) | omega | (dsimp only; omega) | (simp only [drew_heap', drewN_heap', World.size_alloc, World.size_setCell]; omega) | (solve | simp) | (solve | (simp; omega))))))).mono ?_
  rintro e w1 ⟨v1, rfl, ho1, hb1⟩
  have hz1 := hb1.size
  simp only [World.size_alloc] at hz1
  have hbw1 : Below w.heap.size w w1 := by (repeat (first | with_reducible assumption | with_reducible exact Below.refl _ _ | with_reducible refine Below.setCell ?_ ?_ _ | with_reducible refine Below.alloc ?_ ?_ _ | with_reducible refine below_drewN' ?_ _ | with_reducible refine Below.drew ?_ | with_reducible refine Below.trans ?_ (Below.mono (by assumption) ?_) | omega | (dsimp only; omega) | (simp only [drew_heap', drewN_heap', World.size_alloc, World.size_setCell]; omega) | (solve | simp) | (solve | (simp; omega))))
  have HO := Lib.hid ho1.sl
  obtain ⟨a1, cap1, rfl, hl1⟩ := ho1.sl.shape
  rw [sps_len] at HO hl1 ⊢
  clear ho1 hb1
  go_wp2_with fail
  go_loopw [4, 5] (fun s t W => ∃ i : Nat, i ≤ m.length ∧ t = .int .i64 i ∧ s = .int .i64 (sumN (m.take i)) ∧ Below w1.heap.size w1 W) (fun _ t _ => m.length - (intOf t).toNat)
  case atStart => exact ⟨0, Nat.zero_le _, rfl, rfl, Below.refl _ _⟩
  case round =>
    obtain ⟨i, hi, rfl, rfl, hbw⟩ := hrel
    have hwz := hbw.size
    by_cases hlt : i < m.length
    · obtain ⟨x, hx⟩ : ∃ x, m[i]? = some x := ⟨_, List.getElem?_eq_getElem hlt⟩
      obtain ⟨b, off, rfl, hb, c0, c1, c2⟩ := Sl.sp (HO.out.below hbw) hx
      have HN := Lib.hid (sumN_step hx)
      have h1 := HSUM.out (i + 1)
      rw [HN.out] at h1
      have hwr : IntKind.i64.wrap ((i : Int) + 1) = i + 1 := IntWalk.i64_in _ (by omega)
      clear hx
      obtain ⟨p, q, u⟩ := x
      dsimp only at h1 c0 c1 c2
      have hws : IntKind.i64.wrap (sumN (m.take i) + q) = sumN (m.take i) + q := IntWalk.i64_in _ (by omega)
      go_wp2_with fail
      go_roundw
      case rel => exact ⟨i + 1, by omega, by go_num, by rw [HN.out], by (repeat (first | with_reducible assumption | with_reducible exact Below.refl _ _ | with_reducible refine Below.setCell ?_ ?_ _ | with_reducible refine Below.alloc ?_ ?_ _ | with_reducible refine below_drewN' ?_ _ | with_reducible refine Below.drew ?_ | with_reducible refine Below.trans ?_ (Below.mono (by assumption) ?_) | omega | (dsimp only; omega) | (simp only [drew_heap', drewN_heap', World.size_alloc, World.size_setCell]; omega) | (solve | simp) | (solve | (simp; omega))))⟩
      case measure => simp [intOf]; omega
    · obtain rfl : i = m.length := by omega
      go_wp2_with fail
      go_ret
      exact ⟨by first | rfl | simp, hbw1.trans (hbw.mono hbw1.size)⟩
end Go.Proofs.Ytdfkfoffinchhaa
