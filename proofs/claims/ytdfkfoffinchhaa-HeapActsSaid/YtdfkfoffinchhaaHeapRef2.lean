/- The reference's Drop, Free: what they answer. Conditions: lengths within the reach. -/
import Derived.Test.YtdfkfoffinchhaaHeapRef
import Derived.Test.YtdfkfoffinchhaaHeapFacts
import Derived.Test.YtdfkfoffinchhaaHeapDropsLaw
namespace Go.Proofs.Ytdfkfoffinchhaa
open Go Go.RowKit Go.Tm
set_option linter.unusedVariables false
set_option linter.unusedSimpArgs false

set_option maxRecDepth 100000 in
set_option maxHeartbeats 4000000 in
theorem refDrop_any (size : Int) (v : Value) (l : List Sp) (who : Int) (w : World) (hv : Sl w true 3 v (sps l)) (hby : (l.length + 1) * 24 ≤ 140737488355328) :
    Calls Try.prog 26 #[.agg #[.int .i64 size, v], .int .i64 who] w fun e w' => ∃ v', e = .returned (.agg #[.int .i64 size, v']) ∧ Sl w' true 3 v' (sps (dropS l who)) ∧ Below w.heap.size w w' := by
  have HV := Lib.hid hv
  obtain ⟨i0, hi0, hq0, hq1, hq2⟩ := info_parts info_span
  have HI := Lib.hid (And.intro hi0 (And.intro hq0 (And.intro hq1 hq2)))
  obtain ⟨a, cap, rfl, hl⟩ := hv.shape
  rw [sps_len] at hl HV ⊢
  clear hv hi0 hq0 hq1 hq2
  go_enter Try.func26, Try.ntmps26
  go_wp2_with fail
  have HA := Lib.hid (show Box ((w.alloc (.cells #[.int .i64 size, .slice a l.length cap] 24)).alloc (.cells #[.int .i64 0, .slice none 0 0] 24)) w.heap.size #[.int .i64 size, .slice a l.length cap] 24 from (Box.new _ _ _).alloc _)
  have HB := Lib.hid (show Box ((w.alloc (.cells #[.int .i64 size, .slice a l.length cap] 24)).alloc (.cells #[.int .i64 0, .slice none 0 0] 24)) (w.heap.size + 1) #[.int .i64 0, .slice none 0 0] 24 from Box.new1 _ _ _ (by simp))
  have hbw1 : Below w.heap.size w ((w.alloc (.cells #[.int .i64 size, .slice a l.length cap] 24)).alloc (.cells #[.int .i64 0, .slice none 0 0] 24)) := ((Below.refl _ _).alloc (Nat.le_refl _) _).alloc (by simp) _
  have hz1 : ((w.alloc (.cells #[.int .i64 size, .slice a l.length cap] 24)).alloc (.cells #[.int .i64 0, .slice none 0 0] 24)).heap.size = w.heap.size + 1 + 1 := by simp
  generalize (w.alloc (.cells #[.int .i64 size, .slice a l.length cap] 24)).alloc (.cells #[.int .i64 0, .slice none 0 0] 24) = w1 at *
  go_loopw [5, 6] (fun u t W => ∃ (i : Nat) (s : Value), i ≤ l.length ∧ s = u ∧ t = .int .i64 i ∧ Below w1.heap.size w1 W ∧ Owned W w1.heap.size 31 true 3 u (sps (dropS (l.take i) who))) (fun _ t _ => l.length - (intOf t).toNat)
  case atStart => exact ⟨0, _, Nat.zero_le _, rfl, rfl, Below.refl _ _, Owned.nil⟩
  case round =>
    obtain ⟨i, s, hi, rfl, rfl, hbw, hown⟩ := hrel
    have hwz := hbw.size
    ((have b2 := HA.out.below hbw HA.out.lt); (obtain ⟨hc2, hf2, hl2, hn2, hm2⟩ := b2.rules); (have K2 := Lib.hid b2); (clear b2))
    have HO := Lib.hid hown
    clear hown
    have hcl : (dropS (l.take i) who).length ≤ i := Nat.le_trans (dropS_le _ _) (by rw [List.length_take]; omega)
    by_cases hlt : i < l.length
    · obtain ⟨x, hx⟩ : ∃ x, l[i]? = some x := ⟨_, List.getElem?_eq_getElem hlt⟩
      obtain ⟨b, off, rfl, hb, c0, c1, c2⟩ := Sl.sp (HV.out.below (hbw1.trans (hbw.mono (by omega)))) hx
      have hwr : IntKind.i64.wrap ((i : Int) + 1) = i + 1 := IntWalk.i64_in _ (by omega)
      by_cases hq : x.2.2 = who
      · have HN := Lib.hid (dropS_step_out hx hq)
        have hqb : (x.2.2 == who) = true := by simpa using hq
        have hqn : (x.2.2 != who) = false := by simpa using hq
        clear hx hq
        go_wp2_with fail
        go_roundw
        case rel => exact ⟨i + 1, _, by omega, rfl, by go_num, hbw, by rw [HN.out]; exact HO.out⟩
        case measure => simp [intOf]; omega
      · have HN := Lib.hid (dropS_step_in hx hq)
        have hqb : (x.2.2 == who) = false := by simpa using hq
        have hqn : (x.2.2 != who) = true := by simpa using hq
        generalize dropS (l.take i) who = hs at *
        have hby2 : (hs.length + 1) * 24 ≤ 140737488355328 := by omega
        clear hx hq
        go_wp2_with (first | (refine wpList_append_sl (v := s) (xs := sps hs) (base := w1.heap.size) rfl _ _ 22 rfl ty_span i0 (.agg #[.int .i64 0, .int .i64 0, .int .i64 0]) 24 Try.underlying22 HI.out.1 HI.out.2.1 HI.out.2.2.1 HI.out.2.2.2 rfl ?_ ?_ (.slice (some ⟨wr.heap.size, 0, none⟩) 1 1) ([spV x]) ?_ ?_ ?_ ?_ ?_ ?_; (focus (solve | simp [Act.eval, Act.put])); (focus (exact (HO.out.kept (by (repeat (first | with_reducible assumption | with_reducible exact Below.refl _ _ | with_reducible refine Below.setCell ?_ ?_ _ | with_reducible refine Below.alloc ?_ ?_ _ | with_reducible refine below_drewN' ?_ _ | with_reducible refine Below.drew ?_ | with_reducible refine Below.trans ?_ (Below.mono (by assumption) ?_) | omega | (dsimp only; omega) | (simp only [drew_heap', drewN_heap', World.size_alloc, World.size_setCell]; omega) | (solve | simp) | (solve | (simp; omega)))))))); (focus (solve | simp [Act.eval, Act.put])); (focus (exact (Sl.made1 (sp_val x) rfl))); (focus (first | (simp [maxLen]; omega) | (solve | simp [maxLen]))); (focus (first | (simp; omega) | (solve | simp))); (focus (first | omega | (simp only [World.size_alloc, World.size_setCell]; omega))); (intro v4 w4 ho4 hg4 hf4; (have hb4 : Below w1.heap.size w1 w4 := (HO.out.kept (by (repeat (first | with_reducible assumption | with_reducible exact Below.refl _ _ | with_reducible refine Below.setCell ?_ ?_ _ | with_reducible refine Below.alloc ?_ ?_ _ | with_reducible refine below_drewN' ?_ _ | with_reducible refine Below.drew ?_ | with_reducible refine Below.trans ?_ (Below.mono (by assumption) ?_) | omega | (dsimp only; omega) | (simp only [drew_heap', drewN_heap', World.size_alloc, World.size_setCell]; omega) | (solve | simp) | (solve | (simp; omega)))))).below hg4 (by (repeat (first | with_reducible assumption | with_reducible exact Below.refl _ _ | with_reducible refine Below.setCell ?_ ?_ _ | with_reducible refine Below.alloc ?_ ?_ _ | with_reducible refine below_drewN' ?_ _ | with_reducible refine Below.drew ?_ | with_reducible refine Below.trans ?_ (Below.mono (by assumption) ?_) | omega | (dsimp only; omega) | (simp only [drew_heap', drewN_heap', World.size_alloc, World.size_setCell]; omega) | (solve | simp) | (solve | (simp; omega))))) (Nat.le_refl _) (by simp only [World.size_alloc]; omega)); (have HO4 := Lib.hid ho4); (clear ho4 hg4 hf4))) | fail)
        go_roundw
        case rel => exact ⟨i + 1, _, by omega, rfl, by go_num, hb4, by rw [HN.out, sps, List.map_append]; exact HO4.out⟩
        case measure => simp [intOf]; omega
    · obtain rfl : i = l.length := by omega
      rw [List.take_length] at HO
      ((have b3 := HB.out.below hbw HB.out.lt); (obtain ⟨hc3, hf3, hl3, hn3, hm3⟩ := b3.rules); (have K3 := Lib.hid b3); (clear b3))
      obtain ⟨a9, k9, hv9, _⟩ := HO.out.sl.shape
      rw [sps_len] at hv9
      subst hv9
      have hbwr : Below w.heap.size w wr := hbw1.trans (hbw.mono (by omega))
      go_wp2_with fail
      refine bodyPost_ret (v := .agg #[.int .i64 size, .slice a9 (dropS l who).length k9]) (by simp [results, Try.results26, go_sem, hc3]) rfl ⟨_, rfl, ?_, by (repeat (first | with_reducible assumption | with_reducible exact Below.refl _ _ | with_reducible refine Below.setCell ?_ ?_ _ | with_reducible refine Below.alloc ?_ ?_ _ | with_reducible refine below_drewN' ?_ _ | with_reducible refine Below.drew ?_ | with_reducible refine Below.trans ?_ (Below.mono (by assumption) ?_) | omega | (dsimp only; omega) | (simp only [drew_heap', drewN_heap', World.size_alloc, World.size_setCell]; omega) | (solve | simp) | (solve | (simp; omega))))⟩
      exact ((HO.out.setOther (b := w.heap.size + 1) (by omega) 0 (.int .i64 size)).setOther (b := w.heap.size + 1) (by omega) 1 _).sl
end Go.Proofs.Ytdfkfoffinchhaa
