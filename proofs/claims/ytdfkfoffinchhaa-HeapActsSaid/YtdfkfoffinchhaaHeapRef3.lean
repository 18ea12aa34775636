/- The reference's Free: what it answers. Conditions: lengths within the reach. -/
import Derived.Test.YtdfkfoffinchhaaHeapRef
import Derived.Test.YtdfkfoffinchhaaHeapFree
import Derived.Test.YtdfkfoffinchhaaLib14
namespace Go.Proofs.Ytdfkfoffinchhaa
open Go Go.RowKit Go.Tm
set_option linter.unusedVariables false
set_option linter.unusedSimpArgs false

theorem free_hit {l : List Sp} {a : Int} {i : Nat} {x : Sp} (hx : l[i]? = some x) (h : x.1 = a) (hno : ∀ j y, j < i → l[j]? = some y → y.1 ≠ a) : freeS l a = (l.eraseIdx i, true) := by
  rcases free_cases l a with ⟨_, h1, _⟩ | ⟨j, y, _, hy, hya, hn, e⟩
  · exact absurd h (h1 x (List.mem_of_getElem? hx))
  · have : j = i := by
      rcases Nat.lt_trichotomy i j with hlt | rfl | hgt
      · exact absurd h (hn i x hlt hx)
      · rfl
      · exact absurd hya (hno j y hgt hy)
    rw [e, this]
theorem free_miss {l : List Sp} {a : Int} (hno : ∀ j y, j < l.length → l[j]? = some y → y.1 ≠ a) : freeS l a = (l, false) := by
  rcases free_cases l a with ⟨_, _, e⟩ | ⟨j, y, _, hy, hya, _, _⟩
  · exact e
  · exact absurd hya (hno j y (List.getElem?_eq_some_iff.1 hy).1 hy)

set_option maxRecDepth 100000 in
set_option maxHeartbeats 4000000 in
theorem refFree_any (size : Int) (v : Value) (l : List Sp) (at' : Int) (w : World) (hv : Sl w true 3 v (sps l)) (hby : (l.length + 1) * 24 ≤ 140737488355328) :
    Calls Try.prog 24 #[.agg #[.int .i64 size, v], .int .i64 at'] w fun e w' => ∃ v', e = .returned (.tuple #[.agg #[.int .i64 size, v'], .int .i64 (if (freeS l at').2 = true then 0 else 7)]) ∧ Sl w' true 3 v' (sps (freeS l at').1) ∧ Below w.heap.size w w' := by
  have HV := Lib.hid hv
  obtain ⟨i0, hi0, hq0, hq1, hq2⟩ := info_parts info_span
  have HI := Lib.hid (And.intro hi0 (And.intro hq0 (And.intro hq1 hq2)))
  obtain ⟨a, cap, rfl, hl⟩ := hv.shape
  rw [sps_len] at hl HV ⊢
  obtain ⟨ev, hev⟩ : ∃ ev : Int, ev = (if (freeS l at').2 = true then 0 else 7) := ⟨_, rfl⟩
  obtain ⟨lf, hlf⟩ : ∃ lf, lf = (freeS l at').1 := ⟨_, rfl⟩
  rw [← hev, ← hlf]
  have HEV := Lib.hid hev
  have HLF := Lib.hid hlf
  clear hv hi0 hq0 hq1 hq2 hev hlf
  go_enter Try.func24, Try.ntmps24
  go_wp2_with fail
  have HA := Lib.hid (show Box ((w.alloc (.cells #[.int .i64 size, .slice a l.length cap] 24)).alloc (.cells #[.int .i64 0, .slice none 0 0] 24)) w.heap.size #[.int .i64 size, .slice a l.length cap] 24 from (Box.new _ _ _).alloc _)
  have HB := Lib.hid (show Box ((w.alloc (.cells #[.int .i64 size, .slice a l.length cap] 24)).alloc (.cells #[.int .i64 0, .slice none 0 0] 24)) (w.heap.size + 1) #[.int .i64 0, .slice none 0 0] 24 from Box.new1 _ _ _ (by simp))
  have hbw1 : Below w.heap.size w ((w.alloc (.cells #[.int .i64 size, .slice a l.length cap] 24)).alloc (.cells #[.int .i64 0, .slice none 0 0] 24)) := ((Below.refl _ _).alloc (Nat.le_refl _) _).alloc (by simp) _
  have hz1 : ((w.alloc (.cells #[.int .i64 size, .slice a l.length cap] 24)).alloc (.cells #[.int .i64 0, .slice none 0 0] 24)).heap.size = w.heap.size + 1 + 1 := by simp
  generalize (w.alloc (.cells #[.int .i64 size, .slice a l.length cap] 24)).alloc (.cells #[.int .i64 0, .slice none 0 0] 24) = w1 at *
  go_loopw [6] (fun t W => ∃ i : Nat, i ≤ l.length ∧ t = .int .i64 i ∧ Below w1.heap.size w1 W ∧ Hid (∀ j y, j < i → l[j]? = some y → y.1 ≠ at')) (fun t _ => l.length - (intOf t).toNat)
  case atStart => exact ⟨0, Nat.zero_le _, rfl, Below.refl _ _, Lib.hid (fun j y h => by omega)⟩
  case round =>
    obtain ⟨i, hi, rfl, hbw, HNO⟩ := hrel
    have hwz := hbw.size
    ((have b2 := HA.out.below hbw HA.out.lt); (obtain ⟨hc2, hf2, hl2, hn2, hm2⟩ := b2.rules); (have K2 := Lib.hid b2); (clear b2))
    by_cases hlt : i < l.length
    · obtain ⟨x, hx⟩ : ∃ x, l[i]? = some x := ⟨_, List.getElem?_eq_getElem hlt⟩
      have HV2 := Lib.hid (HV.out.below (hbw1.trans (hbw.mono (by omega))))
      obtain ⟨r1, hr1, hs1⟩ := Sl.run_take (t := 22) ty_span Try.underlying22 HV2.out (i : Int) i rfl (by rw [sps_len]; omega)
      obtain ⟨r2, hr2, hs2⟩ := Sl.run_drop (t := 22) ty_span Try.underlying22 HV2.out ((i : Int) + 1) (i + 1) (by omega) (by rw [sps_len]; omega)
      have HR1 := Lib.hid hs1
      have HR2 := Lib.hid hs2
      obtain ⟨b, off, rfl, hb, c0, c1, c2⟩ := Sl.sp HV2.out hx
      have hwr : IntKind.i64.wrap ((i : Int) + 1) = i + 1 := IntWalk.i64_in _ (by omega)
      clear hs1 hs2
      by_cases hq : x.1 = at'
      · have hfh := free_hit hx hq HNO.out
        have hev := HEV.out
        have hlf := HLF.out
        rw [hfh] at hev hlf
        dsimp only [if_true] at hev hlf
        have HLS : Hid ([] ++ (sps l).take i ++ (sps l).drop (i + 1) = sps lf) := Lib.hid (by rw [List.nil_append, hlf, ← sps_erase, List.eraseIdx_eq_take_drop_succ])
        rw [if_pos rfl] at hev
        subst hev
        have hqb : (x.1 == at') = true := by simpa using hq
        have hli : (sps l).length = l.length := sps_len l
        clear hx hq hlf hfh
        have HM0 := Lib.hid (show Owned (wr.alloc (.cells #[] 31)) wr.heap.size 31 true 3 (.slice (some ⟨wr.heap.size, 0, none⟩) 0 0) [] from Owned.made0 (Nat.le_refl _))
        have hbA : Below wr.heap.size wr (wr.alloc (.cells #[] 31)) := (Below.refl _ _).alloc (Nat.le_refl _) _
        have HR1a := Lib.hid (HR1.out.below hbA)
        go_wp2_with (first | (refine wpList_append_sl (v := .slice (some ⟨wr.heap.size, 0, none⟩) 0 0) (xs := []) (base := wr.heap.size) rfl _ _ 22 rfl ty_span i0 (.agg #[.int .i64 0, .int .i64 0, .int .i64 0]) 24 Try.underlying22 HI.out.1 HI.out.2.1 HI.out.2.2.1 HI.out.2.2.2 rfl ?_ ?_ (r1) ((sps l).take i) ?_ ?_ ?_ ?_ ?_ ?_; (focus (solve | simp [Act.eval, Act.put])); (focus (exact HM0.out)); (focus (solve | simp [Act.eval, Act.put])); (focus (exact HR1a.out)); (focus (first | (simp [maxLen]; omega) | (solve | simp [maxLen]))); (focus (first | (simp; omega) | (solve | simp))); (focus (first | omega | (simp only [World.size_alloc, World.size_setCell]; omega))); (intro v4 w4 ho4 hg4 hf4; (have hb4 : Below wr.heap.size wr w4 := HM0.out.below hg4 hbA (Nat.le_refl _) hbA.size); (have hz4 := hb4.size); (have HO4 := Lib.hid ho4); (clear ho4 hg4 hf4))) | fail)
        clear hc2 hf2 hl2 hn2 hm2
        have KA4 := Lib.hid (K2.out.below hb4 K2.out.lt)
        have KB4 := Lib.hid ((HB.out.below hbw HB.out.lt).below hb4 (Nat.lt_of_lt_of_le HB.out.lt hwz))
        have HR4 := Lib.hid (HR2.out.below hb4)
        obtain ⟨v6, w6, hrun, ho6, hg6⟩ := run_append_sl (P := Try.prog) (w := w4.drew) (base := wr.heap.size) (v := v4) (u := r2) (xs := [] ++ (sps l).take i) (ys := (sps l).drop (i + 1)) 22 22 ty_span i0 (.agg #[.int .i64 0, .int .i64 0, .int .i64 0]) 24 Try.underlying22 HI.out.1 HI.out.2.1 HI.out.2.2.1 HI.out.2.2.2 rfl (HO4.out.kept (Below.refl _ _).drew) (HR4.out.below (Below.refl _ _).drew) (by simp [maxLen]; omega) (by simp; omega) (by rw [drew_heap']; exact hz4)
        have hb6 : Below wr.heap.size wr w6 := (HO4.out.kept (Below.refl _ _).drew).below hg6 hb4.drew (Nat.le_refl _) (by rw [drew_heap']; exact hz4)
        have hz6 := hb6.size
        rw [HLS.out] at ho6
        have KA6 := Lib.hid ((HA.out.below hbw HA.out.lt).below hb6 (Nat.lt_of_lt_of_le HA.out.lt hwz))
        have KB6 := Lib.hid ((HB.out.below hbw HB.out.lt).below hb6 (Nat.lt_of_lt_of_le HB.out.lt hwz))
        obtain ⟨a6, k6, hv6, _⟩ := ho6.sl.shape
        generalize (sps lf).length = n6 at hv6
        subst hv6
        have HO6 := Lib.hid ho6
        have HRUN := Lib.hid hrun
        have hwrz : w.heap.size + 1 < wr.heap.size := by omega
        clear ho6 hrun hg6 HO4 HR4 HR1 HR1a HM0 hb4
        refine wp_region_held_drew (S := fun W' => W'.cell? ⟨w.heap.size, 0, none⟩ = some (.int .i64 size) ∧ W'.cell? ⟨w.heap.size, 1, none⟩ = some (.slice (some ⟨b, off, none⟩) l.length cap)) (by kernel_rfl) ⟨KA4.out.rules.1 0, KA4.out.rules.1 1⟩ (fun hHeld => ?_)
        ((refine wpAnyH_take (i := 0) (oi := ⟨some 29, _, _, _, _, _⟩) (v := ?_) rfl (by kernel_rfl) (by kernel_rfl) (by kernel_rfl) (fun _ _ _ h => h) (Or.inl ⟨by rfl, ?_⟩) (by assumption) ?_); rotate_left; (focus ((intro w hSw); (try dsimp only at hSw); go_simp; (try with_reducible rfl))); (try simp only [Act.put, List.setIfInBounds_toArray, List.set_cons_zero, List.set_cons_succ]))
        ((refine wpAnyH_take (i := 1) (oi := ⟨some 30, _, _, _, _, _⟩) (v := ?_) rfl (by kernel_rfl) (by kernel_rfl) (by kernel_rfl) (fun _ _ _ h => h) (Or.inl ⟨by rfl, ?_⟩) (by assumption) ?_); rotate_left; (focus ((intro w hSw); (try dsimp only at hSw); go_simp; (try with_reducible rfl))); (try simp only [Act.put, List.setIfInBounds_toArray, List.set_cons_zero, List.set_cons_succ]))
        ((refine wpAnyH_take (i := 2) (oi := ⟨some 31, _, _, _, _, _⟩) (v := ?_) rfl (by kernel_rfl) (by kernel_rfl) (by kernel_rfl) (fun _ _ _ h => h) (Or.inl ⟨by rfl, ?_⟩) (by assumption) ?_); rotate_left; (focus ((intro w hSw); (try dsimp only at hSw); go_simp; (try with_reducible rfl))); (try simp only [Act.put, List.setIfInBounds_toArray, List.set_cons_zero, List.set_cons_succ]))
        ((refine wpAnyH_take (i := 3) (oi := ⟨some 32, _, _, _, _, _⟩) (v := ?_) rfl (by kernel_rfl) (by kernel_rfl) (by kernel_rfl) (fun _ _ _ h => h) (Or.inl ⟨by rfl, ?_⟩) (by assumption) ?_); rotate_left; (focus ((intro w hSw); (try dsimp only at hSw); go_simp; (try with_reducible rfl))); (try simp only [Act.put, List.setIfInBounds_toArray, List.set_cons_zero, List.set_cons_succ]))
        ((refine wpAnyH_take (i := 4) (oi := ⟨some 33, _, _, _, _, _⟩) (v := ?_) rfl (by kernel_rfl) (by kernel_rfl) (by kernel_rfl) (fun _ _ _ h => h) (Or.inl ⟨by rfl, ?_⟩) (by assumption) ?_); rotate_left; (focus ((intro w hSw); (try dsimp only at hSw); go_simp; (try with_reducible rfl))); (try simp only [Act.put, List.setIfInBounds_toArray, List.set_cons_zero, List.set_cons_succ]))
        ((refine wpAnyH_take (i := 5) (oi := ⟨some 34, _, _, _, _, _⟩) (v := ?_) rfl (by kernel_rfl) (by kernel_rfl) (by kernel_rfl) (fun _ _ _ h => h) (Or.inl ⟨by rfl, ?_⟩) (by assumption) ?_); rotate_left; (focus ((intro w hSw); (try dsimp only at hSw); go_simp; (try with_reducible rfl))); (try simp only [Act.put, List.setIfInBounds_toArray, List.set_cons_zero, List.set_cons_succ]))
        ((refine wpAnyH_take (i := 6) (oi := ⟨some 35, _, _, _, _, _⟩) (v := ?_) rfl (by kernel_rfl) (by kernel_rfl) (by kernel_rfl) (fun _ _ _ h => h) (Or.inl ⟨by rfl, ?_⟩) (by assumption) ?_); rotate_left; (focus ((intro w hSw); (try dsimp only at hSw); go_simp; (try with_reducible rfl))); (try simp only [Act.put, List.setIfInBounds_toArray, List.set_cons_zero, List.set_cons_succ]))
        ((refine wpAnyH_take (i := 7) (oi := ⟨some 36, _, _, _, _, _⟩) (v := ?_) rfl (by kernel_rfl) (by kernel_rfl) (by kernel_rfl) (fun _ _ _ h => h) (Or.inl ⟨by rfl, ?_⟩) (by assumption) ?_); rotate_left; (focus ((intro w hSw); (try dsimp only at hSw); go_simp; (try with_reducible rfl))); (try simp only [Act.put, List.setIfInBounds_toArray, List.set_cons_zero, List.set_cons_succ]))
        refine wpAnyH_ready (rs := [8]) (by kernel_rfl) (by simp) ?_
        refine AllReadyH.cons (o := ⟨some 37, _, _, _, _, _⟩) rfl (fun K hK => ?_) AllReadyH.nil
        rw [if_pos (by rfl)]
        refine oper_append_run (v := v4) (u := r2) rfl (by simp [Act.eval]) (by simp [Act.eval]) HRUN.out ?_
        (try simp only [Act.put, List.setIfInBounds_toArray, List.set_cons_zero, List.set_cons_succ])
        refine hK.out _ _ ⟨KA6.out.rules.1 0, KA6.out.rules.1 1⟩ (fun hHeld => ?_)
        clear hK K
        refine wpAnyH_ready (rs := [9]) (by kernel_rfl) (by simp) ?_
        refine AllReadyH.cons (o := ⟨some 38, _, _, _, _, _⟩) rfl (fun K hK => ?_) AllReadyH.nil
        go_simp
        refine hK.out _ _ ⟨KA6.out.rules.1 0, KA6.out.rules.1 1⟩ (fun hHeld => ?_)
        clear hK K
        (try simp only [Act.put, List.setIfInBounds_toArray, List.set_cons_zero, List.set_cons_succ])
        obtain ⟨hc6, hf6', hl6, hn6, hm6⟩ := KB6.out.rules
        refine wpAnyH_ready (rs := [10]) (by kernel_rfl) (by simp) ?_
        refine AllReadyH.cons (o := ⟨none, _, _, _, _, _⟩) rfl (fun K hK => ?_) AllReadyH.nil
        go_simp
        refine hK.out _ _ ⟨((KA6.out.other ⟨w.heap.size + 1, 0, none⟩ (.int .i64 size) (by simp)).other ⟨w.heap.size + 1, 1, none⟩ (.slice a6 n6 k6) (by simp)).rules.1 0, ((KA6.out.other ⟨w.heap.size + 1, 0, none⟩ (.int .i64 size) (by simp)).other ⟨w.heap.size + 1, 1, none⟩ (.slice a6 n6 k6) (by simp)).rules.1 1⟩ (fun hHeld => ?_)
        clear hK K
        (try simp only [Act.put, List.setIfInBounds_toArray, List.set_cons_zero, List.set_cons_succ])
        refine wpAnyH_ready (rs := [11]) (by kernel_rfl) (by simp) ?_
        refine AllReadyH.cons (o := ⟨some 5, _, _, _, _, _⟩) rfl (fun K hK => ?_) AllReadyH.nil
        go_simp
        refine hK.out _ _ ⟨((KA6.out.other ⟨w.heap.size + 1, 0, none⟩ (.int .i64 size) (by simp)).other ⟨w.heap.size + 1, 1, none⟩ (.slice a6 n6 k6) (by simp)).rules.1 0, ((KA6.out.other ⟨w.heap.size + 1, 0, none⟩ (.int .i64 size) (by simp)).other ⟨w.heap.size + 1, 1, none⟩ (.slice a6 n6 k6) (by simp)).rules.1 1⟩ (fun hHeld => ?_)
        clear hK K
        refine wpAnyH_done (by kernel_rfl) ?_ _
        go_wp2_with fail
        refine bodyPost_ret (v := .tuple #[.agg #[.int .i64 size, .slice a6 n6 k6], .int .i64 0]) (by simp [results, Try.results24, go_sem, hc6]) rfl ⟨_, rfl, ?_, by (repeat (first | with_reducible assumption | with_reducible exact Below.refl _ _ | with_reducible refine Below.setCell ?_ ?_ _ | with_reducible refine Below.alloc ?_ ?_ _ | with_reducible refine below_drewN' ?_ _ | with_reducible refine Below.drew ?_ | with_reducible refine Below.trans ?_ (Below.mono (by assumption) ?_) | omega | (dsimp only; omega) | (simp only [drew_heap', drewN_heap', World.size_alloc, World.size_setCell]; omega) | (solve | simp) | (solve | (simp; omega))))⟩
        exact ((HO6.out.setOther (b := w.heap.size + 1) (by omega) 0 (.int .i64 size)).setOther (b := w.heap.size + 1) (by omega) 1 _).sl
      · have HN2 : Hid (∀ j y, j < i + 1 → l[j]? = some y → y.1 ≠ at') := Lib.hid (fun j y hj hy => by
          rcases Nat.lt_succ_iff_lt_or_eq.1 hj with hj | rfl
          · exact HNO.out j y hj hy
          · rw [hx] at hy; cases hy; exact hq)
        have hqb : (x.1 == at') = false := by simpa using hq
        clear hx hq
        go_wp2_with fail
        go_roundw
        case rel => exact ⟨i + 1, by omega, by go_num, hbw, HN2⟩
        case measure => simp [intOf]; omega
    · obtain rfl : i = l.length := by omega
      have hev := HEV.out
      have hlf := HLF.out
      rw [free_miss HNO.out] at hev hlf
      rw [if_neg (by simp)] at hev
      dsimp only at hlf
      subst hev
      subst hlf
      ((have b3 := HB.out.below hbw HB.out.lt); (obtain ⟨hc3, hf3, hl3, hn3, hm3⟩ := b3.rules); (have K3 := Lib.hid b3); (clear b3))
      have hbwr : Below w.heap.size w wr := hbw1.trans (hbw.mono (by omega))
      go_wp2_with fail
      refine bodyPost_ret (v := .tuple #[.agg #[.int .i64 size, .slice a lf.length cap], .int .i64 7]) (by simp [results, Try.results24, go_sem, hc2, hc3]) rfl ⟨_, rfl, ?_, by (repeat (first | with_reducible assumption | with_reducible exact Below.refl _ _ | with_reducible refine Below.setCell ?_ ?_ _ | with_reducible refine Below.alloc ?_ ?_ _ | with_reducible refine below_drewN' ?_ _ | with_reducible refine Below.drew ?_ | with_reducible refine Below.trans ?_ (Below.mono (by assumption) ?_) | omega | (dsimp only; omega) | (simp only [drew_heap', drewN_heap', World.size_alloc, World.size_setCell]; omega) | (solve | simp) | (solve | (simp; omega))))⟩
      exact HV.out.below (by (repeat (first | with_reducible assumption | with_reducible exact Below.refl _ _ | with_reducible refine Below.setCell ?_ ?_ _ | with_reducible refine Below.alloc ?_ ?_ _ | with_reducible refine below_drewN' ?_ _ | with_reducible refine Below.drew ?_ | with_reducible refine Below.trans ?_ (Below.mono (by assumption) ?_) | omega | (dsimp only; omega) | (simp only [drew_heap', drewN_heap', World.size_alloc, World.size_setCell]; omega) | (solve | simp) | (solve | (simp; omega)))))
end Go.Proofs.Ytdfkfoffinchhaa
