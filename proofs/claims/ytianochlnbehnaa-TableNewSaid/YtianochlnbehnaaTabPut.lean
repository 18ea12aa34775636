/- table.Put: what it answers. Conditions: lengths within the reach. -/
import Derived.Test.YtianochlnbehnaaTabFns
import Derived.Test.YtianochlnbehnaaLib10
namespace Go.Proofs.Ytianochlnbehnaa
open Go Go.RowKit Go.Tm
set_option linter.unusedVariables false
set_option linter.unusedSimpArgs false

def putS (l : List Prc) (p : Prc) : List Prc :=
  match l.findIdx? (fun x => decide (x.pid = p.pid)) with
  | some i => l.set i p
  | none => l.takeWhile (fun x => !decide (p.pid < x.pid)) ++ p :: l.dropWhile (fun x => !decide (p.pid < x.pid))
theorem putS_none {l : List Prc} {p : Prc} (h : ∀ x ∈ l, x.pid ≠ p.pid) : putS l p = l.takeWhile (fun x => !decide (p.pid < x.pid)) ++ p :: l.dropWhile (fun x => !decide (p.pid < x.pid)) := by
  unfold putS
  rw [List.findIdx?_eq_none_iff.2 (by intro x hx; simpa using h x hx)]
theorem putS_some {l : List Prc} {p x : Prc} {i : Nat} (h1 : l[i]? = some x) (h2 : x.pid = p.pid) (h3 : ∀ j y, j < i → l[j]? = some y → y.pid ≠ p.pid) : putS l p = l.set i p := by
  unfold putS
  have hlt := (List.getElem?_eq_some_iff.1 h1).1
  have e : l.findIdx? (fun x => decide (x.pid = p.pid)) = some i := by
    rw [List.findIdx?_eq_some_iff_getElem]
    refine ⟨hlt, ?_, ?_⟩
    · rw [List.getElem?_eq_getElem hlt] at h1
      rw [Option.some.inj h1]; simpa using h2
    · intro j hj
      have := h3 j l[j] hj (List.getElem?_eq_getElem (by omega))
      simpa using this
  rw [e]
theorem prs_set (l : List Prc) (i : Nat) (p : Prc) : (prs l).set i (prV p) = prs (l.set i p) := by simp [prs, List.map_set]
theorem prs_ins (l : List Prc) (p : Prc) : (prs l).take (l.takeWhile (fun x => !decide (p.pid < x.pid))).length ++ prV p :: (prs l).drop (l.takeWhile (fun x => !decide (p.pid < x.pid))).length = prs (l.takeWhile (fun x => !decide (p.pid < x.pid)) ++ p :: l.dropWhile (fun x => !decide (p.pid < x.pid))) := by
  rw [prs, prs, ← List.map_take, ← List.map_drop, tw_take, tw_drop, List.map_append, List.map_cons]

set_option maxHeartbeats 4000000 in
theorem put_any (v : Value) (l : List Prc) (p : Prc) (w : World) (hv : Sl w true 26 v (prs l)) (hby : (l.length + 1) * 168 ≤ 140737488355328) :
    Calls Try.prog 12 #[v, prV p] w fun e w' => ∃ v', e = .returned v' ∧ Sl w' true 26 v' (prs (putS l p)) ∧ Below w.heap.size w w' := by
  have HV := Lib.hid hv
  have HCL := Lib.hid (fun W h => clone_proc v (prs l) W h (by rw [prs_len]; omega))
  have HA := Lib.hid (fun u W h => at_any u l p.pid W h)
  have HF := Lib.hid (fun u W hs hB hc => first_any u (prs l) 34 #[.pointer (some ⟨w.heap.size, 0, none⟩)] (gtP p.pid) W hs (pred_cell put1_body p.pid l w.heap.size W hB hc none (by simp) (fun x w' => put1_any x p.pid w.heap.size w')))
  obtain ⟨i0, hi0, hq0, hq1, hq2⟩ := info_parts info_proc
  have HI := Lib.hid (And.intro hi0 (And.intro hq0 (And.intro hq1 hq2)))
  clear hi0 hq0 hq1 hq2
  obtain ⟨a, cap, rfl, hl⟩ := hv.shape
  rw [prs_len] at hl HV HCL ⊢
  have q0 := prC0 p
  have HVP := Lib.hid (pr_val p)
  clear hv
  rcases at_cases l p.pid with ⟨hi, hno⟩ | ⟨i, x, hi, hx, hp, hno⟩
  · rw [hi] at HA
    have HP := Lib.hid (putS_none hno)
    have HPI := Lib.hid (prs_ins l p)
    have hidx := idx_tw prV (gtP p.pid) (fun x : Prc => decide (p.pid < x.pid)) (gtP_pr p.pid) l
    have hil := tw_le (fun x : Prc => !decide (p.pid < x.pid)) l
    clear hi hno
    generalize (l.takeWhile (fun x : Prc => !decide (p.pid < x.pid))).length = i at *
    have HVL := Lib.hid (fun u W h => HF.out u W h)
    rcases hidx with ⟨hi1, hi2⟩ | ⟨hi1, hi2⟩
    · rw [hi1] at HF
      subst hi2
      clear hi1 HVL
      go_enter Try.func12, Try.ntmps12
      go_wp2_with fail
      have hb0 := Box.new w (prC p) 33
      with_reducible refine (HCL.out _ (HV.out.below ?_)).mono ?_
      focus (repeat (first | with_reducible assumption | with_reducible exact Below.refl _ _ | with_reducible refine Below.setCell ?_ ?_ _ | with_reducible refine Below.alloc ?_ ?_ _ | with_reducible refine below_drewN' ?_ _ | with_reducible refine Below.drew ?_ | with_reducible refine Below.trans ?_ (Below.mono (by assumption) ?_) | omega | (dsimp only; omega) | (simp only [drew_heap', drewN_heap', World.size_alloc, World.size_setCell]; omega) | (solve | simp) | (solve | (simp; omega))))
      rintro e w1 ⟨v1, rfl, ho1, hb1⟩
      have hz1 := hb1.size
      simp only [World.size_alloc] at hz1 ho1
      (have b1 : Box w1 w.heap.size (prC p) 33 := (by (try have k1 := (Lib.hid hb0).out); ((apply Box.cast); (repeat (first | with_reducible assumption | ((with_reducible apply Box.new1); (first | with_reducible rfl | rfl | (solve | simp))) | with_reducible apply Box.drewN | with_reducible apply Box.drew | with_reducible apply Box.set | with_reducible apply Box.other | with_reducible apply Box.alloc | (with_reducible apply Box.below; rotate_left; with_reducible assumption; rotate_right) | with_reducible rfl | omega | (dsimp only; omega) | (simp only [drew_heap', drewN_heap', World.size_alloc, World.size_setCell]; omega) | rfl | (solve | simp) | (solve | (simp; omega))))))); (obtain ⟨hc1, hf1, hl1, hn1, hm1⟩ := b1.rules); (have K1 := Lib.hid b1); (clear b1)
      have hbw : Below w.heap.size w w1 := by (repeat (first | with_reducible assumption | with_reducible exact Below.refl _ _ | with_reducible refine Below.setCell ?_ ?_ _ | with_reducible refine Below.alloc ?_ ?_ _ | with_reducible refine below_drewN' ?_ _ | with_reducible refine Below.drew ?_ | with_reducible refine Below.trans ?_ (Below.mono (by assumption) ?_) | omega | (dsimp only; omega) | (simp only [drew_heap', drewN_heap', World.size_alloc, World.size_setCell]; omega) | (solve | simp) | (solve | (simp; omega))))
      have HO1 := Lib.hid ho1
      clear hb0 hb1 ho1
      go_wp2_with fail
      with_reducible refine (HA.out _ _ HO1.out.sl).mono ?_
      rintro e w2 ⟨rfl, hb2⟩
      have hz2 := hb2.size
      (have b2 : Box w2 w.heap.size (prC p) 33 := (by (try have k2 := K1.out); ((apply Box.cast); (repeat (first | with_reducible assumption | ((with_reducible apply Box.new1); (first | with_reducible rfl | rfl | (solve | simp))) | with_reducible apply Box.drewN | with_reducible apply Box.drew | with_reducible apply Box.set | with_reducible apply Box.other | with_reducible apply Box.alloc | (with_reducible apply Box.below; rotate_left; with_reducible assumption; rotate_right) | with_reducible rfl | omega | (dsimp only; omega) | (simp only [drew_heap', drewN_heap', World.size_alloc, World.size_setCell]; omega) | rfl | (solve | simp) | (solve | (simp; omega))))))); (obtain ⟨hc2, hf2, hl2, hn2, hm2⟩ := b2.rules); (have K2 := Lib.hid b2); (clear b2)
      have HO2 := Lib.hid (HO1.out.kept hb2)
      have hbw2 : Below w.heap.size w w2 := hbw.trans (hb2.mono hbw.size)
      clear hb2 hbw HO1 K1 hc1 hf1 hl1 hn1 hm1
      go_wp2_with fail
      with_reducible refine (HF.out _ _ HO2.out.sl (by omega) ((hc2 0).trans q0)).mono ?_
      rintro e w3 ⟨rfl, hb3⟩
      have hz3 := hb3.size
      (have b3 : Box w3 w.heap.size (prC p) 33 := (by (try have k3 := K2.out); ((apply Box.cast); (repeat (first | with_reducible assumption | ((with_reducible apply Box.new1); (first | with_reducible rfl | rfl | (solve | simp))) | with_reducible apply Box.drewN | with_reducible apply Box.drew | with_reducible apply Box.set | with_reducible apply Box.other | with_reducible apply Box.alloc | (with_reducible apply Box.below; rotate_left; with_reducible assumption; rotate_right) | with_reducible rfl | omega | (dsimp only; omega) | (simp only [drew_heap', drewN_heap', World.size_alloc, World.size_setCell]; omega) | rfl | (solve | simp) | (solve | (simp; omega))))))); (obtain ⟨hc3, hf3, hl3, hn3, hm3⟩ := b3.rules); (have K3 := Lib.hid b3); (clear b3)
      have HO3 := Lib.hid (HO2.out.kept hb3)
      have hbw3 : Below w.heap.size w w3 := hbw2.trans (hb3.mono hbw2.size)
      clear hb3 hbw2 HO2 K2 hc2 hf2 hl2 hn2 hm2
      go_wp2_with (first | (refine wpList_load_boxA rfl 33 _ rfl (prC p) ty_proc HVP.out K3.out (by simp [Act.eval, Act.put]) ?_) | ((with_reducible refine at_bs 22 ?_); (refine wpList_build_one rfl 22 _ rfl ty_proc (by decide) i0 (.agg #[.int .i64 0, .int .i64 0, .int .i64 0, .int .u32 0, .int .u32 0, .int .u32 0, .int .u32 0, .int .u32 0, .int .u32 0, .int .u32 0, .int .u32 0, .int .u32 0, .string ⟨#[]⟩, .int .i64 0, .int .i64 0, .bool false, .int .i64 0, .bool false, .int .i64 0, .bool false, .int .i64 0, .bool false, .int .u32 0, .int .u32 0, .int .u32 0, .int .u32 0]) Try.underlying22 HI.out.1 HI.out.2.1 HI.out.2.2.1 (prV p) ?_ (HVP.out) ?_; (focus (solve | simp [Act.eval, Act.put])))) | (refine wpList_append_sl (v := v1) (xs := prs l) (base := w.heap.size + 1) rfl _ _ 22 rfl ty_proc i0 (.agg #[.int .i64 0, .int .i64 0, .int .i64 0, .int .u32 0, .int .u32 0, .int .u32 0, .int .u32 0, .int .u32 0, .int .u32 0, .int .u32 0, .int .u32 0, .int .u32 0, .string ⟨#[]⟩, .int .i64 0, .int .i64 0, .bool false, .int .i64 0, .bool false, .int .i64 0, .bool false, .int .i64 0, .bool false, .int .u32 0, .int .u32 0, .int .u32 0, .int .u32 0]) 168 Try.underlying22 HI.out.1 HI.out.2.1 HI.out.2.2.1 HI.out.2.2.2 rfl ?_ ?_ (.slice (some ⟨w3.heap.size, 0, none⟩) 1 1) ([prV p]) ?_ ?_ ?_ ?_ ?_ ?_; (focus (solve | simp [Act.eval, Act.put])); (focus (exact (HO3.out.kept (by (repeat (first | with_reducible assumption | with_reducible exact Below.refl _ _ | with_reducible refine Below.setCell ?_ ?_ _ | with_reducible refine Below.alloc ?_ ?_ _ | with_reducible refine below_drewN' ?_ _ | with_reducible refine Below.drew ?_ | with_reducible refine Below.trans ?_ (Below.mono (by assumption) ?_) | omega | (dsimp only; omega) | (simp only [drew_heap', drewN_heap', World.size_alloc, World.size_setCell]; omega) | (solve | simp) | (solve | (simp; omega)))))))); (focus (solve | simp [Act.eval, Act.put])); (focus (exact (Sl.made1 HVP.out rfl))); (focus (first | (simp [maxLen]; omega) | (solve | simp [maxLen]))); (focus (first | (simp; omega) | (solve | simp))); (focus (first | omega | (simp only [World.size_alloc, World.size_setCell]; omega))); (intro v4 w4 ho4 hg4 hf4; (have hb4 : Below w.heap.size w w4 := (HO3.out.kept (by (repeat (first | with_reducible assumption | with_reducible exact Below.refl _ _ | with_reducible refine Below.setCell ?_ ?_ _ | with_reducible refine Below.alloc ?_ ?_ _ | with_reducible refine below_drewN' ?_ _ | with_reducible refine Below.drew ?_ | with_reducible refine Below.trans ?_ (Below.mono (by assumption) ?_) | omega | (dsimp only; omega) | (simp only [drew_heap', drewN_heap', World.size_alloc, World.size_setCell]; omega) | (solve | simp) | (solve | (simp; omega)))))).below hg4 (by (repeat (first | with_reducible assumption | with_reducible exact Below.refl _ _ | with_reducible refine Below.setCell ?_ ?_ _ | with_reducible refine Below.alloc ?_ ?_ _ | with_reducible refine below_drewN' ?_ _ | with_reducible refine Below.drew ?_ | with_reducible refine Below.trans ?_ (Below.mono (by assumption) ?_) | omega | (dsimp only; omega) | (simp only [drew_heap', drewN_heap', World.size_alloc, World.size_setCell]; omega) | (solve | simp) | (solve | (simp; omega))))) (by omega) (by simp only [World.size_alloc]; omega)); (have HO4 := Lib.hid ho4); (clear ho4 hg4 hf4))) | fail)
      go_ret
      refine ⟨_, rfl, ?_, hb4⟩
      rw [HP.out, ← HPI.out, List.take_of_length_le (by simp), List.drop_of_length_le (by simp)]
      exact HO4.out.sl
    · rw [hi2] at HF
      have hn1 : ¬ (i : Int) < 0 := by omega
      clear hi2 HVL
      go_enter Try.func12, Try.ntmps12
      go_wp2_with fail
      have hb0 := Box.new w (prC p) 33
      with_reducible refine (HCL.out _ (HV.out.below ?_)).mono ?_
      focus (repeat (first | with_reducible assumption | with_reducible exact Below.refl _ _ | with_reducible refine Below.setCell ?_ ?_ _ | with_reducible refine Below.alloc ?_ ?_ _ | with_reducible refine below_drewN' ?_ _ | with_reducible refine Below.drew ?_ | with_reducible refine Below.trans ?_ (Below.mono (by assumption) ?_) | omega | (dsimp only; omega) | (simp only [drew_heap', drewN_heap', World.size_alloc, World.size_setCell]; omega) | (solve | simp) | (solve | (simp; omega))))
      rintro e w1 ⟨v1, rfl, ho1, hb1⟩
      have hz1 := hb1.size
      simp only [World.size_alloc] at hz1 ho1
      (have b1 : Box w1 w.heap.size (prC p) 33 := (by (try have k1 := (Lib.hid hb0).out); ((apply Box.cast); (repeat (first | with_reducible assumption | ((with_reducible apply Box.new1); (first | with_reducible rfl | rfl | (solve | simp))) | with_reducible apply Box.drewN | with_reducible apply Box.drew | with_reducible apply Box.set | with_reducible apply Box.other | with_reducible apply Box.alloc | (with_reducible apply Box.below; rotate_left; with_reducible assumption; rotate_right) | with_reducible rfl | omega | (dsimp only; omega) | (simp only [drew_heap', drewN_heap', World.size_alloc, World.size_setCell]; omega) | rfl | (solve | simp) | (solve | (simp; omega))))))); (obtain ⟨hc1, hf1, hl1, hn1, hm1⟩ := b1.rules); (have K1 := Lib.hid b1); (clear b1)
      have hbw : Below w.heap.size w w1 := by (repeat (first | with_reducible assumption | with_reducible exact Below.refl _ _ | with_reducible refine Below.setCell ?_ ?_ _ | with_reducible refine Below.alloc ?_ ?_ _ | with_reducible refine below_drewN' ?_ _ | with_reducible refine Below.drew ?_ | with_reducible refine Below.trans ?_ (Below.mono (by assumption) ?_) | omega | (dsimp only; omega) | (simp only [drew_heap', drewN_heap', World.size_alloc, World.size_setCell]; omega) | (solve | simp) | (solve | (simp; omega))))
      have HO1 := Lib.hid ho1
      clear hb0 hb1 ho1
      go_wp2_with fail
      with_reducible refine (HA.out _ _ HO1.out.sl).mono ?_
      rintro e w2 ⟨rfl, hb2⟩
      have hz2 := hb2.size
      (have b2 : Box w2 w.heap.size (prC p) 33 := (by (try have k2 := K1.out); ((apply Box.cast); (repeat (first | with_reducible assumption | ((with_reducible apply Box.new1); (first | with_reducible rfl | rfl | (solve | simp))) | with_reducible apply Box.drewN | with_reducible apply Box.drew | with_reducible apply Box.set | with_reducible apply Box.other | with_reducible apply Box.alloc | (with_reducible apply Box.below; rotate_left; with_reducible assumption; rotate_right) | with_reducible rfl | omega | (dsimp only; omega) | (simp only [drew_heap', drewN_heap', World.size_alloc, World.size_setCell]; omega) | rfl | (solve | simp) | (solve | (simp; omega))))))); (obtain ⟨hc2, hf2, hl2, hn2, hm2⟩ := b2.rules); (have K2 := Lib.hid b2); (clear b2)
      have HO2 := Lib.hid (HO1.out.kept hb2)
      have hbw2 : Below w.heap.size w w2 := hbw.trans (hb2.mono hbw.size)
      clear hb2 hbw HO1 K1 hc1 hf1 hl1 hn1 hm1
      go_wp2_with fail
      with_reducible refine (HF.out _ _ HO2.out.sl (by omega) ((hc2 0).trans q0)).mono ?_
      rintro e w3 ⟨rfl, hb3⟩
      have hz3 := hb3.size
      (have b3 : Box w3 w.heap.size (prC p) 33 := (by (try have k3 := K2.out); ((apply Box.cast); (repeat (first | with_reducible assumption | ((with_reducible apply Box.new1); (first | with_reducible rfl | rfl | (solve | simp))) | with_reducible apply Box.drewN | with_reducible apply Box.drew | with_reducible apply Box.set | with_reducible apply Box.other | with_reducible apply Box.alloc | (with_reducible apply Box.below; rotate_left; with_reducible assumption; rotate_right) | with_reducible rfl | omega | (dsimp only; omega) | (simp only [drew_heap', drewN_heap', World.size_alloc, World.size_setCell]; omega) | rfl | (solve | simp) | (solve | (simp; omega))))))); (obtain ⟨hc3, hf3, hl3, hn3, hm3⟩ := b3.rules); (have K3 := Lib.hid b3); (clear b3)
      have HO3 := Lib.hid (HO2.out.kept hb3)
      have hbw3 : Below w.heap.size w w3 := hbw2.trans (hb3.mono hbw2.size)
      clear hb3 hbw2 HO2 K2 hc2 hf2 hl2 hn2 hm2
      go_wp2_with (first | (refine wpList_load_boxA rfl 33 _ rfl (prC p) ty_proc HVP.out K3.out (by simp [Act.eval, Act.put]) ?_) | ((with_reducible refine at_bs 22 ?_); (refine wpList_build_one rfl 22 _ rfl ty_proc (by decide) i0 (.agg #[.int .i64 0, .int .i64 0, .int .i64 0, .int .u32 0, .int .u32 0, .int .u32 0, .int .u32 0, .int .u32 0, .int .u32 0, .int .u32 0, .int .u32 0, .int .u32 0, .string ⟨#[]⟩, .int .i64 0, .int .i64 0, .bool false, .int .i64 0, .bool false, .int .i64 0, .bool false, .int .i64 0, .bool false, .int .u32 0, .int .u32 0, .int .u32 0, .int .u32 0]) Try.underlying22 HI.out.1 HI.out.2.1 HI.out.2.2.1 (prV p) ?_ (HVP.out) ?_; (focus (solve | simp [Act.eval, Act.put])))) | fail)
      with_reducible refine (insert_proc v1 (prs l) i (prV p) w3.heap.size _ (w.heap.size + 1) (HO3.out.kept (by (repeat (first | with_reducible assumption | with_reducible exact Below.refl _ _ | with_reducible refine Below.setCell ?_ ?_ _ | with_reducible refine Below.alloc ?_ ?_ _ | with_reducible refine below_drewN' ?_ _ | with_reducible refine Below.drew ?_ | with_reducible refine Below.trans ?_ (Below.mono (by assumption) ?_) | omega | (dsimp only; omega) | (simp only [drew_heap', drewN_heap', World.size_alloc, World.size_setCell]; omega) | (solve | simp) | (solve | (simp; omega)))))) ?_ HVP.out ?_ ?_ ?_ ?_).mono ?_
      focus (rw [prs_len]; omega)
      focus exact Box.new _ _ _
      focus (intro b hb; (have h2 := (HO3.out.row.lt b hb).2); omega)
      focus (simp only [World.size_alloc]; omega)
      focus (rw [prs_len]; exact hby)
      rintro en w5 ⟨v5, rfl, ho5, hg5⟩
      have hb5 : Below w.heap.size w w5 := (HO3.out.kept (by (repeat (first | with_reducible assumption | with_reducible exact Below.refl _ _ | with_reducible refine Below.setCell ?_ ?_ _ | with_reducible refine Below.alloc ?_ ?_ _ | with_reducible refine below_drewN' ?_ _ | with_reducible refine Below.drew ?_ | with_reducible refine Below.trans ?_ (Below.mono (by assumption) ?_) | omega | (dsimp only; omega) | (simp only [drew_heap', drewN_heap', World.size_alloc, World.size_setCell]; omega) | (solve | simp) | (solve | (simp; omega)))))).below hg5 (by (repeat (first | with_reducible assumption | with_reducible exact Below.refl _ _ | with_reducible refine Below.setCell ?_ ?_ _ | with_reducible refine Below.alloc ?_ ?_ _ | with_reducible refine below_drewN' ?_ _ | with_reducible refine Below.drew ?_ | with_reducible refine Below.trans ?_ (Below.mono (by assumption) ?_) | omega | (dsimp only; omega) | (simp only [drew_heap', drewN_heap', World.size_alloc, World.size_setCell]; omega) | (solve | simp) | (solve | (simp; omega))))) (by omega) (by simp only [World.size_alloc]; omega)
      have HO5 := Lib.hid ho5
      clear ho5 hg5
      go_wp2_with fail
      go_ret
      refine ⟨_, rfl, ?_, hb5⟩
      rw [HP.out, ← HPI.out]
      exact HO5.out.sl
  · rw [hi] at HA
    have HP := Lib.hid (putS_some hx hp hno)
    have hlt := (List.getElem?_eq_some_iff.1 hx).1
    clear hi hno hx hp HF
    go_enter Try.func12, Try.ntmps12
    go_wp2_with fail
    have hb0 := Box.new w (prC p) 33
    with_reducible refine (HCL.out _ (HV.out.below ?_)).mono ?_
    focus (repeat (first | with_reducible assumption | with_reducible exact Below.refl _ _ | with_reducible refine Below.setCell ?_ ?_ _ | with_reducible refine Below.alloc ?_ ?_ _ | with_reducible refine below_drewN' ?_ _ | with_reducible refine Below.drew ?_ | with_reducible refine Below.trans ?_ (Below.mono (by assumption) ?_) | omega | (dsimp only; omega) | (simp only [drew_heap', drewN_heap', World.size_alloc, World.size_setCell]; omega) | (solve | simp) | (solve | (simp; omega))))
    rintro e w1 ⟨v1, rfl, ho1, hb1⟩
    have hz1 := hb1.size
    simp only [World.size_alloc] at hz1 ho1
    (have b1 : Box w1 w.heap.size (prC p) 33 := (by (try have k1 := (Lib.hid hb0).out); ((apply Box.cast); (repeat (first | with_reducible assumption | ((with_reducible apply Box.new1); (first | with_reducible rfl | rfl | (solve | simp))) | with_reducible apply Box.drewN | with_reducible apply Box.drew | with_reducible apply Box.set | with_reducible apply Box.other | with_reducible apply Box.alloc | (with_reducible apply Box.below; rotate_left; with_reducible assumption; rotate_right) | with_reducible rfl | omega | (dsimp only; omega) | (simp only [drew_heap', drewN_heap', World.size_alloc, World.size_setCell]; omega) | rfl | (solve | simp) | (solve | (simp; omega))))))); (obtain ⟨hc1, hf1, hl1, hn1, hm1⟩ := b1.rules); (have K1 := Lib.hid b1); (clear b1)
    have hbw : Below w.heap.size w w1 := by (repeat (first | with_reducible assumption | with_reducible exact Below.refl _ _ | with_reducible refine Below.setCell ?_ ?_ _ | with_reducible refine Below.alloc ?_ ?_ _ | with_reducible refine below_drewN' ?_ _ | with_reducible refine Below.drew ?_ | with_reducible refine Below.trans ?_ (Below.mono (by assumption) ?_) | omega | (dsimp only; omega) | (simp only [drew_heap', drewN_heap', World.size_alloc, World.size_setCell]; omega) | (solve | simp) | (solve | (simp; omega))))
    have HO1 := Lib.hid ho1
    clear hb0 hb1 ho1
    go_wp2_with fail
    with_reducible refine (HA.out _ _ HO1.out.sl).mono ?_
    rintro e w2 ⟨rfl, hb2⟩
    have hz2 := hb2.size
    (have b2 : Box w2 w.heap.size (prC p) 33 := (by (try have k2 := K1.out); ((apply Box.cast); (repeat (first | with_reducible assumption | ((with_reducible apply Box.new1); (first | with_reducible rfl | rfl | (solve | simp))) | with_reducible apply Box.drewN | with_reducible apply Box.drew | with_reducible apply Box.set | with_reducible apply Box.other | with_reducible apply Box.alloc | (with_reducible apply Box.below; rotate_left; with_reducible assumption; rotate_right) | with_reducible rfl | omega | (dsimp only; omega) | (simp only [drew_heap', drewN_heap', World.size_alloc, World.size_setCell]; omega) | rfl | (solve | simp) | (solve | (simp; omega))))))); (obtain ⟨hc2, hf2, hl2, hn2, hm2⟩ := b2.rules); (have K2 := Lib.hid b2); (clear b2)
    have HO2 := Lib.hid (HO1.out.kept hb2)
    have hbw2 : Below w.heap.size w w2 := hbw.trans (hb2.mono hbw.size)
    clear hb2 hbw HO1 K1 hc1 hf1 hl1 hn1 hm1
    obtain ⟨g, cap2, rfl, hlc, hcm, hbg, hgw, hfz, hcells⟩ := HO2.out.form (by rw [prs_len]; omega)
    rw [prs_len] at HO2 hlc
    clear hfz hcells
    have hi' : i < (prs l).length := by rw [prs_len]; exact hlt
    go_wp2_with (first | (refine wpList_load_boxA rfl 33 _ rfl (prC p) ty_proc HVP.out K2.out (by simp [Act.eval, Act.put]) ?_) | (refine wpList_store_own (base := w.heap.size + 1) rfl _ _ rfl ty_proc g l.length cap2 HO2.out i hi' ?_ (prV p) ?_ HVP.out ?_; (focus (simp [Act.eval])); (focus (simp [Act.eval])); (intro w3 ho3 hg3; (have HO3 := Lib.hid ho3); (have hb3 : Below w.heap.size w w3 := hbw2.grown hg3 hbw2.size (by intro k hk; cases hk; omega)); (clear ho3 hg3))) | fail)
    go_ret
    refine ⟨_, rfl, ?_, hb3⟩
    rw [HP.out, ← prs_set]
    exact HO3.out.sl
end Go.Proofs.Ytianochlnbehnaa
