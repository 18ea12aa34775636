/- The reference's Add, the code's Right. Conditions: lengths within the reach, numbers within their kinds. -/
import Derived.Test.YtndmgbdgcemcmaaSleepRef2
namespace Go.Proofs.Ytndmgbdgcemcmaa
open Go Go.RowKit Go.Tm
set_option linter.unusedVariables false
set_option linter.unusedSimpArgs false

def addN (l : List Al) (a : Al) : Nat := (l.takeWhile (fun x => !behind x a)).length
theorem addN_le (l : List Al) (a : Al) : addN l a ≤ l.length := takeWhile_len_le _ l
theorem addS_eq (l : List Al) (a : Al) : addS l a = l.take (addN l a) ++ a :: l.drop (addN l a) := by
  unfold addS addN; rw [(while_take _ l).1, (while_take _ l).2]
theorem add_at {l : List Al} {a : Al} {i : Nat} {x : Al} (hx : l[i]? = some x) (h : i < addN l a) : behind x a = false := by
  unfold addN at h
  have h1 := (while_take (fun x : Al => !behind x a) l).1
  have h2 : (l.takeWhile (fun x => !behind x a))[i]? = some x := by rw [← h1, List.getElem?_take, if_pos h]; exact hx
  have := List.all_eq_true.1 (List.all_takeWhile (p := fun x : Al => !behind x a) (l := l)) x (List.mem_of_getElem? h2)
  simpa using this
theorem add_stop {l : List Al} {a : Al} {x : Al} (hx : l[addN l a]? = some x) : behind x a = true := by
  have h2 := (while_take (fun x : Al => !behind x a) l).2
  have h3 : (l.drop (addN l a))[0]? = some x := by rw [List.getElem?_drop, Nat.add_zero]; exact hx
  unfold addN at h3
  rw [h2] at h3
  cases hd : l.dropWhile (fun x => !behind x a) with
  | nil => rw [hd] at h3; simp at h3
  | cons y r =>
    rw [hd] at h3
    simp only [List.getElem?_cons_zero, Option.some.injEq] at h3
    subst h3
    have h4 := List.head?_dropWhile_not (fun x : Al => !behind x a) l
    rw [hd] at h4
    simpa using h4

set_option maxHeartbeats 16000000 in
theorem refAdd_any (v : Value) (l : List Al) (a : Al) (w : World) (hv : Sl w true 2 v (als l)) (hby : (l.length + 1) * 16 ≤ 140737488355328) :
    Calls Try.prog 18 #[v, alV a] w fun e w' => ∃ v', e = .returned v' ∧ Sl w' true 2 v' (als (addS l a)) ∧ Below w.heap.size w w' := by
  have HV := Lib.hid hv
  obtain ⟨i0, hi0, hq0, hq1, hq2⟩ := info_parts info_alarm
  have HI := Lib.hid (And.intro hi0 (And.intro hq0 (And.intro hq1 hq2)))
  clear hi0 hq0 hq1 hq2
  obtain ⟨av, cap, rfl, hl⟩ := hv.shape
  rw [als_len] at hl HV ⊢
  clear hv
  have hkl := addN_le l a
  have HAE := Lib.hid (addS_eq l a)
  have HAT := Lib.hid (fun i x (hx : l[i]? = some x) h => add_at (a := a) hx h)
  have HST := Lib.hid (fun x (hx : l[addN l a]? = some x) => add_stop hx)
  generalize addN l a = k at *
  generalize addS l a = ad at *
  obtain ⟨at_, ap⟩ := a
  go_enter Try.func18, Try.ntmps18
  go_wp2_with fail
  have hsz : (w.alloc (.cells #[.int .u64 at_, .int .i64 ap] 30)).heap.size = w.heap.size + 1 := by simp
  have HB0 := Lib.hid (Box.new w #[.int .u64 at_, .int .i64 ap] 30)
  have hbw1 : Below w.heap.size w (w.alloc (.cells #[.int .u64 at_, .int .i64 ap] 30)) := (Below.refl _ _).alloc (Nat.le_refl _) _
  generalize hW : w.alloc _ = w1 at *
  clear hW
  go_loopw [5, 6, 7] (fun u d t W => ∃ (i : Nat) (s : Value), i ≤ l.length ∧ s = u ∧ t = .int .i64 i ∧ Below w1.heap.size w1 W ∧
      ((i ≤ k ∧ d = .bool false ∧ Owned W w1.heap.size 30 true 2 u (als (l.take i))) ∨
       (k < i ∧ d = .bool true ∧ Owned W w1.heap.size 30 true 2 u (als (l.take k ++ (at_, ap) :: (l.drop k).take (i - k)))))) (fun _ _ t _ => l.length - (intOf t).toNat)
  case atStart => exact ⟨0, _, Nat.zero_le _, rfl, rfl, Below.refl _ _, .inl ⟨Nat.zero_le _, rfl, Owned.nil⟩⟩
  case round =>
    obtain ⟨i, s, hi, rfl, rfl, hbx, hcase⟩ := hrel
    have hws := hbx.size
    have hbw : Below w.heap.size w wr := hbw1.trans (hbx.mono (by omega))
    have hwr : IntKind.i64.wrap ((i : Int) + 1) = i + 1 := IntWalk.i64_in _ (by omega)
    by_cases hil : i < l.length
    · obtain ⟨x, hx⟩ : ∃ x, l[i]? = some x := ⟨_, List.getElem?_eq_getElem hil⟩
      obtain ⟨b, off, rfl, hb, c0, c1⟩ := Sl.al (HV.out.below hbw) hx
      have HX := Lib.hid hx
      have g0 := cell_rg c0 hb
      have g1 := cell_rg c1 hb
      have hc : Box wr w.heap.size #[.int .u64 at_, .int .i64 ap] 30 := Box.below HB0.out hbx (by omega)
      have g2 := hc.regrown
      have HB1 := Lib.hid hc
      clear hc hx
      rcases hcase with ⟨hik, rfl, hown⟩ | ⟨hik, rfl, hown⟩
      · have HO := Lib.hid hown
        clear hown
        by_cases hk : i < k
        · have hbh := HAT.out i x HX.out hk
          have HT := Lib.hid (show als (l.take (i + 1)) = als (l.take i) ++ [alV x] by rw [take_step HX.out]; simp)
          obtain ⟨xt, xp⟩ := x
          dsimp only at c0 c1 g0 g1
          simp only [behind, Bool.or_eq_false_iff, Bool.and_eq_false_iff, decide_eq_false_iff_not] at hbh
          have hgt : ¬ at_ < xt := hbh.1
          have hg' : decide (at_ < xt) = false := by simp; omega
          have hcs : (at_ = xt ∧ ¬ ap < xp) ∨ ¬ xt = at_ := by omega
          clear hbh
          rcases hcs with ⟨rfl, h2⟩ | h2
          · have h2' : decide (ap < xp) = false := by simp; omega
            go_wp2_with fail
            ((refine wp_region_quiet_below (by kernel_rfl) (by kernel_rfl) ?_); (repeat (go_big_quiet_step (fail))); (refine wpQuiet_nil ?_); (intro _ hw'); (obtain ⟨⟨dq, osq⟩, hw''⟩ := hw'); (subst hw''); (have hb7 := below_regrown wr dq osq); (generalize Go.Sort.grow (redrawn wr dq) osq = w7 at *); (have hz7 := hb7.size))
            clear g0 g1 g2
            have hbx7 : Below w1.heap.size w1 w7 := hbx.trans (hb7.mono hws)
            obtain ⟨b7, off7, he7, hb70, d0, d1⟩ := Sl.al (HV.out.below (hbw.trans (hb7.mono hbw.size))) HX.out
            simp only [Option.some.injEq, Addr.mk.injEq, and_true] at he7
            obtain ⟨rfl, rfl⟩ := he7
            dsimp only at d0 d1
            go_wp2_with (first | (refine wpList_append_sl (v := s) (xs := als (l.take i)) (base := w1.heap.size) rfl _ _ 22 rfl ty_alarm i0 (.agg #[.int .u64 0, .int .i64 0]) 16 Try.underlying22 HI.out.1 HI.out.2.1 HI.out.2.2.1 HI.out.2.2.2 rfl ?_ ?_ (.slice (some ⟨w7.heap.size, 0, none⟩) 1 1) ([alV (at_, xp)]) ?_ ?_ ?_ ?_ ?_ ?_; (focus (simp [Act.eval])); (focus (exact (HO.out.kept hb7).kept ((Below.refl _ _).alloc (Nat.le_refl _) _))); (focus (simp [Act.eval])); (focus (exact (Sl.made1 (al_val (at_, xp)) rfl))); (focus (first | (simp [maxLen]; omega) | (solve | simp [maxLen]))); (focus (first | (simp; omega) | (solve | simp))); (focus (first | omega | (simp only [World.size_alloc, World.size_setCell]; omega))); (intro v4 w4 ho4 hg4 hf4; (have hb4 : Below w1.heap.size w1 w4 := ((HO.out.kept hb7).kept ((Below.refl _ _).alloc (Nat.le_refl _) _)).below hg4 (by (repeat (first | with_reducible assumption | with_reducible exact Below.refl _ _ | with_reducible refine Below.setCell ?_ ?_ _ | with_reducible refine Below.alloc ?_ ?_ _ | with_reducible refine below_drewN' ?_ _ | with_reducible refine Below.drew ?_ | with_reducible refine Below.trans ?_ (Below.mono (by assumption) ?_) | omega | (dsimp only; omega) | (simp only [drew_heap', drewN_heap', World.size_alloc, World.size_setCell]; omega) | (solve | simp) | (solve | (simp; omega))))) (Nat.le_refl _) (by simp only [World.size_alloc]; omega)); (have hz4 := hb4.size); (have HO4 := Lib.hid ho4); (clear ho4 hg4 hf4))) | fail)
            go_roundw
            case rel => exact ⟨i + 1, _, by omega, rfl, by go_num, hb4, .inl ⟨by omega, rfl, by rw [HT.out]; exact HO4.out⟩⟩
            case measure => simp [intOf]; omega
          · have h2' : (xt == at_) = false := by simpa using h2
            go_wp2_with fail
            ((refine wp_region_quiet_below (by kernel_rfl) (by kernel_rfl) ?_); (repeat (go_big_quiet_step (fail))); (refine wpQuiet_nil ?_); (intro _ hw'); (obtain ⟨⟨dq, osq⟩, hw''⟩ := hw'); (subst hw''); (have hb7 := below_regrown wr dq osq); (generalize Go.Sort.grow (redrawn wr dq) osq = w7 at *); (have hz7 := hb7.size))
            clear g0 g1 g2
            have hbx7 : Below w1.heap.size w1 w7 := hbx.trans (hb7.mono hws)
            obtain ⟨b7, off7, he7, hb70, d0, d1⟩ := Sl.al (HV.out.below (hbw.trans (hb7.mono hbw.size))) HX.out
            simp only [Option.some.injEq, Addr.mk.injEq, and_true] at he7
            obtain ⟨rfl, rfl⟩ := he7
            dsimp only at d0 d1
            go_wp2_with (first | (refine wpList_append_sl (v := s) (xs := als (l.take i)) (base := w1.heap.size) rfl _ _ 22 rfl ty_alarm i0 (.agg #[.int .u64 0, .int .i64 0]) 16 Try.underlying22 HI.out.1 HI.out.2.1 HI.out.2.2.1 HI.out.2.2.2 rfl ?_ ?_ (.slice (some ⟨w7.heap.size, 0, none⟩) 1 1) ([alV (xt, xp)]) ?_ ?_ ?_ ?_ ?_ ?_; (focus (simp [Act.eval])); (focus (exact (HO.out.kept hb7).kept ((Below.refl _ _).alloc (Nat.le_refl _) _))); (focus (simp [Act.eval])); (focus (exact (Sl.made1 (al_val (xt, xp)) rfl))); (focus (first | (simp [maxLen]; omega) | (solve | simp [maxLen]))); (focus (first | (simp; omega) | (solve | simp))); (focus (first | omega | (simp only [World.size_alloc, World.size_setCell]; omega))); (intro v4 w4 ho4 hg4 hf4; (have hb4 : Below w1.heap.size w1 w4 := ((HO.out.kept hb7).kept ((Below.refl _ _).alloc (Nat.le_refl _) _)).below hg4 (by (repeat (first | with_reducible assumption | with_reducible exact Below.refl _ _ | with_reducible refine Below.setCell ?_ ?_ _ | with_reducible refine Below.alloc ?_ ?_ _ | with_reducible refine below_drewN' ?_ _ | with_reducible refine Below.drew ?_ | with_reducible refine Below.trans ?_ (Below.mono (by assumption) ?_) | omega | (dsimp only; omega) | (simp only [drew_heap', drewN_heap', World.size_alloc, World.size_setCell]; omega) | (solve | simp) | (solve | (simp; omega))))) (Nat.le_refl _) (by simp only [World.size_alloc]; omega)); (have hz4 := hb4.size); (have HO4 := Lib.hid ho4); (clear ho4 hg4 hf4))) | fail)
            go_roundw
            case rel => exact ⟨i + 1, _, by omega, rfl, by go_num, hb4, .inl ⟨by omega, rfl, by rw [HT.out]; exact HO4.out⟩⟩
            case measure => simp [intOf]; omega
        · obtain rfl : i = k := by omega
          have hbh := HST.out x HX.out
          have HT := Lib.hid (show als (l.take i ++ (at_, ap) :: (l.drop i).take (i + 1 - i)) = als (l.take i) ++ [alV (at_, ap)] ++ [alV x] by
            rw [show i + 1 - i = 0 + 1 by omega, take_step (x := x) (by rw [List.getElem?_drop]; exact HX.out)]; simp)
          obtain ⟨xt, xp⟩ := x
          dsimp only at c0 c1 g0 g1
          simp only [behind, Bool.or_eq_true, Bool.and_eq_true, decide_eq_true_eq] at hbh
          have hcs : (at_ < xt) ∨ (¬ at_ < xt ∧ at_ = xt ∧ ap < xp) := by omega
          clear hbh
          rcases hcs with h2 | ⟨h2, rfl, h3⟩
          · have h2' : decide (at_ < xt) = true := by simp; omega
            go_wp2_with fail
            ((refine wp_region_quiet_below (by kernel_rfl) (by kernel_rfl) ?_); (repeat (go_big_quiet_step (fail))); (refine wpQuiet_nil ?_); (intro _ hw'); (obtain ⟨⟨dq, osq⟩, hw''⟩ := hw'); (subst hw''); (have hb7 := below_regrown wr dq osq); (generalize Go.Sort.grow (redrawn wr dq) osq = w7 at *); (have hz7 := hb7.size))
            clear g0 g1 g2
            have hbx7 : Below w1.heap.size w1 w7 := hbx.trans (hb7.mono hws)
            have hc7 : Box w7 w.heap.size #[.int .u64 at_, .int .i64 ap] 30 := Box.below HB0.out hbx7 (by omega)
            obtain ⟨hc1, hf1, hl1, hn1, hm1⟩ := hc7.rules
            clear hc7
            go_wp2_with (first | (refine wpList_append_sl (v := s) (xs := als (l.take i)) (base := w1.heap.size) rfl _ _ 22 rfl ty_alarm i0 (.agg #[.int .u64 0, .int .i64 0]) 16 Try.underlying22 HI.out.1 HI.out.2.1 HI.out.2.2.1 HI.out.2.2.2 rfl ?_ ?_ (.slice (some ⟨w7.heap.size, 0, none⟩) 1 1) ([alV (at_, ap)]) ?_ ?_ ?_ ?_ ?_ ?_; (focus (simp [Act.eval])); (focus (exact (HO.out.kept hb7).kept ((Below.refl _ _).alloc (Nat.le_refl _) _))); (focus (simp [Act.eval])); (focus (exact (Sl.made1 (al_val (at_, ap)) rfl))); (focus (first | (simp [maxLen]; omega) | (solve | simp [maxLen]))); (focus (first | (simp; omega) | (solve | simp))); (focus (first | omega | (simp only [World.size_alloc, World.size_setCell]; omega))); (intro v4 w4 ho4 hg4 hf4; (have hb4 : Below w1.heap.size w1 w4 := ((HO.out.kept hb7).kept ((Below.refl _ _).alloc (Nat.le_refl _) _)).below hg4 (by (repeat (first | with_reducible assumption | with_reducible exact Below.refl _ _ | with_reducible refine Below.setCell ?_ ?_ _ | with_reducible refine Below.alloc ?_ ?_ _ | with_reducible refine below_drewN' ?_ _ | with_reducible refine Below.drew ?_ | with_reducible refine Below.trans ?_ (Below.mono (by assumption) ?_) | omega | (dsimp only; omega) | (simp only [drew_heap', drewN_heap', World.size_alloc, World.size_setCell]; omega) | (solve | simp) | (solve | (simp; omega))))) (Nat.le_refl _) (by simp only [World.size_alloc]; omega)); (have hz4 := hb4.size); (have HO4 := Lib.hid ho4); (clear ho4 hg4 hf4); (obtain ⟨b7, off7, he7, hb70, d0, d1⟩ := Sl.al (HV.out.below (hbw1.trans (hb4.mono (by omega)))) HX.out); (simp only [Option.some.injEq, Addr.mk.injEq, and_true] at he7); (obtain ⟨rfl, rfl⟩ := he7); (dsimp only at d0 d1))) | (refine wpList_append_sl (v := v4) (xs := als (l.take i) ++ [alV (at_, ap)]) (base := w1.heap.size) rfl _ _ 22 rfl ty_alarm i0 (.agg #[.int .u64 0, .int .i64 0]) 16 Try.underlying22 HI.out.1 HI.out.2.1 HI.out.2.2.1 HI.out.2.2.2 rfl ?_ ?_ (.slice (some ⟨w4.heap.size, 0, none⟩) 1 1) ([alV (xt, xp)]) ?_ ?_ ?_ ?_ ?_ ?_; (focus (simp [Act.eval])); (focus (exact HO4.out.kept ((Below.refl _ _).alloc (Nat.le_refl _) _))); (focus (simp [Act.eval])); (focus (exact (Sl.made1 (al_val (xt, xp)) rfl))); (focus (first | (simp [maxLen]; omega) | (solve | simp [maxLen]))); (focus (first | (simp; omega) | (solve | simp))); (focus (first | omega | (simp only [World.size_alloc, World.size_setCell]; omega))); (intro v5 w5 ho5 hg5 hf5; (have hb5 : Below w1.heap.size w1 w5 := (HO4.out.kept ((Below.refl _ _).alloc (Nat.le_refl _) _)).below hg5 (by (repeat (first | with_reducible assumption | with_reducible exact Below.refl _ _ | with_reducible refine Below.setCell ?_ ?_ _ | with_reducible refine Below.alloc ?_ ?_ _ | with_reducible refine below_drewN' ?_ _ | with_reducible refine Below.drew ?_ | with_reducible refine Below.trans ?_ (Below.mono (by assumption) ?_) | omega | (dsimp only; omega) | (simp only [drew_heap', drewN_heap', World.size_alloc, World.size_setCell]; omega) | (solve | simp) | (solve | (simp; omega))))) (Nat.le_refl _) (by simp only [World.size_alloc]; omega)); (have hz5 := hb5.size); (have HO5 := Lib.hid ho5); (clear ho5 hg5 hf5))) | fail)
            go_roundw
            case rel => exact ⟨i + 1, _, by omega, rfl, by go_num, hb5, .inr ⟨by omega, rfl, by rw [HT.out]; exact HO5.out⟩⟩
            case measure => simp [intOf]; omega
          · have h2' : decide (at_ < at_) = false := by simp
            have h3' : decide (ap < xp) = true := by simp; omega
            go_wp2_with fail
            ((refine wp_region_quiet_below (by kernel_rfl) (by kernel_rfl) ?_); (repeat (go_big_quiet_step (fail))); (refine wpQuiet_nil ?_); (intro _ hw'); (obtain ⟨⟨dq, osq⟩, hw''⟩ := hw'); (subst hw''); (have hb7 := below_regrown wr dq osq); (generalize Go.Sort.grow (redrawn wr dq) osq = w7 at *); (have hz7 := hb7.size))
            clear g0 g1 g2
            have hbx7 : Below w1.heap.size w1 w7 := hbx.trans (hb7.mono hws)
            have hc7 : Box w7 w.heap.size #[.int .u64 at_, .int .i64 ap] 30 := Box.below HB0.out hbx7 (by omega)
            obtain ⟨hc1, hf1, hl1, hn1, hm1⟩ := hc7.rules
            clear hc7
            go_wp2_with (first | (refine wpList_append_sl (v := s) (xs := als (l.take i)) (base := w1.heap.size) rfl _ _ 22 rfl ty_alarm i0 (.agg #[.int .u64 0, .int .i64 0]) 16 Try.underlying22 HI.out.1 HI.out.2.1 HI.out.2.2.1 HI.out.2.2.2 rfl ?_ ?_ (.slice (some ⟨w7.heap.size, 0, none⟩) 1 1) ([alV (at_, ap)]) ?_ ?_ ?_ ?_ ?_ ?_; (focus (simp [Act.eval])); (focus (exact (HO.out.kept hb7).kept ((Below.refl _ _).alloc (Nat.le_refl _) _))); (focus (simp [Act.eval])); (focus (exact (Sl.made1 (al_val (at_, ap)) rfl))); (focus (first | (simp [maxLen]; omega) | (solve | simp [maxLen]))); (focus (first | (simp; omega) | (solve | simp))); (focus (first | omega | (simp only [World.size_alloc, World.size_setCell]; omega))); (intro v4 w4 ho4 hg4 hf4; (have hb4 : Below w1.heap.size w1 w4 := ((HO.out.kept hb7).kept ((Below.refl _ _).alloc (Nat.le_refl _) _)).below hg4 (by (repeat (first | with_reducible assumption | with_reducible exact Below.refl _ _ | with_reducible refine Below.setCell ?_ ?_ _ | with_reducible refine Below.alloc ?_ ?_ _ | with_reducible refine below_drewN' ?_ _ | with_reducible refine Below.drew ?_ | with_reducible refine Below.trans ?_ (Below.mono (by assumption) ?_) | omega | (dsimp only; omega) | (simp only [drew_heap', drewN_heap', World.size_alloc, World.size_setCell]; omega) | (solve | simp) | (solve | (simp; omega))))) (Nat.le_refl _) (by simp only [World.size_alloc]; omega)); (have hz4 := hb4.size); (have HO4 := Lib.hid ho4); (clear ho4 hg4 hf4); (obtain ⟨b7, off7, he7, hb70, d0, d1⟩ := Sl.al (HV.out.below (hbw1.trans (hb4.mono (by omega)))) HX.out); (simp only [Option.some.injEq, Addr.mk.injEq, and_true] at he7); (obtain ⟨rfl, rfl⟩ := he7); (dsimp only at d0 d1))) | (refine wpList_append_sl (v := v4) (xs := als (l.take i) ++ [alV (at_, ap)]) (base := w1.heap.size) rfl _ _ 22 rfl ty_alarm i0 (.agg #[.int .u64 0, .int .i64 0]) 16 Try.underlying22 HI.out.1 HI.out.2.1 HI.out.2.2.1 HI.out.2.2.2 rfl ?_ ?_ (.slice (some ⟨w4.heap.size, 0, none⟩) 1 1) ([alV (at_, xp)]) ?_ ?_ ?_ ?_ ?_ ?_; (focus (simp [Act.eval])); (focus (exact HO4.out.kept ((Below.refl _ _).alloc (Nat.le_refl _) _))); (focus (simp [Act.eval])); (focus (exact (Sl.made1 (al_val (at_, xp)) rfl))); (focus (first | (simp [maxLen]; omega) | (solve | simp [maxLen]))); (focus (first | (simp; omega) | (solve | simp))); (focus (first | omega | (simp only [World.size_alloc, World.size_setCell]; omega))); (intro v5 w5 ho5 hg5 hf5; (have hb5 : Below w1.heap.size w1 w5 := (HO4.out.kept ((Below.refl _ _).alloc (Nat.le_refl _) _)).below hg5 (by (repeat (first | with_reducible assumption | with_reducible exact Below.refl _ _ | with_reducible refine Below.setCell ?_ ?_ _ | with_reducible refine Below.alloc ?_ ?_ _ | with_reducible refine below_drewN' ?_ _ | with_reducible refine Below.drew ?_ | with_reducible refine Below.trans ?_ (Below.mono (by assumption) ?_) | omega | (dsimp only; omega) | (simp only [drew_heap', drewN_heap', World.size_alloc, World.size_setCell]; omega) | (solve | simp) | (solve | (simp; omega))))) (Nat.le_refl _) (by simp only [World.size_alloc]; omega)); (have hz5 := hb5.size); (have HO5 := Lib.hid ho5); (clear ho5 hg5 hf5))) | fail)
            go_roundw
            case rel => exact ⟨i + 1, _, by omega, rfl, by go_num, hb5, .inr ⟨by omega, rfl, by rw [HT.out]; exact HO5.out⟩⟩
            case measure => simp [intOf]; omega
      · have HO := Lib.hid hown
        clear hown
        have HT := Lib.hid (show als (l.take k ++ (at_, ap) :: (l.drop k).take (i + 1 - k)) = als (l.take k ++ (at_, ap) :: (l.drop k).take (i - k)) ++ [alV x] by
            rw [show i + 1 - k = (i - k) + 1 by omega, take_step (x := x) (by rw [List.getElem?_drop, show k + (i - k) = i by omega]; exact HX.out)]; simp)
        have hlen : (l.take k ++ (at_, ap) :: (l.drop k).take (i - k)).length = i + 1 := by simp; omega
        go_wp2_with fail
        ((refine wp_region_quiet_below (by kernel_rfl) (by kernel_rfl) ?_); (repeat (go_big_quiet_step (fail))); (refine wpQuiet_nil ?_); (intro _ hw'); (obtain ⟨⟨dq, osq⟩, hw''⟩ := hw'); (subst hw''); (have hb7 := below_regrown wr dq osq); (generalize Go.Sort.grow (redrawn wr dq) osq = w7 at *); (have hz7 := hb7.size))
        clear g0 g1 g2
        have hbx7 : Below w1.heap.size w1 w7 := hbx.trans (hb7.mono hws)
        obtain ⟨b7, off7, he7, hb70, d0, d1⟩ := Sl.al (HV.out.below (hbw.trans (hb7.mono hbw.size))) HX.out
        simp only [Option.some.injEq, Addr.mk.injEq, and_true] at he7
        obtain ⟨rfl, rfl⟩ := he7
        go_wp2_with (first | (refine wpList_append_sl (v := s) (xs := als (l.take k ++ (at_, ap) :: (l.drop k).take (i - k))) (base := w1.heap.size) rfl _ _ 22 rfl ty_alarm i0 (.agg #[.int .u64 0, .int .i64 0]) 16 Try.underlying22 HI.out.1 HI.out.2.1 HI.out.2.2.1 HI.out.2.2.2 rfl ?_ ?_ (.slice (some ⟨w7.heap.size, 0, none⟩) 1 1) ([alV x]) ?_ ?_ ?_ ?_ ?_ ?_; (focus (simp [Act.eval])); (focus (exact (HO.out.kept hb7).kept ((Below.refl _ _).alloc (Nat.le_refl _) _))); (focus (simp [Act.eval])); (focus (exact (Sl.made1 (al_val x) rfl))); (focus (first | (simp [maxLen]; omega) | (solve | simp [maxLen]))); (focus (first | (simp; omega) | (solve | simp))); (focus (first | omega | (simp only [World.size_alloc, World.size_setCell]; omega))); (intro v4 w4 ho4 hg4 hf4; (have hb4 : Below w1.heap.size w1 w4 := ((HO.out.kept hb7).kept ((Below.refl _ _).alloc (Nat.le_refl _) _)).below hg4 (by (repeat (first | with_reducible assumption | with_reducible exact Below.refl _ _ | with_reducible refine Below.setCell ?_ ?_ _ | with_reducible refine Below.alloc ?_ ?_ _ | with_reducible refine below_drewN' ?_ _ | with_reducible refine Below.drew ?_ | with_reducible refine Below.trans ?_ (Below.mono (by assumption) ?_) | omega | (dsimp only; omega) | (simp only [drew_heap', drewN_heap', World.size_alloc, World.size_setCell]; omega) | (solve | simp) | (solve | (simp; omega))))) (Nat.le_refl _) (by simp only [World.size_alloc]; omega)); (have hz4 := hb4.size); (have HO4 := Lib.hid ho4); (clear ho4 hg4 hf4))) | fail)
        go_roundw
        case rel => exact ⟨i + 1, _, by omega, rfl, by go_num, hb4, .inr ⟨by omega, rfl, by rw [HT.out]; exact HO4.out⟩⟩
        case measure => simp [intOf]; omega
    · obtain rfl : i = l.length := by omega
      rcases hcase with ⟨hik, rfl, hown⟩ | ⟨hik, rfl, hown⟩
      · obtain rfl : k = l.length := by omega
        have HO := Lib.hid hown
        clear hown
        have hc : Box wr w.heap.size #[.int .u64 at_, .int .i64 ap] 30 := Box.below HB0.out hbx (by omega)
        obtain ⟨hc1, hf1, hl1, hn1, hm1⟩ := hc.rules
        clear hc
        have HT := Lib.hid (show als (l.take l.length) ++ [alV (at_, ap)] = als ad by rw [HAE.out]; simp)
        go_wp2_with (first | (refine wpList_append_sl (v := s) (xs := als (l.take l.length)) (base := w1.heap.size) rfl _ _ 22 rfl ty_alarm i0 (.agg #[.int .u64 0, .int .i64 0]) 16 Try.underlying22 HI.out.1 HI.out.2.1 HI.out.2.2.1 HI.out.2.2.2 rfl ?_ ?_ (.slice (some ⟨wr.heap.size, 0, none⟩) 1 1) ([alV (at_, ap)]) ?_ ?_ ?_ ?_ ?_ ?_; (focus (simp [Act.eval])); (focus (exact HO.out.kept ((Below.refl _ _).alloc (Nat.le_refl _) _))); (focus (simp [Act.eval])); (focus (exact (Sl.made1 (al_val (at_, ap)) rfl))); (focus (first | (simp [maxLen]; omega) | (solve | simp [maxLen]))); (focus (first | (simp; omega) | (solve | simp))); (focus (first | omega | (simp only [World.size_alloc, World.size_setCell]; omega))); (intro v4 w4 ho4 hg4 hf4; (have hb4 : Below w1.heap.size w1 w4 := (HO.out.kept ((Below.refl _ _).alloc (Nat.le_refl _) _)).below hg4 (by (repeat (first | with_reducible assumption | with_reducible exact Below.refl _ _ | with_reducible refine Below.setCell ?_ ?_ _ | with_reducible refine Below.alloc ?_ ?_ _ | with_reducible refine below_drewN' ?_ _ | with_reducible refine Below.drew ?_ | with_reducible refine Below.trans ?_ (Below.mono (by assumption) ?_) | omega | (dsimp only; omega) | (simp only [drew_heap', drewN_heap', World.size_alloc, World.size_setCell]; omega) | (solve | simp) | (solve | (simp; omega))))) (Nat.le_refl _) (by simp only [World.size_alloc]; omega)); (have hz4 := hb4.size); (have HO4 := Lib.hid ho4); (clear ho4 hg4 hf4))) | fail)
        go_ret
        refine ⟨_, rfl, ?_, hbw1.trans (hb4.mono (by omega))⟩
        rw [← HT.out]
        exact HO4.out.sl
      · have HT := Lib.hid (show als (l.take k ++ (at_, ap) :: (l.drop k).take (l.length - k)) = als ad by rw [HAE.out, List.take_of_length_le (l := l.drop k) (by simp)])
        go_wp2_with fail
        go_ret
        refine ⟨_, rfl, ?_, hbw⟩
        rw [← HT.out]
        exact hown.sl

end Go.Proofs.Ytndmgbdgcemcmaa
