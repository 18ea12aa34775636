/- The reference's Until, Drop, Due. Conditions: lengths within the reach. -/
import Derived.Test.YtndmgbdgcemcmaaSleepParts
namespace Go.Proofs.Ytndmgbdgcemcmaa
open Go Go.RowKit Go.Tm
set_option linter.unusedVariables false
set_option linter.unusedSimpArgs false

theorem refUntil_any (now n : Int) (w : World) (h1 : 0 ≤ now ∧ now ≤ 18446744073709551615) (h2 : 0 ≤ n ∧ n ≤ 4294967295) :
    Calls Try.prog 21 #[.int .u64 now, .int .u32 n] w fun e w' => e = .returned (.int .u64 (now + min n (18446744073709551615 - now))) ∧ Below w.heap.size w w' := by
  have hw0 : IntKind.u64.wrap n = n := by rw [IntKind.wrap_u64]; omega
  have hw1 : IntKind.u64.wrap (now + n) = if n ≤ 18446744073709551615 - now then now + n else now + n - 18446744073709551616 := by
    rw [IntKind.wrap_u64]; split <;> omega
  by_cases hle : n ≤ 18446744073709551615 - now
  · rw [if_pos hle] at hw1
    have hmin : min n (18446744073709551615 - now) = n := by omega
    have hlt : ¬ now + n < now := by omega
    rw [hmin]
    go_enter Try.func21, Try.ntmps21
    go_wp2_with fail
    go_ret
    exact ⟨by simp, by (repeat (first | with_reducible assumption | with_reducible exact Below.refl _ _ | with_reducible refine Below.setCell ?_ ?_ _ | with_reducible refine Below.alloc ?_ ?_ _ | with_reducible refine below_drewN' ?_ _ | with_reducible refine Below.drew ?_ | with_reducible refine Below.trans ?_ (Below.mono (by assumption) ?_) | omega | (dsimp only; omega) | (simp only [drew_heap', drewN_heap', World.size_alloc, World.size_setCell]; omega) | (solve | simp) | (solve | (simp; omega))))⟩
  · rw [if_neg hle] at hw1
    have hmin : min n (18446744073709551615 - now) = 18446744073709551615 - now := by omega
    have hlt : now + n - 18446744073709551616 < now := by omega
    have hsum : now + (18446744073709551615 - now) = 18446744073709551615 := by omega
    rw [hmin, hsum]
    go_enter Try.func21, Try.ntmps21
    go_wp2_with fail
    go_ret
    exact ⟨by simp, by (repeat (first | with_reducible assumption | with_reducible exact Below.refl _ _ | with_reducible refine Below.setCell ?_ ?_ _ | with_reducible refine Below.alloc ?_ ?_ _ | with_reducible refine below_drewN' ?_ _ | with_reducible refine Below.drew ?_ | with_reducible refine Below.trans ?_ (Below.mono (by assumption) ?_) | omega | (dsimp only; omega) | (simp only [drew_heap', drewN_heap', World.size_alloc, World.size_setCell]; omega) | (solve | simp) | (solve | (simp; omega))))⟩

theorem dropS_step {l : List Al} {i : Nat} {x : Al} (h : l[i]? = some x) (pid : Int) :
    als (dropS (l.take (i + 1)) pid) = als (dropS (l.take i) pid) ++ (if x.2 = pid then [] else [alV x]) := by
  rw [take_step h, dropS, dropS, List.filter_append]
  by_cases hx : x.2 = pid
  · simp [hx]
  · simp [hx]

set_option maxHeartbeats 4000000 in
theorem refDrop_any (v : Value) (l : List Al) (pid : Int) (w : World) (hv : Sl w true 2 v (als l)) (hby : l.length * 16 ≤ 140737488355328) :
    Calls Try.prog 19 #[v, .int .i64 pid] w fun e w' => ∃ v', e = .returned v' ∧ Sl w' true 2 v' (als (dropS l pid)) ∧ Below w.heap.size w w' := by
  have HV := Lib.hid hv
  obtain ⟨i0, hi0, hq0, hq1, hq2⟩ := info_parts info_alarm
  have HI := Lib.hid (And.intro hi0 (And.intro hq0 (And.intro hq1 hq2)))
  clear hi0 hq0 hq1 hq2
  obtain ⟨a, cap, rfl, hl⟩ := hv.shape
  rw [als_len] at hl HV ⊢
  clear hv
  go_enter Try.func19, Try.ntmps19
  go_wp2_with fail
  go_loopw [5, 6] (fun u t W => ∃ (i : Nat) (s : Value), i ≤ l.length ∧ s = u ∧ t = .int .i64 i ∧ Below w.heap.size w W ∧ Owned W w.heap.size 30 true 2 u (als (dropS (l.take i) pid))) (fun _ t _ => l.length - (intOf t).toNat)
  case atStart => exact ⟨0, _, Nat.zero_le _, rfl, rfl, Below.refl _ _, Owned.nil⟩
  case round =>
    obtain ⟨i, s, hi, rfl, rfl, hbw, hown⟩ := hrel
    have hws := hbw.size
    have HO := Lib.hid hown
    clear hown
    have hwr : IntKind.i64.wrap ((i : Int) + 1) = i + 1 := IntWalk.i64_in _ (by omega)
    by_cases hil : i < l.length
    · obtain ⟨x, hx⟩ : ∃ x, l[i]? = some x := ⟨_, List.getElem?_eq_getElem hil⟩
      obtain ⟨b, off, rfl, hb, c0, c1⟩ := Sl.al (HV.out.below hbw) hx
      have hst := dropS_step hx pid
      have hle := dropS_le (l.take i) pid
      have htl : (l.take i).length = i := by simp; omega
      rw [htl] at hle
      clear hx htl
      by_cases hp : x.2 = pid
      · rw [if_pos hp, List.append_nil] at hst
        have HT := Lib.hid hst
        clear hst
        go_wp2_with fail
        go_roundw
        case rel => exact ⟨i + 1, _, by omega, rfl, by go_num, hbw, by rw [HT.out]; exact HO.out⟩
        case measure => simp [intOf]; omega
      · rw [if_neg hp] at hst
        have HT := Lib.hid hst
        have hp1 : (x.2 != pid) = true := by simpa using hp
        clear hst
        go_wp2_with (first | (refine wpList_append_sl (v := s) (xs := als (dropS (l.take i) pid)) (base := w.heap.size) rfl _ _ 22 rfl ty_alarm i0 (.agg #[.int .u64 0, .int .i64 0]) 16 Try.underlying22 HI.out.1 HI.out.2.1 HI.out.2.2.1 HI.out.2.2.2 rfl ?_ ?_ (.slice (some ⟨wr.heap.size, 0, none⟩) 1 1) ([alV x]) ?_ ?_ ?_ ?_ ?_ ?_; (focus (simp [Act.eval])); (focus (exact (HO.out.kept (by (repeat (first | with_reducible assumption | with_reducible exact Below.refl _ _ | with_reducible refine Below.setCell ?_ ?_ _ | with_reducible refine Below.alloc ?_ ?_ _ | with_reducible refine below_drewN' ?_ _ | with_reducible refine Below.drew ?_ | with_reducible refine Below.trans ?_ (Below.mono (by assumption) ?_) | omega | (dsimp only; omega) | (simp only [drew_heap', drewN_heap', World.size_alloc, World.size_setCell]; omega) | (solve | simp) | (solve | (simp; omega)))))))); (focus (simp [Act.eval])); (focus (exact (Sl.made1 (al_val x) rfl))); (focus (first | (simp [maxLen]; omega) | (solve | simp [maxLen]))); (focus (first | (simp; omega) | (solve | simp))); (focus (first | omega | (simp only [World.size_alloc, World.size_setCell]; omega))); (intro v4 w4 ho4 hg4 hf4; (have hb4 : Below w.heap.size w w4 := (HO.out.kept (by (repeat (first | with_reducible assumption | with_reducible exact Below.refl _ _ | with_reducible refine Below.setCell ?_ ?_ _ | with_reducible refine Below.alloc ?_ ?_ _ | with_reducible refine below_drewN' ?_ _ | with_reducible refine Below.drew ?_ | with_reducible refine Below.trans ?_ (Below.mono (by assumption) ?_) | omega | (dsimp only; omega) | (simp only [drew_heap', drewN_heap', World.size_alloc, World.size_setCell]; omega) | (solve | simp) | (solve | (simp; omega)))))).below hg4 (by (repeat (first | with_reducible assumption | with_reducible exact Below.refl _ _ | with_reducible refine Below.setCell ?_ ?_ _ | with_reducible refine Below.alloc ?_ ?_ _ | with_reducible refine below_drewN' ?_ _ | with_reducible refine Below.drew ?_ | with_reducible refine Below.trans ?_ (Below.mono (by assumption) ?_) | omega | (dsimp only; omega) | (simp only [drew_heap', drewN_heap', World.size_alloc, World.size_setCell]; omega) | (solve | simp) | (solve | (simp; omega))))) (Nat.le_refl _) (by simp only [World.size_alloc]; omega)); (have HO4 := Lib.hid ho4); (clear ho4 hg4 hf4))) | fail)
        go_roundw
        case rel => exact ⟨i + 1, _, by omega, rfl, by go_num, hb4, by rw [HT.out]; exact HO4.out⟩
        case measure => simp [intOf]; omega
    · obtain rfl : i = l.length := by omega
      go_wp2_with fail
      go_ret
      refine ⟨_, rfl, ?_, hbw⟩
      have h := HO.out.sl
      rw [List.take_length] at h
      exact h

set_option maxHeartbeats 8000000 in
theorem refDue_any (v : Value) (l : List Al) (now : Int) (w : World) (hv : Sl w true 2 v (als l)) (hby : l.length * 16 ≤ 140737488355328) :
    Calls Try.prog 17 #[v, .int .u64 now] w fun e w' => ∃ v1 v2, e = .returned (.tuple #[v1, v2]) ∧ Sl w' false 1 v1 (ints (dueP l now)) ∧ Sl w' true 2 v2 (als (dueR l now)) ∧ Below w.heap.size w w' := by
  have HV := Lib.hid hv
  have hkl := dueN_le l now
  obtain ⟨i0, hi0, hq0, hq1, hq2⟩ := info_parts info_int
  have HI := Lib.hid (And.intro hi0 (And.intro hq0 (And.intro hq1 hq2)))
  obtain ⟨i1, hi0, hq0, hq1, hq2⟩ := info_parts info_alarm
  have HI2 := Lib.hid (And.intro hi0 (And.intro hq0 (And.intro hq1 hq2)))
  clear hi0 hq0 hq1 hq2
  obtain ⟨a, cap, rfl, hl⟩ := hv.shape
  rw [als_len] at hl HV ⊢
  clear hv
  have HPE := Lib.hid (dueP_eq l now)
  have HRE := Lib.hid (dueR_eq l now)
  have HDA := Lib.hid (fun i x (hx : l[i]? = some x) h => due_at (now := now) hx h)
  have HDS := Lib.hid (fun x (hx : l[dueN l now]? = some x) => due_stop hx)
  generalize dueN l now = k at *
  go_enter Try.func17, Try.ntmps17
  go_wp2_with fail
  go_loopw [6, 7, 8] (fun p r t W => ∃ (i : Nat) (p0 r0 : Value), i ≤ l.length ∧ p0 = p ∧ r0 = r ∧ t = .int .i64 i ∧ Below w.heap.size w W ∧
      ((i ≤ k ∧ r = .slice none 0 0 ∧ Owned W w.heap.size 3 false 1 p (ints ((l.take i).map Prod.snd))) ∨
       (k < i ∧ ∃ wm : World, w.heap.size ≤ wm.heap.size ∧ Sl wm false 1 p (ints (dueP l now)) ∧ Below wm.heap.size wm W ∧ Owned W wm.heap.size 30 true 2 r (als ((l.drop k).take (i - k)))))) (fun _ _ t _ => l.length - (intOf t).toNat)
  case atStart => exact ⟨0, _, _, Nat.zero_le _, rfl, rfl, rfl, Below.refl _ _, .inl ⟨Nat.zero_le _, rfl, Owned.nil⟩⟩
  case round =>
    obtain ⟨i, p0, r0, hi, rfl, rfl, rfl, hbw, hcase⟩ := hrel
    have hws := hbw.size
    have hwr : IntKind.i64.wrap ((i : Int) + 1) = i + 1 := IntWalk.i64_in _ (by omega)
    rcases hcase with ⟨hik, rfl, hown⟩ | ⟨hik, wm, hwm, hsp, hbm, hown⟩
    · have HO := Lib.hid hown
      clear hown
      by_cases hil : i < l.length
      · obtain ⟨x, hx⟩ : ∃ x, l[i]? = some x := ⟨_, List.getElem?_eq_getElem hil⟩
        obtain ⟨b, off, rfl, hb, c0, c1⟩ := Sl.al (HV.out.below hbw) hx
        by_cases hk : i < k
        · have hle := HDA.out i x hx hk
          have hgt : ¬ now < x.1 := by omega
          have HT := Lib.hid (show ints ((l.take (i + 1)).map Prod.snd) = ints ((l.take i).map Prod.snd) ++ [.int .i64 x.2] by rw [take_step hx]; simp)
          clear hx
          go_wp2_with (first | (refine wpList_append_sl (v := p0) (xs := ints ((l.take i).map Prod.snd)) (base := w.heap.size) rfl _ _ 26 rfl ty_int i0 (.int .i64 0) 8 Try.underlying26 HI.out.1 HI.out.2.1 HI.out.2.2.1 HI.out.2.2.2 rfl ?_ ?_ (.slice (some ⟨wr.heap.size, 0, none⟩) 1 1) ([.int .i64 x.2]) ?_ ?_ ?_ ?_ ?_ ?_; (focus (simp [Act.eval])); (focus (exact (HO.out.kept (by (repeat (first | with_reducible assumption | with_reducible exact Below.refl _ _ | with_reducible refine Below.setCell ?_ ?_ _ | with_reducible refine Below.alloc ?_ ?_ _ | with_reducible refine below_drewN' ?_ _ | with_reducible refine Below.drew ?_ | with_reducible refine Below.trans ?_ (Below.mono (by assumption) ?_) | omega | (dsimp only; omega) | (simp only [drew_heap', drewN_heap', World.size_alloc, World.size_setCell]; omega) | (solve | simp) | (solve | (simp; omega)))))))); (focus (simp [Act.eval])); (focus (exact (Sl.made1 (int_val x.2) rfl))); (focus (first | (simp [maxLen]; omega) | (solve | simp [maxLen]))); (focus (first | (simp; omega) | (solve | simp))); (focus (first | omega | (simp only [World.size_alloc, World.size_setCell]; omega))); (intro v4 w4 ho4 hg4 hf4; (have hb4 : Below w.heap.size w w4 := (HO.out.kept (by (repeat (first | with_reducible assumption | with_reducible exact Below.refl _ _ | with_reducible refine Below.setCell ?_ ?_ _ | with_reducible refine Below.alloc ?_ ?_ _ | with_reducible refine below_drewN' ?_ _ | with_reducible refine Below.drew ?_ | with_reducible refine Below.trans ?_ (Below.mono (by assumption) ?_) | omega | (dsimp only; omega) | (simp only [drew_heap', drewN_heap', World.size_alloc, World.size_setCell]; omega) | (solve | simp) | (solve | (simp; omega)))))).below hg4 (by (repeat (first | with_reducible assumption | with_reducible exact Below.refl _ _ | with_reducible refine Below.setCell ?_ ?_ _ | with_reducible refine Below.alloc ?_ ?_ _ | with_reducible refine below_drewN' ?_ _ | with_reducible refine Below.drew ?_ | with_reducible refine Below.trans ?_ (Below.mono (by assumption) ?_) | omega | (dsimp only; omega) | (simp only [drew_heap', drewN_heap', World.size_alloc, World.size_setCell]; omega) | (solve | simp) | (solve | (simp; omega))))) (Nat.le_refl _) (by simp only [World.size_alloc]; omega)); (have HO4 := Lib.hid ho4); (clear ho4 hg4 hf4))) | fail)
          go_roundw
          case rel => exact ⟨i + 1, _, _, by omega, rfl, rfl, by go_num, hb4, .inl ⟨by omega, rfl, by rw [HT.out]; exact HO4.out⟩⟩
          case measure => simp [intOf]; omega
        · obtain rfl : i = k := by omega
          have hgt := HDS.out x hx
          have HT := Lib.hid (show als ((l.drop i).take (i + 1 - i)) = [] ++ [alV x] by
            rw [show i + 1 - i = 0 + 1 by omega, take_step (x := x) (by rw [List.getElem?_drop]; exact hx)]; simp)
          have HP := Lib.hid (show Sl wr false 1 p0 (ints (dueP l now)) by rw [HPE.out]; exact HO.out.sl)
          clear hx HO
          have HO := Lib.hid (Owned.nil (w := wr) (base := wr.heap.size) (E := 30) (ag := true) (k := 2))
          go_wp2_with (first | (refine wpList_append_sl (v := .slice none 0 0) (xs := []) (base := wr.heap.size) rfl _ _ 22 rfl ty_alarm i1 (.agg #[.int .u64 0, .int .i64 0]) 16 Try.underlying22 HI2.out.1 HI2.out.2.1 HI2.out.2.2.1 HI2.out.2.2.2 rfl ?_ ?_ (.slice (some ⟨wr.heap.size, 0, none⟩) 1 1) ([alV x]) ?_ ?_ ?_ ?_ ?_ ?_; (focus (simp [Act.eval])); (focus (exact (HO.out.kept (by (repeat (first | with_reducible assumption | with_reducible exact Below.refl _ _ | with_reducible refine Below.setCell ?_ ?_ _ | with_reducible refine Below.alloc ?_ ?_ _ | with_reducible refine below_drewN' ?_ _ | with_reducible refine Below.drew ?_ | with_reducible refine Below.trans ?_ (Below.mono (by assumption) ?_) | omega | (dsimp only; omega) | (simp only [drew_heap', drewN_heap', World.size_alloc, World.size_setCell]; omega) | (solve | simp) | (solve | (simp; omega)))))))); (focus (simp [Act.eval])); (focus (exact (Sl.made1 (al_val x) rfl))); (focus (first | (simp [maxLen]; omega) | (solve | simp [maxLen]))); (focus (first | (simp; omega) | (solve | simp))); (focus (first | omega | (simp only [World.size_alloc, World.size_setCell]; omega))); (intro v4 w4 ho4 hg4 hf4; (have hb4 : Below wr.heap.size wr w4 := (HO.out.kept (by (repeat (first | with_reducible assumption | with_reducible exact Below.refl _ _ | with_reducible refine Below.setCell ?_ ?_ _ | with_reducible refine Below.alloc ?_ ?_ _ | with_reducible refine below_drewN' ?_ _ | with_reducible refine Below.drew ?_ | with_reducible refine Below.trans ?_ (Below.mono (by assumption) ?_) | omega | (dsimp only; omega) | (simp only [drew_heap', drewN_heap', World.size_alloc, World.size_setCell]; omega) | (solve | simp) | (solve | (simp; omega)))))).below hg4 (by (repeat (first | with_reducible assumption | with_reducible exact Below.refl _ _ | with_reducible refine Below.setCell ?_ ?_ _ | with_reducible refine Below.alloc ?_ ?_ _ | with_reducible refine below_drewN' ?_ _ | with_reducible refine Below.drew ?_ | with_reducible refine Below.trans ?_ (Below.mono (by assumption) ?_) | omega | (dsimp only; omega) | (simp only [drew_heap', drewN_heap', World.size_alloc, World.size_setCell]; omega) | (solve | simp) | (solve | (simp; omega))))) (Nat.le_refl _) (by simp only [World.size_alloc]; omega)); (have HO4 := Lib.hid ho4); (clear ho4 hg4 hf4))) | fail)
          go_roundw
          case rel => exact ⟨i + 1, _, _, by omega, rfl, rfl, by go_num, hbw.trans (hb4.mono hws), .inr ⟨by omega, wr, hws, HP.out, hb4, by rw [HT.out]; exact HO4.out⟩⟩
          case measure => simp [intOf]; omega
      · obtain rfl : i = l.length := by omega
        obtain rfl : k = l.length := by omega
        have hp := HO.out.sl
        rw [← HPE.out] at hp
        have HP := Lib.hid hp
        obtain ⟨ap, cp, rfl, _⟩ := hp.shape
        clear hp
        go_wp2_with fail
        exact bodyPost_ret (v := .tuple #[.slice ap (ints (dueP l now)).length cp, .slice none 0 0]) (by simp [results, Try.results17, go_sem]) rfl ⟨_, _, rfl, HP.out, by rw [HRE.out, List.drop_length]; exact (Owned.nil (w := wr) (base := 0) (E := 30)).sl, hbw⟩
    · have HO := Lib.hid hown
      have HP := Lib.hid hsp
      have hzm := hbm.size
      clear hown hsp
      by_cases hil : i < l.length
      · obtain ⟨x, hx⟩ : ∃ x, l[i]? = some x := ⟨_, List.getElem?_eq_getElem hil⟩
        obtain ⟨b, off, rfl, hb, c0, c1⟩ := Sl.al (HV.out.below hbw) hx
        have HT := Lib.hid (show als ((l.drop k).take (i + 1 - k)) = als ((l.drop k).take (i - k)) ++ [alV x] by
          rw [show i + 1 - k = (i - k) + 1 by omega, take_step (x := x) (by rw [List.getElem?_drop, show k + (i - k) = i by omega]; exact hx)]; simp)
        have hlen : ((l.drop k).take (i - k)).length = i - k := by simp; omega
        have hsh := HO.out.sl
        rw [show als ((l.drop k).take (i - k)) = als ((l.drop k).take (i - k)) from rfl] at hsh
        obtain ⟨ar, cr, rfl, _⟩ := hsh.shape
        rw [als_len, hlen] at HO ⊢
        clear hx hsh
        have hpos : (0 : Int) < ((i - k : Nat) : Int) := by omega
        have hpos2 : 0 < i - k := by omega
        by_cases hgt : now < x.1
        · go_wp2_with (first | (refine wpList_append_sl (v := (.slice ar (i - k) cr)) (xs := als ((l.drop k).take (i - k))) (base := wm.heap.size) rfl _ _ 22 rfl ty_alarm i1 (.agg #[.int .u64 0, .int .i64 0]) 16 Try.underlying22 HI2.out.1 HI2.out.2.1 HI2.out.2.2.1 HI2.out.2.2.2 rfl ?_ ?_ (.slice (some ⟨wr.heap.size, 0, none⟩) 1 1) ([alV x]) ?_ ?_ ?_ ?_ ?_ ?_; (focus (simp [Act.eval])); (focus (exact (HO.out.kept (by (repeat (first | with_reducible assumption | with_reducible exact Below.refl _ _ | with_reducible refine Below.setCell ?_ ?_ _ | with_reducible refine Below.alloc ?_ ?_ _ | with_reducible refine below_drewN' ?_ _ | with_reducible refine Below.drew ?_ | with_reducible refine Below.trans ?_ (Below.mono (by assumption) ?_) | omega | (dsimp only; omega) | (simp only [drew_heap', drewN_heap', World.size_alloc, World.size_setCell]; omega) | (solve | simp) | (solve | (simp; omega)))))))); (focus (simp [Act.eval])); (focus (exact (Sl.made1 (al_val x) rfl))); (focus (first | (simp [maxLen]; omega) | (solve | simp [maxLen]))); (focus (first | (simp; omega) | (solve | simp))); (focus (first | omega | (simp only [World.size_alloc, World.size_setCell]; omega))); (intro v4 w4 ho4 hg4 hf4; (have hb5 : Below wm.heap.size wm w4 := (HO.out.kept (by (repeat (first | with_reducible assumption | with_reducible exact Below.refl _ _ | with_reducible refine Below.setCell ?_ ?_ _ | with_reducible refine Below.alloc ?_ ?_ _ | with_reducible refine below_drewN' ?_ _ | with_reducible refine Below.drew ?_ | with_reducible refine Below.trans ?_ (Below.mono (by assumption) ?_) | omega | (dsimp only; omega) | (simp only [drew_heap', drewN_heap', World.size_alloc, World.size_setCell]; omega) | (solve | simp) | (solve | (simp; omega)))))).below hg4 (by (repeat (first | with_reducible assumption | with_reducible exact Below.refl _ _ | with_reducible refine Below.setCell ?_ ?_ _ | with_reducible refine Below.alloc ?_ ?_ _ | with_reducible refine below_drewN' ?_ _ | with_reducible refine Below.drew ?_ | with_reducible refine Below.trans ?_ (Below.mono (by assumption) ?_) | omega | (dsimp only; omega) | (simp only [drew_heap', drewN_heap', World.size_alloc, World.size_setCell]; omega) | (solve | simp) | (solve | (simp; omega))))) (Nat.le_refl _) (by simp only [World.size_alloc]; omega)); (have hb6 : Below w.heap.size w w4 := (HO.out.kept (by (repeat (first | with_reducible assumption | with_reducible exact Below.refl _ _ | with_reducible refine Below.setCell ?_ ?_ _ | with_reducible refine Below.alloc ?_ ?_ _ | with_reducible refine below_drewN' ?_ _ | with_reducible refine Below.drew ?_ | with_reducible refine Below.trans ?_ (Below.mono (by assumption) ?_) | omega | (dsimp only; omega) | (simp only [drew_heap', drewN_heap', World.size_alloc, World.size_setCell]; omega) | (solve | simp) | (solve | (simp; omega)))))).below hg4 (by (repeat (first | with_reducible assumption | with_reducible exact Below.refl _ _ | with_reducible refine Below.setCell ?_ ?_ _ | with_reducible refine Below.alloc ?_ ?_ _ | with_reducible refine below_drewN' ?_ _ | with_reducible refine Below.drew ?_ | with_reducible refine Below.trans ?_ (Below.mono (by assumption) ?_) | omega | (dsimp only; omega) | (simp only [drew_heap', drewN_heap', World.size_alloc, World.size_setCell]; omega) | (solve | simp) | (solve | (simp; omega))))) (by omega) (by simp only [World.size_alloc]; omega)); (have HO4 := Lib.hid ho4); (clear ho4 hg4 hf4))) | fail)
          go_roundw
          case rel => exact ⟨i + 1, _, _, by omega, rfl, rfl, by go_num, hb6, .inr ⟨by omega, wm, hwm, HP.out, hb5, by rw [HT.out]; exact HO4.out⟩⟩
          case measure => simp [intOf]; omega
        · go_wp2_with (first | (refine wpList_append_sl (v := (.slice ar (i - k) cr)) (xs := als ((l.drop k).take (i - k))) (base := wm.heap.size) rfl _ _ 22 rfl ty_alarm i1 (.agg #[.int .u64 0, .int .i64 0]) 16 Try.underlying22 HI2.out.1 HI2.out.2.1 HI2.out.2.2.1 HI2.out.2.2.2 rfl ?_ ?_ (.slice (some ⟨wr.heap.size, 0, none⟩) 1 1) ([alV x]) ?_ ?_ ?_ ?_ ?_ ?_; (focus (simp [Act.eval])); (focus (exact (HO.out.kept (by (repeat (first | with_reducible assumption | with_reducible exact Below.refl _ _ | with_reducible refine Below.setCell ?_ ?_ _ | with_reducible refine Below.alloc ?_ ?_ _ | with_reducible refine below_drewN' ?_ _ | with_reducible refine Below.drew ?_ | with_reducible refine Below.trans ?_ (Below.mono (by assumption) ?_) | omega | (dsimp only; omega) | (simp only [drew_heap', drewN_heap', World.size_alloc, World.size_setCell]; omega) | (solve | simp) | (solve | (simp; omega)))))))); (focus (simp [Act.eval])); (focus (exact (Sl.made1 (al_val x) rfl))); (focus (first | (simp [maxLen]; omega) | (solve | simp [maxLen]))); (focus (first | (simp; omega) | (solve | simp))); (focus (first | omega | (simp only [World.size_alloc, World.size_setCell]; omega))); (intro v4 w4 ho4 hg4 hf4; (have hb5 : Below wm.heap.size wm w4 := (HO.out.kept (by (repeat (first | with_reducible assumption | with_reducible exact Below.refl _ _ | with_reducible refine Below.setCell ?_ ?_ _ | with_reducible refine Below.alloc ?_ ?_ _ | with_reducible refine below_drewN' ?_ _ | with_reducible refine Below.drew ?_ | with_reducible refine Below.trans ?_ (Below.mono (by assumption) ?_) | omega | (dsimp only; omega) | (simp only [drew_heap', drewN_heap', World.size_alloc, World.size_setCell]; omega) | (solve | simp) | (solve | (simp; omega)))))).below hg4 (by (repeat (first | with_reducible assumption | with_reducible exact Below.refl _ _ | with_reducible refine Below.setCell ?_ ?_ _ | with_reducible refine Below.alloc ?_ ?_ _ | with_reducible refine below_drewN' ?_ _ | with_reducible refine Below.drew ?_ | with_reducible refine Below.trans ?_ (Below.mono (by assumption) ?_) | omega | (dsimp only; omega) | (simp only [drew_heap', drewN_heap', World.size_alloc, World.size_setCell]; omega) | (solve | simp) | (solve | (simp; omega))))) (Nat.le_refl _) (by simp only [World.size_alloc]; omega)); (have hb6 : Below w.heap.size w w4 := (HO.out.kept (by (repeat (first | with_reducible assumption | with_reducible exact Below.refl _ _ | with_reducible refine Below.setCell ?_ ?_ _ | with_reducible refine Below.alloc ?_ ?_ _ | with_reducible refine below_drewN' ?_ _ | with_reducible refine Below.drew ?_ | with_reducible refine Below.trans ?_ (Below.mono (by assumption) ?_) | omega | (dsimp only; omega) | (simp only [drew_heap', drewN_heap', World.size_alloc, World.size_setCell]; omega) | (solve | simp) | (solve | (simp; omega)))))).below hg4 (by (repeat (first | with_reducible assumption | with_reducible exact Below.refl _ _ | with_reducible refine Below.setCell ?_ ?_ _ | with_reducible refine Below.alloc ?_ ?_ _ | with_reducible refine below_drewN' ?_ _ | with_reducible refine Below.drew ?_ | with_reducible refine Below.trans ?_ (Below.mono (by assumption) ?_) | omega | (dsimp only; omega) | (simp only [drew_heap', drewN_heap', World.size_alloc, World.size_setCell]; omega) | (solve | simp) | (solve | (simp; omega))))) (by omega) (by simp only [World.size_alloc]; omega)); (have HO4 := Lib.hid ho4); (clear ho4 hg4 hf4))) | fail)
          go_roundw
          case rel => exact ⟨i + 1, _, _, by omega, rfl, rfl, by go_num, hb6, .inr ⟨by omega, wm, hwm, HP.out, hb5, by rw [HT.out]; exact HO4.out⟩⟩
          case measure => simp [intOf]; omega
      · obtain rfl : i = l.length := by omega
        have HP2 := Lib.hid (HP.out.below hbm)
        obtain ⟨ap, cp, rfl, _⟩ := HP2.out.shape
        have hsr := HO.out.sl
        rw [List.take_of_length_le (by simp), ← HRE.out] at hsr
        obtain ⟨ar, cr, rfl, _⟩ := hsr.shape
        have HR := Lib.hid hsr
        clear hsr
        go_wp2_with fail
        exact bodyPost_ret (v := .tuple #[.slice ap (ints (dueP l now)).length cp, .slice ar (als (dueR l now)).length cr]) (by simp [results, Try.results17, go_sem]) rfl ⟨_, _, rfl, HP2.out, HR.out, hbw⟩
end Go.Proofs.Ytndmgbdgcemcmaa
