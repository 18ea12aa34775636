/- sleep.Due, Until, the reference's Same, Ints, Right; the document's example. Conditions: lengths within the reach. -/
import Derived.Test.YtndmgbdgcemcmaaSleepAdd
namespace Go.Proofs.Ytndmgbdgcemcmaa
open Go Go.RowKit Go.Tm
set_option linter.unusedVariables false
set_option linter.unusedSimpArgs false


theorem ty_int : Ty Try.prog 3 1 false := ⟨by kernel_rfl, by kernel_rfl, by decide, by kernel_rfl⟩

theorem info_int : (Try.prog.info? 3).map (fun i => (i.zero, i.size, i.bytes)) = some (some (.int .i64 0), 1, 8) := by kernel_rfl
def dueN (l : List Al) (now : Int) : Nat := (l.takeWhile (fun x => decide (x.1 ≤ now))).length
def dueP (l : List Al) (now : Int) : List Int := (l.takeWhile (fun x => decide (x.1 ≤ now))).map Prod.snd
def dueR (l : List Al) (now : Int) : List Al := l.dropWhile (fun x => decide (x.1 ≤ now))
theorem dueN_le (l : List Al) (now : Int) : dueN l now ≤ l.length := takeWhile_len_le _ l
theorem dueP_eq (l : List Al) (now : Int) : dueP l now = (l.take (dueN l now)).map Prod.snd := by unfold dueP dueN; rw [(while_take _ l).1]
theorem dueR_eq (l : List Al) (now : Int) : dueR l now = l.drop (dueN l now) := by unfold dueR dueN; rw [(while_take _ l).2]
theorem dueP_len (l : List Al) (now : Int) : (dueP l now).length = dueN l now := by simp [dueP, dueN]
theorem due_at {l : List Al} {now : Int} {i : Nat} {x : Al} (hx : l[i]? = some x) (h : i < dueN l now) : x.1 ≤ now := by
  unfold dueN at h
  have h1 : l.take (l.takeWhile (fun x => decide (x.1 ≤ now))).length = _ := (while_take (fun x : Al => decide (x.1 ≤ now)) l).1
  have h2 : (l.takeWhile (fun x => decide (x.1 ≤ now)))[i]? = some x := by rw [← h1, List.getElem?_take, if_pos h]; exact hx
  have := List.all_eq_true.1 (List.all_takeWhile (p := fun x : Al => decide (x.1 ≤ now)) (l := l)) x (List.mem_of_getElem? h2)
  simpa using this
theorem int_val (n : Int) : Val false 1 (.int .i64 n) := ⟨rfl, rfl⟩
theorem due_stop {l : List Al} {now : Int} {x : Al} (hx : l[dueN l now]? = some x) : now < x.1 := by
  have h2 := (while_take (fun x : Al => decide (x.1 ≤ now)) l).2
  have h3 : (l.drop (dueN l now))[0]? = some x := by rw [List.getElem?_drop, Nat.add_zero]; exact hx
  unfold dueN at h3
  rw [h2] at h3
  cases hd : l.dropWhile (fun x => decide (x.1 ≤ now)) with
  | nil => rw [hd] at h3; simp at h3
  | cons y r =>
    rw [hd] at h3
    simp at h3
    subst h3
    have hne : l.dropWhile (fun x => decide (x.1 ≤ now)) ≠ [] := by rw [hd]; simp
    have := List.head_dropWhile_not (fun x : Al => decide (x.1 ≤ now)) hne
    simp only [hd, List.head_cons] at this
    simpa using this

set_option maxHeartbeats 4000000 in
theorem due_any (v : Value) (l : List Al) (now : Int) (w : World) (hv : Sl w true 2 v (als l)) (hby : l.length * 16 ≤ 140737488355328) :
    Calls Try.prog 11 #[v, .int .u64 now] w fun e w' => ∃ v1 v2, e = .returned (.tuple #[v1, v2]) ∧ Owned w' w.heap.size 3 false 1 v1 (ints (dueP l now)) ∧ Sl w' true 2 v2 (als (dueR l now)) ∧ Below w.heap.size w w' := by
  have HV := Lib.hid hv
  have hkl := dueN_le l now
  obtain ⟨i0, hi0, hq0, hq1, hq2⟩ := info_parts info_int
  have HI := Lib.hid (And.intro hi0 (And.intro hq0 (And.intro hq1 hq2)))
  clear hi0 hq0 hq1 hq2
  obtain ⟨u2, hrd, hsd⟩ := hv.run_drop (t := 22) ty_alarm Try.underlying22 (dueN l now) (dueN l now) rfl (by rw [als_len]; exact hkl)
  have HSD := Lib.hid (show Sl w true 2 u2 (als (dueR l now)) by rw [dueR_eq, als, List.map_drop]; exact hsd)
  have HRD := Lib.hid hrd
  obtain ⟨a, cap, rfl, hl⟩ := hv.shape
  rw [als_len] at hl HV HRD ⊢
  clear hv hrd hsd
  go_enter Try.func11, Try.ntmps11
  go_wp2_with fail
  go_loopw [6, 10] (fun u t W => ∃ (i : Nat) (s : Value), i ≤ dueN l now ∧ s = u ∧ t = .int .i64 i ∧ Below w.heap.size w W ∧ Owned W w.heap.size 3 false 1 u (ints ((l.take i).map Prod.snd))) (fun _ t _ => l.length - (intOf t).toNat)
  case atStart => exact ⟨0, _, Nat.zero_le _, rfl, rfl, Below.refl _ _, Owned.nil⟩
  case round =>
    obtain ⟨i, s, hi, rfl, rfl, hbw, hown⟩ := hrel
    have hws := hbw.size
    have HO := Lib.hid hown
    clear hown
    have hwr : IntKind.i64.wrap ((i : Int) + 1) = i + 1 := IntWalk.i64_in _ (by omega)
    by_cases hk : i < dueN l now
    · have hil : i < l.length := by omega
      obtain ⟨x, hx⟩ : ∃ x, l[i]? = some x := ⟨_, List.getElem?_eq_getElem hil⟩
      have hle := due_at hx hk
      have hle' : ¬ now < x.1 := by omega
      obtain ⟨b, off, rfl, hb, c0, c1⟩ := Sl.al (HV.out.below hbw) hx
      have HT := Lib.hid (show ints ((l.take (i + 1)).map Prod.snd) = ints ((l.take i).map Prod.snd) ++ [.int .i64 x.2] by rw [take_step hx]; simp)
      clear hx
      go_wp2_with (first | (refine wpList_append_sl (v := s) (xs := ints ((l.take i).map Prod.snd)) (base := w.heap.size) rfl _ _ 26 rfl ty_int i0 (.int .i64 0) 8 Try.underlying26 HI.out.1 HI.out.2.1 HI.out.2.2.1 HI.out.2.2.2 rfl ?_ ?_ (.slice (some ⟨wr.heap.size, 0, none⟩) 1 1) ([.int .i64 x.2]) ?_ ?_ ?_ ?_ ?_ ?_; (focus (simp [Act.eval])); (focus (exact (HO.out.kept (by (repeat (first | with_reducible assumption | with_reducible exact Below.refl _ _ | with_reducible refine Below.setCell ?_ ?_ _ | with_reducible refine Below.alloc ?_ ?_ _ | with_reducible refine below_drewN' ?_ _ | with_reducible refine Below.drew ?_ | with_reducible refine Below.trans ?_ (Below.mono (by assumption) ?_) | omega | (dsimp only; omega) | (simp only [drew_heap', drewN_heap', World.size_alloc, World.size_setCell]; omega) | (solve | simp) | (solve | (simp; omega)))))))); (focus (simp [Act.eval])); (focus (exact (Sl.made1 (int_val x.2) rfl))); (focus (first | (simp [maxLen]; omega) | (solve | simp [maxLen]))); (focus (first | (simp; omega) | (solve | simp))); (focus (first | omega | (simp only [World.size_alloc, World.size_setCell]; omega))); (intro v4 w4 ho4 hg4 hf4; (have hb4 : Below w.heap.size w w4 := (HO.out.kept (by (repeat (first | with_reducible assumption | with_reducible exact Below.refl _ _ | with_reducible refine Below.setCell ?_ ?_ _ | with_reducible refine Below.alloc ?_ ?_ _ | with_reducible refine below_drewN' ?_ _ | with_reducible refine Below.drew ?_ | with_reducible refine Below.trans ?_ (Below.mono (by assumption) ?_) | omega | (dsimp only; omega) | (simp only [drew_heap', drewN_heap', World.size_alloc, World.size_setCell]; omega) | (solve | simp) | (solve | (simp; omega)))))).below hg4 (by (repeat (first | with_reducible assumption | with_reducible exact Below.refl _ _ | with_reducible refine Below.setCell ?_ ?_ _ | with_reducible refine Below.alloc ?_ ?_ _ | with_reducible refine below_drewN' ?_ _ | with_reducible refine Below.drew ?_ | with_reducible refine Below.trans ?_ (Below.mono (by assumption) ?_) | omega | (dsimp only; omega) | (simp only [drew_heap', drewN_heap', World.size_alloc, World.size_setCell]; omega) | (solve | simp) | (solve | (simp; omega))))) (Nat.le_refl _) (by simp only [World.size_alloc]; omega)); (have HO4 := Lib.hid ho4); (clear ho4 hg4 hf4))) | fail)
      go_roundw
      case rel => exact ⟨i + 1, _, by omega, rfl, by go_num, hb4, by rw [HT.out]; exact HO4.out⟩
      case measure => simp [intOf]; omega
    · obtain rfl : i = dueN l now := by omega
      have hlen : ((l.take (dueN l now)).map Prod.snd).length = dueN l now := by simp; omega
      have HOP := Lib.hid (show Owned wr w.heap.size 3 false 1 s (ints (dueP l now)) by rw [dueP_eq]; exact HO.out)
      obtain ⟨as_, caps, hs, _⟩ := HOP.out.sl.shape
      rw [ints_len, dueP_len] at hs
      subst hs
      have hrd := HRD.out
      by_cases hil : dueN l now < l.length
      · obtain ⟨x, hx⟩ : ∃ x, l[dueN l now]? = some x := ⟨_, List.getElem?_eq_getElem hil⟩
        have hgt := due_stop hx
        obtain ⟨b, off, rfl, hb, c0, c1⟩ := Sl.al (HV.out.below hbw) hx
        clear hx
        generalize dueN l now = k at *
        go_wp2_with fail
        ((refine wp_region_quiet_below (by kernel_rfl) (by kernel_rfl) ?_); (repeat (go_big_quiet_step (fail))); (refine wpQuiet_nil ?_); (intro _ hw'); (obtain ⟨⟨dq, osq⟩, hw''⟩ := hw'); (subst hw''); (have hb7 := below_regrown wr dq osq); (generalize Go.Sort.grow (redrawn wr dq) osq = w7 at *); (have hz7 := hb7.size))
        go_wp2_with fail
        exact bodyPost_ret (v := .tuple #[.slice as_ k caps, u2]) (by simp [results, Try.results11, go_sem]) rfl ⟨_, _, rfl, HOP.out.kept hb7, HSD.out.below (hbw.trans (hb7.mono hws)), hbw.trans (hb7.mono hws)⟩
      · generalize dueN l now = k at *
        go_wp2_with fail
        ((refine wp_region_quiet_below (by kernel_rfl) (by kernel_rfl) ?_); (repeat (go_big_quiet_step (fail))); (refine wpQuiet_nil ?_); (intro _ hw'); (obtain ⟨⟨dq, osq⟩, hw''⟩ := hw'); (subst hw''); (have hb7 := below_regrown wr dq osq); (generalize Go.Sort.grow (redrawn wr dq) osq = w7 at *); (have hz7 := hb7.size))
        go_wp2_with fail
        exact bodyPost_ret (v := .tuple #[.slice as_ k caps, u2]) (by simp [results, Try.results11, go_sem]) rfl ⟨_, _, rfl, HOP.out.kept hb7, HSD.out.below (hbw.trans (hb7.mono hws)), hbw.trans (hb7.mono hws)⟩
end Go.Proofs.Ytndmgbdgcemcmaa
