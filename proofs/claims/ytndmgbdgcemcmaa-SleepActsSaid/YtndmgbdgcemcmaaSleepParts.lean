/- The law SleepParts: its walk. Conditions: what came in is shaped. -/
import Derived.Test.YtndmgbdgcemcmaaSleepStays
namespace Go.Proofs.Ytndmgbdgcemcmaa
open Go Go.RowKit Go.Tm
set_option linter.unusedVariables false
set_option linter.unusedSimpArgs false

theorem ints_app (a b : List Int) : ints (a ++ b) = ints a ++ ints b := List.map_append

theorem due_more (l : List Al) {now later : Int} (h : now ≤ later) : dueP l now ++ dueP (dueR l now) later = dueP l later ∧ dueR (dueR l now) later = dueR l later := by
  induction l with
  | nil => exact ⟨rfl, rfl⟩
  | cons x r ih =>
    unfold dueP dueR at *
    by_cases h1 : x.1 ≤ now
    · have h2 : x.1 ≤ later := by omega
      simp only [List.takeWhile_cons, List.dropWhile_cons, h1, h2, decide_true, if_true, List.map_cons, List.cons_append]
      exact ⟨by rw [ih.1], ih.2⟩
    · simp only [List.takeWhile_cons, List.dropWhile_cons, h1, decide_false, Bool.false_eq_true, if_false, List.map_nil, List.nil_append]
      exact ⟨trivial, trivial⟩

set_option maxHeartbeats 8000000 in
theorem sleepParts_walk (v : Value) (l : List Al) (now later : Int) (w : World) (hv : Sl w true 2 v (als l)) (hby : l.length * 16 ≤ 140737488351232) (hw : ∀ x ∈ l, AlWf x) :
    Calls Try.prog 4 #[v, .int .u64 now, .int .u64 later] w fun e w' => e = .returned (.bool true) ∧ Below w.heap.size w w' := by
  have HV := Lib.hid hv
  have HW := Lib.hid hw
  have hD := fun W h => due_any v l now W h (by omega)
  have hD2 := fun W h => due_any v l later W h (by omega)
  have hrl := dueR_len l now
  have hkl := dueN_le l now
  have hpl := dueP_len l now
  have hD3 := fun u W h => due_any u (dueR l now) later W h (by rw [hrl]; omega)
  obtain ⟨a, cap, rfl, hl⟩ := hv.shape
  rw [als_len] at hl HV hD hD2 ⊢
  have HD := Lib.hid hD
  have HD2 := Lib.hid hD2
  have HD3 := Lib.hid hD3
  have HRL := Lib.hid hrl
  have HPL := Lib.hid hpl
  obtain ⟨i0, hi0, hq0, hq1, hq2⟩ := info_parts info_int
  have HI := Lib.hid (And.intro hi0 (And.intro hq0 (And.intro hq1 hq2)))
  have HPG := Lib.hid (fun i x (hx : l[i]? = some x) h => dueP_get (now := now) hx h)
  have HRG := Lib.hid (fun i => dueR_get (l := l) (now := now) (i := i))
  have HMORE := Lib.hid (fun h => due_more l (now := now) (later := later) h)
  have HRW := Lib.hid (fun x (hx : x ∈ dueR l later) => hw x (by rw [dueR_eq] at hx; exact List.mem_of_mem_drop hx))
  clear hv hw hD hD2 hD3 hrl hpl hi0 hq0 hq1 hq2
  have hadd : IntKind.i64.wrap ((dueN l now : Int) + ((l.length - dueN l now : Nat) : Int)) = l.length := by rw [IntWalk.i64_in _ (by omega)]; omega
  go_enter Try.func4, Try.ntmps4
  ((go_wp2_with fail); (with_reducible refine (shown_any _).mono ?_); (rintro e w1 ⟨rfl, hb1⟩); (have hz1 := hb1.size); (try simp only [World.size_alloc, World.size_setCell] at hz1))
  have hbw : Below w.heap.size w w1 := by (repeat (first | with_reducible assumption | with_reducible exact Below.refl _ _ | with_reducible refine Below.setCell ?_ ?_ _ | with_reducible refine Below.alloc ?_ ?_ _ | with_reducible refine below_drewN' ?_ _ | with_reducible refine Below.drew ?_ | with_reducible refine Below.trans ?_ (Below.mono (by assumption) ?_) | omega | (dsimp only; omega) | (simp only [drew_heap', drewN_heap', World.size_alloc, World.size_setCell]; omega) | (solve | simp) | (solve | (simp; omega))))
  go_wp2_with fail
  with_reducible refine (HD.out _ (HV.out.below hbw)).mono ?_
  rintro e w2 ⟨p2, r2, rfl, ho2, hs2, hb2⟩
  have hz2 := hb2.size
  have HP2 := Lib.hid ho2.sl
  have HR2 := Lib.hid hs2
  obtain ⟨ap, cp, rfl, _⟩ := ho2.sl.shape
  obtain ⟨ar, cr, rfl, _⟩ := hs2.shape
  rw [ints_len, HPL.out] at HP2 ⊢
  rw [als_len, HRL.out] at HR2 ⊢
  have hbw2 : Below w.heap.size w w2 := hbw.trans (hb2.mono hbw.size)
  clear ho2 hs2 hb1 hb2 hbw
  by_cases hlt : later < now
  · generalize dueN l now = k at *
    go_wp2_with fail
    go_ret
    exact ⟨by simp, hbw2⟩
  · have hle : now ≤ later := by omega
    obtain ⟨hm1, hm2⟩ := HMORE.out hle
    have HM1 := Lib.hid hm1
    have HM2 := Lib.hid hm2
    clear hm1 hm2
    generalize dueN l now = k at *
    go_wp2_with fail
    go_loopw [10] (fun t W => ∃ i : Nat, i ≤ l.length ∧ t = .int .i64 i ∧ Below w2.heap.size w2 W) (fun t _ => l.length - (intOf t).toNat)
    case atStart => exact ⟨0, Nat.zero_le _, rfl, Below.refl _ _⟩
    case round =>
      obtain ⟨i, hi, rfl, hbx⟩ := hrel
      have hws := hbx.size
      have hbw3 : Below w.heap.size w wr := hbw2.trans (hbx.mono hbw2.size)
      by_cases hil : i < l.length
      · obtain ⟨x, hx⟩ : ∃ x, l[i]? = some x := ⟨_, List.getElem?_eq_getElem hil⟩
        have hwr : IntKind.i64.wrap ((i : Int) + 1) = i + 1 := IntWalk.i64_in _ (by omega)
        obtain ⟨b, off, rfl, hb, c0, c1⟩ := Sl.al (HV.out.below hbw3) hx
        by_cases hk : i < k
        · obtain ⟨b2, off2, rfl, hb2, e0⟩ := Sl.int (HP2.out.below hbx) (HPG.out i x hx hk)
          have hg1 : decide ((i : Int) < k) = true := by simp; omega
          have hg2 : decide (i < k) = true := by simp; omega
          have hg3 : decide ((k : Int) ≤ i) = false := by simp; omega
          have hg4 : decide (k ≤ i) = false := by simp; omega
          have hk' : (i : Int) < k := by omega
          clear hx
          have g1 := cell_rg c1 hb
          have g2 := cell_rg e0 hb2
          go_wp2_with fail
          ((refine wp_region_quiet_below (by kernel_rfl) (by kernel_rfl) ?_); (repeat (go_big_quiet_step (fail))); (refine wpQuiet_nil ?_); (intro _ hw'); (obtain ⟨⟨dq, osq⟩, hw''⟩ := hw'); (subst hw''); (have hb7 := below_regrown wr dq osq); (generalize Go.Sort.grow (redrawn wr dq) osq = w7 at *); (have hz7 := hb7.size))
          clear g1 g2
          go_wp2_with fail
          go_roundw
          case rel => exact ⟨i + 1, by omega, by go_num, hbx.trans (hb7.mono hws)⟩
          case measure => simp [intOf]; omega
        · have hrg : (dueR l now)[i - k]? = some x := by rw [HRG.out, show k + (i - k) = i by omega]; exact hx
          have heq := eql_al x x (HW.out x (List.mem_of_getElem? hx)) (HW.out x (List.mem_of_getElem? hx)) true (by simp)
          obtain ⟨b2, off2, rfl, hb2, e0, e1⟩ := Sl.al (HR2.out.below hbx) hrg
          have hg1 : decide ((i : Int) < k) = false := by simp; omega
          have hg2 : decide (i < k) = false := by simp; omega
          have hg3 : decide ((k : Int) ≤ i) = true := by simp; omega
          have hg4 : decide (k ≤ i) = true := by simp; omega
          have hk' : ¬ (i : Int) < k := by omega
          have hsub : IntKind.i64.wrap ((i : Int) - k) = ((i - k : Nat) : Int) := by rw [IntWalk.i64_in _ (by omega)]; omega
          have hsl : ((i - k : Nat) : Int) < ((l.length - k : Nat) : Int) := by omega
          have hsl2 : i - k < l.length - k := by omega
          clear hx hrg
          have g0 := cell_rg c0 hb
          have g1 := cell_rg c1 hb
          have g2 := cell_rg e0 hb2
          have g3 := cell_rg e1 hb2
          go_wp2_with fail
          ((refine wp_region_quiet_below (by kernel_rfl) (by kernel_rfl) ?_); (repeat (go_big_quiet_step (fail))); (refine wpQuiet_nil ?_); (intro _ hw'); (obtain ⟨⟨dq, osq⟩, hw''⟩ := hw'); (subst hw''); (have hb7 := below_regrown wr dq osq); (generalize Go.Sort.grow (redrawn wr dq) osq = w7 at *); (have hz7 := hb7.size))
          clear g0 g1 g2 g3
          go_wp2_with fail
          go_roundw
          case rel => exact ⟨i + 1, by omega, by go_num, hbx.trans (hb7.mono hws)⟩
          case measure => simp [intOf]; omega
      · obtain rfl : i = l.length := by omega
        go_wp2_with fail
        with_reducible refine (HD3.out _ _ (HR2.out.below hbx)).mono ?_
        rintro e w4 ⟨p4, r4, rfl, ho4, hs4, hb4⟩
        have hz4 := hb4.size
        have HP4 := Lib.hid ho4.sl
        have HR4 := Lib.hid hs4
        have hbw4 : Below w.heap.size w w4 := hbw3.trans (hb4.mono hbw3.size)
        clear ho4 hs4
        go_wp2_with fail
        with_reducible refine (HD2.out _ (HV.out.below hbw4)).mono ?_
        rintro e w5 ⟨p5, r5, rfl, ho5, hs5, hb5⟩
        have hz5 := hb5.size
        have HP5 := Lib.hid ho5.sl
        have HR5 := Lib.hid hs5
        have HQ2 := Lib.hid (HP2.out.below ((hbx.trans (hb4.mono hws)).trans (hb5.mono (Nat.le_trans hws hz4))))
        have HQ4 := Lib.hid (HP4.out.below hb5)
        have HS4 := Lib.hid (HR4.out.below hb5)
        have hbw5 : Below w.heap.size w w5 := hbw4.trans (hb5.mono hbw4.size)
        obtain ⟨ap4, cp4, rfl, hl4⟩ := HQ4.out.shape
        rw [ints_len] at HQ4 hl4 ⊢
        clear ho5 hs5
        have hl4' : (dueP (dueR l now) later).length ≤ l.length := by rw [dueP_len]; exact Nat.le_trans (dueN_le _ _) (by rw [HRL.out]; omega)
        have hkk : (dueP l now).length = k := HPL.out
        have hsum : (dueP l now).length + (dueP (dueR l now) later).length ≤ l.length := by
          rw [← List.length_append, HM1.out, dueP_len]; exact dueN_le _ _
        go_wp2_with (first
          | (refine wpList_unguard (by rfl) (wpList_append_sl (v := .slice (some ⟨w5.heap.size, 0, none⟩) 0 0) (xs := []) (base := w5.heap.size) rfl _ _ 26 rfl ty_int i0 (.int .i64 0) 8 Try.underlying26 HI.out.1 HI.out.2.1 HI.out.2.2.1 HI.out.2.2.2 rfl ?_ ?_ (.slice ap k cp) (ints (dueP l now)) ?_ ?_ ?_ ?_ ?_ ?_); (focus (simp [Act.eval])); (focus (exact Owned.made0 (Nat.le_refl _))); (focus (simp [Act.eval])); (focus (exact (HQ2.out.below (by (repeat (first | with_reducible assumption | with_reducible exact Below.refl _ _ | with_reducible refine Below.setCell ?_ ?_ _ | with_reducible refine Below.alloc ?_ ?_ _ | with_reducible refine below_drewN' ?_ _ | with_reducible refine Below.drew ?_ | with_reducible refine Below.trans ?_ (Below.mono (by assumption) ?_) | omega | (dsimp only; omega) | (simp only [drew_heap', drewN_heap', World.size_alloc, World.size_setCell]; omega) | (solve | simp) | (solve | (simp; omega)))))))); (focus (first | (simp [maxLen]; omega) | (solve | simp [maxLen]))); (focus (first | (simp; omega) | (solve | simp))); (focus (first | omega | (simp only [World.size_alloc, World.size_setCell]; omega))); (intro v6 w6 ho6 hg6 hf6; (have hb6 : Below w5.heap.size w5 w6 := (Owned.made0 (E := 3) (ag := false) (k := 1) (Nat.le_refl w5.heap.size)).below hg6 (by (repeat (first | with_reducible assumption | with_reducible exact Below.refl _ _ | with_reducible refine Below.setCell ?_ ?_ _ | with_reducible refine Below.alloc ?_ ?_ _ | with_reducible refine below_drewN' ?_ _ | with_reducible refine Below.drew ?_ | with_reducible refine Below.trans ?_ (Below.mono (by assumption) ?_) | omega | (dsimp only; omega) | (simp only [drew_heap', drewN_heap', World.size_alloc, World.size_setCell]; omega) | (solve | simp) | (solve | (simp; omega))))) (by omega) (by simp only [World.size_alloc]; omega)); (have hz6 := hb6.size); (have HO6 := Lib.hid ho6); (clear ho6 hg6 hf6)))
          | (refine wpList_unguard (by rfl) (wpList_append_sl (v := v6) (xs := ints (dueP l now)) (base := w5.heap.size) rfl _ _ 26 rfl ty_int i0 (.int .i64 0) 8 Try.underlying26 HI.out.1 HI.out.2.1 HI.out.2.2.1 HI.out.2.2.2 rfl ?_ ?_ (.slice ap4 (dueP (dueR l now) later).length cp4) (ints (dueP (dueR l now) later)) ?_ ?_ ?_ ?_ ?_ ?_); (focus (simp [Act.eval])); (focus (exact HO6.out)); (focus (simp [Act.eval])); (focus (exact (HQ4.out.below hb6))); (focus (first | (simp [maxLen]; omega) | (solve | simp [maxLen]))); (focus (first | (simp; omega) | (solve | simp))); (focus (first | omega | (simp only [World.size_alloc, World.size_setCell]; omega))); (intro v7 w7 ho7 hg7 hf7; (have hb7 : Below w5.heap.size w5 w7 := hb6.trans (HO6.out.below hg7 (Below.refl _ _) (by omega) (by omega))); (have hz7 := hb7.size); (have HO7 := Lib.hid ho7.sl); (clear ho7 hg7 hf7)))
          | ((with_reducible refine (ints_true p5 v7 (dueP l later) _ (HP5.out.below hb7) ?_).mono ?_); (focus (rw [← HM1.out, ints_app]; exact HO7.out)); rintro e w8 ⟨rfl, hb8⟩; (have hz8 := hb8.size))
          | ((with_reducible refine (same_true _ _ (dueR l later) _ ?_ ?_ HRW.out).mono ?_); (focus (rw [← HM2.out]; exact (HS4.out.below hb7).below hb8)); (focus exact (HR5.out.below hb7).below hb8); rintro e w9 ⟨rfl, hb9⟩)
          | fail)
        go_ret
        exact ⟨by simp, hbw5.trans (((hb7.trans (hb8.mono hz7)).trans (hb9.mono (Nat.le_trans hz7 hz8))).mono hbw5.size)⟩
end Go.Proofs.Ytndmgbdgcemcmaa
