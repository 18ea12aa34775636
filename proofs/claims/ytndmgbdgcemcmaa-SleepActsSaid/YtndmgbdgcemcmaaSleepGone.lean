/- The law SleepGone: its walk. Conditions: what came in is shaped. -/
import Derived.Test.YtndmgbdgcemcmaaSleepShown
namespace Go.Proofs.Ytndmgbdgcemcmaa
open Go Go.RowKit Go.Tm
set_option linter.unusedVariables false
set_option linter.unusedSimpArgs false

theorem addS_mem (l : List Al) (a x : Al) : x ∈ addS l a ↔ x = a ∨ x ∈ l := by
  unfold addS
  have h := List.takeWhile_append_dropWhile (p := fun x => !behind x a) (l := l)
  constructor
  · intro hx
    rcases List.mem_append.1 hx with hx | hx
    · right; rw [← h]; exact List.mem_append_left _ hx
    · rcases List.mem_cons.1 hx with rfl | hx
      · left; rfl
      · right; rw [← h]; exact List.mem_append_right _ hx
  · rintro (rfl | hx)
    · simp
    · rw [← h] at hx
      rcases List.mem_append.1 hx with hx | hx
      · exact List.mem_append_left _ hx
      · exact List.mem_append_right _ (List.mem_cons_of_mem _ hx)
theorem addS_len (l : List Al) (a : Al) : (addS l a).length = l.length + 1 := by
  have h := congrArg List.length (List.takeWhile_append_dropWhile (p := fun x => !behind x a) (l := l))
  unfold addS
  simp only [List.length_append, List.length_cons] at h ⊢
  omega
theorem dropS_add (l : List Al) (a : Al) : dropS (addS l a) a.2 = dropS l a.2 := by
  have h := List.takeWhile_append_dropWhile (p := fun x => !behind x a) (l := l)
  conv => rhs; rw [← h]
  unfold dropS addS
  rw [List.filter_append, List.filter_append, List.filter_cons, if_neg (by simp)]
theorem dropS_le (l : List Al) (pid : Int) : (dropS l pid).length ≤ l.length := List.length_filter_le _ _
theorem dropS_ne {l : List Al} {pid : Int} {x : Al} (h : x ∈ dropS l pid) : x.2 ≠ pid := by
  have := (List.mem_filter.1 h).2
  simpa using this

def cntA (k : List Al) (a : Al) : Nat := (k.filter fun x => decide (x = a)).length
theorem cntA_step {k : List Al} {a x : Al} {i : Nat} (h : k[i]? = some x) : cntA (k.take (i + 1)) a = cntA (k.take i) a + (if x = a then 1 else 0) := by
  unfold cntA
  rw [take_step h, List.filter_append, List.length_append]
  by_cases hx : x = a <;> simp [hx]
theorem cntA_le (k : List Al) (a : Al) : cntA k a ≤ k.length := List.length_filter_le _ _
theorem cntA_pos {k : List Al} {a : Al} (h : a ∈ k) : 1 ≤ cntA k a := by
  unfold cntA
  exact List.length_pos_of_mem (List.mem_filter.2 ⟨h, by simp⟩)

set_option maxHeartbeats 4000000 in
theorem sleepGone_walk (v : Value) (l : List Al) (a : Al) (w : World) (hv : Sl w true 2 v (als l)) (hby : l.length * 16 ≤ 140737488351232) (hw : ∀ x ∈ l, AlWf x) (ha : AlWf a) :
    Calls Try.prog 7 #[v, alV a] w fun e w' => e = .returned (.bool true) ∧ Below w.heap.size w w' := by
  have HV := Lib.hid hv
  have hA := fun W h => add_any v l a W h (by omega)
  have hD := fun u W h => drop_any u (addS l a) a.2 W h (by rw [addS_len]; omega)
  have hD2 := fun W h => drop_any v l a.2 W h (by omega)
  rw [dropS_add] at hD
  have hkl := addS_len l a
  have hkm := (addS_mem l a a).2 (.inl rfl)
  have hkw : ∀ x ∈ addS l a, AlWf x := fun x hx => by
    rcases (addS_mem l a x).1 hx with rfl | hx
    · exact ha
    · exact hw x hx
  have hdw : ∀ x ∈ dropS l a.2, AlWf x := fun x hx => hw x (List.mem_filter.1 hx).1
  have hdn : ∀ x ∈ dropS l a.2, x.2 ≠ a.2 := fun x hx => dropS_ne hx
  obtain ⟨av, cap, rfl, hl⟩ := hv.shape
  rw [als_len] at hl HV hA hD2 ⊢
  generalize addS l a = k at *
  generalize dropS l a.2 = d at *
  have HA := Lib.hid hA
  have HD := Lib.hid hD
  have HD2 := Lib.hid hD2
  have HKM := Lib.hid hkm
  have HKW := Lib.hid hkw
  have HDW := Lib.hid hdw
  have HDN := Lib.hid hdn
  have HKL := Lib.hid hkl
  have hk63 : k.length ≤ 9223372036854775807 := by omega
  have hkl' : (k.length : Int) = l.length + 1 := by omega
  have hwl : IntKind.i64.wrap ((l.length : Int) + 1) = l.length + 1 := IntWalk.i64_in _ (by omega)
  clear hv hA hD hD2 hkm hkw hdw hdn hw hkl
  go_enter Try.func7, Try.ntmps7
  ((go_wp2_with fail); (with_reducible refine (shown_any _).mono ?_); (rintro e w1 ⟨rfl, hb1⟩); (have hz1 := hb1.size); (try simp only [World.size_alloc, World.size_setCell] at hz1))
  (have b1 : Box w1 w.heap.size #[.int .u64 a.1, .int .i64 a.2] 30 := (by (try have k1 := (Lib.hid True.intro).out); ((apply Box.cast); (repeat (first | with_reducible assumption | ((with_reducible apply Box.new1); (first | with_reducible rfl | rfl | (solve | simp))) | with_reducible apply Box.drewN | with_reducible apply Box.drew | with_reducible apply Box.set | with_reducible apply Box.other | with_reducible apply Box.alloc | (with_reducible apply Box.below; rotate_left; with_reducible assumption; rotate_right) | with_reducible rfl | omega | (dsimp only; omega) | (simp only [drew_heap', drewN_heap', World.size_alloc, World.size_setCell]; omega) | rfl | (solve | simp) | (solve | (simp; omega))))))); (obtain ⟨hc1, hf1, hl1, hn1, hm1⟩ := b1.rules); (have K1 := Lib.hid b1); (clear b1)
  have hbw : Below w.heap.size w w1 := by (repeat (first | with_reducible assumption | with_reducible exact Below.refl _ _ | with_reducible refine Below.setCell ?_ ?_ _ | with_reducible refine Below.alloc ?_ ?_ _ | with_reducible refine below_drewN' ?_ _ | with_reducible refine Below.drew ?_ | with_reducible refine Below.trans ?_ (Below.mono (by assumption) ?_) | omega | (dsimp only; omega) | (simp only [drew_heap', drewN_heap', World.size_alloc, World.size_setCell]; omega) | (solve | simp) | (solve | (simp; omega))))
  go_wp2_with fail
  with_reducible refine (HA.out _ (HV.out.below hbw)).mono ?_
  rintro e w2 ⟨v2, rfl, hs2, hb2⟩
  have hz2 := hb2.size
  (have b2 : Box w2 w.heap.size #[.int .u64 a.1, .int .i64 a.2] 30 := (by (try have k2 := K1.out); ((apply Box.cast); (repeat (first | with_reducible assumption | ((with_reducible apply Box.new1); (first | with_reducible rfl | rfl | (solve | simp))) | with_reducible apply Box.drewN | with_reducible apply Box.drew | with_reducible apply Box.set | with_reducible apply Box.other | with_reducible apply Box.alloc | (with_reducible apply Box.below; rotate_left; with_reducible assumption; rotate_right) | with_reducible rfl | omega | (dsimp only; omega) | (simp only [drew_heap', drewN_heap', World.size_alloc, World.size_setCell]; omega) | rfl | (solve | simp) | (solve | (simp; omega))))))); (obtain ⟨hc2, hf2, hl2, hn2, hm2⟩ := b2.rules); (have K2 := Lib.hid b2); (clear b2)
  have HS2 := Lib.hid hs2
  have hbw2 : Below w.heap.size w w2 := hbw.trans (hb2.mono hbw.size)
  clear hs2 hc1 hf1 hl1 hn1 hm1
  go_wp2_with fail
  with_reducible refine (HD.out _ _ HS2.out).mono ?_
  rintro e w3 ⟨v3, rfl, hs3, hb3⟩
  have hz3 := hb3.size
  (have b3 : Box w3 w.heap.size #[.int .u64 a.1, .int .i64 a.2] 30 := (by (try have k3 := K2.out); ((apply Box.cast); (repeat (first | with_reducible assumption | ((with_reducible apply Box.new1); (first | with_reducible rfl | rfl | (solve | simp))) | with_reducible apply Box.drewN | with_reducible apply Box.drew | with_reducible apply Box.set | with_reducible apply Box.other | with_reducible apply Box.alloc | (with_reducible apply Box.below; rotate_left; with_reducible assumption; rotate_right) | with_reducible rfl | omega | (dsimp only; omega) | (simp only [drew_heap', drewN_heap', World.size_alloc, World.size_setCell]; omega) | rfl | (solve | simp) | (solve | (simp; omega))))))); (obtain ⟨hc3, hf3, hl3, hn3, hm3⟩ := b3.rules); (have K3 := Lib.hid b3); (clear b3)
  have HS3 := Lib.hid hs3
  have HK3 := Lib.hid (HS2.out.below hb3)
  obtain ⟨a3, cap3, rfl, hd63⟩ := hs3.shape
  obtain ⟨a2, cap2, rfl, _⟩ := HS2.out.shape
  simp only [als_len] at HS3 HK3 hd63 ⊢
  have hbw3 : Below w.heap.size w w3 := hbw2.trans (hb3.mono hbw2.size)
  clear hs3 hc2 hf2 hl2 hn2 hm2 hb1 hb2 hb3 hbw hbw2 HS2
  go_wp2_with fail
  go_loopw [8, 9] (fun s t W => ∃ i : Nat, i ≤ k.length ∧ t = .int .i64 i ∧ s = .int .i64 (cntA (k.take i) a) ∧ Below w3.heap.size w3 W) (fun _ t _ => k.length - (intOf t).toNat)
  case atStart => exact ⟨0, Nat.zero_le _, rfl, rfl, Below.refl _ _⟩
  case round =>
    obtain ⟨i, hi, rfl, rfl, hbx⟩ := hrel
    have hws := hbx.size
    (have b4 : Box wr w.heap.size #[.int .u64 a.1, .int .i64 a.2] 30 := (by (try have k4 := K3.out); ((apply Box.cast); (repeat (first | with_reducible assumption | ((with_reducible apply Box.new1); (first | with_reducible rfl | rfl | (solve | simp))) | with_reducible apply Box.drewN | with_reducible apply Box.drew | with_reducible apply Box.set | with_reducible apply Box.other | with_reducible apply Box.alloc | (with_reducible apply Box.below; rotate_left; with_reducible assumption; rotate_right) | with_reducible rfl | omega | (dsimp only; omega) | (simp only [drew_heap', drewN_heap', World.size_alloc, World.size_setCell]; omega) | rfl | (solve | simp) | (solve | (simp; omega))))))); (obtain ⟨hc4, hf4, hl4, hn4, hm4⟩ := b4.rules); (have K4 := Lib.hid b4); (clear b4)
    clear hc3 hf3 hl3 hn3 hm3
    have hwr : IntKind.i64.wrap ((i : Int) + 1) = i + 1 := IntWalk.i64_in _ (by omega)
    by_cases hlt : i < k.length
    · obtain ⟨x, hx⟩ : ∃ x, k[i]? = some x := ⟨_, List.getElem?_eq_getElem hlt⟩
      have hst := cntA_step (a := a) hx
      have hcl := cntA_le (k.take i) a
      rw [List.length_take] at hcl
      have heq := eql_al x a (HKW.out x (List.mem_of_getElem? hx)) ha (decide (x = a)) (by simp)
      obtain ⟨b, off, rfl, hb, c0, c1⟩ := Sl.al (HK3.out.below hbx) hx
      have hwc : IntKind.i64.wrap ((cntA (k.take i) a : Int) + 1) = cntA (k.take i) a + 1 := IntWalk.i64_in _ (by omega)
      clear hx
      by_cases hxa : x = a
      · rw [if_pos hxa] at hst
        rw [show decide (x = a) = true by simpa using hxa] at heq
        have HST := Lib.hid (show ((cntA (k.take (i + 1)) a : Nat) : Int) = cntA (k.take i) a + 1 by omega)
        clear hst hxa
        generalize cntA (k.take i) a = c at *
        go_wp2_with fail
        have g0 := cell_rg c0 hb
        have g1 := cell_rg c1 hb
        have g2 := K4.out.regrown
        ((refine wp_region_quiet_below (by kernel_rfl) (by kernel_rfl) ?_); (repeat (go_big_quiet_step (fail))); (refine wpQuiet_nil ?_); (intro _ hw'); (obtain ⟨⟨dq, osq⟩, hw''⟩ := hw'); (subst hw''); (have hb7 := below_regrown wr dq osq); (generalize Go.Sort.grow (redrawn wr dq) osq = w7 at *); (have hz7 := hb7.size))
        clear g0 g1 g2
        go_wp2_with fail
        go_roundw
        case rel => exact ⟨i + 1, by omega, by go_num, by rw [HST.out], hbx.trans (hb7.mono hws)⟩
        case measure => simp [intOf]; omega
      · rw [if_neg hxa] at hst
        rw [show decide (x = a) = false by simpa using hxa] at heq
        have HST := Lib.hid (show ((cntA (k.take (i + 1)) a : Nat) : Int) = cntA (k.take i) a by omega)
        clear hst hxa
        generalize cntA (k.take i) a = c at *
        go_wp2_with fail
        have g0 := cell_rg c0 hb
        have g1 := cell_rg c1 hb
        have g2 := K4.out.regrown
        ((refine wp_region_quiet_below (by kernel_rfl) (by kernel_rfl) ?_); (repeat (go_big_quiet_step (fail))); (refine wpQuiet_nil ?_); (intro _ hw'); (obtain ⟨⟨dq, osq⟩, hw''⟩ := hw'); (subst hw''); (have hb7 := below_regrown wr dq osq); (generalize Go.Sort.grow (redrawn wr dq) osq = w7 at *); (have hz7 := hb7.size))
        clear g0 g1 g2
        go_wp2_with fail
        go_roundw
        case rel => exact ⟨i + 1, by omega, by go_num, by rw [HST.out], hbx.trans (hb7.mono hws)⟩
        case measure => simp [intOf]; omega
    · obtain rfl : i = k.length := by omega
      rw [List.take_length]
      have hpos := cntA_pos HKM.out
      have hpos' : (1 : Int) ≤ cntA k a := by omega
      obtain ⟨wx, hwx⟩ : ∃ wx, wx = wr := ⟨_, rfl⟩
      subst hwx
      generalize cntA k a = c at *
      go_wp2_with fail
      go_loopw [10] (fun t W => ∃ j : Nat, j ≤ d.length ∧ t = .int .i64 j ∧ Below wx.heap.size wx W) (fun t _ => d.length - (intOf t).toNat)
      case atStart => exact ⟨0, Nat.zero_le _, rfl, Below.refl _ _⟩
      case round =>
        obtain ⟨j, hj, rfl, hby2⟩ := hrel
        have hwz := hby2.size
        (have b5 : Box wr w.heap.size #[.int .u64 a.1, .int .i64 a.2] 30 := (by (try have k5 := K4.out); ((apply Box.cast); (repeat (first | with_reducible assumption | ((with_reducible apply Box.new1); (first | with_reducible rfl | rfl | (solve | simp))) | with_reducible apply Box.drewN | with_reducible apply Box.drew | with_reducible apply Box.set | with_reducible apply Box.other | with_reducible apply Box.alloc | (with_reducible apply Box.below; rotate_left; with_reducible assumption; rotate_right) | with_reducible rfl | omega | (dsimp only; omega) | (simp only [drew_heap', drewN_heap', World.size_alloc, World.size_setCell]; omega) | rfl | (solve | simp) | (solve | (simp; omega))))))); (obtain ⟨hc5, hf5, hl5, hn5, hm5⟩ := b5.rules); (have K5 := Lib.hid b5); (clear b5)
        clear hc4 hf4 hl4 hn4 hm4
        have hbw4 : Below w.heap.size w wr := hbw3.trans ((hbx.trans (hby2.mono hws)).mono hbw3.size)
        by_cases hjl : j < d.length
        · have hwj : IntKind.i64.wrap ((j : Int) + 1) = j + 1 := IntWalk.i64_in _ (by omega)
          obtain ⟨x, hx⟩ : ∃ x, d[j]? = some x := ⟨_, List.getElem?_eq_getElem hjl⟩
          have hne := HDN.out x (List.mem_of_getElem? hx)
          have hne' : (x.2 == a.2) = false := by simpa using hne
          obtain ⟨b, off, rfl, hb, c0, c1⟩ := Sl.al (HS3.out.below (hbx.trans (hby2.mono hws))) hx
          clear hx
          go_wp2_with fail
          have g1 := cell_rg c1 hb
          have g2 := K5.out.regrown
          ((refine wp_region_quiet_below (by kernel_rfl) (by kernel_rfl) ?_); (repeat (go_big_quiet_step (fail))); (refine wpQuiet_nil ?_); (intro _ hw'); (obtain ⟨⟨dq, osq⟩, hw''⟩ := hw'); (subst hw''); (have hb7 := below_regrown wr dq osq); (generalize Go.Sort.grow (redrawn wr dq) osq = w7 at *); (have hz7 := hb7.size))
          clear g1 g2
          go_wp2_with fail
          go_roundw
          case rel => exact ⟨j + 1, by omega, by go_num, hby2.trans (hb7.mono hwz)⟩
          case measure => simp [intOf]; omega
        · obtain rfl : j = d.length := by omega
          have HDS := Lib.hid (HS3.out.below (hbx.trans (hby2.mono hws)))
          go_wp2_with fail
          with_reducible refine (HD2.out _ (HV.out.below hbw4)).mono ?_
          rintro e w8 ⟨v8, rfl, hs8, hb8⟩
          have hz8 := hb8.size
          have HS8 := Lib.hid hs8
          clear hs8
          go_wp2_with fail
          with_reducible refine (same_true _ _ d _ (HDS.out.below hb8) HS8.out HDW.out).mono ?_
          rintro e w9 ⟨rfl, hb9⟩
          have hz9 := hb9.size
          go_wp2_with fail
          go_ret
          exact ⟨by simp, hbw4.trans ((hb8.trans (hb9.mono hz8)).mono hbw4.size)⟩
end Go.Proofs.Ytndmgbdgcemcmaa
