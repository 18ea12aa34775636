/- The law SleepStays: its walk. Conditions: what came in is shaped. -/
import Derived.Test.YtndmgbdgcemcmaaSleepGone
namespace Go.Proofs.Ytndmgbdgcemcmaa
open Go Go.RowKit Go.Tm
set_option linter.unusedVariables false
set_option linter.unusedSimpArgs false

theorem behind_iff (a b : Al) : behind a b = true ↔ b.1 < a.1 ∨ (a.1 = b.1 ∧ b.2 < a.2) := by simp [behind]
theorem behind_trans {a b c : Al} (h1 : behind b a = true) (h2 : behind c b = true) : behind c a = true := by
  rw [behind_iff] at *
  omega
theorem behind_total {a b : Al} (h1 : ¬ behind a b = true) (hne : a ≠ b) : behind b a = true := by
  rw [behind_iff] at *
  by_cases h : a.1 = b.1
  · have : a.2 ≠ b.2 := fun h2 => hne (Prod.ext h h2)
    omega
  · omega
abbrev RightW (l : List Al) : Prop := l.Pairwise (fun a b => behind b a = true)
theorem right_iff (l : List Al) : RightP l ↔ RightW l := by
  constructor
  · induction l with
    | nil => intro _; exact List.Pairwise.nil
    | cons x r ih =>
      intro h
      have hr : RightP r := fun j a b ha hb => h (j + 1) a b (by simpa using ha) (by simpa using hb)
      have hw := ih hr
      refine List.Pairwise.cons ?_ hw
      intro y hy
      cases r with
      | nil => simp at hy
      | cons z s =>
        have hz := h 0 x z rfl rfl
        rcases List.mem_cons.1 hy with rfl | hy
        · exact hz
        · exact behind_trans hz ((List.pairwise_cons.1 hw).1 y hy)
  · intro h j a b ha hb
    obtain ⟨hj, rfl⟩ := List.getElem?_eq_some_iff.1 ha
    obtain ⟨hj', rfl⟩ := List.getElem?_eq_some_iff.1 hb
    exact (List.pairwise_iff_getElem.1 h) j (j + 1) hj hj' (by omega)
theorem right_drop {l : List Al} (h : RightP l) (pid : Int) : RightP (dropS l pid) := by
  rw [right_iff] at *
  exact h.sublist List.filter_sublist
theorem right_due {l : List Al} (h : RightP l) (now : Int) : RightP (dueR l now) := by
  rw [right_iff] at *
  rw [dueR_eq]
  exact h.sublist (List.drop_sublist _ _)
theorem right_add {l : List Al} (h : RightP l) {a : Al} (ha : a ∉ l) : RightP (addS l a) := by
  rw [right_iff] at *
  have he := List.takeWhile_append_dropWhile (p := fun x => !behind x a) (l := l)
  have hw := h
  rw [RightW, ← he, List.pairwise_append] at hw
  obtain ⟨h1, h2, h3⟩ := hw
  have ht : ∀ x ∈ l.takeWhile (fun x => !behind x a), behind a x = true := fun x hx => by
    have hn := List.all_eq_true.1 (List.all_takeWhile (p := fun x => !behind x a) (l := l)) x hx
    refine behind_total (by simpa using hn) ?_
    rintro rfl
    exact ha (by rw [← he]; exact List.mem_append_left _ hx)
  have hd : ∀ x ∈ l.dropWhile (fun x => !behind x a), behind x a = true := fun x hx => by
    cases hdw : l.dropWhile (fun x => !behind x a) with
    | nil => rw [hdw] at hx; simp at hx
    | cons y r =>
      have hne : l.dropWhile (fun x => !behind x a) ≠ [] := by rw [hdw]; simp
      have hy := List.head_dropWhile_not (fun x => !behind x a) hne
      simp only [hdw, List.head_cons] at hy
      have hy' : behind y a = true := by simpa using hy
      rw [hdw] at hx h2
      rcases List.mem_cons.1 hx with rfl | hx
      · exact hy'
      · exact behind_trans hy' ((List.pairwise_cons.1 h2).1 x hx)
  unfold addS
  rw [RightW, List.pairwise_append]
  refine ⟨h1, List.Pairwise.cons hd h2, ?_⟩
  intro x hx y hy
  rcases List.mem_cons.1 hy with rfl | hy
  · exact ht x hx
  · exact h3 x hx y hy

set_option maxHeartbeats 8000000 in
theorem sleepStays_walk (v : Value) (l : List Al) (a : Al) (pid now : Int) (w : World) (hv : Sl w true 2 v (als l)) (hby : l.length * 16 ≤ 140737488351232) (hw : ∀ x ∈ l, AlWf x) (ha : AlWf a) :
    Calls Try.prog 6 #[.agg #[v, .int .u64 a.1, .int .i64 a.2, .int .i64 pid, .int .u64 now]] w fun e w' => e = .returned (.bool true) ∧ Below w.heap.size w w' := by
  have HV := Lib.hid hv
  have HW := Lib.hid hw
  have hR := fun W h => refRight_any v l W h
  have hD := fun W h => due_any v l now W h (by omega)
  have hA := fun W h => add_any v l a W h (by omega)
  have hDr := fun W h => drop_any v l pid W h (by omega)
  obtain ⟨av, cap, rfl, hl⟩ := hv.shape
  rw [als_len] at hl HV hR hD hA hDr ⊢
  clear hv hw
  have HD := Lib.hid hD
  have HA := Lib.hid hA
  have HDr := Lib.hid hDr
  clear hD hA hDr
  by_cases hr : RightP l
  · rw [rightB_true hr] at hR
    have HR := Lib.hid hR
    have HR1 := Lib.hid (fun u W h => by have := refRight_any u (dropS l pid) W h; rwa [rightB_true (right_drop hr pid)] at this : ∀ u W, Sl W true 2 u (als (dropS l pid)) → Calls Try.prog 10 #[u] W fun e w' => e = .returned (.bool true) ∧ Below W.heap.size W w')
    have HR2 := Lib.hid (fun u W h => by have := refRight_any u (dueR l now) W h; rwa [rightB_true (right_due hr now)] at this : ∀ u W, Sl W true 2 u (als (dueR l now)) → Calls Try.prog 10 #[u] W fun e w' => e = .returned (.bool true) ∧ Below W.heap.size W w')
    have HR3 := Lib.hid (fun u W (hm : a ∉ l) h => by have := refRight_any u (addS l a) W h; rwa [rightB_true (right_add hr hm)] at this : ∀ u W, a ∉ l → Sl W true 2 u (als (addS l a)) → Calls Try.prog 10 #[u] W fun e w' => e = .returned (.bool true) ∧ Below W.heap.size W w')
    clear hR
    generalize dropS l pid = d at *
    generalize dueR l now = rr at *
    generalize addS l a = ad at *
    go_enter Try.func6, Try.ntmps6
    go_wp2_with fail
    ((go_wp2_with fail); (with_reducible refine (shown_any _).mono ?_); (rintro e w1 ⟨rfl, hb1⟩); (have hz1 := hb1.size); (try simp only [World.size_alloc, World.size_setCell] at hz1))
    (have b1 : Box w1 (w.heap.size + 1) #[.int .u64 a.1, .int .i64 a.2] 30 := (by (try have k1 := (Lib.hid True.intro).out); ((apply Box.cast); (repeat (first | with_reducible assumption | ((with_reducible apply Box.new1); (first | with_reducible rfl | rfl | (solve | simp))) | with_reducible apply Box.drewN | with_reducible apply Box.drew | with_reducible apply Box.set | with_reducible apply Box.other | with_reducible apply Box.alloc | (with_reducible apply Box.below; rotate_left; with_reducible assumption; rotate_right) | with_reducible rfl | omega | (dsimp only; omega) | (simp only [drew_heap', drewN_heap', World.size_alloc, World.size_setCell]; omega) | rfl | (solve | simp) | (solve | (simp; omega))))))); (obtain ⟨hc1, hf1, hl1, hn1, hm1⟩ := b1.rules); (have K1 := Lib.hid b1); (clear b1)
    have hbw : Below w.heap.size w w1 := by (repeat (first | with_reducible assumption | with_reducible exact Below.refl _ _ | with_reducible refine Below.setCell ?_ ?_ _ | with_reducible refine Below.alloc ?_ ?_ _ | with_reducible refine below_drewN' ?_ _ | with_reducible refine Below.drew ?_ | with_reducible refine Below.trans ?_ (Below.mono (by assumption) ?_) | omega | (dsimp only; omega) | (simp only [drew_heap', drewN_heap', World.size_alloc, World.size_setCell]; omega) | (solve | simp) | (solve | (simp; omega))))
    ((go_wp2_with fail); (with_reducible refine (HR.out _ (HV.out.below hbw)).mono ?_); (rintro e w2 ⟨rfl, hb2⟩); (have hz2 := hb2.size); (try simp only [World.size_alloc, World.size_setCell] at hz2))
    (have b2 : Box w2 (w.heap.size + 1) #[.int .u64 a.1, .int .i64 a.2] 30 := (by (try have k2 := K1.out); ((apply Box.cast); (repeat (first | with_reducible assumption | ((with_reducible apply Box.new1); (first | with_reducible rfl | rfl | (solve | simp))) | with_reducible apply Box.drewN | with_reducible apply Box.drew | with_reducible apply Box.set | with_reducible apply Box.other | with_reducible apply Box.alloc | (with_reducible apply Box.below; rotate_left; with_reducible assumption; rotate_right) | with_reducible rfl | omega | (dsimp only; omega) | (simp only [drew_heap', drewN_heap', World.size_alloc, World.size_setCell]; omega) | rfl | (solve | simp) | (solve | (simp; omega))))))); (obtain ⟨hc2, hf2, hl2, hn2, hm2⟩ := b2.rules); (have K2 := Lib.hid b2); (clear b2)
    have hbw2 : Below w.heap.size w w2 := hbw.trans (hb2.mono hbw.size)
    clear hc1 hf1 hl1 hn1 hm1 hb1 hb2 hbw
    go_wp2_with fail
    go_loopw [9, 10] (fun s t W => ∃ i : Nat, i ≤ l.length ∧ t = .int .i64 i ∧ s = .bool (decide (a ∈ l.take i)) ∧ Below w2.heap.size w2 W) (fun _ t _ => l.length - (intOf t).toNat)
    case atStart => exact ⟨0, Nat.zero_le _, rfl, by simp, Below.refl _ _⟩
    case round =>
      obtain ⟨i, hi, rfl, rfl, hbx⟩ := hrel
      have hws := hbx.size
      (have b3 : Box wr (w.heap.size + 1) #[.int .u64 a.1, .int .i64 a.2] 30 := (by (try have k3 := K2.out); ((apply Box.cast); (repeat (first | with_reducible assumption | ((with_reducible apply Box.new1); (first | with_reducible rfl | rfl | (solve | simp))) | with_reducible apply Box.drewN | with_reducible apply Box.drew | with_reducible apply Box.set | with_reducible apply Box.other | with_reducible apply Box.alloc | (with_reducible apply Box.below; rotate_left; with_reducible assumption; rotate_right) | with_reducible rfl | omega | (dsimp only; omega) | (simp only [drew_heap', drewN_heap', World.size_alloc, World.size_setCell]; omega) | rfl | (solve | simp) | (solve | (simp; omega))))))); (obtain ⟨hc3, hf3, hl3, hn3, hm3⟩ := b3.rules); (have K3 := Lib.hid b3); (clear b3)
      have hbw3 : Below w.heap.size w wr := hbw2.trans (hbx.mono hbw2.size)
      clear hc2 hf2 hl2 hn2 hm2
      by_cases hlt : i < l.length
      · obtain ⟨x, hx⟩ : ∃ x, l[i]? = some x := ⟨_, List.getElem?_eq_getElem hlt⟩
        have hwr : IntKind.i64.wrap ((i : Int) + 1) = i + 1 := IntWalk.i64_in _ (by omega)
        have HT := Lib.hid (take_step hx)
        have heq := eql_al x a (HW.out x (List.mem_of_getElem? hx)) ha (decide (x = a)) (by simp)
        obtain ⟨b, off, rfl, hb, c0, c1⟩ := Sl.al (HV.out.below hbw3) hx
        clear hx
        have g0 := cell_rg c0 hb
        have g1 := cell_rg c1 hb
        have g2 := K3.out.regrown
        by_cases hin : a ∈ l.take i
        · have HIN := Lib.hid hin
          rw [show decide (a ∈ l.take i) = true by simpa using hin]
          clear hin heq
          go_wp2_with fail
          ((refine wp_region_quiet_below (by kernel_rfl) (by kernel_rfl) ?_); (repeat (go_big_quiet_step (fail))); (refine wpQuiet_nil ?_); (intro _ hw'); (obtain ⟨⟨dq, osq⟩, hw''⟩ := hw'); (subst hw''); (have hb7 := below_regrown wr dq osq); (generalize Go.Sort.grow (redrawn wr dq) osq = w7 at *); (have hz7 := hb7.size))
          clear g0 g1 g2
          go_wp2_with fail
          go_roundw
          case rel => exact ⟨i + 1, by omega, by go_num, by rw [HT.out]; simp [HIN.out], hbx.trans (hb7.mono hws)⟩
          case measure => simp [intOf]; omega
        · have HIN := Lib.hid hin
          rw [show decide (a ∈ l.take i) = false by simpa using hin]
          clear hin
          by_cases hxa : x = a
          · rw [show decide (x = a) = true by simpa using hxa] at heq
            have HXA := Lib.hid hxa
            clear hxa
            go_wp2_with fail
            ((refine wp_region_quiet_below (by kernel_rfl) (by kernel_rfl) ?_); (repeat (go_big_quiet_step (fail))); (refine wpQuiet_nil ?_); (intro _ hw'); (obtain ⟨⟨dq, osq⟩, hw''⟩ := hw'); (subst hw''); (have hb7 := below_regrown wr dq osq); (generalize Go.Sort.grow (redrawn wr dq) osq = w7 at *); (have hz7 := hb7.size))
            clear g0 g1 g2
            go_wp2_with fail
            go_roundw
            case rel => exact ⟨i + 1, by omega, by go_num, by rw [HT.out]; simp [HXA.out], hbx.trans (hb7.mono hws)⟩
            case measure => simp [intOf]; omega
          · rw [show decide (x = a) = false by simpa using hxa] at heq
            have HXA := Lib.hid hxa
            clear hxa
            go_wp2_with fail
            ((refine wp_region_quiet_below (by kernel_rfl) (by kernel_rfl) ?_); (repeat (go_big_quiet_step (fail))); (refine wpQuiet_nil ?_); (intro _ hw'); (obtain ⟨⟨dq, osq⟩, hw''⟩ := hw'); (subst hw''); (have hb7 := below_regrown wr dq osq); (generalize Go.Sort.grow (redrawn wr dq) osq = w7 at *); (have hz7 := hb7.size))
            clear g0 g1 g2
            go_wp2_with fail
            go_roundw
            case rel => exact ⟨i + 1, by omega, by go_num, by rw [HT.out]; simp [HIN.out, Ne.symm HXA.out], hbx.trans (hb7.mono hws)⟩
            case measure => simp [intOf]; omega
      · obtain rfl : i = l.length := by omega
        rw [List.take_length]
        go_wp2_with fail
        with_reducible refine (HD.out _ (HV.out.below hbw3)).mono ?_
        rintro e w4 ⟨p4, r4, rfl, ho4, hs4, hb4⟩
        have hz4 := hb4.size
        (have b4 : Box w4 (w.heap.size + 1) #[.int .u64 a.1, .int .i64 a.2] 30 := (by (try have k4 := K3.out); ((apply Box.cast); (repeat (first | with_reducible assumption | ((with_reducible apply Box.new1); (first | with_reducible rfl | rfl | (solve | simp))) | with_reducible apply Box.drewN | with_reducible apply Box.drew | with_reducible apply Box.set | with_reducible apply Box.other | with_reducible apply Box.alloc | (with_reducible apply Box.below; rotate_left; with_reducible assumption; rotate_right) | with_reducible rfl | omega | (dsimp only; omega) | (simp only [drew_heap', drewN_heap', World.size_alloc, World.size_setCell]; omega) | rfl | (solve | simp) | (solve | (simp; omega))))))); (obtain ⟨hc4, hf4, hl4, hn4, hm4⟩ := b4.rules); (have K4 := Lib.hid b4); (clear b4)
        have HS4 := Lib.hid hs4
        have hbw4 : Below w.heap.size w w4 := hbw3.trans (hb4.mono hbw3.size)
        clear ho4 hs4 hc3 hf3 hl3 hn3 hm3 hb4 hbx
        by_cases hin : a ∈ l
        · rw [show decide (a ∈ l) = true by simpa using hin]
          clear hin
          go_wp2_with fail
          with_reducible refine (HDr.out _ (HV.out.below hbw4)).mono ?_
          rintro e w5 ⟨v5, rfl, hs5, hb5⟩
          have hz5 := hb5.size
          have HS5 := Lib.hid hs5
          clear hs5
          ((go_wp2_with fail); (with_reducible refine (HR1.out _ _ HS5.out).mono ?_); (rintro e w6 ⟨rfl, hb6⟩); (have hz6 := hb6.size); (try simp only [World.size_alloc, World.size_setCell] at hz6))
          ((go_wp2_with fail); (with_reducible refine (HR2.out _ _ (HS4.out.below (hb5.trans (hb6.mono hz5)))).mono ?_); (rintro e w7 ⟨rfl, hb7⟩); (have hz7 := hb7.size); (try simp only [World.size_alloc, World.size_setCell] at hz7))
          go_wp2_with fail
          go_ret
          exact ⟨by simp, hbw4.trans (((hb5.trans (hb6.mono hz5)).trans (hb7.mono (Nat.le_trans hz5 hz6))).mono hbw4.size)⟩
        · rw [show decide (a ∈ l) = false by simpa using hin]
          have HIN := Lib.hid hin
          clear hin
          go_wp2_with fail
          with_reducible refine (HA.out _ (HV.out.below hbw4)).mono ?_
          rintro e w5 ⟨v5, rfl, hs5, hb5⟩
          have hz5 := hb5.size
          have HS5 := Lib.hid hs5
          clear hs5
          ((go_wp2_with fail); (with_reducible refine (HR3.out _ _ HIN.out HS5.out).mono ?_); (rintro e w6 ⟨rfl, hb6⟩); (have hz6 := hb6.size); (try simp only [World.size_alloc, World.size_setCell] at hz6))
          have hb46 : Below w4.heap.size w4 w6 := hb5.trans (hb6.mono hz5)
          have hbw6 : Below w.heap.size w w6 := hbw4.trans (hb46.mono hbw4.size)
          go_wp2_with fail
          with_reducible refine (HDr.out _ (HV.out.below hbw6)).mono ?_
          rintro e w7 ⟨v7, rfl, hs7, hb7⟩
          have hz7 := hb7.size
          have HS7 := Lib.hid hs7
          clear hs7
          ((go_wp2_with fail); (with_reducible refine (HR1.out _ _ HS7.out).mono ?_); (rintro e w8 ⟨rfl, hb8⟩); (have hz8 := hb8.size); (try simp only [World.size_alloc, World.size_setCell] at hz8))
          have hb48 : Below w4.heap.size w4 w8 := hb46.trans ((hb7.trans (hb8.mono hz7)).mono hb46.size)
          ((go_wp2_with fail); (with_reducible refine (HR2.out _ _ (HS4.out.below hb48)).mono ?_); (rintro e w9 ⟨rfl, hb9⟩); (have hz9 := hb9.size); (try simp only [World.size_alloc, World.size_setCell] at hz9))
          go_wp2_with fail
          go_ret
          exact ⟨by simp, hbw4.trans ((hb48.trans (hb9.mono hb48.size)).mono hbw4.size)⟩
  · rw [rightB_false hr] at hR
    go_enter Try.func6, Try.ntmps6
    go_wp2_with fail
    ((go_wp2_with fail); (with_reducible refine (shown_any _).mono ?_); (rintro e w1 ⟨rfl, hb1⟩); (have hz1 := hb1.size); (try simp only [World.size_alloc, World.size_setCell] at hz1))
    ((go_wp2_with fail); (with_reducible refine (hR _ (HV.out.below (by (repeat (first | with_reducible assumption | with_reducible exact Below.refl _ _ | with_reducible refine Below.setCell ?_ ?_ _ | with_reducible refine Below.alloc ?_ ?_ _ | with_reducible refine below_drewN' ?_ _ | with_reducible refine Below.drew ?_ | with_reducible refine Below.trans ?_ (Below.mono (by assumption) ?_) | omega | (dsimp only; omega) | (simp only [drew_heap', drewN_heap', World.size_alloc, World.size_setCell]; omega) | (solve | simp) | (solve | (simp; omega))))))).mono ?_); (rintro e w2 ⟨rfl, hb2⟩); (have hz2 := hb2.size); (try simp only [World.size_alloc, World.size_setCell] at hz2))
    go_wp2_with fail
    go_ret
    exact ⟨by simp, by (repeat (first | with_reducible assumption | with_reducible exact Below.refl _ _ | with_reducible refine Below.setCell ?_ ?_ _ | with_reducible refine Below.alloc ?_ ?_ _ | with_reducible refine below_drewN' ?_ _ | with_reducible refine Below.drew ?_ | with_reducible refine Below.trans ?_ (Below.mono (by assumption) ?_) | omega | (dsimp only; omega) | (simp only [drew_heap', drewN_heap', World.size_alloc, World.size_setCell]; omega) | (solve | simp) | (solve | (simp; omega))))⟩
end Go.Proofs.Ytndmgbdgcemcmaa
