/- The law HeapAll: its walk. Conditions: numbers within their kinds. -/
import Derived.Test.YtdfkfoffinchhaaHeapFacts
namespace Go.Proofs.Ytdfkfoffinchhaa
open Go Go.RowKit Go.Tm
set_option linter.unusedVariables false
set_option linter.unusedSimpArgs false

theorem right_nil {size : Int} (h : 0 ≤ size) : RightP size [] := ⟨trivial, h⟩
theorem holes_nil {size : Int} : holesS size [] = if 0 < size then [(0, size, 0)] else [] := by
  unfold holesS
  simp only [List.nil_append, holesG, List.append_nil, hole]
  split <;> simp
theorem take_nil {size n : Int} (h : 0 ≤ size) (who : Int) : ∃ lk, takeS size [] n who = (lk, 0, if n < 1 then 1 else if size < n then 5 else 0) := by
  rcases take_cases size [] n who with ⟨h1, e⟩ | ⟨h1, h2, h3, e⟩ | ⟨h1, h2, l1, l2, p, q, u, h3, h4, h5, e, _⟩
  · have hn : n < 1 := h1.resolve_right (fun h' => h' (right_nil h))
    rw [if_pos hn]; exact ⟨_, e⟩
  · rw [if_neg (by omega)]
    rw [holes_nil] at h3
    have : size < n := by
      by_cases hs : 0 < size
      · rw [if_pos hs] at h3; exact h3 _ List.mem_cons_self
      · omega
    rw [if_pos this]; exact ⟨_, e⟩
  · rw [holes_nil] at h4
    by_cases hs : 0 < size
    · rw [if_pos hs] at h4
      simp only [List.mem_cons, Prod.mk.injEq, List.not_mem_nil, or_false] at h4
      obtain ⟨rfl, rfl, rfl⟩ := h4
      rw [if_neg (by omega), if_neg (by omega)]
      exact ⟨_, e⟩
    · rw [if_neg hs] at h4; cases h4

set_option maxRecDepth 100000 in
set_option maxHeartbeats 4000000 in
theorem heapAll_walk (size n : Int) (w : World) (hs : (Lit.int .i64 size).wf = true) :
    Calls Try.prog 8 #[.int .i64 size, .int .i64 n] w fun e w' => e = .returned (.bool true) ∧ Below w.heap.size w w' := by
  have hN := fun W => new_any size W
  by_cases hneg : size < 0
  · rw [if_pos hneg, if_pos hneg] at hN
    have HN := Lib.hid hN
    have hd : decide (size < 0) = true := by simpa using hneg
    clear hN
    go_enter Try.func8, Try.ntmps8
    ((go_wp2_with fail); (with_reducible refine (shown_any _).mono ?_); (rintro e w1 ⟨rfl, hb1⟩); (have hz1 := hb1.size); (try simp only [World.size_alloc, World.size_setCell] at hz1))
    ((go_wp2_with fail); (with_reducible refine (HN.out _).mono ?_); (rintro e w2 ⟨rfl, hb2⟩); (have hz2 := hb2.size); (try simp only [World.size_alloc, World.size_setCell] at hz2))
    go_wp2_with fail
    go_ret
    exact ⟨by simp, by (repeat (first | with_reducible assumption | with_reducible exact Below.refl _ _ | with_reducible refine Below.setCell ?_ ?_ _ | with_reducible refine Below.alloc ?_ ?_ _ | with_reducible refine below_drewN' ?_ _ | with_reducible refine Below.drew ?_ | with_reducible refine Below.trans ?_ (Below.mono (by assumption) ?_) | omega | (dsimp only; omega) | (simp only [drew_heap', drewN_heap', World.size_alloc, World.size_setCell]; omega) | (solve | simp) | (solve | (simp; omega))))⟩
  rw [if_neg hneg, if_neg hneg] at hN
  have HN := Lib.hid hN
  have hT := fun W => take_any size (.slice none 0 0) [] n 1 W (Sl.nil _ _ _) hs (by simp) (by decide)
  have hL := fun W => left_any size (.slice none 0 0) [] W (Sl.nil _ _ _) hs (by simp) (by decide)
  have hH := fun W => holesC_any size (.slice none 0 0) [] W (Sl.nil _ _ _) hs (by simp) (by decide)
  have hl : sumN (holesB size []) = size := by
    rw [holesB_true (right_nil (by omega)), sum_all (right_nil (by omega)), sumN_nil]; omega
  have hh : holesB size [] = if 0 < size then [(0, size, 0)] else [] := by rw [holesB_true (right_nil (by omega)), holes_nil]
  rw [hl] at hL
  rw [hh] at hH
  obtain ⟨lk, hlk⟩ := take_nil (n := n) (show 0 ≤ size by omega) 1
  rw [hlk] at hT
  dsimp only at hT
  have hwf : SpWf (0, size, 0) := ⟨by show (Lit.int .i64 0).wf = true; decide, hs, by show (Lit.int .i64 0).wf = true; decide⟩
  have HWF := Lib.hid (show ∀ x ∈ [((0, size, 0) : Sp)], SpWf x from fun x hx => by simp at hx; subst hx; exact hwf)
  have HL := Lib.hid hL
  have hcase : (n < 1 ∧ ¬ size < n ∧ (0 < size ∨ size = 0)) ∨ (¬ n < 1 ∧ ¬ size < n ∧ 0 < size) ∨ (¬ n < 1 ∧ size < n ∧ (0 < size ∨ size = 0)) := by omega
  clear hN hL hh hl hlk hwf
  have HS := Lib.hid (fun v u W h h' => show Calls Try.prog 22 #[v, u] W fun e w' => e = .returned (.bool true) ∧ Below W.heap.size W w' by
    have h := spans_any v u [(0, size, 0)] [(0, size, 0)] W h h' HWF.out HWF.out
    rwa [decide_eq_true rfl] at h)
  rcases hcase with ⟨h1, h2, h3 | h3⟩ | ⟨h1, h2, h3⟩ | ⟨h1, h2, h3 | h3⟩
  · rw [if_pos h1] at hT
    have d1 : decide (n < 1) = true := decide_eq_true h1
    have d2 : decide (size < n) = false := decide_eq_false h2
    rw [if_pos h3] at hH
    have d3 : (size == 0) = false := by rw [beq_eq_false_iff_ne]; omega
    have d4 : decide (0 < size) = true := decide_eq_true h3
    have HT := Lib.hid hT
    have HH := Lib.hid hH
    clear hT hH h1 h2
    go_enter Try.func8, Try.ntmps8
    ((go_wp2_with fail); (with_reducible refine (shown_any _).mono ?_); (rintro e w1 ⟨rfl, hb1⟩); (have hz1 := hb1.size); (try simp only [World.size_alloc, World.size_setCell] at hz1))
    ((go_wp2_with fail); (with_reducible refine (HN.out _).mono ?_); (rintro e w2 ⟨rfl, hb2⟩); (have hz2 := hb2.size); (try simp only [World.size_alloc, World.size_setCell] at hz2))
    go_wp2_with fail
    have hbw2 : Below w.heap.size w w2 := by (repeat (first | with_reducible assumption | with_reducible exact Below.refl _ _ | with_reducible refine Below.setCell ?_ ?_ _ | with_reducible refine Below.alloc ?_ ?_ _ | with_reducible refine below_drewN' ?_ _ | with_reducible refine Below.drew ?_ | with_reducible refine Below.trans ?_ (Below.mono (by assumption) ?_) | omega | (dsimp only; omega) | (simp only [drew_heap', drewN_heap', World.size_alloc, World.size_setCell]; omega) | (solve | simp) | (solve | (simp; omega))))
    have hbA0 : Below w2.heap.size w2 (w2.alloc (.cells #[.int .i64 size, .slice none 0 0] 24)) := (Below.refl _ _).alloc (Nat.le_refl _) _
    with_reducible refine (HT.out _).mono ?_
    rintro e w3 ⟨v3, rfl, hs3, hr3, hb3⟩
    have hbw3 : Below w.heap.size w w3 := hbw2.trans ((hbA0.trans (hb3.mono hbA0.size)).mono hbw2.size)
    have hz3 := hbw3.size
    have hzA := hb3.size
    simp only [World.size_alloc] at hzA
    have K3 := Lib.hid ((Box.new w2 #[.int .i64 size, .slice none 0 0] 24).below hb3 (by simp))
    obtain ⟨c3, f3, l3, n3, m3⟩ := K3.out.rules
    obtain ⟨a3, k3, hv3, _⟩ := hs3.shape
    rw [sps_len] at hv3
    subst hv3
    clear hb1 hb2 hb3 hs3 hr3 hbA0 hbw2
    go_wp2_with fail
    have hbB : Below w3.heap.size w3 (w3.alloc (.cells #[.int .i64 size, .slice a3 lk.length k3] 24)) := (Below.refl _ _).alloc (Nat.le_refl _) _
    with_reducible refine (HH.out _).mono ?_
    rintro e w4 ⟨v4, rfl, ho4, hb4⟩
    have hbB4 : Below w3.heap.size w3 w4 := hbB.trans (hb4.mono hbB.size)
    have hbw4 : Below w.heap.size w w4 := hbw3.trans (hbB4.mono hz3)
    have hz4 := hbw4.size
    ((have b5 := K3.out.below hbB4 K3.out.lt); (obtain ⟨hc5, hf5, hl5, hn5, hm5⟩ := b5.rules); (have K5 := Lib.hid b5); (clear b5))
    have HM0 := ho4.sl
    obtain ⟨a4, k4, hv4, _⟩ := HM0.shape
    replace hv4 : v4 = .slice a4 1 k4 := hv4
    subst hv4
    have HM := Lib.hid HM0
    clear hb4 ho4 hbB hbB4 hbw3 K3 c3 f3 l3 n3 m3 HM0
    go_wp2_with fail
    with_reducible refine (HL.out _).mono ?_
    rintro e w5 ⟨rfl, hb5⟩
    have hbw5 : Below w.heap.size w w5 := hbw4.trans (hb5.mono hz4)
    have hz5 := hbw5.size
    go_wp2_with fail
    have hbC : Below w5.heap.size w5 (w5.alloc (.cells #[.int .i64 0, .int .i64 size, .int .i64 0] 31)) := (Below.refl _ _).alloc (Nat.le_refl _) _
    with_reducible refine (HS.out _ _ _ ?_ ?_).mono ?_
    focus exact (HM.out.below hb5).below hbC
    focus exact Sl.made1 (sp_val (0, size, 0)) rfl
    rintro e w6 ⟨rfl, hb6⟩
    go_wp2_with fail
    go_ret
    exact ⟨by simp, (hbw5.trans (hbC.mono hz5)).trans (hb6.mono (by have := hbC.size; omega))⟩
  · rw [if_pos h1] at hT
    have d1 : decide (n < 1) = true := decide_eq_true h1
    have d2 : decide (size < n) = false := decide_eq_false h2
    subst h3
    rw [if_neg (by omega)] at hH
    have HT := Lib.hid hT
    have HH := Lib.hid hH
    clear hT hH h1 h2
    go_enter Try.func8, Try.ntmps8
    ((go_wp2_with fail); (with_reducible refine (shown_any _).mono ?_); (rintro e w1 ⟨rfl, hb1⟩); (have hz1 := hb1.size); (try simp only [World.size_alloc, World.size_setCell] at hz1))
    ((go_wp2_with fail); (with_reducible refine (HN.out _).mono ?_); (rintro e w2 ⟨rfl, hb2⟩); (have hz2 := hb2.size); (try simp only [World.size_alloc, World.size_setCell] at hz2))
    go_wp2_with fail
    have hbw2 : Below w.heap.size w w2 := by (repeat (first | with_reducible assumption | with_reducible exact Below.refl _ _ | with_reducible refine Below.setCell ?_ ?_ _ | with_reducible refine Below.alloc ?_ ?_ _ | with_reducible refine below_drewN' ?_ _ | with_reducible refine Below.drew ?_ | with_reducible refine Below.trans ?_ (Below.mono (by assumption) ?_) | omega | (dsimp only; omega) | (simp only [drew_heap', drewN_heap', World.size_alloc, World.size_setCell]; omega) | (solve | simp) | (solve | (simp; omega))))
    have hbA0 : Below w2.heap.size w2 (w2.alloc (.cells #[.int .i64 0, .slice none 0 0] 24)) := (Below.refl _ _).alloc (Nat.le_refl _) _
    with_reducible refine (HT.out _).mono ?_
    rintro e w3 ⟨v3, rfl, hs3, hr3, hb3⟩
    have hbw3 : Below w.heap.size w w3 := hbw2.trans ((hbA0.trans (hb3.mono hbA0.size)).mono hbw2.size)
    have hz3 := hbw3.size
    have hzA := hb3.size
    simp only [World.size_alloc] at hzA
    have K3 := Lib.hid ((Box.new w2 #[.int .i64 0, .slice none 0 0] 24).below hb3 (by simp))
    obtain ⟨c3, f3, l3, n3, m3⟩ := K3.out.rules
    obtain ⟨a3, k3, hv3, _⟩ := hs3.shape
    rw [sps_len] at hv3
    subst hv3
    clear hb1 hb2 hb3 hs3 hr3 hbA0 hbw2
    go_wp2_with fail
    have hbB : Below w3.heap.size w3 (w3.alloc (.cells #[.int .i64 0, .slice a3 lk.length k3] 24)) := (Below.refl _ _).alloc (Nat.le_refl _) _
    with_reducible refine (HH.out _).mono ?_
    rintro e w4 ⟨v4, rfl, ho4, hb4⟩
    have hbB4 : Below w3.heap.size w3 w4 := hbB.trans (hb4.mono hbB.size)
    have hbw4 : Below w.heap.size w w4 := hbw3.trans (hbB4.mono hz3)
    have hz4 := hbw4.size
    ((have b5 := K3.out.below hbB4 K3.out.lt); (obtain ⟨hc5, hf5, hl5, hn5, hm5⟩ := b5.rules); (have K5 := Lib.hid b5); (clear b5))
    have HM0 := ho4.sl
    obtain ⟨a4, k4, hv4, _⟩ := HM0.shape
    replace hv4 : v4 = .slice a4 0 k4 := hv4
    subst hv4
    have HM := Lib.hid HM0
    clear hb4 ho4 hbB hbB4 hbw3 K3 c3 f3 l3 n3 m3 HM0
    go_wp2_with fail
    with_reducible refine (HL.out _).mono ?_
    rintro e w5 ⟨rfl, hb5⟩
    have hbw5 : Below w.heap.size w w5 := hbw4.trans (hb5.mono hz4)
    have hz5 := hbw5.size
    go_wp2_with fail
    go_ret
    exact ⟨by simp, hbw5⟩
  · rw [if_neg h1] at hT
    rw [if_neg h2] at hT
    have d1 : decide (n < 1) = false := decide_eq_false h1
    have d2 : decide (size < n) = false := decide_eq_false h2
    rw [if_pos h3] at hH
    have d3 : (size == 0) = false := by rw [beq_eq_false_iff_ne]; omega
    have d4 : decide (0 < size) = true := decide_eq_true h3
    have HT := Lib.hid hT
    have HH := Lib.hid hH
    clear hT hH h1 h2
    go_enter Try.func8, Try.ntmps8
    ((go_wp2_with fail); (with_reducible refine (shown_any _).mono ?_); (rintro e w1 ⟨rfl, hb1⟩); (have hz1 := hb1.size); (try simp only [World.size_alloc, World.size_setCell] at hz1))
    ((go_wp2_with fail); (with_reducible refine (HN.out _).mono ?_); (rintro e w2 ⟨rfl, hb2⟩); (have hz2 := hb2.size); (try simp only [World.size_alloc, World.size_setCell] at hz2))
    go_wp2_with fail
    have hbw2 : Below w.heap.size w w2 := by (repeat (first | with_reducible assumption | with_reducible exact Below.refl _ _ | with_reducible refine Below.setCell ?_ ?_ _ | with_reducible refine Below.alloc ?_ ?_ _ | with_reducible refine below_drewN' ?_ _ | with_reducible refine Below.drew ?_ | with_reducible refine Below.trans ?_ (Below.mono (by assumption) ?_) | omega | (dsimp only; omega) | (simp only [drew_heap', drewN_heap', World.size_alloc, World.size_setCell]; omega) | (solve | simp) | (solve | (simp; omega))))
    have hbA0 : Below w2.heap.size w2 (w2.alloc (.cells #[.int .i64 size, .slice none 0 0] 24)) := (Below.refl _ _).alloc (Nat.le_refl _) _
    with_reducible refine (HT.out _).mono ?_
    rintro e w3 ⟨v3, rfl, hs3, hr3, hb3⟩
    have hbw3 : Below w.heap.size w w3 := hbw2.trans ((hbA0.trans (hb3.mono hbA0.size)).mono hbw2.size)
    have hz3 := hbw3.size
    have hzA := hb3.size
    simp only [World.size_alloc] at hzA
    have K3 := Lib.hid ((Box.new w2 #[.int .i64 size, .slice none 0 0] 24).below hb3 (by simp))
    obtain ⟨c3, f3, l3, n3, m3⟩ := K3.out.rules
    obtain ⟨a3, k3, hv3, _⟩ := hs3.shape
    rw [sps_len] at hv3
    subst hv3
    clear hb1 hb2 hb3 hs3 hr3 hbA0 hbw2
    go_wp2_with fail
    have hbB : Below w3.heap.size w3 (w3.alloc (.cells #[.int .i64 size, .slice a3 lk.length k3] 24)) := (Below.refl _ _).alloc (Nat.le_refl _) _
    with_reducible refine (HH.out _).mono ?_
    rintro e w4 ⟨v4, rfl, ho4, hb4⟩
    have hbB4 : Below w3.heap.size w3 w4 := hbB.trans (hb4.mono hbB.size)
    have hbw4 : Below w.heap.size w w4 := hbw3.trans (hbB4.mono hz3)
    have hz4 := hbw4.size
    ((have b5 := K3.out.below hbB4 K3.out.lt); (obtain ⟨hc5, hf5, hl5, hn5, hm5⟩ := b5.rules); (have K5 := Lib.hid b5); (clear b5))
    have HM0 := ho4.sl
    obtain ⟨a4, k4, hv4, _⟩ := HM0.shape
    replace hv4 : v4 = .slice a4 1 k4 := hv4
    subst hv4
    have HM := Lib.hid HM0
    clear hb4 ho4 hbB hbB4 hbw3 K3 c3 f3 l3 n3 m3 HM0
    go_wp2_with fail
    with_reducible refine (HL.out _).mono ?_
    rintro e w5 ⟨rfl, hb5⟩
    have hbw5 : Below w.heap.size w w5 := hbw4.trans (hb5.mono hz4)
    have hz5 := hbw5.size
    go_wp2_with fail
    have hbC : Below w5.heap.size w5 (w5.alloc (.cells #[.int .i64 0, .int .i64 size, .int .i64 0] 31)) := (Below.refl _ _).alloc (Nat.le_refl _) _
    with_reducible refine (HS.out _ _ _ ?_ ?_).mono ?_
    focus exact (HM.out.below hb5).below hbC
    focus exact Sl.made1 (sp_val (0, size, 0)) rfl
    rintro e w6 ⟨rfl, hb6⟩
    go_wp2_with fail
    go_ret
    exact ⟨by simp, (hbw5.trans (hbC.mono hz5)).trans (hb6.mono (by have := hbC.size; omega))⟩
  · rw [if_neg h1] at hT
    rw [if_pos h2] at hT
    have d1 : decide (n < 1) = false := decide_eq_false h1
    have d2 : decide (size < n) = true := decide_eq_true h2
    rw [if_pos h3] at hH
    have d3 : (size == 0) = false := by rw [beq_eq_false_iff_ne]; omega
    have d4 : decide (0 < size) = true := decide_eq_true h3
    have HT := Lib.hid hT
    have HH := Lib.hid hH
    clear hT hH h1 h2
    go_enter Try.func8, Try.ntmps8
    ((go_wp2_with fail); (with_reducible refine (shown_any _).mono ?_); (rintro e w1 ⟨rfl, hb1⟩); (have hz1 := hb1.size); (try simp only [World.size_alloc, World.size_setCell] at hz1))
    ((go_wp2_with fail); (with_reducible refine (HN.out _).mono ?_); (rintro e w2 ⟨rfl, hb2⟩); (have hz2 := hb2.size); (try simp only [World.size_alloc, World.size_setCell] at hz2))
    go_wp2_with fail
    have hbw2 : Below w.heap.size w w2 := by (repeat (first | with_reducible assumption | with_reducible exact Below.refl _ _ | with_reducible refine Below.setCell ?_ ?_ _ | with_reducible refine Below.alloc ?_ ?_ _ | with_reducible refine below_drewN' ?_ _ | with_reducible refine Below.drew ?_ | with_reducible refine Below.trans ?_ (Below.mono (by assumption) ?_) | omega | (dsimp only; omega) | (simp only [drew_heap', drewN_heap', World.size_alloc, World.size_setCell]; omega) | (solve | simp) | (solve | (simp; omega))))
    have hbA0 : Below w2.heap.size w2 (w2.alloc (.cells #[.int .i64 size, .slice none 0 0] 24)) := (Below.refl _ _).alloc (Nat.le_refl _) _
    with_reducible refine (HT.out _).mono ?_
    rintro e w3 ⟨v3, rfl, hs3, hr3, hb3⟩
    have hbw3 : Below w.heap.size w w3 := hbw2.trans ((hbA0.trans (hb3.mono hbA0.size)).mono hbw2.size)
    have hz3 := hbw3.size
    have hzA := hb3.size
    simp only [World.size_alloc] at hzA
    have K3 := Lib.hid ((Box.new w2 #[.int .i64 size, .slice none 0 0] 24).below hb3 (by simp))
    obtain ⟨c3, f3, l3, n3, m3⟩ := K3.out.rules
    obtain ⟨a3, k3, hv3, _⟩ := hs3.shape
    rw [sps_len] at hv3
    subst hv3
    clear hb1 hb2 hb3 hs3 hr3 hbA0 hbw2
    go_wp2_with fail
    have hbB : Below w3.heap.size w3 (w3.alloc (.cells #[.int .i64 size, .slice a3 lk.length k3] 24)) := (Below.refl _ _).alloc (Nat.le_refl _) _
    with_reducible refine (HH.out _).mono ?_
    rintro e w4 ⟨v4, rfl, ho4, hb4⟩
    have hbB4 : Below w3.heap.size w3 w4 := hbB.trans (hb4.mono hbB.size)
    have hbw4 : Below w.heap.size w w4 := hbw3.trans (hbB4.mono hz3)
    have hz4 := hbw4.size
    ((have b5 := K3.out.below hbB4 K3.out.lt); (obtain ⟨hc5, hf5, hl5, hn5, hm5⟩ := b5.rules); (have K5 := Lib.hid b5); (clear b5))
    have HM0 := ho4.sl
    obtain ⟨a4, k4, hv4, _⟩ := HM0.shape
    replace hv4 : v4 = .slice a4 1 k4 := hv4
    subst hv4
    have HM := Lib.hid HM0
    clear hb4 ho4 hbB hbB4 hbw3 K3 c3 f3 l3 n3 m3 HM0
    go_wp2_with fail
    with_reducible refine (HL.out _).mono ?_
    rintro e w5 ⟨rfl, hb5⟩
    have hbw5 : Below w.heap.size w w5 := hbw4.trans (hb5.mono hz4)
    have hz5 := hbw5.size
    go_wp2_with fail
    have hbC : Below w5.heap.size w5 (w5.alloc (.cells #[.int .i64 0, .int .i64 size, .int .i64 0] 31)) := (Below.refl _ _).alloc (Nat.le_refl _) _
    with_reducible refine (HS.out _ _ _ ?_ ?_).mono ?_
    focus exact (HM.out.below hb5).below hbC
    focus exact Sl.made1 (sp_val (0, size, 0)) rfl
    rintro e w6 ⟨rfl, hb6⟩
    go_wp2_with fail
    go_ret
    exact ⟨by simp, (hbw5.trans (hbC.mono hz5)).trans (hb6.mono (by have := hbC.size; omega))⟩
  · rw [if_neg h1] at hT
    rw [if_pos h2] at hT
    have d1 : decide (n < 1) = false := decide_eq_false h1
    have d2 : decide (size < n) = true := decide_eq_true h2
    subst h3
    rw [if_neg (by omega)] at hH
    have HT := Lib.hid hT
    have HH := Lib.hid hH
    clear hT hH h1 h2
    go_enter Try.func8, Try.ntmps8
    ((go_wp2_with fail); (with_reducible refine (shown_any _).mono ?_); (rintro e w1 ⟨rfl, hb1⟩); (have hz1 := hb1.size); (try simp only [World.size_alloc, World.size_setCell] at hz1))
    ((go_wp2_with fail); (with_reducible refine (HN.out _).mono ?_); (rintro e w2 ⟨rfl, hb2⟩); (have hz2 := hb2.size); (try simp only [World.size_alloc, World.size_setCell] at hz2))
    go_wp2_with fail
    have hbw2 : Below w.heap.size w w2 := by (repeat (first | with_reducible assumption | with_reducible exact Below.refl _ _ | with_reducible refine Below.setCell ?_ ?_ _ | with_reducible refine Below.alloc ?_ ?_ _ | with_reducible refine below_drewN' ?_ _ | with_reducible refine Below.drew ?_ | with_reducible refine Below.trans ?_ (Below.mono (by assumption) ?_) | omega | (dsimp only; omega) | (simp only [drew_heap', drewN_heap', World.size_alloc, World.size_setCell]; omega) | (solve | simp) | (solve | (simp; omega))))
    have hbA0 : Below w2.heap.size w2 (w2.alloc (.cells #[.int .i64 0, .slice none 0 0] 24)) := (Below.refl _ _).alloc (Nat.le_refl _) _
    with_reducible refine (HT.out _).mono ?_
    rintro e w3 ⟨v3, rfl, hs3, hr3, hb3⟩
    have hbw3 : Below w.heap.size w w3 := hbw2.trans ((hbA0.trans (hb3.mono hbA0.size)).mono hbw2.size)
    have hz3 := hbw3.size
    have hzA := hb3.size
    simp only [World.size_alloc] at hzA
    have K3 := Lib.hid ((Box.new w2 #[.int .i64 0, .slice none 0 0] 24).below hb3 (by simp))
    obtain ⟨c3, f3, l3, n3, m3⟩ := K3.out.rules
    obtain ⟨a3, k3, hv3, _⟩ := hs3.shape
    rw [sps_len] at hv3
    subst hv3
    clear hb1 hb2 hb3 hs3 hr3 hbA0 hbw2
    go_wp2_with fail
    have hbB : Below w3.heap.size w3 (w3.alloc (.cells #[.int .i64 0, .slice a3 lk.length k3] 24)) := (Below.refl _ _).alloc (Nat.le_refl _) _
    with_reducible refine (HH.out _).mono ?_
    rintro e w4 ⟨v4, rfl, ho4, hb4⟩
    have hbB4 : Below w3.heap.size w3 w4 := hbB.trans (hb4.mono hbB.size)
    have hbw4 : Below w.heap.size w w4 := hbw3.trans (hbB4.mono hz3)
    have hz4 := hbw4.size
    ((have b5 := K3.out.below hbB4 K3.out.lt); (obtain ⟨hc5, hf5, hl5, hn5, hm5⟩ := b5.rules); (have K5 := Lib.hid b5); (clear b5))
    have HM0 := ho4.sl
    obtain ⟨a4, k4, hv4, _⟩ := HM0.shape
    replace hv4 : v4 = .slice a4 0 k4 := hv4
    subst hv4
    have HM := Lib.hid HM0
    clear hb4 ho4 hbB hbB4 hbw3 K3 c3 f3 l3 n3 m3 HM0
    go_wp2_with fail
    with_reducible refine (HL.out _).mono ?_
    rintro e w5 ⟨rfl, hb5⟩
    have hbw5 : Below w.heap.size w w5 := hbw4.trans (hb5.mono hz4)
    have hz5 := hbw5.size
    go_wp2_with fail
    go_ret
    exact ⟨by simp, hbw5⟩
end Go.Proofs.Ytdfkfoffinchhaa
