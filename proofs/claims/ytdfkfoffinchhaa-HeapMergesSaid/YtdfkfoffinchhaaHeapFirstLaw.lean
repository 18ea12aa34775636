/- The law HeapFirst: its walk. Conditions: what came in is shaped. -/
import Derived.Test.YtdfkfoffinchhaaHeapFacts
import Derived.Test.YtdfkfoffinchhaaHeapRef
namespace Go.Proofs.Ytdfkfoffinchhaa
open Go Go.RowKit Go.Tm
set_option linter.unusedVariables false
set_option linter.unusedSimpArgs false

theorem hole_mono {size : Int} {l : List Sp} (h : RightP size l) {i j : Nat} {x y : Sp} (hx : (holesS size l)[i]? = some x) (hy : (holesS size l)[j]? = some y) (hij : i ≤ j) : x.1 ≤ y.1 := by
  induction j generalizing y with
  | zero =>
    obtain rfl : i = 0 := by omega
    rw [hx] at hy; cases hy; exact Int.le_refl _
  | succ j ih =>
    by_cases he : i = j + 1
    · subst he; rw [hx] at hy; cases hy; exact Int.le_refl _
    · have hlt := (List.getElem?_eq_some_iff.1 hy).1
      obtain ⟨z, hz⟩ : ∃ z, (holesS size l)[j]? = some z := ⟨_, List.getElem?_eq_getElem (by omega)⟩
      have h1 := ih hz (by omega)
      have h2 := hole_gap h hz hy
      have h3 := hole_in h (List.mem_of_getElem? hz)
      omega

set_option maxRecDepth 100000 in
set_option maxHeartbeats 4000000 in
theorem heapFirst_walk (size : Int) (v : Value) (l : List Sp) (n who : Int) (w : World) (hv : Sl w true 3 v (sps l)) (hs : (Lit.int .i64 size).wf = true) (hw : ∀ x ∈ l, SpWf x) (hby : (l.length + 2) * 24 ≤ 140737488355328) :
    Calls Try.prog 3 #[.agg #[.int .i64 size, v], .int .i64 n, .int .i64 who] w fun e w' => e = .returned (.bool true) ∧ Below w.heap.size w w' := by
  have HV := Lib.hid hv
  have HT := Lib.hid (fun W h => take_any size v l n who W h hs hw (by omega))
  have HC := Lib.hid (fun W h => refHoles_any size v l W h hs hw (by omega))
  have hcases := take_cases size l n who
  have hml := holesB_len size l
  have hemp := fun h => holesB_false (size := size) (l := l) h
  obtain ⟨a, cap, rfl, hl⟩ := hv.shape
  rw [sps_len] at hl HV HT HC ⊢
  obtain ⟨lk, ak, er, hek⟩ : ∃ lk ak er, takeS size l n who = (lk, ak, er) := ⟨_, _, _, rfl⟩
  rw [hek] at HT hcases
  dsimp only at HT
  have HCA : Hid ((n < 1 ∧ er = 1) ∨ (¬ n < 1 ∧ holesB size l = []) ∨ (¬ n < 1 ∧ ∀ x ∈ holesB size l, x.2.1 < n) ∨ (¬ n < 1 ∧ er = 0 ∧ ∀ x ∈ holesB size l, n ≤ x.2.1 → ak ≤ x.1)) := Lib.hid (by
    rcases hcases with ⟨h, he⟩ | ⟨h1, h2, h3, he⟩ | ⟨h1, h2, l1, l2, p, q, u, h3, h4, h5, he, h6, h7, h8, h9, h10, h11, i, hi, hno⟩
    · simp only [Prod.mk.injEq] at he
      by_cases hn : n < 1
      · exact .inl ⟨hn, he.2.2⟩
      · rcases h with h | h
        · exact absurd h hn
        · exact .inr (.inl ⟨hn, hemp h⟩)
    · exact .inr (.inr (.inl ⟨by omega, by rw [holesB_true h2]; exact h3⟩))
    · simp only [Prod.mk.injEq] at he
      obtain ⟨_, rfl, rfl⟩ := he
      refine .inr (.inr (.inr ⟨by omega, rfl, ?_⟩))
      rw [holesB_true h2]
      intro x hx hnx
      obtain ⟨j, hj, hxj⟩ := List.getElem_of_mem hx
      have hxj' : (holesS size l)[j]? = some x := by rw [List.getElem?_eq_getElem hj, hxj]
      by_cases hji : j < i
      · have := hno j x hji hxj'; omega
      · have := hole_mono h2 hi hxj' (by omega)
        exact this)
  clear hv hs hw hek hcases hemp
  generalize holesB size l = m at *
  go_enter Try.func3, Try.ntmps3
  ((go_wp2_with fail); (with_reducible refine (shown_any _).mono ?_); (rintro e w1 ⟨rfl, hb1⟩); (have hz1 := hb1.size); (try simp only [World.size_alloc, World.size_setCell] at hz1))
  (have b1 : Box w1 w.heap.size #[.int .i64 size, .slice a l.length cap] 24 := (by (try have k1 := (Lib.hid True.intro).out); ((apply Box.cast); (repeat (first | with_reducible assumption | ((with_reducible apply Box.new1); (first | with_reducible rfl | rfl | (solve | simp))) | with_reducible apply Box.drewN | with_reducible apply Box.drew | with_reducible apply Box.set | with_reducible apply Box.other | with_reducible apply Box.alloc | (with_reducible apply Box.below; rotate_left; with_reducible assumption; rotate_right) | with_reducible rfl | omega | (dsimp only; omega) | (simp only [drew_heap', drewN_heap', World.size_alloc, World.size_setCell]; omega) | rfl | (solve | simp) | (solve | (simp; omega))))))); (obtain ⟨hc1, hf1, hl1, hn1, hm1⟩ := b1.rules); (have K1 := Lib.hid b1); (clear b1)
  have hbw1 : Below w.heap.size w w1 := by (repeat (first | with_reducible assumption | with_reducible exact Below.refl _ _ | with_reducible refine Below.setCell ?_ ?_ _ | with_reducible refine Below.alloc ?_ ?_ _ | with_reducible refine below_drewN' ?_ _ | with_reducible refine Below.drew ?_ | with_reducible refine Below.trans ?_ (Below.mono (by assumption) ?_) | omega | (dsimp only; omega) | (simp only [drew_heap', drewN_heap', World.size_alloc, World.size_setCell]; omega) | (solve | simp) | (solve | (simp; omega))))
  clear hb1
  go_wp2_with fail
  with_reducible refine (HT.out _ (HV.out.below hbw1)).mono ?_
  rintro e w3 ⟨v3, rfl, hs3, hr3, hb3⟩
  ((have b3 := K1.out.below hb3 K1.out.lt); (obtain ⟨hc3, hf3, hl3, hn3, hm3⟩ := b3.rules); (have K3 := Lib.hid b3); (clear b3))
  have hbw3 : Below w.heap.size w w3 := hbw1.trans (hb3.mono hbw1.size)
  have hz3 := hbw3.size
  obtain ⟨a3, k3, hv3, _⟩ := hs3.shape
  rw [sps_len] at hv3
  subst hv3
  clear hb3 hs3 hr3 K1 hc1 hf1 hl1 hn1 hm1
  have hbA : Below w3.heap.size w3 (w3.alloc (.cells #[.int .i64 size, .slice a3 lk.length k3] 24)) := (Below.refl _ _).alloc (Nat.le_refl _) _
  go_wp2_with fail
  with_reducible refine (HC.out _ (HV.out.below (hbw3.trans (hbA.mono hz3)))).mono ?_
  rintro e w4 ⟨v4, rfl, ho4, hb4⟩
  have hbw4 : Below w.heap.size w w4 := (hbw3.trans (hbA.mono hz3)).trans (hb4.mono (by have := hbA.size; omega))
  have hz4 := hbw4.size
  obtain ⟨a4, k4, hv4, _⟩ := ho4.sl.shape
  rw [sps_len] at hv4
  subst hv4
  have HM := Lib.hid ho4.sl
  clear hb4 ho4 hbA hbw3 hc3 hf3 hl3 hn3 hm3 K3
  go_wp2_with fail
  go_loopw [12] (fun t W => ∃ i : Nat, i ≤ m.length ∧ t = .int .i64 i ∧ Below w4.heap.size w4 W) (fun t _ => m.length - (intOf t).toNat)
  case atStart => exact ⟨0, Nat.zero_le _, rfl, Below.refl _ _⟩
  case round =>
    obtain ⟨i, hi, rfl, hbw⟩ := hrel
    by_cases hlt : i < m.length
    · obtain ⟨x, hx⟩ : ∃ x, m[i]? = some x := ⟨_, List.getElem?_eq_getElem hlt⟩
      obtain ⟨b, off, rfl, hb, c0, c1, c2⟩ := Sl.sp (HM.out.below hbw) hx
      have hwr : IntKind.i64.wrap ((i : Int) + 1) = i + 1 := IntWalk.i64_in _ (by omega)
      have hxm := List.mem_of_getElem? hx
      clear hx
      obtain ⟨p, q, u⟩ := x
      dsimp only at c0 c1
      rcases HCA.out with ⟨h1, rfl⟩ | ⟨h1, h2⟩ | ⟨h1, h2⟩ | ⟨h1, rfl, h2⟩
      · have d1 : decide (1 ≤ n) = false := by simp; omega
        by_cases hq : n ≤ q
        · have d2 : decide (n ≤ q) = true := by simpa using hq
          go_wp2_with fail
          go_roundw
          case rel => exact ⟨i + 1, by omega, by go_num, hbw⟩
          case measure => simp [intOf]; omega
        · have d2 : decide (n ≤ q) = false := by simpa using hq
          go_wp2_with fail
          go_roundw
          case rel => exact ⟨i + 1, by omega, by go_num, hbw⟩
          case measure => simp [intOf]; omega
      · subst h2; cases hxm
      · have h3 := h2 _ hxm
        dsimp only at h3
        have d2 : decide (n ≤ q) = false := by simp; omega
        clear h2
        go_wp2_with fail
        go_roundw
        case rel => exact ⟨i + 1, by omega, by go_num, hbw⟩
        case measure => simp [intOf]; omega
      · have h3 := h2 _ hxm
        dsimp only at h3
        clear h2
        by_cases hq : n ≤ q
        · have h4 := h3 hq
          have d2 : decide (n ≤ q) = true := by simpa using hq
          have d3 : decide (1 ≤ n) = true := by simp; omega
          have d4 : decide (p < ak) = false := by simp; omega
          go_wp2_with fail
          go_roundw
          case rel => exact ⟨i + 1, by omega, by go_num, hbw⟩
          case measure => simp [intOf]; omega
        · have d2 : decide (n ≤ q) = false := by simpa using hq
          go_wp2_with fail
          go_roundw
          case rel => exact ⟨i + 1, by omega, by go_num, hbw⟩
          case measure => simp [intOf]; omega
    · obtain rfl : i = m.length := by omega
      have hend : (n < 1 ∧ er = 1) ∨ ¬ n < 1 := by
        rcases HCA.out with h | ⟨h, _⟩ | ⟨h, _⟩ | ⟨h, _⟩
        · exact .inl h
        · exact .inr (by omega)
        · exact .inr (by omega)
        · exact .inr (by omega)
      rcases hend with ⟨h1, rfl⟩ | h1
      · have d1 : decide (1 ≤ n) = false := by simp; omega
        go_wp2_with fail
        go_ret
        exact ⟨by simp, hbw4.trans (hbw.mono hz4)⟩
      · have d1 : decide (1 ≤ n) = true := by simp; omega
        go_wp2_with fail
        go_ret
        exact ⟨by simp, hbw4.trans (hbw.mono hz4)⟩
end Go.Proofs.Ytdfkfoffinchhaa
