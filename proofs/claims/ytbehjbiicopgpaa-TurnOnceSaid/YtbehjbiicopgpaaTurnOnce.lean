/- The law TurnOnce: its walk. Conditions: what came in is shaped. -/
import Derived.Test.YtbehjbiicopgpaaTurnGone
namespace Go.Proofs.Ytbehjbiicopgpaa
open Go Go.RowKit Go.Tm
set_option linter.unusedVariables false
set_option linter.unusedSimpArgs false

/-- A row in which each one is once, and what is left is right. -/
def Once (L : List Int) (n : Int) : Prop := L.Nodup ∧ (L = [] ∨ 1 ≤ n ∧ n ≤ 5)
theorem Once.add {L : List Int} {n : Int} (h : Once L n) (pid : Int) : Once (addS L n pid).1 (addS L n pid).2 := by
  unfold addS
  split
  · exact h
  · rename_i hm
    refine ⟨?_, .inr ?_⟩
    · rw [List.nodup_append]
      refine ⟨h.1, by simp, ?_⟩
      intro a ha b hb
      simp at hb
      subst hb
      rintro rfl
      exact hm ha
    · show 1 ≤ (if L = [] then (5 : Int) else n) ∧ (if L = [] then (5 : Int) else n) ≤ 5
      split
      · omega
      · rename_i h0
        exact h.2.resolve_left h0
theorem Once.drop {L : List Int} {n : Int} (h : Once L n) (pid : Int) : Once (dropS L n pid).1 (dropS L n pid).2 := by
  unfold dropS
  split
  · refine ⟨h.1.filter _, ?_⟩
    by_cases h0 : L = []
    · left; subst h0; rfl
    · right
      show 1 ≤ (if L.head? = some pid then (5 : Int) else n) ∧ (if L.head? = some pid then (5 : Int) else n) ≤ 5
      split
      · omega
      · exact h.2.resolve_left h0
  · exact h
theorem Once.spend {L : List Int} {n : Int} (h : Once L n) : Once (spendS L n).1 (spendS L n).2 := by
  by_cases h0 : L = []
  · subst h0; exact h
  have hn := h.2.resolve_left h0
  by_cases h1 : 1 < n
  · rw [spendS_dec h0 h1 (by omega)]
    exact ⟨h.1, .inr ⟨by omega, by omega⟩⟩
  · rw [spendS_one h0 (by omega) (by omega) n]
    cases L with
    | nil => exact absurd rfl h0
    | cons x r =>
      refine ⟨?_, .inr ⟨show (1 : Int) ≤ 5 by decide, show (5 : Int) ≤ 5 by decide⟩⟩
      have hx := h.1
      rw [List.nodup_cons] at hx
      show (r ++ [x]).Nodup
      rw [List.nodup_append]
      refine ⟨hx.2, by simp, ?_⟩
      intro a ha b hb
      simp at hb
      subst hb
      rintro rfl
      exact hx.1 ha
theorem dropS_len (l : List Int) (n pid : Int) : (dropS l n pid).1.length ≤ l.length := by
  rw [dropS_fst]; exact List.length_filter_le _ _
theorem spendS_len (l : List Int) (n : Int) : (spendS l n).1.length = l.length := by
  unfold spendS
  split
  · rfl
  split
  · cases l <;> simp [yieldS]
  · rfl

theorem nodup_ne {L : List Int} (h : L.Nodup) {k j : Nat} {y x : Int} (hk : L[k]? = some y) (hj : L[j]? = some x) (hlt : k < j) : ¬ x = y := by
  obtain ⟨hk', rfl⟩ := List.getElem?_eq_some_iff.1 hk
  obtain ⟨hj', rfl⟩ := List.getElem?_eq_some_iff.1 hj
  intro e
  exact (List.pairwise_iff_getElem.1 h) k j hk' hj' hlt e.symm

set_option maxHeartbeats 8000000 in
theorem turnOnce_walk (v : Value) (l : List Int) (w : World) (hv : Sl w false 1 v (ints l)) (hw : ∀ n ∈ l, (Lit.int .i64 n).wf = true) :
    Calls Try.prog 7 #[v] w fun e w' => e = .returned (.bool true) ∧ Below w.heap.size w w' := by
  have HV := Lib.hid hv
  have HW := Lib.hid hw
  obtain ⟨a, cap, rfl, hl⟩ := hv.shape
  clear hv hw
  rw [ints_len] at hl HV ⊢
  go_enter Try.func7, Try.ntmps7
  ((go_wp2_with fail); (with_reducible refine (shown_any _).mono ?_); (rintro e w1 ⟨rfl, hb1⟩); (have hz1 := hb1.size); (try simp only [World.size_alloc, World.size_setCell] at hz1))
  go_wp2_with fail
  go_loopw [5] (fun t W => ∃ (i : Nat) (u : Value) (L : List Int) (q : Int), i ≤ l.length ∧ i ≤ 300 ∧ t = .int .i64 i ∧ Below w.heap.size w W ∧ Box W w1.heap.size #[u, .int .i64 q] 24 ∧
    Sl W false 1 u (ints L) ∧ Apart w1.heap.size u (ints L) ∧ L.length ≤ i ∧ Once L q) (fun t _ => 300 - (intOf t).toNat)
  case atStart => exact ⟨0, _, [], 0, Nat.zero_le _, Nat.zero_le _, rfl, by (repeat (first | with_reducible assumption | with_reducible exact Below.refl _ _ | with_reducible refine Below.setCell ?_ ?_ _ | with_reducible refine Below.alloc ?_ ?_ _ | with_reducible refine below_drewN' ?_ _ | with_reducible refine Below.drew ?_ | with_reducible refine Below.trans ?_ (Below.mono (by assumption) ?_) | omega | (dsimp only; omega) | (simp only [drew_heap', drewN_heap', World.size_alloc, World.size_setCell]; omega) | (solve | simp) | (solve | (simp; omega)))), by ((apply Box.cast); (repeat (first | with_reducible assumption | ((with_reducible apply Box.new1); (first | with_reducible rfl | rfl | (solve | simp))) | with_reducible apply Box.drewN | with_reducible apply Box.drew | with_reducible apply Box.set | with_reducible apply Box.other | with_reducible apply Box.alloc | (with_reducible apply Box.below; rotate_left; with_reducible assumption; rotate_right) | with_reducible rfl | omega | (dsimp only; omega) | (simp only [drew_heap', drewN_heap', World.size_alloc, World.size_setCell]; omega) | rfl | (solve | simp) | (solve | (simp; omega))))), Sl.nil _ _ _, .inl rfl, Nat.le_refl _, by simp [Once]⟩
  case round =>
    obtain ⟨i, u, L, q, hi, hi3, rfl, hbx, bx, hsl, hap, hLl, hon⟩ := hrel
    have hws := hbx.size
    have K1 := Lib.hid bx
    obtain ⟨hc1, hf1, hl1, hn1, hm1⟩ := bx.rules
    have HSL := Lib.hid hsl
    have HAP := Lib.hid hap
    have HON := Lib.hid hon
    obtain ⟨a2, cap2, hu, _⟩ := hsl.shape
    rw [ints_len] at hu
    subst hu
    clear bx hsl hap hon
    by_cases hlt : i < l.length ∧ i < 300
    · obtain ⟨hlt, h3⟩ := hlt
      obtain ⟨x, hx⟩ : ∃ x, l[i]? = some x := ⟨_, List.getElem?_eq_getElem hlt⟩
      have hxr := HW.out x (List.mem_of_getElem? hx)
      simp only [Lit.wf, IntKind.min, IntKind.max, IntKind.bits, IntKind.signed, Bool.and_eq_true, decide_eq_true_eq] at hxr
      obtain ⟨b1, o1, rfl, hb1l, e1⟩ := Sl.int (HV.out.below hbx) hx
      have hwr : IntKind.i64.wrap ((i : Int) + 1) = i + 1 := IntWalk.i64_in _ (by omega)
      have h3' : (i : Int) < 300 := by omega
      have hLb : L.length * 8 ≤ 140737488351232 := by omega
      clear hx
      by_cases hpos : 0 < x
      · have hA := fun W h => add_any (.slice a2 L.length cap2) L q x W h hLb
        have hlen := addS_len L q x
        have hon := HON.out.add x
        generalize addS L q x = A at *
        have HA := Lib.hid hA
        have HON2 := Lib.hid hon
        clear hA hon
        go_wp2_with fail
        have g1 := K1.out.regrown
        have g2 := cell_rg e1 hb1l
        ((refine wp_region_below_tail 5 (by kernel_rfl) (by kernel_rfl) ?_); (simp only [List.take_succ_cons, List.take_zero, List.drop_succ_cons, List.drop_zero]); (repeat (go_big_quiet_step (fail))); (refine wpQuiet_nil ?_); (intro _ hw'); (obtain ⟨⟨dq, osq⟩, hw''⟩ := hw'); (subst hw''); (have hq := below_regrown wr dq osq); (generalize Go.Sort.grow (redrawn wr dq) osq = w3 at *); (have hz3 := hq.size))
        clear g1 g2
        (have b2 : Box w3 w1.heap.size #[.slice a2 L.length cap2, .int .i64 q] 24 := (by (try have k2 := K1.out); ((apply Box.cast); (repeat (first | with_reducible assumption | ((with_reducible apply Box.new1); (first | with_reducible rfl | rfl | (solve | simp))) | with_reducible apply Box.drewN | with_reducible apply Box.drew | with_reducible apply Box.set | with_reducible apply Box.other | with_reducible apply Box.alloc | (with_reducible apply Box.below; rotate_left; with_reducible assumption; rotate_right) | with_reducible rfl | omega | (dsimp only; omega) | (simp only [drew_heap', drewN_heap', World.size_alloc, World.size_setCell]; omega) | rfl | (solve | simp) | (solve | (simp; omega))))))); (obtain ⟨hc2, hf2, hl2, hn2, hm2⟩ := b2.rules); (have K2 := Lib.hid b2); (clear b2)
        have HS3 := Lib.hid (HSL.out.below hq)
        clear hc1 hf1 hl1 hn1 hm1
        go_wp2_with fail
        with_reducible refine (HA.out _ HS3.out).mono ?_
        rintro e w4 ⟨v4, rfl, hs4, hr4, hb4⟩
        have hz4 := hb4.size
        have HA4 := Lib.hid (hr4.apart HAP.out hl2)
        have HS4 := Lib.hid hs4
        (have b4 : Box w4 w1.heap.size #[.slice a2 L.length cap2, .int .i64 q] 24 := (by (try have k4 := K2.out); ((apply Box.cast); (repeat (first | with_reducible assumption | ((with_reducible apply Box.new1); (first | with_reducible rfl | rfl | (solve | simp))) | with_reducible apply Box.drewN | with_reducible apply Box.drew | with_reducible apply Box.set | with_reducible apply Box.other | with_reducible apply Box.alloc | (with_reducible apply Box.below; rotate_left; with_reducible assumption; rotate_right) | with_reducible rfl | omega | (dsimp only; omega) | (simp only [drew_heap', drewN_heap', World.size_alloc, World.size_setCell]; omega) | rfl | (solve | simp) | (solve | (simp; omega))))))); (obtain ⟨hc4, hf4, hl4, hn4, hm4⟩ := b4.rules); (have K4 := Lib.hid b4); (clear b4)
        obtain ⟨a4, cap4, hu4, _⟩ := hs4.shape
        rw [ints_len] at hu4
        subst hu4
        have hbx4 : Below w.heap.size w w4 := hbx.trans ((hq.trans (hb4.mono hz3)).mono hws)
        clear hs4 hr4 hc2 hf2 hl2 hn2 hm2
        go_wp2_with fail
        go_roundw
        case rel => exact ⟨i + 1, .slice a4 A.1.length cap4, A.1, A.2, by omega, by omega, by go_num, by (repeat (first | with_reducible assumption | with_reducible exact Below.refl _ _ | with_reducible refine Below.setCell ?_ ?_ _ | with_reducible refine Below.alloc ?_ ?_ _ | with_reducible refine below_drewN' ?_ _ | with_reducible refine Below.drew ?_ | with_reducible refine Below.trans ?_ (Below.mono (by assumption) ?_) | omega | (dsimp only; omega) | (simp only [drew_heap', drewN_heap', World.size_alloc, World.size_setCell]; omega) | (solve | simp) | (solve | (simp; omega)))), by (have k4 := K4.out); ((apply Box.cast); (repeat (first | with_reducible assumption | ((with_reducible apply Box.new1); (first | with_reducible rfl | rfl | (solve | simp))) | with_reducible apply Box.drewN | with_reducible apply Box.drew | with_reducible apply Box.set | with_reducible apply Box.other | with_reducible apply Box.alloc | (with_reducible apply Box.below; rotate_left; with_reducible assumption; rotate_right) | with_reducible rfl | omega | (dsimp only; omega) | (simp only [drew_heap', drewN_heap', World.size_alloc, World.size_setCell]; omega) | rfl | (solve | simp) | (solve | (simp; omega))))), (HS4.out.setOther HA4.out _ _).setOther HA4.out _ _, HA4.out, by omega, HON2.out⟩
        case measure => simp [intOf]; omega
      by_cases hneg : x < 0 ∧ -4611686018427387904 < x
      · obtain ⟨hn1', hn2'⟩ := hneg
        have hwn : IntKind.i64.wrap (-x) = -x := IntWalk.i64_in _ (by omega)
        have hD := fun W h => drop_any (.slice a2 L.length cap2) L q (-x) W h hLb
        have hlen := dropS_len L q (-x)
        have hon := HON.out.drop (-x)
        generalize dropS L q (-x) = A at *
        have HD := Lib.hid hD
        have HON2 := Lib.hid hon
        clear hD hon
        go_wp2_with fail
        have g1 := K1.out.regrown
        have g2 := cell_rg e1 hb1l
        ((refine wp_region_below_tail 6 (by kernel_rfl) (by kernel_rfl) ?_); (simp only [List.take_succ_cons, List.take_zero, List.drop_succ_cons, List.drop_zero]); (repeat (go_big_quiet_step (fail))); (refine wpQuiet_nil ?_); (intro _ hw'); (obtain ⟨⟨dq, osq⟩, hw''⟩ := hw'); (subst hw''); (have hq := below_regrown wr dq osq); (generalize Go.Sort.grow (redrawn wr dq) osq = w3 at *); (have hz3 := hq.size))
        clear g1 g2
        (have b2 : Box w3 w1.heap.size #[.slice a2 L.length cap2, .int .i64 q] 24 := (by (try have k2 := K1.out); ((apply Box.cast); (repeat (first | with_reducible assumption | ((with_reducible apply Box.new1); (first | with_reducible rfl | rfl | (solve | simp))) | with_reducible apply Box.drewN | with_reducible apply Box.drew | with_reducible apply Box.set | with_reducible apply Box.other | with_reducible apply Box.alloc | (with_reducible apply Box.below; rotate_left; with_reducible assumption; rotate_right) | with_reducible rfl | omega | (dsimp only; omega) | (simp only [drew_heap', drewN_heap', World.size_alloc, World.size_setCell]; omega) | rfl | (solve | simp) | (solve | (simp; omega))))))); (obtain ⟨hc2, hf2, hl2, hn2, hm2⟩ := b2.rules); (have K2 := Lib.hid b2); (clear b2)
        have HS3 := Lib.hid (HSL.out.below hq)
        clear hc1 hf1 hl1 hn1 hm1
        go_wp2_with fail
        with_reducible refine (HD.out _ HS3.out).mono ?_
        rintro e w4 ⟨v4, rfl, hs4, hr4, hb4⟩
        have hz4 := hb4.size
        have HA4 := Lib.hid (hr4.apart HAP.out hl2)
        have HS4 := Lib.hid hs4
        (have b4 : Box w4 w1.heap.size #[.slice a2 L.length cap2, .int .i64 q] 24 := (by (try have k4 := K2.out); ((apply Box.cast); (repeat (first | with_reducible assumption | ((with_reducible apply Box.new1); (first | with_reducible rfl | rfl | (solve | simp))) | with_reducible apply Box.drewN | with_reducible apply Box.drew | with_reducible apply Box.set | with_reducible apply Box.other | with_reducible apply Box.alloc | (with_reducible apply Box.below; rotate_left; with_reducible assumption; rotate_right) | with_reducible rfl | omega | (dsimp only; omega) | (simp only [drew_heap', drewN_heap', World.size_alloc, World.size_setCell]; omega) | rfl | (solve | simp) | (solve | (simp; omega))))))); (obtain ⟨hc4, hf4, hl4, hn4, hm4⟩ := b4.rules); (have K4 := Lib.hid b4); (clear b4)
        obtain ⟨a4, cap4, hu4, _⟩ := hs4.shape
        rw [ints_len] at hu4
        subst hu4
        have hbx4 : Below w.heap.size w w4 := hbx.trans ((hq.trans (hb4.mono hz3)).mono hws)
        clear hs4 hr4 hc2 hf2 hl2 hn2 hm2
        go_wp2_with fail
        go_roundw
        case rel => exact ⟨i + 1, .slice a4 A.1.length cap4, A.1, A.2, by omega, by omega, by go_num, by (repeat (first | with_reducible assumption | with_reducible exact Below.refl _ _ | with_reducible refine Below.setCell ?_ ?_ _ | with_reducible refine Below.alloc ?_ ?_ _ | with_reducible refine below_drewN' ?_ _ | with_reducible refine Below.drew ?_ | with_reducible refine Below.trans ?_ (Below.mono (by assumption) ?_) | omega | (dsimp only; omega) | (simp only [drew_heap', drewN_heap', World.size_alloc, World.size_setCell]; omega) | (solve | simp) | (solve | (simp; omega)))), by (have k4 := K4.out); ((apply Box.cast); (repeat (first | with_reducible assumption | ((with_reducible apply Box.new1); (first | with_reducible rfl | rfl | (solve | simp))) | with_reducible apply Box.drewN | with_reducible apply Box.drew | with_reducible apply Box.set | with_reducible apply Box.other | with_reducible apply Box.alloc | (with_reducible apply Box.below; rotate_left; with_reducible assumption; rotate_right) | with_reducible rfl | omega | (dsimp only; omega) | (simp only [drew_heap', drewN_heap', World.size_alloc, World.size_setCell]; omega) | rfl | (solve | simp) | (solve | (simp; omega))))), (HS4.out.setOther HA4.out _ _).setOther HA4.out _ _, HA4.out, by omega, HON2.out⟩
        case measure => simp [intOf]; omega
      · have hS := fun W h => spend_any (.slice a2 L.length cap2) L q W h hLb
        have hlen := spendS_len L q
        have hon := HON.out.spend
        generalize spendS L q = A at *
        have HS := Lib.hid hS
        have HON2 := Lib.hid hon
        have hneg' : x = 0 ∨ (x < 0 ∧ ¬ -4611686018427387904 < x) := by omega
        clear hS hon hneg
        rcases hneg' with rfl | ⟨hn1', hn2'⟩
        all_goals
          go_wp2_with fail
          with_reducible refine (HS.out _ HSL.out).mono ?_
          rintro e w4 ⟨v4, rfl, hs4, hr4, hb4⟩
          have hz4 := hb4.size
          have HA4 := Lib.hid (hr4.apart HAP.out hl1)
          have HS4 := Lib.hid hs4
          (have b4 : Box w4 w1.heap.size #[.slice a2 L.length cap2, .int .i64 q] 24 := (by (try have k4 := K1.out); ((apply Box.cast); (repeat (first | with_reducible assumption | ((with_reducible apply Box.new1); (first | with_reducible rfl | rfl | (solve | simp))) | with_reducible apply Box.drewN | with_reducible apply Box.drew | with_reducible apply Box.set | with_reducible apply Box.other | with_reducible apply Box.alloc | (with_reducible apply Box.below; rotate_left; with_reducible assumption; rotate_right) | with_reducible rfl | omega | (dsimp only; omega) | (simp only [drew_heap', drewN_heap', World.size_alloc, World.size_setCell]; omega) | rfl | (solve | simp) | (solve | (simp; omega))))))); (obtain ⟨hc4, hf4, hl4, hn4, hm4⟩ := b4.rules); (have K4 := Lib.hid b4); (clear b4)
          obtain ⟨a4, cap4, hu4, _⟩ := hs4.shape
          rw [ints_len] at hu4
          subst hu4
          have hbx4 : Below w.heap.size w w4 := hbx.trans (hb4.mono hws)
          clear hs4 hr4 hc1 hf1 hl1 hn1 hm1
          go_wp2_with fail
          go_roundw
          case rel => exact ⟨i + 1, .slice a4 A.1.length cap4, A.1, A.2, by omega, by omega, by go_num, by (repeat (first | with_reducible assumption | with_reducible exact Below.refl _ _ | with_reducible refine Below.setCell ?_ ?_ _ | with_reducible refine Below.alloc ?_ ?_ _ | with_reducible refine below_drewN' ?_ _ | with_reducible refine Below.drew ?_ | with_reducible refine Below.trans ?_ (Below.mono (by assumption) ?_) | omega | (dsimp only; omega) | (simp only [drew_heap', drewN_heap', World.size_alloc, World.size_setCell]; omega) | (solve | simp) | (solve | (simp; omega)))), by (have k4 := K4.out); ((apply Box.cast); (repeat (first | with_reducible assumption | ((with_reducible apply Box.new1); (first | with_reducible rfl | rfl | (solve | simp))) | with_reducible apply Box.drewN | with_reducible apply Box.drew | with_reducible apply Box.set | with_reducible apply Box.other | with_reducible apply Box.alloc | (with_reducible apply Box.below; rotate_left; with_reducible assumption; rotate_right) | with_reducible rfl | omega | (dsimp only; omega) | (simp only [drew_heap', drewN_heap', World.size_alloc, World.size_setCell]; omega) | rfl | (solve | simp) | (solve | (simp; omega))))), (HS4.out.setOther HA4.out _ _).setOther HA4.out _ _, HA4.out, by omega, HON2.out⟩
          case measure => simp [intOf]; omega
    · have hlt' : ¬ i < l.length ∨ (i < l.length ∧ ¬ (i : Int) < 300) := by omega
      have hNd := HON.out.1
      have HND := Lib.hid hNd
      obtain ⟨_, hq5⟩ := HON.out
      clear hlt hNd
      have hLI : L.length ≤ 300 := by omega
      obtain ⟨wx, hwx⟩ : ∃ wx, wx = wr := ⟨_, rfl⟩
      subst hwx
      rcases hlt' with hlt | ⟨hlt, h3⟩
      all_goals
        go_wp2_with fail
        go_loopw [6] (fun t W => ∃ j : Nat, j ≤ L.length ∧ t = .int .i64 j ∧ Below wx.heap.size wx W) (fun t _ => L.length - (intOf t).toNat)
        case atStart => exact ⟨0, Nat.zero_le _, rfl, Below.refl _ _⟩
        case round =>
          obtain ⟨j, hj, rfl, hby⟩ := hrel
          have hzy := hby.size
          (have b5 : Box wr w1.heap.size #[.slice a2 L.length cap2, .int .i64 q] 24 := (by (try have k5 := K1.out); ((apply Box.cast); (repeat (first | with_reducible assumption | ((with_reducible apply Box.new1); (first | with_reducible rfl | rfl | (solve | simp))) | with_reducible apply Box.drewN | with_reducible apply Box.drew | with_reducible apply Box.set | with_reducible apply Box.other | with_reducible apply Box.alloc | (with_reducible apply Box.below; rotate_left; with_reducible assumption; rotate_right) | with_reducible rfl | omega | (dsimp only; omega) | (simp only [drew_heap', drewN_heap', World.size_alloc, World.size_setCell]; omega) | rfl | (solve | simp) | (solve | (simp; omega))))))); (obtain ⟨hc5, hf5, hl5, hn5, hm5⟩ := b5.rules); (have K5 := Lib.hid b5); (clear b5)
          clear hc1 hf1 hl1 hn1 hm1
          by_cases hjl : j < L.length
          · obtain ⟨x, hx⟩ : ∃ x, L[j]? = some x := ⟨_, List.getElem?_eq_getElem hjl⟩
            have HX := Lib.hid hx
            have hwj : IntKind.i64.wrap ((j : Int) + 1) = j + 1 := IntWalk.i64_in _ (by omega)
            obtain ⟨wy, hwy⟩ : ∃ wy, wy = wr := ⟨_, rfl⟩
            subst hwy
            clear hx
            go_wp2_with fail
            go_loopw [7] (fun t W => ∃ k : Nat, k ≤ j ∧ t = .int .i64 k ∧ Below wy.heap.size wy W) (fun t _ => j - (intOf t).toNat)
            case atStart => exact ⟨0, Nat.zero_le _, rfl, Below.refl _ _⟩
            case round =>
              obtain ⟨k, hk, rfl, hbz⟩ := hrel
              have hzz := hbz.size
              (have b6 : Box wr w1.heap.size #[.slice a2 L.length cap2, .int .i64 q] 24 := (by (try have k6 := K5.out); ((apply Box.cast); (repeat (first | with_reducible assumption | ((with_reducible apply Box.new1); (first | with_reducible rfl | rfl | (solve | simp))) | with_reducible apply Box.drewN | with_reducible apply Box.drew | with_reducible apply Box.set | with_reducible apply Box.other | with_reducible apply Box.alloc | (with_reducible apply Box.below; rotate_left; with_reducible assumption; rotate_right) | with_reducible rfl | omega | (dsimp only; omega) | (simp only [drew_heap', drewN_heap', World.size_alloc, World.size_setCell]; omega) | rfl | (solve | simp) | (solve | (simp; omega))))))); (obtain ⟨hc6, hf6, hl6, hn6, hm6⟩ := b6.rules); (have K6 := Lib.hid b6); (clear b6)
              clear hc5 hf5 hl5 hn5 hm5
              by_cases hkl : k < j
              · obtain ⟨y, hy⟩ : ∃ y, L[k]? = some y := ⟨_, List.getElem?_eq_getElem (by omega)⟩
                have hwk : IntKind.i64.wrap ((k : Int) + 1) = k + 1 := IntWalk.i64_in _ (by omega)
                have hbxz : Below wx.heap.size wx wr := hby.trans (hbz.mono hzy)
                obtain ⟨b2, o2, rfl, hb2l, e2⟩ := Sl.int (HSL.out.below hbxz) HX.out
                obtain ⟨_, _, he3, hb3l, e3⟩ := Sl.int (HSL.out.below hbxz) hy
                simp only [Option.some.injEq, Addr.mk.injEq, and_true] at he3
                obtain ⟨rfl, rfl⟩ := he3
                have hxy : ¬ x = y := nodup_ne HND.out hy HX.out hkl
                have hxy' : (x == y) = false := by simpa using hxy
                clear hy
                go_wp2_with fail
                have g1 := K6.out.regrown
                have g2 := cell_rg e2 hb2l
                have g3 := cell_rg e3 hb3l
                ((refine wp_region_quiet_below (by kernel_rfl) (by kernel_rfl) ?_); (repeat (go_big_quiet_step (fail))); (refine wpQuiet_nil ?_); (intro _ hw'); (obtain ⟨⟨dq, osq⟩, hw''⟩ := hw'); (subst hw''); (have hb7 := below_regrown wr dq osq); (generalize Go.Sort.grow (redrawn wr dq) osq = w7 at *); (have hz7 := hb7.size))
                clear g1 g2 g3
                go_wp2_with fail
                go_roundw
                case rel => exact ⟨k + 1, by omega, by go_num, hbz.trans (hb7.mono hzz)⟩
                case measure => simp [intOf]; omega
              · obtain rfl : k = j := by omega
                go_wp2_with fail
                go_roundw
                case rel => exact ⟨k + 1, by omega, by go_num, hby.trans (hbz.mono hzy)⟩
                case measure => simp [intOf]; omega
          · obtain rfl : j = L.length := by omega
            rcases hq5 with rfl | ⟨hq1, hq2⟩
            · go_wp2_with fail
              go_ret
              exact ⟨by simp, hbx.trans (hby.mono hws)⟩
            · by_cases h0 : L.length = 0
              · have h0' : ((L.length : Int) == 0) = true := by rw [h0]; rfl
                go_wp2_with fail
                go_ret
                exact ⟨by simp [h0], hbx.trans (hby.mono hws)⟩
              · have h0' : ((L.length : Int) == 0) = false := by rw [beq_eq_false_iff_ne]; omega
                go_wp2_with fail
                go_ret
                exact ⟨by simp, hbx.trans (hby.mono hws)⟩
end Go.Proofs.Ytbehjbiicopgpaa
