/- The law TurnFair: its walk. Conditions: what came in is shaped. -/
import Derived.Test.YtbehjbiicopgpaaTurnRound
import Derived.Test.YtbehjbiicopgpaaTurnNearer
namespace Go.Proofs.Ytbehjbiicopgpaa
open Go Go.RowKit Go.Tm
set_option linter.unusedVariables false
set_option linter.unusedSimpArgs false

theorem rot_head {l : List Int} {y : Nat} (h : y < l.length) : (rot l y).headD 0 = l[y] := by
  unfold rot
  rw [List.drop_eq_getElem_cons h]
  rfl
theorem rot_ne {l : List Int} {y : Nat} (h : y < l.length) : rot l y ≠ [] := by
  unfold rot
  rw [List.drop_eq_getElem_cons h, List.cons_append]
  exact List.cons_ne_nil _ _
/-- One more cycle is spent. -/
theorem spend_rot {l : List Int} {q m : Nat} (hq : 1 ≤ q ∧ q ≤ 5) (hy : (m + 5 - q) / 5 < l.length) :
    spendS (rot l ((m + 5 - q) / 5)) (5 - (((m + 5 - q) % 5 : Nat) : Int)) = (rot l ((m + 1 + 5 - q) / 5), 5 - (((m + 1 + 5 - q) % 5 : Nat) : Int)) := by
  have hlt := Nat.mod_lt (m + 5 - q) (show 0 < 5 by decide)
  by_cases h4 : (m + 5 - q) % 5 = 4
  · rw [spendS_one (rot_ne hy) (by omega) (by omega) 0, yield_rot hy, show (m + 1 + 5 - q) / 5 = (m + 5 - q) / 5 + 1 by omega, show (m + 1 + 5 - q) % 5 = 0 by omega]
    rfl
  · rw [spendS_dec (rot_ne hy) (by omega) (by omega), show (m + 1 + 5 - q) / 5 = (m + 5 - q) / 5 by omega, show (m + 1 + 5 - q) % 5 = (m + 5 - q) % 5 + 1 by omega]
    congr 1
    omega

set_option maxHeartbeats 4000000 in
theorem turnFair_walk (v : Value) (l : List Int) (n i : Int) (w : World) (hv : Sl w false 1 v (ints l)) (hby : l.length * 8 ≤ 140737488351232) :
    Calls Try.prog 3 #[.agg #[v, .int .i64 n], .int .i64 i] w fun e w' => e = .returned (.bool true) ∧ Below w.heap.size w w' := by
  have HV := Lib.hid hv
  obtain ⟨a, cap, rfl, hl⟩ := hv.shape
  clear hv
  rw [ints_len] at hl HV ⊢
  by_cases hbad : i < 0 ∨ (0 ≤ i ∧ (l.length : Int) ≤ i) ∨ (0 ≤ i ∧ i < l.length ∧ (50 : Int) < l.length) ∨ (0 ≤ i ∧ i < l.length ∧ ¬ (50 : Int) < l.length ∧ n < 1) ∨ (0 ≤ i ∧ i < l.length ∧ ¬ (50 : Int) < l.length ∧ 1 ≤ n ∧ 5 < n)
  · rcases hbad with h1 | ⟨h1, h2⟩ | ⟨h1, h2, h3⟩ | ⟨h1, h2, h3, h4⟩ | ⟨h1, h2, h3, h4, h5⟩
    all_goals
      go_enter Try.func3, Try.ntmps3
      ((go_wp2_with fail); (with_reducible refine (shown_any _).mono ?_); (rintro e w1 ⟨rfl, hb1⟩); (have hz1 := hb1.size); (try simp only [World.size_alloc, World.size_setCell] at hz1))
      (have b1 : Box w1 w.heap.size #[.slice a l.length cap, .int .i64 n] 24 := (by (try have k1 := (Lib.hid True.intro).out); ((apply Box.cast); (repeat (first | with_reducible assumption | ((with_reducible apply Box.new1); (first | with_reducible rfl | rfl | (solve | simp))) | with_reducible apply Box.drewN | with_reducible apply Box.drew | with_reducible apply Box.set | with_reducible apply Box.other | with_reducible apply Box.alloc | (with_reducible apply Box.below; rotate_left; with_reducible assumption; rotate_right) | with_reducible rfl | omega | (dsimp only; omega) | (simp only [drew_heap', drewN_heap', World.size_alloc, World.size_setCell]; omega) | rfl | (solve | simp) | (solve | (simp; omega))))))); (obtain ⟨hc1, hf1, hl1, hn1, hm1⟩ := b1.rules); (have K1 := Lib.hid b1); (clear b1)
      go_wp2_with fail
      go_ret
      exact ⟨by simp, by (repeat (first | with_reducible assumption | with_reducible exact Below.refl _ _ | with_reducible refine Below.setCell ?_ ?_ _ | with_reducible refine Below.alloc ?_ ?_ _ | with_reducible refine below_drewN' ?_ _ | with_reducible refine Below.drew ?_ | with_reducible refine Below.trans ?_ (Below.mono (by assumption) ?_) | omega | (dsimp only; omega) | (simp only [drew_heap', drewN_heap', World.size_alloc, World.size_setCell]; omega) | (solve | simp) | (solve | (simp; omega))))⟩
  obtain ⟨I, rfl⟩ : ∃ I : Nat, i = I := ⟨i.toNat, by omega⟩
  obtain ⟨q, rfl⟩ : ∃ q : Nat, n = q := ⟨n.toNat, by omega⟩
  have hI : I < l.length := by omega
  have h50 : l.length ≤ 50 := by omega
  have hq : 1 ≤ q ∧ q ≤ 5 := by omega
  clear hbad
  have hi0 : ¬ (I : Int) < 0 := by omega
  have hi1 : ¬ (l.length : Int) ≤ I := by omega
  have hi2 : ¬ (50 : Int) < l.length := by omega
  have hi3 : ¬ (q : Int) < 1 := by omega
  have hi4 : ¬ (5 : Int) < q := by omega
  have hj1 : ¬ l.length ≤ I := by omega
  have hj2 : ¬ 50 < l.length := by omega
  have hj3 : ¬ q = 0 := by omega
  have hj4 : ¬ 5 < q := by omega
  have hj5 : ¬ q < 1 := by omega
  have hmul : IntKind.i64.wrap (5 * (I : Int)) = 5 * I := IntWalk.i64_in _ (by omega)
  go_enter Try.func3, Try.ntmps3
  ((go_wp2_with fail); (with_reducible refine (shown_any _).mono ?_); (rintro e w1 ⟨rfl, hb1⟩); (have hz1 := hb1.size); (try simp only [World.size_alloc, World.size_setCell] at hz1))
  (have b1 : Box w1 w.heap.size #[.slice a l.length cap, .int .i64 q] 24 := (by (try have k1 := (Lib.hid True.intro).out); ((apply Box.cast); (repeat (first | with_reducible assumption | ((with_reducible apply Box.new1); (first | with_reducible rfl | rfl | (solve | simp))) | with_reducible apply Box.drewN | with_reducible apply Box.drew | with_reducible apply Box.set | with_reducible apply Box.other | with_reducible apply Box.alloc | (with_reducible apply Box.below; rotate_left; with_reducible assumption; rotate_right) | with_reducible rfl | omega | (dsimp only; omega) | (simp only [drew_heap', drewN_heap', World.size_alloc, World.size_setCell]; omega) | rfl | (solve | simp) | (solve | (simp; omega))))))); (obtain ⟨hc1, hf1, hl1, hn1, hm1⟩ := b1.rules); (have K1 := Lib.hid b1); (clear b1)
  have hbw : Below w.heap.size w w1 := by (repeat (first | with_reducible assumption | with_reducible exact Below.refl _ _ | with_reducible refine Below.setCell ?_ ?_ _ | with_reducible refine Below.alloc ?_ ?_ _ | with_reducible refine below_drewN' ?_ _ | with_reducible refine Below.drew ?_ | with_reducible refine Below.trans ?_ (Below.mono (by assumption) ?_) | omega | (dsimp only; omega) | (simp only [drew_heap', drewN_heap', World.size_alloc, World.size_setCell]; omega) | (solve | simp) | (solve | (simp; omega))))
  go_wp2_with fail
  go_loopw [7] (fun t W => ∃ (m : Nat) (u : Value), m ≤ 5 * I ∧ t = .int .i64 m ∧ Below w.heap.size w W ∧ w1.heap.size + 1 ≤ W.heap.size ∧ Box W w.heap.size #[.slice a l.length cap, .int .i64 q] 24 ∧
    Box W w1.heap.size #[u, .int .i64 (5 - (((m + 5 - q) % 5 : Nat) : Int))] 24 ∧ Sl W false 1 u (ints (rot l ((m + 5 - q) / 5))) ∧ Apart w1.heap.size u (ints (rot l ((m + 5 - q) / 5)))) (fun t _ => 5 * I - (intOf t).toNat)
  case atStart =>
    have e1 : (0 + 5 - q) / 5 = 0 := by omega
    have e2 : (5 : Int) - (((0 + 5 - q) % 5 : Nat) : Int) = q := by omega
    refine ⟨0, .slice a l.length cap, Nat.zero_le _, rfl, by (repeat (first | with_reducible assumption | with_reducible exact Below.refl _ _ | with_reducible refine Below.setCell ?_ ?_ _ | with_reducible refine Below.alloc ?_ ?_ _ | with_reducible refine below_drewN' ?_ _ | with_reducible refine Below.drew ?_ | with_reducible refine Below.trans ?_ (Below.mono (by assumption) ?_) | omega | (dsimp only; omega) | (simp only [drew_heap', drewN_heap', World.size_alloc, World.size_setCell]; omega) | (solve | simp) | (solve | (simp; omega)))), by simp, by (have k1 := K1.out); ((apply Box.cast); (repeat (first | with_reducible assumption | ((with_reducible apply Box.new1); (first | with_reducible rfl | rfl | (solve | simp))) | with_reducible apply Box.drewN | with_reducible apply Box.drew | with_reducible apply Box.set | with_reducible apply Box.other | with_reducible apply Box.alloc | (with_reducible apply Box.below; rotate_left; with_reducible assumption; rotate_right) | with_reducible rfl | omega | (dsimp only; omega) | (simp only [drew_heap', drewN_heap', World.size_alloc, World.size_setCell]; omega) | rfl | (solve | simp) | (solve | (simp; omega))))), ?_, ?_, ?_⟩
    · rw [e2]; ((apply Box.cast); (repeat (first | with_reducible assumption | ((with_reducible apply Box.new1); (first | with_reducible rfl | rfl | (solve | simp))) | with_reducible apply Box.drewN | with_reducible apply Box.drew | with_reducible apply Box.set | with_reducible apply Box.other | with_reducible apply Box.alloc | (with_reducible apply Box.below; rotate_left; with_reducible assumption; rotate_right) | with_reducible rfl | omega | (dsimp only; omega) | (simp only [drew_heap', drewN_heap', World.size_alloc, World.size_setCell]; omega) | rfl | (solve | simp) | (solve | (simp; omega)))))
    · rw [e1, rot_zero]; exact (HV.out.below hbw).alloc _
    · rw [e1, rot_zero]; exact HV.out.apart (by omega)
  case round =>
    obtain ⟨m, u, hm, rfl, hbx, hws, bx0, bx1, hsl, hap⟩ := hrel
    have K2 := Lib.hid bx0
    have K3 := Lib.hid bx1
    obtain ⟨hc2, hf2, hl2, hn2, hm2⟩ := bx0.rules
    obtain ⟨hc3, hf3, hl3, hn3, hm3⟩ := bx1.rules
    have HSL := Lib.hid hsl
    have HAP := Lib.hid hap
    obtain ⟨a2, cap2, hu, _⟩ := hsl.shape
    rw [ints_len, rot_len] at hu
    subst hu
    clear bx0 bx1 hsl hap hc1 hf1 hl1 hn1 hm1
    by_cases hlt : m < 5 * I
    · have hlt' : (m : Int) < 5 * I := by omega
      have hy : (m + 5 - q) / 5 < l.length := by omega
      have hy1 : (m + 1 + 5 - q) / 5 < l.length := by omega
      have hS := spend_any (.slice a2 l.length cap2) (rot l ((m + 5 - q) / 5)) (5 - (((m + 5 - q) % 5 : Nat) : Int)) wr HSL.out (by rw [rot_len]; exact hby)
      rw [spend_rot hq hy] at hS
      have HSP := Lib.hid hS
      have hF := fun v3 W h => first_any v3 (rot l ((m + 1 + 5 - q) / 5)) (5 - (((m + 1 + 5 - q) % 5 : Nat) : Int)) W h
      rw [rot_head hy1] at hF
      have HF := Lib.hid hF
      have hne1 : decide (rot l ((m + 1 + 5 - q) / 5) ≠ []) = true := by simpa using rot_ne hy1
      rw [hne1] at HF
      have hwr : IntKind.i64.wrap ((m : Int) + 1) = m + 1 := IntWalk.i64_in _ (by omega)
      obtain ⟨x, hx⟩ : ∃ x, l[I]? = some x := ⟨_, List.getElem?_eq_getElem hI⟩
      have hrl := rot_len l ((m + 1 + 5 - q) / 5)
      have HRL := Lib.hid hrl
      generalize hL : rot l ((m + 1 + 5 - q) / 5) = L1 at *
      generalize hR : (5 : Int) - (((m + 1 + 5 - q) % 5 : Nat) : Int) = R1 at *
      generalize (5 : Int) - (((m + 5 - q) % 5 : Nat) : Int) = R0 at *
      generalize l[(m + 1 + 5 - q) / 5] = z at *
      have HL := Lib.hid hL
      have HR := Lib.hid hR
      clear hS hF hL hR hne1 hrl
      go_wp2_with fail
      with_reducible refine HSP.out.mono ?_
      rintro e w3 ⟨v3, rfl, hs3, hr3, hb3⟩
      have hz3 := hb3.size
      have HA3 := Lib.hid (hr3.apart HAP.out hl3)
      have HS3 := Lib.hid hs3
      (have b4 : Box w3 w.heap.size #[.slice a l.length cap, .int .i64 q] 24 := (by (try have k4 := K2.out); ((apply Box.cast); (repeat (first | with_reducible assumption | ((with_reducible apply Box.new1); (first | with_reducible rfl | rfl | (solve | simp))) | with_reducible apply Box.drewN | with_reducible apply Box.drew | with_reducible apply Box.set | with_reducible apply Box.other | with_reducible apply Box.alloc | (with_reducible apply Box.below; rotate_left; with_reducible assumption; rotate_right) | with_reducible rfl | omega | (dsimp only; omega) | (simp only [drew_heap', drewN_heap', World.size_alloc, World.size_setCell]; omega) | rfl | (solve | simp) | (solve | (simp; omega))))))); (obtain ⟨hc4, hf4, hl4, hn4, hm4⟩ := b4.rules); (have K4 := Lib.hid b4); (clear b4)
      (have b5 : Box w3 w1.heap.size #[.slice a2 l.length cap2, .int .i64 R0] 24 := (by (try have k5 := K3.out); ((apply Box.cast); (repeat (first | with_reducible assumption | ((with_reducible apply Box.new1); (first | with_reducible rfl | rfl | (solve | simp))) | with_reducible apply Box.drewN | with_reducible apply Box.drew | with_reducible apply Box.set | with_reducible apply Box.other | with_reducible apply Box.alloc | (with_reducible apply Box.below; rotate_left; with_reducible assumption; rotate_right) | with_reducible rfl | omega | (dsimp only; omega) | (simp only [drew_heap', drewN_heap', World.size_alloc, World.size_setCell]; omega) | rfl | (solve | simp) | (solve | (simp; omega))))))); (obtain ⟨hc5, hf5, hl5, hn5, hm5⟩ := b5.rules); (have K5 := Lib.hid b5); (clear b5)
      obtain ⟨a3, cap3, hu3, _⟩ := hs3.shape
      rw [ints_len, HRL.out] at hu3
      subst hu3
      have hbx3 : Below w.heap.size w w3 := by (repeat (first | with_reducible assumption | with_reducible exact Below.refl _ _ | with_reducible refine Below.setCell ?_ ?_ _ | with_reducible refine Below.alloc ?_ ?_ _ | with_reducible refine below_drewN' ?_ _ | with_reducible refine Below.drew ?_ | with_reducible refine Below.trans ?_ (Below.mono (by assumption) ?_) | omega | (dsimp only; omega) | (simp only [drew_heap', drewN_heap', World.size_alloc, World.size_setCell]; omega) | (solve | simp) | (solve | (simp; omega))))
      have hne : ¬ w.heap.size = w1.heap.size := by omega
      have HS4 := Lib.hid ((HS3.out.setOther HA3.out 0 (.slice a3 l.length cap3)).setOther HA3.out 1 (.int .i64 R1))
      clear hs3 hr3 hc2 hf2 hl2 hn2 hm2 hc3 hf3 hl3 hn3 hm3
      go_wp2_with fail
      with_reducible refine (HF.out _ _ HS4.out).mono ?_
      rintro e w6 ⟨rfl, hb6⟩
      have hz6 := hb6.size
      simp only [World.size_setCell] at hz6
      have HS6 := Lib.hid (HS4.out.below hb6)
      have k4 := K4.out
      have k5 := K5.out
      (have b6 : Box w6 w.heap.size #[.slice a l.length cap, .int .i64 q] 24 := (by (try have k6 := (Lib.hid True.intro).out); ((apply Box.cast); (repeat (first | with_reducible assumption | ((with_reducible apply Box.new1); (first | with_reducible rfl | rfl | (solve | simp))) | with_reducible apply Box.drewN | with_reducible apply Box.drew | with_reducible apply Box.set | with_reducible apply Box.other | with_reducible apply Box.alloc | (with_reducible apply Box.below; rotate_left; with_reducible assumption; rotate_right) | with_reducible rfl | omega | (dsimp only; omega) | (simp only [drew_heap', drewN_heap', World.size_alloc, World.size_setCell]; omega) | rfl | (solve | simp) | (solve | (simp; omega))))))); (obtain ⟨hc6, hf6, hl6, hn6, hm6⟩ := b6.rules); (have K6 := Lib.hid b6); (clear b6)
      (have b7 : Box w6 w1.heap.size #[.slice a3 l.length cap3, .int .i64 R1] 24 := (by (try have k7 := (Lib.hid True.intro).out); ((apply Box.cast); (repeat (first | with_reducible assumption | ((with_reducible apply Box.new1); (first | with_reducible rfl | rfl | (solve | simp))) | with_reducible apply Box.drewN | with_reducible apply Box.drew | with_reducible apply Box.set | with_reducible apply Box.other | with_reducible apply Box.alloc | (with_reducible apply Box.below; rotate_left; with_reducible assumption; rotate_right) | with_reducible rfl | omega | (dsimp only; omega) | (simp only [drew_heap', drewN_heap', World.size_alloc, World.size_setCell]; omega) | rfl | (solve | simp) | (solve | (simp; omega))))))); (obtain ⟨hc7, hf7, hl7, hn7, hm7⟩ := b7.rules); (have K7 := Lib.hid b7); (clear b7)
      have hb6' : Below w.heap.size w w6 := by (repeat (first | with_reducible assumption | with_reducible exact Below.refl _ _ | with_reducible refine Below.setCell ?_ ?_ _ | with_reducible refine Below.alloc ?_ ?_ _ | with_reducible refine below_drewN' ?_ _ | with_reducible refine Below.drew ?_ | with_reducible refine Below.trans ?_ (Below.mono (by assumption) ?_) | omega | (dsimp only; omega) | (simp only [drew_heap', drewN_heap', World.size_alloc, World.size_setCell]; omega) | (solve | simp) | (solve | (simp; omega))))
      obtain ⟨b1, o1, rfl, hb1l, e1⟩ := Sl.int (HV.out.below hb6') hx
      clear hx k4 k5 hc4 hf4 hl4 hn4 hm4 hc5 hf5 hl5 hn5 hm5
      by_cases hzx : z = x
      · subst hzx
        go_wp2_with fail
        go_ret
        exact ⟨by simp, by (repeat (first | with_reducible assumption | with_reducible exact Below.refl _ _ | with_reducible refine Below.setCell ?_ ?_ _ | with_reducible refine Below.alloc ?_ ?_ _ | with_reducible refine below_drewN' ?_ _ | with_reducible refine Below.drew ?_ | with_reducible refine Below.trans ?_ (Below.mono (by assumption) ?_) | omega | (dsimp only; omega) | (simp only [drew_heap', drewN_heap', World.size_alloc, World.size_setCell]; omega) | (solve | simp) | (solve | (simp; omega))))⟩
      · have hzx' : (z == x) = false := by simpa using hzx
        go_wp2_with fail
        go_roundw
        case rel => exact ⟨m + 1, .slice a3 l.length cap3, by omega, by go_num, hb6', by omega, K6.out, by rw [HR.out]; exact K7.out, by rw [HL.out]; exact HS6.out, by rw [HL.out]; exact HA3.out⟩
        case measure => simp [intOf]; omega
    · obtain rfl : m = 5 * I := by omega
      have e1 : (5 * I + 5 - q) / 5 = I := by omega
      rw [e1] at HSL HAP
      have hF := fun W h => first_any (.slice a2 l.length cap2) (rot l I) (5 - (((5 * I + 5 - q) % 5 : Nat) : Int)) W h
      rw [rot_head hI, show decide (rot l I ≠ []) = true by simpa using rot_ne hI] at hF
      have HF := Lib.hid hF
      obtain ⟨x, hx⟩ : ∃ x, l[I]? = some x := ⟨_, List.getElem?_eq_getElem hI⟩
      have hxI : l[I] = x := by rw [List.getElem?_eq_getElem hI] at hx; exact Option.some.inj hx
      rw [hxI] at HF
      generalize (5 : Int) - (((5 * I + 5 - q) % 5 : Nat) : Int) = R0 at *
      clear hF hxI
      have hbx' := hbx
      obtain ⟨b1, o1, rfl, hb1l, e1⟩ := Sl.int (HV.out.below hbx) hx
      clear hx
      go_wp2_with fail
      with_reducible refine (HF.out _ HSL.out).mono ?_
      rintro e w6 ⟨rfl, hb6⟩
      have hz6 := hb6.size
      (have b6 : Box w6 w.heap.size #[.slice (some ⟨b1, o1, none⟩) l.length cap, .int .i64 q] 24 := (by (try have k6 := K2.out); ((apply Box.cast); (repeat (first | with_reducible assumption | ((with_reducible apply Box.new1); (first | with_reducible rfl | rfl | (solve | simp))) | with_reducible apply Box.drewN | with_reducible apply Box.drew | with_reducible apply Box.set | with_reducible apply Box.other | with_reducible apply Box.alloc | (with_reducible apply Box.below; rotate_left; with_reducible assumption; rotate_right) | with_reducible rfl | omega | (dsimp only; omega) | (simp only [drew_heap', drewN_heap', World.size_alloc, World.size_setCell]; omega) | rfl | (solve | simp) | (solve | (simp; omega))))))); (obtain ⟨hc6, hf6, hl6, hn6, hm6⟩ := b6.rules); (have K6 := Lib.hid b6); (clear b6)
      have e2 := cellKeep hb6 e1
      clear e1 hc2 hf2 hl2 hn2 hm2 hc3 hf3 hl3 hn3 hm3
      go_wp2_with fail
      go_ret
      exact ⟨by simp, by (repeat (first | with_reducible assumption | with_reducible exact Below.refl _ _ | with_reducible refine Below.setCell ?_ ?_ _ | with_reducible refine Below.alloc ?_ ?_ _ | with_reducible refine below_drewN' ?_ _ | with_reducible refine Below.drew ?_ | with_reducible refine Below.trans ?_ (Below.mono (by assumption) ?_) | omega | (dsimp only; omega) | (simp only [drew_heap', drewN_heap', World.size_alloc, World.size_setCell]; omega) | (solve | simp) | (solve | (simp; omega))))⟩
end Go.Proofs.Ytbehjbiicopgpaa
