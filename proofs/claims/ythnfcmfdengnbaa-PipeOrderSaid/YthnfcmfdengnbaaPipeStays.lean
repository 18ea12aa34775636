/- The law PipeStays: its walk. Conditions: lengths within the reach, numbers within their kinds. -/
import Derived.Test.YthnfcmfdengnbaaPipeActs
namespace Go.Proofs.Ythnfcmfdengnbaa
open Go Go.RowKit Go.Tm
set_option linter.unusedVariables false
set_option linter.unusedSimpArgs false

theorem writeS_err (d : ByteArray) (r : Int) (s : ByteArray) : (writeS d r s).2.2 = 0 ∨ ((writeS d r s).1 = d ∧ (writeS d r s).2.1 = 0 ∧ ((writeS d r s).2.2 == 0) = false) := by
  unfold writeS
  split; · exact .inl rfl
  split; · exact .inr ⟨rfl, rfl, rfl⟩
  split; · exact .inr ⟨rfl, rfl, rfl⟩
  exact .inl rfl
theorem readS_err (d : ByteArray) (q n : Int) : (readS d q n).2.2 = 0 ∨ ((readS d q n).1 = d ∧ (readS d q n).2.1 = ⟨#[]⟩ ∧ ((readS d q n).2.2 == 0) = false) := by
  unfold readS
  split; · exact .inr ⟨rfl, rfl, rfl⟩
  split; · exact .inl rfl
  split
  · by_cases h : 1 ≤ q
    · simp only [h, if_true]; exact .inr ⟨trivial, trivial, rfl⟩
    · simp only [h, if_false]; exact .inl trivial
  exact .inl rfl
theorem writeS_right (d : ByteArray) (r : Int) (s : ByteArray) (h : d.size ≤ 8) : (writeS d r s).1.size ≤ 8 := by
  unfold writeS
  split; · exact h
  split; · exact h
  split; · exact h
  simp; omega
theorem readS_right (d : ByteArray) (q n : Int) (h : d.size ≤ 8) : (readS d q n).1.size ≤ 8 := by
  unfold readS
  split; · exact h
  split; · exact h
  split; · exact h
  simp; omega

set_option maxHeartbeats 4000000 in
/-- The walk, with what the two calls come to as variables. -/
theorem pipeStays_core (d s : ByteArray) (n r q : Int) (w : World) (wd1 rd1 rd2 : ByteArray) (wd2 wd3 rd3 : Int) (hd : d.size ≤ 9223372036854775807) (hwd : wd1.size ≤ 9223372036854775807) (hrd : rd1.size ≤ 9223372036854775807)
    (HW : ∀ w, Calls Try.prog 13 #[.agg #[.string d, .int .i64 r, .int .i64 q], .string s] w fun e w' => e = .returned (.tuple #[.agg #[.string wd1, .int .i64 r, .int .i64 q], .int .i64 wd2, .int .i64 wd3]) ∧ Below w.heap.size w w')
    (HR : ∀ w, Calls Try.prog 12 #[.agg #[.string d, .int .i64 r, .int .i64 q], .int .i64 n] w fun e w' => e = .returned (.tuple #[.agg #[.string rd1, .int .i64 r, .int .i64 q], .string rd2, .int .i64 rd3]) ∧ Below w.heap.size w w')
    (q1 : ∀ w, (wd3 == 0) = false → (Op.equalIn 10000 26 (.agg #[.string wd1, .int .i64 r, .int .i64 q]) (.agg #[.string d, .int .i64 r, .int .i64 q])).run Try.prog w = .ok true w)
    (q2 : ∀ w, (rd3 == 0) = false → (Op.equalIn 10000 26 (.agg #[.string rd1, .int .i64 r, .int .i64 q]) (.agg #[.string d, .int .i64 r, .int .i64 q])).run Try.prog w = .ok true w)
    (hw : wd3 = 0 ∨ (wd2 = 0 ∧ (wd3 == 0) = false)) (hr : rd3 = 0 ∨ (rd2 = ⟨#[]⟩ ∧ (rd3 == 0) = false))
    (rp ra rb : Bool) (Hp : ∀ w, Calls Try.prog 16 #[.agg #[.string d, .int .i64 r, .int .i64 q]] w fun e w' => e = .returned (.bool rp) ∧ Below w.heap.size w w')
    (Ha : ∀ w, Calls Try.prog 16 #[.agg #[.string wd1, .int .i64 r, .int .i64 q]] w fun e w' => e = .returned (.bool ra) ∧ Below w.heap.size w w')
    (Hb : ∀ w, Calls Try.prog 16 #[.agg #[.string rd1, .int .i64 r, .int .i64 q]] w fun e w' => e = .returned (.bool rb) ∧ Below w.heap.size w w') (hab : rp = true → ra = true ∧ rb = true) :
    Calls Try.prog 6 #[.agg #[.string d, .int .i64 r, .int .i64 q], .string s, .int .i64 n] w fun e w' => e = .returned (.bool true) ∧ Below w.heap.size w w' := by
  have XW := Lib.hid HW
  have XR := Lib.hid HR
  have Xp := Lib.hid Hp
  have Xa := Lib.hid Ha
  have Xb := Lib.hid Hb
  have XAB := Lib.hid hab
  have Q1 := Lib.hid q1
  have Q2 := Lib.hid q2
  clear HW HR Hp Ha Hb hab q1 q2
  rcases hw with rfl | ⟨rfl, hw⟩ <;> rcases hr with rfl | ⟨rfl, hr⟩
  all_goals
    (try have e1 := fun w => Q1.out w hw)
    (try have e2 := fun w => Q2.out w hr)
    (try have n1 : (wd3 != 0) = true := by rw [bne, hw]; rfl)
    (try have n2 : (rd3 != 0) = true := by rw [bne, hr]; rfl)
    cases rp with
    | false =>
      go_enter Try.func6, Try.ntmps6
      ((go_wp2_with fail); (with_reducible refine (shown_true _).mono ?_); (rintro e w1 ⟨rfl, hb1⟩); (have hz1 := hb1.size); (try simp only [World.size_alloc, World.size_setCell] at hz1))
      (have b1 : Box w1 w.heap.size #[.string d, .int .i64 r, .int .i64 q] 26 := (by (try have k1 := (Lib.hid True.intro).out); ((apply Box.cast); (repeat (first | with_reducible assumption | ((with_reducible apply Box.new1); (first | with_reducible rfl | rfl | (solve | simp))) | with_reducible apply Box.drewN | with_reducible apply Box.drew | with_reducible apply Box.set | with_reducible apply Box.other | with_reducible apply Box.alloc | (with_reducible apply Box.below; rotate_left; with_reducible assumption; rotate_right) | with_reducible rfl | omega | (dsimp only; omega) | (simp only [drew_heap', drewN_heap', World.size_alloc, World.size_setCell]; omega) | rfl | (solve | simp) | (solve | (simp; omega))))))); (obtain ⟨hc1, hf1, hl1, hn1, hm1⟩ := b1.rules); (have K1 := Lib.hid b1); (clear b1)
      ((go_wp2_with fail); (with_reducible refine (XW.out _).mono ?_); (rintro e w2 ⟨rfl, hb2⟩); (have hz2 := hb2.size); (try simp only [World.size_alloc, World.size_setCell] at hz2))
      (have b2 : Box w2 w.heap.size #[.string d, .int .i64 r, .int .i64 q] 26 := (by (try have k2 := K1.out); ((apply Box.cast); (repeat (first | with_reducible assumption | ((with_reducible apply Box.new1); (first | with_reducible rfl | rfl | (solve | simp))) | with_reducible apply Box.drewN | with_reducible apply Box.drew | with_reducible apply Box.set | with_reducible apply Box.other | with_reducible apply Box.alloc | (with_reducible apply Box.below; rotate_left; with_reducible assumption; rotate_right) | with_reducible rfl | omega | (dsimp only; omega) | (simp only [drew_heap', drewN_heap', World.size_alloc, World.size_setCell]; omega) | rfl | (solve | simp) | (solve | (simp; omega))))))); (obtain ⟨hc2, hf2, hl2, hn2, hm2⟩ := b2.rules); (have K2 := Lib.hid b2); (clear b2)
      ((go_wp2_with fail); (with_reducible refine (XR.out _).mono ?_); (rintro e w3 ⟨rfl, hb3⟩); (have hz3 := hb3.size); (try simp only [World.size_alloc, World.size_setCell] at hz3))
      (have b3 : Box w3 w.heap.size #[.string d, .int .i64 r, .int .i64 q] 26 := (by (try have k3 := K2.out); ((apply Box.cast); (repeat (first | with_reducible assumption | ((with_reducible apply Box.new1); (first | with_reducible rfl | rfl | (solve | simp))) | with_reducible apply Box.drewN | with_reducible apply Box.drew | with_reducible apply Box.set | with_reducible apply Box.other | with_reducible apply Box.alloc | (with_reducible apply Box.below; rotate_left; with_reducible assumption; rotate_right) | with_reducible rfl | omega | (dsimp only; omega) | (simp only [drew_heap', drewN_heap', World.size_alloc, World.size_setCell]; omega) | rfl | (solve | simp) | (solve | (simp; omega))))))); (obtain ⟨hc3, hf3, hl3, hn3, hm3⟩ := b3.rules); (have K3 := Lib.hid b3); (clear b3)
      (have b4 : Box w3 w2.heap.size #[.string wd1, .int .i64 r, .int .i64 q] 26 := (by (try have k4 := K2.out); ((apply Box.cast); (repeat (first | with_reducible assumption | ((with_reducible apply Box.new1); (first | with_reducible rfl | rfl | (solve | simp))) | with_reducible apply Box.drewN | with_reducible apply Box.drew | with_reducible apply Box.set | with_reducible apply Box.other | with_reducible apply Box.alloc | (with_reducible apply Box.below; rotate_left; with_reducible assumption; rotate_right) | with_reducible rfl | omega | (dsimp only; omega) | (simp only [drew_heap', drewN_heap', World.size_alloc, World.size_setCell]; omega) | rfl | (solve | simp) | (solve | (simp; omega))))))); (obtain ⟨hc4, hf4, hl4, hn4, hm4⟩ := b4.rules); (have K4 := Lib.hid b4); (clear b4)
      ((go_wp2_with fail); (with_reducible refine (Xp.out _).mono ?_); (rintro e w4 ⟨rfl, hb4⟩); (have hz4 := hb4.size); (try simp only [World.size_alloc, World.size_setCell] at hz4))
      go_wp2_with fail
      go_ret
      exact ⟨rfl, by (repeat (first | with_reducible exact Below.refl _ _ | with_reducible refine Below.setCell ?_ ?_ _ | with_reducible refine Below.alloc ?_ ?_ _ | with_reducible refine below_drewN' ?_ _ | with_reducible refine Below.drew ?_ | with_reducible refine Below.trans ?_ (Below.mono (by assumption) ?_) | omega | (dsimp only; omega) | (simp only [drew_heap', drewN_heap', World.size_alloc, World.size_setCell]; omega) | (solve | simp) | (solve | (simp; omega))))⟩
    | true =>
      obtain ⟨rfl, rfl⟩ := XAB.out rfl
      go_enter Try.func6, Try.ntmps6
      ((go_wp2_with fail); (with_reducible refine (shown_true _).mono ?_); (rintro e w1 ⟨rfl, hb1⟩); (have hz1 := hb1.size); (try simp only [World.size_alloc, World.size_setCell] at hz1))
      (have b1 : Box w1 w.heap.size #[.string d, .int .i64 r, .int .i64 q] 26 := (by (try have k1 := (Lib.hid True.intro).out); ((apply Box.cast); (repeat (first | with_reducible assumption | ((with_reducible apply Box.new1); (first | with_reducible rfl | rfl | (solve | simp))) | with_reducible apply Box.drewN | with_reducible apply Box.drew | with_reducible apply Box.set | with_reducible apply Box.other | with_reducible apply Box.alloc | (with_reducible apply Box.below; rotate_left; with_reducible assumption; rotate_right) | with_reducible rfl | omega | (dsimp only; omega) | (simp only [drew_heap', drewN_heap', World.size_alloc, World.size_setCell]; omega) | rfl | (solve | simp) | (solve | (simp; omega))))))); (obtain ⟨hc1, hf1, hl1, hn1, hm1⟩ := b1.rules); (have K1 := Lib.hid b1); (clear b1)
      ((go_wp2_with fail); (with_reducible refine (XW.out _).mono ?_); (rintro e w2 ⟨rfl, hb2⟩); (have hz2 := hb2.size); (try simp only [World.size_alloc, World.size_setCell] at hz2))
      (have b2 : Box w2 w.heap.size #[.string d, .int .i64 r, .int .i64 q] 26 := (by (try have k2 := K1.out); ((apply Box.cast); (repeat (first | with_reducible assumption | ((with_reducible apply Box.new1); (first | with_reducible rfl | rfl | (solve | simp))) | with_reducible apply Box.drewN | with_reducible apply Box.drew | with_reducible apply Box.set | with_reducible apply Box.other | with_reducible apply Box.alloc | (with_reducible apply Box.below; rotate_left; with_reducible assumption; rotate_right) | with_reducible rfl | omega | (dsimp only; omega) | (simp only [drew_heap', drewN_heap', World.size_alloc, World.size_setCell]; omega) | rfl | (solve | simp) | (solve | (simp; omega))))))); (obtain ⟨hc2, hf2, hl2, hn2, hm2⟩ := b2.rules); (have K2 := Lib.hid b2); (clear b2)
      ((go_wp2_with fail); (with_reducible refine (XR.out _).mono ?_); (rintro e w3 ⟨rfl, hb3⟩); (have hz3 := hb3.size); (try simp only [World.size_alloc, World.size_setCell] at hz3))
      (have b3 : Box w3 w.heap.size #[.string d, .int .i64 r, .int .i64 q] 26 := (by (try have k3 := K2.out); ((apply Box.cast); (repeat (first | with_reducible assumption | ((with_reducible apply Box.new1); (first | with_reducible rfl | rfl | (solve | simp))) | with_reducible apply Box.drewN | with_reducible apply Box.drew | with_reducible apply Box.set | with_reducible apply Box.other | with_reducible apply Box.alloc | (with_reducible apply Box.below; rotate_left; with_reducible assumption; rotate_right) | with_reducible rfl | omega | (dsimp only; omega) | (simp only [drew_heap', drewN_heap', World.size_alloc, World.size_setCell]; omega) | rfl | (solve | simp) | (solve | (simp; omega))))))); (obtain ⟨hc3, hf3, hl3, hn3, hm3⟩ := b3.rules); (have K3 := Lib.hid b3); (clear b3)
      (have b4 : Box w3 w2.heap.size #[.string wd1, .int .i64 r, .int .i64 q] 26 := (by (try have k4 := K2.out); ((apply Box.cast); (repeat (first | with_reducible assumption | ((with_reducible apply Box.new1); (first | with_reducible rfl | rfl | (solve | simp))) | with_reducible apply Box.drewN | with_reducible apply Box.drew | with_reducible apply Box.set | with_reducible apply Box.other | with_reducible apply Box.alloc | (with_reducible apply Box.below; rotate_left; with_reducible assumption; rotate_right) | with_reducible rfl | omega | (dsimp only; omega) | (simp only [drew_heap', drewN_heap', World.size_alloc, World.size_setCell]; omega) | rfl | (solve | simp) | (solve | (simp; omega))))))); (obtain ⟨hc4, hf4, hl4, hn4, hm4⟩ := b4.rules); (have K4 := Lib.hid b4); (clear b4)
      ((go_wp2_with fail); (with_reducible refine (Xp.out _).mono ?_); (rintro e w4 ⟨rfl, hb4⟩); (have hz4 := hb4.size); (try simp only [World.size_alloc, World.size_setCell] at hz4))
      (have b5 : Box w4 w2.heap.size #[.string wd1, .int .i64 r, .int .i64 q] 26 := (by (try have k5 := K4.out); ((apply Box.cast); (repeat (first | with_reducible assumption | ((with_reducible apply Box.new1); (first | with_reducible rfl | rfl | (solve | simp))) | with_reducible apply Box.drewN | with_reducible apply Box.drew | with_reducible apply Box.set | with_reducible apply Box.other | with_reducible apply Box.alloc | (with_reducible apply Box.below; rotate_left; with_reducible assumption; rotate_right) | with_reducible rfl | omega | (dsimp only; omega) | (simp only [drew_heap', drewN_heap', World.size_alloc, World.size_setCell]; omega) | rfl | (solve | simp) | (solve | (simp; omega))))))); (obtain ⟨hc5, hf5, hl5, hn5, hm5⟩ := b5.rules); (have K5 := Lib.hid b5); (clear b5)
      (have b6 : Box w4 w3.heap.size #[.string rd1, .int .i64 r, .int .i64 q] 26 := (by (try have k6 := K4.out); ((apply Box.cast); (repeat (first | with_reducible assumption | ((with_reducible apply Box.new1); (first | with_reducible rfl | rfl | (solve | simp))) | with_reducible apply Box.drewN | with_reducible apply Box.drew | with_reducible apply Box.set | with_reducible apply Box.other | with_reducible apply Box.alloc | (with_reducible apply Box.below; rotate_left; with_reducible assumption; rotate_right) | with_reducible rfl | omega | (dsimp only; omega) | (simp only [drew_heap', drewN_heap', World.size_alloc, World.size_setCell]; omega) | rfl | (solve | simp) | (solve | (simp; omega))))))); (obtain ⟨hc6, hf6, hl6, hn6, hm6⟩ := b6.rules); (have K6 := Lib.hid b6); (clear b6)
      ((go_wp2_with fail); (with_reducible refine (Xa.out _).mono ?_); (rintro e w5 ⟨rfl, hb5⟩); (have hz5 := hb5.size); (try simp only [World.size_alloc, World.size_setCell] at hz5))
      (have b7 : Box w5 w3.heap.size #[.string rd1, .int .i64 r, .int .i64 q] 26 := (by (try have k7 := K6.out); ((apply Box.cast); (repeat (first | with_reducible assumption | ((with_reducible apply Box.new1); (first | with_reducible rfl | rfl | (solve | simp))) | with_reducible apply Box.drewN | with_reducible apply Box.drew | with_reducible apply Box.set | with_reducible apply Box.other | with_reducible apply Box.alloc | (with_reducible apply Box.below; rotate_left; with_reducible assumption; rotate_right) | with_reducible rfl | omega | (dsimp only; omega) | (simp only [drew_heap', drewN_heap', World.size_alloc, World.size_setCell]; omega) | rfl | (solve | simp) | (solve | (simp; omega))))))); (obtain ⟨hc7, hf7, hl7, hn7, hm7⟩ := b7.rules); (have K7 := Lib.hid b7); (clear b7)
      ((go_wp2_with fail); (with_reducible refine (Xb.out _).mono ?_); (rintro e w6 ⟨rfl, hb6⟩); (have hz6 := hb6.size); (try simp only [World.size_alloc, World.size_setCell] at hz6))
      go_wp2_with fail
      go_ret
      exact ⟨rfl, by (repeat (first | with_reducible exact Below.refl _ _ | with_reducible refine Below.setCell ?_ ?_ _ | with_reducible refine Below.alloc ?_ ?_ _ | with_reducible refine below_drewN' ?_ _ | with_reducible refine Below.drew ?_ | with_reducible refine Below.trans ?_ (Below.mono (by assumption) ?_) | omega | (dsimp only; omega) | (simp only [drew_heap', drewN_heap', World.size_alloc, World.size_setCell]; omega) | (solve | simp) | (solve | (simp; omega))))⟩

theorem pipeStays_walk (d s : ByteArray) (n r q : Int) (w : World) (hd : d.size ≤ 9223372036854775807) (hs : s.size ≤ 9223372036854775807) (hr : (Lit.int .i64 r).wf = true) (hq : (Lit.int .i64 q).wf = true) :
    Calls Try.prog 6 #[.agg #[.string d, .int .i64 r, .int .i64 q], .string s, .int .i64 n] w fun e w' => e = .returned (.bool true) ∧ Below w.heap.size w w' := by
  have hwS := writeS_size d r s hd
  have hrS := readS_size d q n hd
  refine pipeStays_core d s n r q w (writeS d r s).1 (readS d q n).1 (readS d q n).2.1 (writeS d r s).2.1 (writeS d r s).2.2 (readS d q n).2.2 hd hwS hrS
    (fun w => write_any d r q s w hd hs) (fun w => read_any d r q n w hd) ?_ ?_ ?_ ?_ _ _ _ (fun w => right_any d r q w hd) (fun w => right_any _ r q w hwS) (fun w => right_any _ r q w hrS) ?_
  · intro w hne
    rcases writeS_err d r s with h | ⟨h, _⟩
    · rw [h] at hne; cases hne
    · rw [h]; exact eql_pipe d d r q r q (by unfold maxLen; omega) hr hq (by unfold maxLen; omega) hr hq true (by simp) w
  · intro w hne
    rcases readS_err d q n with h | ⟨h, _⟩
    · rw [h] at hne; cases hne
    · rw [h]; exact eql_pipe d d r q r q (by unfold maxLen; omega) hr hq (by unfold maxLen; omega) hr hq true (by simp) w
  · exact (writeS_err d r s).imp id (fun h => h.2)
  · exact (readS_err d q n).imp id (fun h => h.2)
  · intro h
    simp only [decide_eq_true_eq] at h ⊢
    exact ⟨⟨writeS_right d r s h.1, h.2⟩, ⟨readS_right d q n h.1, h.2⟩⟩
end Go.Proofs.Ythnfcmfdengnbaa
