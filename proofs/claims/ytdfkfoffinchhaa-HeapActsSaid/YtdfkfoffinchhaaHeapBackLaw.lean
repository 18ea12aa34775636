/- The law HeapBack: its walk. Conditions: what came in is shaped. -/
import Derived.Test.YtdfkfoffinchhaaHeapFacts
namespace Go.Proofs.Ytdfkfoffinchhaa
open Go Go.RowKit Go.Tm
set_option linter.unusedVariables false
set_option linter.unusedSimpArgs false

theorem free_put {l1 l2 : List Sp} {p n who : Int} (h1 : ∀ s ∈ l1, s.1 < p) : freeS (l1 ++ (p, n, who) :: l2) p = (l1 ++ l2, true) := by
  rcases free_cases (l1 ++ (p, n, who) :: l2) p with ⟨_, h, _⟩ | ⟨i, x, _, hx, hxp, hno, e⟩
  · exact absurd rfl (h (p, n, who) (by simp))
  · rw [e]
    have hi : i = l1.length := by
      rcases Nat.lt_trichotomy i l1.length with hlt | rfl | hgt
      · rw [List.getElem?_append_left hlt] at hx
        have := h1 x (List.mem_of_getElem? hx)
        omega
      · rfl
      · exact absurd rfl (hno l1.length (p, n, who) hgt (by simp))
    rw [hi, ins_erase]
theorem sum_put (l1 l2 : List Sp) (p n who : Int) : sumN (l1 ++ (p, n, who) :: l2) = sumN (l1 ++ l2) + n := by
  rw [sumN_append, sumN_cons, sumN_append]; dsimp only; omega
theorem refSame_same (n : Int) (v u : Value) (l : List Sp) (w : World) (hv : Sl w true 3 v (sps l)) (hu : Sl w true 3 u (sps l)) (hl : ∀ x ∈ l, SpWf x) :
    Calls Try.prog 19 #[.agg #[.int .i64 n, v], .agg #[.int .i64 n, u]] w fun e w' => e = .returned (.bool true) ∧ Below w.heap.size w w' := by
  have h := refSame_any n n v u l l w hv hu hl hl
  rwa [decide_eq_true rfl, decide_eq_true rfl] at h

set_option maxRecDepth 100000 in
set_option maxHeartbeats 4000000 in
theorem heapBack_walk (size : Int) (v : Value) (l : List Sp) (n who : Int) (w : World) (hv : Sl w true 3 v (sps l)) (hs : (Lit.int .i64 size).wf = true) (hw : ∀ x ∈ l, SpWf x) (hn : (Lit.int .i64 n).wf = true) (hu : (Lit.int .i64 who).wf = true) (hby : (l.length + 2) * 24 ≤ 140737488355328) :
    Calls Try.prog 7 #[.agg #[.int .i64 size, v], .int .i64 n, .int .i64 who] w fun e w' => e = .returned (.bool true) ∧ Below w.heap.size w w' := by
  have HV := Lib.hid hv
  have HT := Lib.hid (fun W h => take_any size v l n who W h hs hw (by omega))
  have HL := Lib.hid (fun W h => left_any size v l W h hs hw (by omega))
  have hsz := size_range hs
  have hnr := size_range hn
  have hkw := take_wf (n := n) (who := who) hw hs hn hu
  have hcases := take_cases size l n who
  have hle := take_le size l n who
  have HW := Lib.hid hw
  obtain ⟨a, cap, rfl, hl⟩ := hv.shape
  rw [sps_len] at hl HV HT HL ⊢
  obtain ⟨lk, ak, er, hek⟩ : ∃ lk ak er, takeS size l n who = (lk, ak, er) := ⟨_, _, _, rfl⟩
  rw [hek] at HT hcases hkw hle
  dsimp only at HT hkw hle
  have HLK := Lib.hid (fun u W h => left_any size u lk W h hs hkw (by omega))
  have HF := Lib.hid (fun u W h => free_any size u lk ak W h (by omega))
  have HCA := Lib.hid hcases
  clear hv hs hw hn hu hkw hek hcases
  go_enter Try.func7, Try.ntmps7
  ((go_wp2_with fail); (with_reducible refine (shown_any _).mono ?_); (rintro e w1 ⟨rfl, hb1⟩); (have hz1 := hb1.size); (try simp only [World.size_alloc, World.size_setCell] at hz1))
  (have b1 : Box w1 w.heap.size #[.int .i64 size, .slice a l.length cap] 24 := (by (try have k1 := (Lib.hid True.intro).out); ((apply Box.cast); (repeat (first | with_reducible assumption | ((with_reducible apply Box.new1); (first | with_reducible rfl | rfl | (solve | simp))) | with_reducible apply Box.drewN | with_reducible apply Box.drew | with_reducible apply Box.set | with_reducible apply Box.other | with_reducible apply Box.alloc | (with_reducible apply Box.below; rotate_left; with_reducible assumption; rotate_right) | with_reducible rfl | omega | (dsimp only; omega) | (simp only [drew_heap', drewN_heap', World.size_alloc, World.size_setCell]; omega) | rfl | (solve | simp) | (solve | (simp; omega))))))); (obtain ⟨hc1, hf1, hl1, hn1, hm1⟩ := b1.rules); (have K1 := Lib.hid b1); (clear b1)
  have hbw1 : Below w.heap.size w w1 := by (repeat (first | with_reducible assumption | with_reducible exact Below.refl _ _ | with_reducible refine Below.setCell ?_ ?_ _ | with_reducible refine Below.alloc ?_ ?_ _ | with_reducible refine below_drewN' ?_ _ | with_reducible refine Below.drew ?_ | with_reducible refine Below.trans ?_ (Below.mono (by assumption) ?_) | omega | (dsimp only; omega) | (simp only [drew_heap', drewN_heap', World.size_alloc, World.size_setCell]; omega) | (solve | simp) | (solve | (simp; omega))))
  clear hb1
  go_wp2_with fail
  with_reducible refine (HT.out _ (HV.out.below hbw1)).mono ?_
  rintro e w3 ⟨v3, rfl, hs3, hr3, hb3⟩
  ((have b3 := K1.out.below hb3 K1.out.lt); (obtain ⟨hc3, hf3, hl3, hn3, hm3⟩ := b3.rules); (have K3 := Lib.hid b3); (clear b3))
  have hbw3 : Below w.heap.size w w3 := hbw1.trans (hb3.mono hbw1.size)
  have hz3 := hbw3.size
  obtain ⟨a3, k3, hv3, _⟩ := hs3.shape
  rw [sps_len] at hv3
  subst hv3
  have HK3 := Lib.hid hs3
  clear hb3 hs3 hr3 K1 hc1 hf1 hl1 hn1 hm1
  have hbA : Below w3.heap.size w3 (w3.alloc (.cells #[.int .i64 size, .slice a3 lk.length k3] 24)) := (Below.refl _ _).alloc (Nat.le_refl _) _
  have X3 := Lib.hid (Box.new w3 #[.int .i64 size, .slice a3 lk.length k3] 24)
  have hsame : ∀ e0 : Int, lk = l → er = e0 → e0 ≠ 0 → True := fun _ _ _ _ => trivial
  rcases HCA.out with ⟨_, he⟩ | ⟨_, _, _, he⟩ | ⟨h1, h2, l1, l2, p, q, u, h3, h4, h5, he, h6, h7, h8, h9, h10, h11, _⟩
  · simp only [Prod.mk.injEq] at he
    obtain ⟨rfl, rfl, rfl⟩ := he
    have HSS := Lib.hid (fun W h h' => refSame_same size (.slice a lk.length cap) (.slice a3 lk.length k3) lk W h h' HW.out)
    go_wp2_with fail
    with_reducible refine (HSS.out _ (HV.out.below (hbw3.trans (hbA.mono hz3))) (HK3.out.below hbA)).mono ?_
    rintro e w4 ⟨rfl, hb4⟩
    go_wp2_with fail
    go_ret
    exact ⟨by simp, (hbw3.trans (hbA.mono hz3)).trans (hb4.mono (by have := hbA.size; omega))⟩
  · simp only [Prod.mk.injEq] at he
    obtain ⟨rfl, rfl, rfl⟩ := he
    have HSS := Lib.hid (fun W h h' => refSame_same size (.slice a lk.length cap) (.slice a3 lk.length k3) lk W h h' HW.out)
    go_wp2_with fail
    with_reducible refine (HSS.out _ (HV.out.below (hbw3.trans (hbA.mono hz3))) (HK3.out.below hbA)).mono ?_
    rintro e w4 ⟨rfl, hb4⟩
    go_wp2_with fail
    go_ret
    exact ⟨by simp, (hbw3.trans (hbA.mono hz3)).trans (hb4.mono (by have := hbA.size; omega))⟩
  · simp only [Prod.mk.injEq] at he
    obtain ⟨he1, rfl, rfl⟩ := he
    have hfr : freeS lk ak = (l, true) := by rw [he1, h3, free_put h9]
    have hsum : sumN (holesB size lk) = sumN (holesB size l) - n := by
      rw [he1, holesB_true h6, holesB_true h2, sum_all h6, sum_all h2, sum_put, h3]; omega
    have hr1 := sum_take h2 l.length
    rw [List.take_length] at hr1
    have hr2 := sum_all h2
    have hr3 := sum_take h6 lk.length
    rw [← he1, List.take_length] at hr3
    have hr4 : sumN lk = sumN l + n := by rw [he1, sum_put, h3]
    rw [← holesB_true h2] at hr2
    rw [hfr] at HF
    rw [hsum] at HLK
    have hsub : IntKind.i64.wrap (sumN (holesB size l) - n) = sumN (holesB size l) - n := IntWalk.i64_in _ (by omega)
    simp only [if_true] at HF
    clear h2 h3 h4 h6 h9 h10 h11 he1 hfr hr1 hr2 hr3 hr4
    generalize sumN (holesB size l) = sl at *
    go_wp2_with fail
    with_reducible refine (HF.out _ _ (HK3.out.below hbA)).mono ?_
    rintro e w4 ⟨v4, rfl, hs4, hr4, hb4⟩
    have hbA4 : Below w3.heap.size w3 w4 := hbA.trans (hb4.mono hbA.size)
    ((have b4 := K3.out.below hbA4 K3.out.lt); (obtain ⟨hc4, hf4, hl4, hn4, hm4⟩ := b4.rules); (have K4 := Lib.hid b4); (clear b4))
    ((have b5 := X3.out.below hb4 X3.out.lt); (obtain ⟨hc5, hf5, hl5, hn5, hm5⟩ := b5.rules); (have K5 := Lib.hid b5); (clear b5))
    have hbw4 : Below w.heap.size w w4 := hbw3.trans (hbA4.mono hz3)
    have hz4 := hbw4.size
    have HK4 := Lib.hid (HK3.out.below hbA4)
    obtain ⟨a4, k4, hv4, _⟩ := hs4.shape
    rw [sps_len] at hv4
    subst hv4
    have HF4 := Lib.hid hs4
    clear hb4 hs4 hr4 K3 hc3 hf3 hl3 hn3 hm3 X3 HK3 hbA4 hbA
    go_wp2_with fail
    have hbA : Below w4.heap.size w4 (w4.alloc (.cells #[.int .i64 size, .slice a4 l.length k4] 24)) := (Below.refl _ _).alloc (Nat.le_refl _) _
    have Y4 := Lib.hid (Box.new w4 #[.int .i64 size, .slice a4 l.length k4] 24)
    have Y3 := Lib.hid (K4.out.below hbA K4.out.lt)
    have Y5 := Lib.hid (K5.out.below hbA K5.out.lt)
    have HK5 := Lib.hid (HK4.out.below hbA)
    have HF5 := Lib.hid (HF4.out.below hbA)
    have hbw5 : Below w.heap.size w (w4.alloc (.cells #[.int .i64 size, .slice a4 l.length k4] 24)) := hbw4.trans (hbA.mono hz4)
    have HV5 := Lib.hid (HV.out.below hbw5)
    clear K4 K5 HK4 HF4 hc4 hf4 hl4 hn4 hm4 hc5 hf5 hl5 hn5 hm5
    generalize w4.alloc (.cells #[.int .i64 size, .slice a4 l.length k4] 24) = w5 at *
    have g3 := Y3.out.regrown
    have g4 := Y4.out.regrown
    have g5 := Y5.out.regrown
    have hC1 : ∀ dd os, Calls Try.prog 19 #[.agg #[.int .i64 size, .slice a4 l.length k4], .agg #[.int .i64 size, .slice a l.length cap]] (Go.Sort.grow (redrawn w5 dd) os) fun e w'' => e = .returned (.bool true) ∧ ∃ p : Regrown, w'' = Go.Sort.grow (redrawn w5 p.d) p.os :=
      fun dd os => Calls.regrown_of (refSame_same size _ _ l _ (HF5.out.below (below_regrown w5 dd os)) (HV5.out.below (below_regrown w5 dd os)) HW.out)
    have hC2 : ∀ dd os, Calls Try.prog 20 #[.agg #[.int .i64 size, .slice a l.length cap]] (Go.Sort.grow (redrawn w5 dd) os) fun e w'' => e = .returned (.int .i64 sl) ∧ ∃ p : Regrown, w'' = Go.Sort.grow (redrawn w5 p.d) p.os :=
      fun dd os => Calls.regrown_of (HL.out _ (HV5.out.below (below_regrown w5 dd os)))
    have hC3 : ∀ dd os, Calls Try.prog 20 #[.agg #[.int .i64 size, .slice a3 lk.length k3]] (Go.Sort.grow (redrawn w5 dd) os) fun e w'' => e = .returned (.int .i64 (sl - n)) ∧ ∃ p : Regrown, w'' = Go.Sort.grow (redrawn w5 p.d) p.os :=
      fun dd os => Calls.regrown_of (HLK.out _ _ (HK5.out.below (below_regrown w5 dd os)))
    have C1 := Lib.hid hC1
    have C2 := Lib.hid hC2
    have C3 := Lib.hid hC3
    clear hC1 hC2 hC3
    ((refine wp_region_quiet_below (by kernel_rfl) (by kernel_rfl) ?_); (repeat (go_big_quiet_step ((first | (go_at_call 19; with_reducible exact C1.out _ _) | (go_at_call 20; with_reducible first | exact C2.out _ _ | exact C3.out _ _))))); (refine wpQuiet_nil ?_); (intro _ hw'); (obtain ⟨⟨dq, osq⟩, hw''⟩ := hw'); (subst hw''); (have hb7 := below_regrown w5 dq osq); (generalize Go.Sort.grow (redrawn w5 dq) osq = w7 at *); (have hz7 := hb7.size))
    clear g3 g4 g5
    go_wp2_with fail
    go_ret
    exact ⟨by simp, hbw5.trans (hb7.mono hbw5.size)⟩
end Go.Proofs.Ytdfkfoffinchhaa
