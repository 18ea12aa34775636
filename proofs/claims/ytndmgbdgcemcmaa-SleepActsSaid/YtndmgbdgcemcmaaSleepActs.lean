/- The law SleepActs: its walk. Conditions: what came in is shaped. -/
import Derived.Test.YtndmgbdgcemcmaaSleepRight
namespace Go.Proofs.Ytndmgbdgcemcmaa
open Go Go.RowKit Go.Tm
set_option linter.unusedVariables false
set_option linter.unusedSimpArgs false

theorem addS_wf {l : List Al} {a : Al} (hw : ∀ x ∈ l, AlWf x) (ha : AlWf a) : ∀ x ∈ addS l a, AlWf x := by
  intro x hx
  rw [addS_eq] at hx
  rcases List.mem_append.1 hx with h | h
  · exact hw x (List.mem_of_mem_take h)
  · rcases List.mem_cons.1 h with rfl | h
    · exact ha
    · exact hw x (List.mem_of_mem_drop h)

set_option maxHeartbeats 16000000 in
theorem sleepActs_walk (v : Value) (l : List Al) (t p pid now n : Int) (w : World) (hv : Sl w true 2 v (als l)) (hby : l.length * 16 ≤ 140737488351232) (hw : ∀ x ∈ l, AlWf x) (ha : AlWf (t, p))
    (h1 : 0 ≤ now ∧ now ≤ 18446744073709551615) (h2 : 0 ≤ n ∧ n ≤ 4294967295) :
    Calls Try.prog 8 #[.agg #[v, .int .u64 t, .int .i64 p, .int .i64 pid, .int .u64 now, .int .u32 n]] w fun e w' => e = .returned (.bool true) ∧ Below w.heap.size w w' := by
  have HV := Lib.hid hv
  have hR := fun W h => right_any v l W h hw
  have hR2 := fun W h => refRight_any v l W h
  have hD := fun W h => due_any v l now W h (by omega)
  have hD2 := fun W h => refDue_any v l now W h (by omega)
  have hA := fun W h => add_any v l (t, p) W h (by omega)
  have hA2 := fun W h => refAdd_any v l (t, p) W h (by omega)
  have hDr := fun W h => drop_any v l pid W h (by omega)
  have hDr2 := fun W h => refDrop_any v l pid W h (by omega)
  have HU1 := Lib.hid (fun W => until_any now n W h1 h2)
  have HU2 := Lib.hid (fun W => refUntil_any now n W h1 h2)
  obtain ⟨av, cap, rfl, hl⟩ := hv.shape
  rw [als_len] at hl HV hR hR2 hD hD2 hA hA2 hDr hDr2 ⊢
  have HD := Lib.hid hD
  have HD2 := Lib.hid hD2
  have HA := Lib.hid hA
  have HA2 := Lib.hid hA2
  have HDr := Lib.hid hDr
  have HDr2 := Lib.hid hDr2
  have HWA := Lib.hid (addS_wf hw ha)
  have HWD := Lib.hid (fun x (hx : x ∈ dropS l pid) => hw x (List.mem_filter.1 hx).1)
  have HWR := Lib.hid (fun x (hx : x ∈ dueR l now) => hw x (by rw [dueR_eq] at hx; exact List.mem_of_mem_drop hx))
  have HR := Lib.hid hR
  have HR2 := Lib.hid hR2
  clear hv hw hD hD2 hA hA2 hDr hDr2 hR hR2
  generalize dropS l pid = d at *
  generalize dueR l now = rr at *
  generalize dueP l now = rp at *
  generalize addS l (t, p) = ad at *
  generalize rightB l = rb at *
  generalize now + min n (18446744073709551615 - now) = un at *
  go_enter Try.func8, Try.ntmps8
  go_wp2_with fail
  ((go_wp2_with fail); (with_reducible refine (shown_any _).mono ?_); (rintro e w1 ⟨rfl, hb1⟩); (have hz1 := hb1.size); (try simp only [World.size_alloc, World.size_setCell] at hz1))
  (have b1 : Box w1 (w.heap.size + 1) #[.int .u64 t, .int .i64 p] 30 := (by (try have k1 := (Lib.hid True.intro).out); ((apply Box.cast); (repeat (first | with_reducible assumption | ((with_reducible apply Box.new1); (first | with_reducible rfl | rfl | (solve | simp))) | with_reducible apply Box.drewN | with_reducible apply Box.drew | with_reducible apply Box.set | with_reducible apply Box.other | with_reducible apply Box.alloc | (with_reducible apply Box.below; rotate_left; with_reducible assumption; rotate_right) | with_reducible rfl | omega | (dsimp only; omega) | (simp only [drew_heap', drewN_heap', World.size_alloc, World.size_setCell]; omega) | rfl | (solve | simp) | (solve | (simp; omega))))))); (obtain ⟨hc1, hf1, hl1, hn1, hm1⟩ := b1.rules); (have K1 := Lib.hid b1); (clear b1)
  have hP0 := hc1 0
  have hP1 := hc1 1
  have hbw : Below w.heap.size w w1 := by (repeat (first | with_reducible assumption | with_reducible exact Below.refl _ _ | with_reducible refine Below.setCell ?_ ?_ _ | with_reducible refine Below.alloc ?_ ?_ _ | with_reducible refine below_drewN' ?_ _ | with_reducible refine Below.drew ?_ | with_reducible refine Below.trans ?_ (Below.mono (by assumption) ?_) | omega | (dsimp only; omega) | (simp only [drew_heap', drewN_heap', World.size_alloc, World.size_setCell]; omega) | (solve | simp) | (solve | (simp; omega))))
  clear hc1 hf1 hl1 hn1 hm1
  go_wp2_with fail
  with_reducible refine (HD.out _ (HV.out.below hbw)).mono ?_
  rintro e w2 ⟨x2, q2, rfl, ho2, hs2, hb2⟩
  have hz2 := hb2.size
  have HX2 := Lib.hid ho2.sl
  have HQ2 := Lib.hid hs2
  have hbw2 : Below w.heap.size w w2 := hbw.trans (hb2.mono hbw.size)
  clear ho2 hs2
  go_wp2_with fail
  with_reducible refine (HD2.out _ (HV.out.below hbw2)).mono ?_
  rintro e w3 ⟨x3, q3, rfl, hs3, ht3, hb3⟩
  have hz3 := hb3.size
  have HX3 := Lib.hid hs3
  have HQ3 := Lib.hid ht3
  have HX2b := Lib.hid (HX2.out.below hb3)
  have HQ2b := Lib.hid (HQ2.out.below hb3)
  have hbw3 : Below w.heap.size w w3 := hbw2.trans (hb3.mono hbw2.size)
  have hS0 : SA w3 (w.heap.size + 1) (t, p) w3 := ⟨cellKeep hb3 (cellKeep hb2 hP0), cellKeep hb3 (cellKeep hb2 hP1), Below.refl _ _⟩
  have HV3 := Lib.hid (HV.out.below hbw3)
  clear hs3 ht3 HX2 HQ2 hP0 hP1 hb1 hb2 hb3 hbw hbw2
  go_wp2_with fail
  go_region_held3 (fun W => W.cell? ⟨w.heap.size + 1, 0, none⟩ = some (.int .u64 t) ∧ W.cell? ⟨w.heap.size + 1, 1, none⟩ = some (.int .i64 p) ∧ Below w3.heap.size w3 W) ((refine SA.keep hS0 ?_; (repeat (first | with_reducible assumption | with_reducible exact Below.refl _ _ | with_reducible refine Below.setCell ?_ ?_ _ | with_reducible refine Below.alloc ?_ ?_ _ | with_reducible refine below_drewN' ?_ _ | with_reducible refine Below.drew ?_ | with_reducible refine Below.trans ?_ (Below.mono (by assumption) ?_) | omega | (dsimp only; omega) | (simp only [drew_heap', drewN_heap', World.size_alloc, World.size_setCell]; omega) | (solve | simp) | (solve | (simp; omega))))))
    ((first
      | (go_at_call 15; with_reducible refine (HA.out _ (HV3.out.below (by (repeat (first | with_reducible assumption | with_reducible exact Below.refl _ _ | with_reducible refine Below.setCell ?_ ?_ _ | with_reducible refine Below.alloc ?_ ?_ _ | with_reducible refine below_drewN' ?_ _ | with_reducible refine Below.drew ?_ | with_reducible refine Below.trans ?_ (Below.mono (by assumption) ?_) | omega | (dsimp only; omega) | (simp only [drew_heap', drewN_heap', World.size_alloc, World.size_setCell]; omega) | (solve | simp) | (solve | (simp; omega))))))).mono ?_; rintro en w4 ⟨v4, rfl, hs4, hb4⟩; (have hz4 := hb4.size); (try simp only [drew_heap', drewN_heap', World.size_alloc] at hz4); (have H4 := Lib.hid hs4); clear hs4)
      | (go_at_call 18; with_reducible refine (HA2.out _ (HV3.out.below (by (repeat (first | with_reducible assumption | with_reducible exact Below.refl _ _ | with_reducible refine Below.setCell ?_ ?_ _ | with_reducible refine Below.alloc ?_ ?_ _ | with_reducible refine below_drewN' ?_ _ | with_reducible refine Below.drew ?_ | with_reducible refine Below.trans ?_ (Below.mono (by assumption) ?_) | omega | (dsimp only; omega) | (simp only [drew_heap', drewN_heap', World.size_alloc, World.size_setCell]; omega) | (solve | simp) | (solve | (simp; omega))))))).mono ?_; rintro en w5 ⟨v5, rfl, hs5, hb5⟩; (have hz5 := hb5.size); (try simp only [drew_heap', drewN_heap', World.size_alloc] at hz5); (have H4b := Lib.hid (H4.out.below (by first | exact hb5 | (repeat (first | with_reducible assumption | with_reducible exact Below.refl _ _ | with_reducible refine Below.setCell ?_ ?_ _ | with_reducible refine Below.alloc ?_ ?_ _ | with_reducible refine below_drewN' ?_ _ | with_reducible refine Below.drew ?_ | with_reducible refine Below.trans ?_ (Below.mono (by assumption) ?_) | omega | (dsimp only; omega) | (simp only [drew_heap', drewN_heap', World.size_alloc, World.size_setCell]; omega) | (solve | simp) | (solve | (simp; omega))))))); (have H5 := Lib.hid hs5); clear hs5)
      | (go_at_call 16; with_reducible refine (HDr.out _ (HV3.out.below (by (repeat (first | with_reducible assumption | with_reducible exact Below.refl _ _ | with_reducible refine Below.setCell ?_ ?_ _ | with_reducible refine Below.alloc ?_ ?_ _ | with_reducible refine below_drewN' ?_ _ | with_reducible refine Below.drew ?_ | with_reducible refine Below.trans ?_ (Below.mono (by assumption) ?_) | omega | (dsimp only; omega) | (simp only [drew_heap', drewN_heap', World.size_alloc, World.size_setCell]; omega) | (solve | simp) | (solve | (simp; omega))))))).mono ?_; rintro en w7 ⟨v7, rfl, hs7, hb7⟩; (have hz7 := hb7.size); (try simp only [drew_heap', drewN_heap', World.size_alloc] at hz7); (have H7 := Lib.hid hs7); clear hs7)
      | (go_at_call 19; with_reducible refine (HDr2.out _ (HV3.out.below (by (repeat (first | with_reducible assumption | with_reducible exact Below.refl _ _ | with_reducible refine Below.setCell ?_ ?_ _ | with_reducible refine Below.alloc ?_ ?_ _ | with_reducible refine below_drewN' ?_ _ | with_reducible refine Below.drew ?_ | with_reducible refine Below.trans ?_ (Below.mono (by assumption) ?_) | omega | (dsimp only; omega) | (simp only [drew_heap', drewN_heap', World.size_alloc, World.size_setCell]; omega) | (solve | simp) | (solve | (simp; omega))))))).mono ?_; rintro en w8 ⟨v8, rfl, hs8, hb8⟩; (have hz8 := hb8.size); (try simp only [drew_heap', drewN_heap', World.size_alloc] at hz8); (have H7b := Lib.hid (H7.out.below (by first | exact hb8 | (repeat (first | with_reducible assumption | with_reducible exact Below.refl _ _ | with_reducible refine Below.setCell ?_ ?_ _ | with_reducible refine Below.alloc ?_ ?_ _ | with_reducible refine below_drewN' ?_ _ | with_reducible refine Below.drew ?_ | with_reducible refine Below.trans ?_ (Below.mono (by assumption) ?_) | omega | (dsimp only; omega) | (simp only [drew_heap', drewN_heap', World.size_alloc, World.size_setCell]; omega) | (solve | simp) | (solve | (simp; omega))))))); (have H8 := Lib.hid hs8); clear hs8)
      | (go_at_call 13; first
          | (with_reducible refine (same_true v4 v5 ad _ H4b.out H5.out HWA.out).mono ?_; rintro en w6 ⟨rfl, hb6⟩; (have hz6 := hb6.size); (try simp only [drew_heap', drewN_heap', World.size_alloc] at hz6))
          | (with_reducible refine (same_true v7 v8 d _ H7b.out H8.out HWD.out).mono ?_; rintro en w9 ⟨rfl, hb9⟩; (have hz9 := hb9.size); (try simp only [drew_heap', drewN_heap', World.size_alloc] at hz9))
          | (with_reducible refine (same_true q2 q3 rr _ (HQ2b.out.below (by (repeat (first | with_reducible assumption | with_reducible exact Below.refl _ _ | with_reducible refine Below.setCell ?_ ?_ _ | with_reducible refine Below.alloc ?_ ?_ _ | with_reducible refine below_drewN' ?_ _ | with_reducible refine Below.drew ?_ | with_reducible refine Below.trans ?_ (Below.mono (by assumption) ?_) | omega | (dsimp only; omega) | (simp only [drew_heap', drewN_heap', World.size_alloc, World.size_setCell]; omega) | (solve | simp) | (solve | (simp; omega)))))) (HQ3.out.below (by (repeat (first | with_reducible assumption | with_reducible exact Below.refl _ _ | with_reducible refine Below.setCell ?_ ?_ _ | with_reducible refine Below.alloc ?_ ?_ _ | with_reducible refine below_drewN' ?_ _ | with_reducible refine Below.drew ?_ | with_reducible refine Below.trans ?_ (Below.mono (by assumption) ?_) | omega | (dsimp only; omega) | (simp only [drew_heap', drewN_heap', World.size_alloc, World.size_setCell]; omega) | (solve | simp) | (solve | (simp; omega)))))) HWR.out).mono ?_; rintro en w10 ⟨rfl, hb10⟩; (have hz10 := hb10.size); (try simp only [drew_heap', drewN_heap', World.size_alloc] at hz10)))))
  all_goals
    have hbx : Below w3.heap.size w3 w10 := by (repeat (first | with_reducible assumption | with_reducible exact Below.refl _ _ | with_reducible refine Below.setCell ?_ ?_ _ | with_reducible refine Below.alloc ?_ ?_ _ | with_reducible refine below_drewN' ?_ _ | with_reducible refine Below.drew ?_ | with_reducible refine Below.trans ?_ (Below.mono (by assumption) ?_) | omega | (dsimp only; omega) | (simp only [drew_heap', drewN_heap', World.size_alloc, World.size_setCell]; omega) | (solve | simp) | (solve | (simp; omega))))
    have hbw10 : Below w.heap.size w w10 := hbw3.trans (hbx.mono hbw3.size)
    have HX2c := Lib.hid (HX2b.out.below hbx)
    have HX3c := Lib.hid (HX3.out.below hbx)
    clear hbx
    go_wp2_with (first
      | ((with_reducible refine (ints_true x2 x3 rp _ HX2c.out HX3c.out).mono ?_); rintro e w11 ⟨rfl, hb11⟩; (have hz11 := hb11.size); (have hbw11 : Below w.heap.size w w11 := hbw10.trans (hb11.mono hbw10.size)))
      | (go_at_call 20; with_reducible refine (HR.out _ (HV.out.below hbw11)).mono ?_; rintro e w12 ⟨rfl, hb12⟩; (have hz12 := hb12.size); (have hbw12 : Below w.heap.size w w12 := hbw11.trans (hb12.mono hbw11.size)))
      | (go_at_call 10; with_reducible refine (HR2.out _ (HV.out.below hbw12)).mono ?_; rintro e w13 ⟨rfl, hb13⟩; (have hz13 := hb13.size); (have hbw13 : Below w.heap.size w w13 := hbw12.trans (hb13.mono hbw12.size)))
      | (go_at_call 14; with_reducible refine (HU1.out _).mono ?_; rintro e w14 ⟨rfl, hb14⟩; (have hz14 := hb14.size); (have hbw14 : Below w.heap.size w w14 := hbw13.trans (hb14.mono hbw13.size)))
      | (go_at_call 21; with_reducible refine (HU2.out _).mono ?_; rintro e w15 ⟨rfl, hb15⟩; (have hz15 := hb15.size); (have hbw15 : Below w.heap.size w w15 := hbw14.trans (hb15.mono hbw14.size)))
      | fail)
    go_ret
    exact ⟨by simp, hbw15⟩
end Go.Proofs.Ytndmgbdgcemcmaa
