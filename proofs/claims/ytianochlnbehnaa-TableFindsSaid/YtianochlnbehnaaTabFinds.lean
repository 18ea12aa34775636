/- The laws TableFinds, TableGone, TableNew: their walks. Conditions: what came in is shaped. -/
import Derived.Test.YtianochlnbehnaaTabShown
namespace Go.Proofs.Ytianochlnbehnaa
open Go Go.RowKit Go.Tm
set_option linter.unusedVariables false
set_option linter.unusedSimpArgs false

set_option maxHeartbeats 4000000 in
theorem tableFinds_walk (v : Value) (l : List Prc) (p : Prc) (other : Int) (w : World) (hv : Sl w true 26 v (prs l)) (hby : l.length * 168 ≤ 140737488351232) (hw : ∀ x ∈ l, PrWf x) (hp : PrWf p) :
    Calls Try.prog 3 #[v, prV p, .int .i64 other] w fun e w' => e = .returned (.bool true) ∧ Below w.heap.size w w' := by
  have HV := Lib.hid hv
  have HPUT := Lib.hid (fun W h => put_any v l p W h (by omega))
  have hf1 := fun u W h => find_any u (putS l p) p.pid W h
  have HF2 := Lib.hid (fun u W h => find_any u (putS l p) other W h)
  have HF3 := Lib.hid (fun W h => find_any v l other W h)
  rw [find_put_same] at hf1
  have HF1 := Lib.hid hf1
  clear hf1
  have hln := putS_len l p
  obtain ⟨a, cap, rfl, hl⟩ := hv.shape
  rw [prs_len] at hl HV HPUT HF3 ⊢
  have q0 := prC0 p
  have heq1 := bin_same p hp
  have HVP := Lib.hid (pr_val p)
  have hwl : IntKind.i64.wrap ((l.length : Int) + 1) = l.length + 1 := IntWalk.i64_in _ (by omega)
  have hk63 : (putS l p).length ≤ 9223372036854775807 := by omega
  have hg1 : (l.length : Int) ≤ (putS l p).length := by omega
  have hg2 : ((putS l p).length : Int) ≤ (l.length : Int) + 1 := by omega
  clear hv
  by_cases ho : other = p.pid
  · subst ho
    rw [find_put_same] at HF2
    generalize putS l p = k at *
    generalize findS l p.pid = fx at *
    obtain ⟨x, bx⟩ := fx
    dsimp only at HF1 HF2 HF3
    go_enter Try.func3, Try.ntmps3
    ((go_wp2_with fail); (with_reducible refine (shown_any _).mono ?_); (rintro e w1 ⟨rfl, hb1⟩); (have hz1 := hb1.size); (try simp only [World.size_alloc, World.size_setCell] at hz1))
    (have b1 : Box w1 w.heap.size (prC p) 33 := (by (try have k1 := (Lib.hid True.intro).out); ((apply Box.cast); (repeat (first | with_reducible assumption | ((with_reducible apply Box.new1); (first | with_reducible rfl | rfl | (solve | simp))) | with_reducible apply Box.drewN | with_reducible apply Box.drew | with_reducible apply Box.set | with_reducible apply Box.other | with_reducible apply Box.alloc | (with_reducible apply Box.below; rotate_left; with_reducible assumption; rotate_right) | with_reducible rfl | omega | (dsimp only; omega) | (simp only [drew_heap', drewN_heap', World.size_alloc, World.size_setCell]; omega) | rfl | (solve | simp) | (solve | (simp; omega))))))); (obtain ⟨hc1, hf1, hl1, hn1, hm1⟩ := b1.rules); (have K1 := Lib.hid b1); (clear b1)
    have hbw1 : Below w.heap.size w w1 := by (repeat (first | with_reducible assumption | with_reducible exact Below.refl _ _ | with_reducible refine Below.setCell ?_ ?_ _ | with_reducible refine Below.alloc ?_ ?_ _ | with_reducible refine below_drewN' ?_ _ | with_reducible refine Below.drew ?_ | with_reducible refine Below.trans ?_ (Below.mono (by assumption) ?_) | omega | (dsimp only; omega) | (simp only [drew_heap', drewN_heap', World.size_alloc, World.size_setCell]; omega) | (solve | simp) | (solve | (simp; omega))))
    clear hb1
    go_wp2_with (first | ((with_reducible refine at_ld 33 ?_); (refine wpList_load_boxA rfl 33 _ rfl (prC p) ty_proc (pr_val p) K1.out ?_ ?_; (focus (simp [Act.eval, Act.put])))) | fail)
    with_reducible refine (HPUT.out _ (HV.out.below hbw1)).mono ?_
    rintro e w2 ⟨v2, rfl, hs2, hb2⟩
    have hz2 := hb2.size
    (have b2 : Box w2 w.heap.size (prC p) 33 := (by (try have k2 := K1.out); ((apply Box.cast); (repeat (first | with_reducible assumption | ((with_reducible apply Box.new1); (first | with_reducible rfl | rfl | (solve | simp))) | with_reducible apply Box.drewN | with_reducible apply Box.drew | with_reducible apply Box.set | with_reducible apply Box.other | with_reducible apply Box.alloc | (with_reducible apply Box.below; rotate_left; with_reducible assumption; rotate_right) | with_reducible rfl | omega | (dsimp only; omega) | (simp only [drew_heap', drewN_heap', World.size_alloc, World.size_setCell]; omega) | rfl | (solve | simp) | (solve | (simp; omega))))))); (obtain ⟨hc2, hf2, hl2, hn2, hm2⟩ := b2.rules); (have K2 := Lib.hid b2); (clear b2)
    have hbw2 : Below w.heap.size w w2 := hbw1.trans (hb2.mono hbw1.size)
    have HS2 := Lib.hid hs2
    obtain ⟨a2, cap2, rfl, _⟩ := hs2.shape
    rw [prs_len] at HS2 ⊢
    clear hs2 hb2 hbw1 hc1 hf1 hl1 hn1 hm1
    go_wp2_with fail
    with_reducible refine (HF1.out _ _ HS2.out).mono ?_
    rintro e w3 ⟨rfl, hb3⟩
    have hz3 := hb3.size
    (have b3 : Box w3 w.heap.size (prC p) 33 := (by (try have k3 := K2.out); ((apply Box.cast); (repeat (first | with_reducible assumption | ((with_reducible apply Box.new1); (first | with_reducible rfl | rfl | (solve | simp))) | with_reducible apply Box.drewN | with_reducible apply Box.drew | with_reducible apply Box.set | with_reducible apply Box.other | with_reducible apply Box.alloc | (with_reducible apply Box.below; rotate_left; with_reducible assumption; rotate_right) | with_reducible rfl | omega | (dsimp only; omega) | (simp only [drew_heap', drewN_heap', World.size_alloc, World.size_setCell]; omega) | rfl | (solve | simp) | (solve | (simp; omega))))))); (obtain ⟨hc3, hf3, hl3, hn3, hm3⟩ := b3.rules); (have K3 := Lib.hid b3); (clear b3)
    have hbw3 : Below w.heap.size w w3 := hbw2.trans (hb3.mono hbw2.size)
    have hbx3 : Below w2.heap.size w2 w3 := hb3
    clear hb3 hc2 hf2 hl2 hn2 hm2
    go_wp2_with (first | ((with_reducible refine at_st 33 ?_); (refine wpList_store_freshA rfl 33 _ _ rfl (prC p) ty_proc (pr_val p) (by rfl) ?_ ?_ ?_; (focus (simp [Act.eval, Act.put])); (focus (simp [Act.eval, Act.put])))) | fail)
    with_reducible refine (HF3.out _ (HV.out.below ?_)).mono ?_
    focus (repeat (first | with_reducible assumption | with_reducible exact Below.refl _ _ | with_reducible refine Below.setCell ?_ ?_ _ | with_reducible refine Below.alloc ?_ ?_ _ | with_reducible refine below_drewN' ?_ _ | with_reducible refine Below.drew ?_ | with_reducible refine Below.trans ?_ (Below.mono (by assumption) ?_) | omega | (dsimp only; omega) | (simp only [drew_heap', drewN_heap', World.size_alloc, World.size_setCell]; omega) | (solve | simp) | (solve | (simp; omega))))
    rintro e w4 ⟨rfl, hb4⟩
    have hz4 := hb4.size
    simp only [World.size_alloc] at hz4
    have b43 : Box w4 w3.heap.size (prC p) 33 := (Box.new w3 _ _).below hb4 (by simp)
    (have b4 : Box w4 w.heap.size (prC p) 33 := (by (try have k4 := K3.out); ((apply Box.cast); (repeat (first | with_reducible assumption | ((with_reducible apply Box.new1); (first | with_reducible rfl | rfl | (solve | simp))) | with_reducible apply Box.drewN | with_reducible apply Box.drew | with_reducible apply Box.set | with_reducible apply Box.other | with_reducible apply Box.alloc | (with_reducible apply Box.below; rotate_left; with_reducible assumption; rotate_right) | with_reducible rfl | omega | (dsimp only; omega) | (simp only [drew_heap', drewN_heap', World.size_alloc, World.size_setCell]; omega) | rfl | (solve | simp) | (solve | (simp; omega))))))); (obtain ⟨hc4, hf4, hl4, hn4, hm4⟩ := b4.rules); (have K4 := Lib.hid b4); (clear b4)
    have hbw4 : Below w.heap.size w w4 := by (repeat (first | with_reducible assumption | with_reducible exact Below.refl _ _ | with_reducible refine Below.setCell ?_ ?_ _ | with_reducible refine Below.alloc ?_ ?_ _ | with_reducible refine below_drewN' ?_ _ | with_reducible refine Below.drew ?_ | with_reducible refine Below.trans ?_ (Below.mono (by assumption) ?_) | omega | (dsimp only; omega) | (simp only [drew_heap', drewN_heap', World.size_alloc, World.size_setCell]; omega) | (solve | simp) | (solve | (simp; omega))))
    have hbx4 : Below w2.heap.size w2 w4 := (hbx3.alloc hbx3.size _).trans (hb4.mono (by simp; omega))
    have KQ4 := Lib.hid b43
    clear hb4 hc3 hf3 hl3 hn3 hm3 b43
    go_wp2_with (first | ((with_reducible refine at_st 33 ?_); (refine wpList_store_freshA rfl 33 _ _ rfl (prC x) ty_proc (pr_val x) (by rfl) ?_ ?_ ?_; (focus (simp [Act.eval, Act.put])); (focus (simp [Act.eval, Act.put])))) | fail)
    with_reducible refine (HF2.out _ _ (HS2.out.below (hbx4.alloc hbx4.size _))).mono ?_
    rintro e w5 ⟨rfl, hb5⟩
    have hz5 := hb5.size
    simp only [World.size_alloc] at hz5
    have b54 : Box w5 w4.heap.size (prC x) 33 := (Box.new w4 _ _).below hb5 (by simp)
    have b53 : Box w5 w3.heap.size (prC p) 33 := (KQ4.out.alloc _).below hb5 (by simp; omega)
    (have b5 : Box w5 w.heap.size (prC p) 33 := (by (try have k5 := K4.out); ((apply Box.cast); (repeat (first | with_reducible assumption | ((with_reducible apply Box.new1); (first | with_reducible rfl | rfl | (solve | simp))) | with_reducible apply Box.drewN | with_reducible apply Box.drew | with_reducible apply Box.set | with_reducible apply Box.other | with_reducible apply Box.alloc | (with_reducible apply Box.below; rotate_left; with_reducible assumption; rotate_right) | with_reducible rfl | omega | (dsimp only; omega) | (simp only [drew_heap', drewN_heap', World.size_alloc, World.size_setCell]; omega) | rfl | (solve | simp) | (solve | (simp; omega))))))); (obtain ⟨hc5, hf5, hl5, hn5, hm5⟩ := b5.rules); (have K5 := Lib.hid b5); (clear b5)
    have hbw5 : Below w.heap.size w w5 := by (repeat (first | with_reducible assumption | with_reducible exact Below.refl _ _ | with_reducible refine Below.setCell ?_ ?_ _ | with_reducible refine Below.alloc ?_ ?_ _ | with_reducible refine below_drewN' ?_ _ | with_reducible refine Below.drew ?_ | with_reducible refine Below.trans ?_ (Below.mono (by assumption) ?_) | omega | (dsimp only; omega) | (simp only [drew_heap', drewN_heap', World.size_alloc, World.size_setCell]; omega) | (solve | simp) | (solve | (simp; omega))))
    have KR5 := Lib.hid b54
    have KQ5 := Lib.hid b53
    clear hb5 hc4 hf4 hl4 hn4 hm4 b54 b53 KQ4
    have KP6 := Lib.hid (K5.out.alloc (.cells (prC p) 33))
    have KQ6 := Lib.hid (KQ5.out.alloc (.cells (prC p) 33))
    have KR6 := Lib.hid (KR5.out.alloc (.cells (prC p) 33))
    have KS6 := Lib.hid (Box.new w5 (prC p) 33)
    go_wp2_with (first | ((with_reducible refine at_st 33 ?_); (refine wpList_store_freshA rfl 33 _ _ rfl (prC p) ty_proc (pr_val p) (by rfl) ?_ ?_ ?_; (focus (simp [Act.eval, Act.put])); (focus (simp [Act.eval, Act.put])))) | ((with_reducible refine at_dst (some 43) ?_); (refine wpList_load_boxG 33 _ rfl (prC p) ty_proc (pr_val p) KQ6.out ?_ ?_ ?_; (focus (simp [Act.eval, Act.put])); (focus rfl))) | ((with_reducible refine at_dst (some 44) ?_); (refine wpList_load_boxG 33 _ rfl (prC p) ty_proc (pr_val p) KP6.out ?_ ?_ ?_; (focus (simp [Act.eval, Act.put])); (focus rfl))) | fail)
    go_ret
    exact ⟨by simp, by (repeat (first | with_reducible assumption | with_reducible exact Below.refl _ _ | with_reducible refine Below.setCell ?_ ?_ _ | with_reducible refine Below.alloc ?_ ?_ _ | with_reducible refine below_drewN' ?_ _ | with_reducible refine Below.drew ?_ | with_reducible refine Below.trans ?_ (Below.mono (by assumption) ?_) | omega | (dsimp only; omega) | (simp only [drew_heap', drewN_heap', World.size_alloc, World.size_setCell]; omega) | (solve | simp) | (solve | (simp; omega))))⟩

  · rw [find_put_other l p ho] at HF2
    have hwx := findS_wf hw other
    generalize putS l p = k at *
    generalize findS l other = fx at *
    obtain ⟨x, bx⟩ := fx
    dsimp only at HF1 HF2 HF3 hwx
    have hob : (other == p.pid) = false := by simpa using ho
    have heq2 := bin_same x hwx
    go_enter Try.func3, Try.ntmps3
    ((go_wp2_with fail); (with_reducible refine (shown_any _).mono ?_); (rintro e w1 ⟨rfl, hb1⟩); (have hz1 := hb1.size); (try simp only [World.size_alloc, World.size_setCell] at hz1))
    (have b1 : Box w1 w.heap.size (prC p) 33 := (by (try have k1 := (Lib.hid True.intro).out); ((apply Box.cast); (repeat (first | with_reducible assumption | ((with_reducible apply Box.new1); (first | with_reducible rfl | rfl | (solve | simp))) | with_reducible apply Box.drewN | with_reducible apply Box.drew | with_reducible apply Box.set | with_reducible apply Box.other | with_reducible apply Box.alloc | (with_reducible apply Box.below; rotate_left; with_reducible assumption; rotate_right) | with_reducible rfl | omega | (dsimp only; omega) | (simp only [drew_heap', drewN_heap', World.size_alloc, World.size_setCell]; omega) | rfl | (solve | simp) | (solve | (simp; omega))))))); (obtain ⟨hc1, hf1, hl1, hn1, hm1⟩ := b1.rules); (have K1 := Lib.hid b1); (clear b1)
    have hbw1 : Below w.heap.size w w1 := by (repeat (first | with_reducible assumption | with_reducible exact Below.refl _ _ | with_reducible refine Below.setCell ?_ ?_ _ | with_reducible refine Below.alloc ?_ ?_ _ | with_reducible refine below_drewN' ?_ _ | with_reducible refine Below.drew ?_ | with_reducible refine Below.trans ?_ (Below.mono (by assumption) ?_) | omega | (dsimp only; omega) | (simp only [drew_heap', drewN_heap', World.size_alloc, World.size_setCell]; omega) | (solve | simp) | (solve | (simp; omega))))
    clear hb1
    go_wp2_with (first | ((with_reducible refine at_ld 33 ?_); (refine wpList_load_boxA rfl 33 _ rfl (prC p) ty_proc (pr_val p) K1.out ?_ ?_; (focus (simp [Act.eval, Act.put])))) | fail)
    with_reducible refine (HPUT.out _ (HV.out.below hbw1)).mono ?_
    rintro e w2 ⟨v2, rfl, hs2, hb2⟩
    have hz2 := hb2.size
    (have b2 : Box w2 w.heap.size (prC p) 33 := (by (try have k2 := K1.out); ((apply Box.cast); (repeat (first | with_reducible assumption | ((with_reducible apply Box.new1); (first | with_reducible rfl | rfl | (solve | simp))) | with_reducible apply Box.drewN | with_reducible apply Box.drew | with_reducible apply Box.set | with_reducible apply Box.other | with_reducible apply Box.alloc | (with_reducible apply Box.below; rotate_left; with_reducible assumption; rotate_right) | with_reducible rfl | omega | (dsimp only; omega) | (simp only [drew_heap', drewN_heap', World.size_alloc, World.size_setCell]; omega) | rfl | (solve | simp) | (solve | (simp; omega))))))); (obtain ⟨hc2, hf2, hl2, hn2, hm2⟩ := b2.rules); (have K2 := Lib.hid b2); (clear b2)
    have hbw2 : Below w.heap.size w w2 := hbw1.trans (hb2.mono hbw1.size)
    have HS2 := Lib.hid hs2
    obtain ⟨a2, cap2, rfl, _⟩ := hs2.shape
    rw [prs_len] at HS2 ⊢
    clear hs2 hb2 hbw1 hc1 hf1 hl1 hn1 hm1
    go_wp2_with fail
    with_reducible refine (HF1.out _ _ HS2.out).mono ?_
    rintro e w3 ⟨rfl, hb3⟩
    have hz3 := hb3.size
    (have b3 : Box w3 w.heap.size (prC p) 33 := (by (try have k3 := K2.out); ((apply Box.cast); (repeat (first | with_reducible assumption | ((with_reducible apply Box.new1); (first | with_reducible rfl | rfl | (solve | simp))) | with_reducible apply Box.drewN | with_reducible apply Box.drew | with_reducible apply Box.set | with_reducible apply Box.other | with_reducible apply Box.alloc | (with_reducible apply Box.below; rotate_left; with_reducible assumption; rotate_right) | with_reducible rfl | omega | (dsimp only; omega) | (simp only [drew_heap', drewN_heap', World.size_alloc, World.size_setCell]; omega) | rfl | (solve | simp) | (solve | (simp; omega))))))); (obtain ⟨hc3, hf3, hl3, hn3, hm3⟩ := b3.rules); (have K3 := Lib.hid b3); (clear b3)
    have hbw3 : Below w.heap.size w w3 := hbw2.trans (hb3.mono hbw2.size)
    have hbx3 : Below w2.heap.size w2 w3 := hb3
    clear hb3 hc2 hf2 hl2 hn2 hm2
    go_wp2_with (first | ((with_reducible refine at_st 33 ?_); (refine wpList_store_freshA rfl 33 _ _ rfl (prC p) ty_proc (pr_val p) (by rfl) ?_ ?_ ?_; (focus (simp [Act.eval, Act.put])); (focus (simp [Act.eval, Act.put])))) | fail)
    with_reducible refine (HF3.out _ (HV.out.below ?_)).mono ?_
    focus (repeat (first | with_reducible assumption | with_reducible exact Below.refl _ _ | with_reducible refine Below.setCell ?_ ?_ _ | with_reducible refine Below.alloc ?_ ?_ _ | with_reducible refine below_drewN' ?_ _ | with_reducible refine Below.drew ?_ | with_reducible refine Below.trans ?_ (Below.mono (by assumption) ?_) | omega | (dsimp only; omega) | (simp only [drew_heap', drewN_heap', World.size_alloc, World.size_setCell]; omega) | (solve | simp) | (solve | (simp; omega))))
    rintro e w4 ⟨rfl, hb4⟩
    have hz4 := hb4.size
    simp only [World.size_alloc] at hz4
    have b43 : Box w4 w3.heap.size (prC p) 33 := (Box.new w3 _ _).below hb4 (by simp)
    (have b4 : Box w4 w.heap.size (prC p) 33 := (by (try have k4 := K3.out); ((apply Box.cast); (repeat (first | with_reducible assumption | ((with_reducible apply Box.new1); (first | with_reducible rfl | rfl | (solve | simp))) | with_reducible apply Box.drewN | with_reducible apply Box.drew | with_reducible apply Box.set | with_reducible apply Box.other | with_reducible apply Box.alloc | (with_reducible apply Box.below; rotate_left; with_reducible assumption; rotate_right) | with_reducible rfl | omega | (dsimp only; omega) | (simp only [drew_heap', drewN_heap', World.size_alloc, World.size_setCell]; omega) | rfl | (solve | simp) | (solve | (simp; omega))))))); (obtain ⟨hc4, hf4, hl4, hn4, hm4⟩ := b4.rules); (have K4 := Lib.hid b4); (clear b4)
    have hbw4 : Below w.heap.size w w4 := by (repeat (first | with_reducible assumption | with_reducible exact Below.refl _ _ | with_reducible refine Below.setCell ?_ ?_ _ | with_reducible refine Below.alloc ?_ ?_ _ | with_reducible refine below_drewN' ?_ _ | with_reducible refine Below.drew ?_ | with_reducible refine Below.trans ?_ (Below.mono (by assumption) ?_) | omega | (dsimp only; omega) | (simp only [drew_heap', drewN_heap', World.size_alloc, World.size_setCell]; omega) | (solve | simp) | (solve | (simp; omega))))
    have hbx4 : Below w2.heap.size w2 w4 := (hbx3.alloc hbx3.size _).trans (hb4.mono (by simp; omega))
    have KQ4 := Lib.hid b43
    clear hb4 hc3 hf3 hl3 hn3 hm3 b43
    go_wp2_with (first | ((with_reducible refine at_st 33 ?_); (refine wpList_store_freshA rfl 33 _ _ rfl (prC x) ty_proc (pr_val x) (by rfl) ?_ ?_ ?_; (focus (simp [Act.eval, Act.put])); (focus (simp [Act.eval, Act.put])))) | fail)
    with_reducible refine (HF2.out _ _ (HS2.out.below (hbx4.alloc hbx4.size _))).mono ?_
    rintro e w5 ⟨rfl, hb5⟩
    have hz5 := hb5.size
    simp only [World.size_alloc] at hz5
    have b54 : Box w5 w4.heap.size (prC x) 33 := (Box.new w4 _ _).below hb5 (by simp)
    have b53 : Box w5 w3.heap.size (prC p) 33 := (KQ4.out.alloc _).below hb5 (by simp; omega)
    (have b5 : Box w5 w.heap.size (prC p) 33 := (by (try have k5 := K4.out); ((apply Box.cast); (repeat (first | with_reducible assumption | ((with_reducible apply Box.new1); (first | with_reducible rfl | rfl | (solve | simp))) | with_reducible apply Box.drewN | with_reducible apply Box.drew | with_reducible apply Box.set | with_reducible apply Box.other | with_reducible apply Box.alloc | (with_reducible apply Box.below; rotate_left; with_reducible assumption; rotate_right) | with_reducible rfl | omega | (dsimp only; omega) | (simp only [drew_heap', drewN_heap', World.size_alloc, World.size_setCell]; omega) | rfl | (solve | simp) | (solve | (simp; omega))))))); (obtain ⟨hc5, hf5, hl5, hn5, hm5⟩ := b5.rules); (have K5 := Lib.hid b5); (clear b5)
    have hbw5 : Below w.heap.size w w5 := by (repeat (first | with_reducible assumption | with_reducible exact Below.refl _ _ | with_reducible refine Below.setCell ?_ ?_ _ | with_reducible refine Below.alloc ?_ ?_ _ | with_reducible refine below_drewN' ?_ _ | with_reducible refine Below.drew ?_ | with_reducible refine Below.trans ?_ (Below.mono (by assumption) ?_) | omega | (dsimp only; omega) | (simp only [drew_heap', drewN_heap', World.size_alloc, World.size_setCell]; omega) | (solve | simp) | (solve | (simp; omega))))
    have KR5 := Lib.hid b54
    have KQ5 := Lib.hid b53
    clear hb5 hc4 hf4 hl4 hn4 hm4 b54 b53 KQ4
    have KP6 := Lib.hid (K5.out.alloc (.cells (prC x) 33))
    have KQ6 := Lib.hid (KQ5.out.alloc (.cells (prC x) 33))
    have KR6 := Lib.hid (KR5.out.alloc (.cells (prC x) 33))
    have KS6 := Lib.hid (Box.new w5 (prC x) 33)
    go_wp2_with (first | ((with_reducible refine at_st 33 ?_); (refine wpList_store_freshA rfl 33 _ _ rfl (prC x) ty_proc (pr_val x) (by rfl) ?_ ?_ ?_; (focus (simp [Act.eval, Act.put])); (focus (simp [Act.eval, Act.put])))) | ((with_reducible refine at_dst (some 43) ?_); (refine wpList_load_boxG 33 _ rfl (prC p) ty_proc (pr_val p) KQ6.out ?_ ?_ ?_; (focus (simp [Act.eval, Act.put])); (focus rfl))) | ((with_reducible refine at_dst (some 44) ?_); (refine wpList_load_boxG 33 _ rfl (prC p) ty_proc (pr_val p) KP6.out ?_ ?_ ?_; (focus (simp [Act.eval, Act.put])); (focus rfl))) | ((with_reducible refine at_dst (some 53) ?_); (refine wpList_load_boxG 33 _ rfl (prC x) ty_proc (pr_val x) KR6.out ?_ ?_ ?_; (focus (simp [Act.eval, Act.put])); (focus rfl))) | ((with_reducible refine at_dst (some 54) ?_); (refine wpList_load_boxG 33 _ rfl (prC x) ty_proc (pr_val x) KS6.out ?_ ?_ ?_; (focus (simp [Act.eval, Act.put])); (focus rfl))) | fail)
    go_ret
    exact ⟨by simp, by (repeat (first | with_reducible assumption | with_reducible exact Below.refl _ _ | with_reducible refine Below.setCell ?_ ?_ _ | with_reducible refine Below.alloc ?_ ?_ _ | with_reducible refine below_drewN' ?_ _ | with_reducible refine Below.drew ?_ | with_reducible refine Below.trans ?_ (Below.mono (by assumption) ?_) | omega | (dsimp only; omega) | (simp only [drew_heap', drewN_heap', World.size_alloc, World.size_setCell]; omega) | (solve | simp) | (solve | (simp; omega))))⟩

end Go.Proofs.Ytianochlnbehnaa
