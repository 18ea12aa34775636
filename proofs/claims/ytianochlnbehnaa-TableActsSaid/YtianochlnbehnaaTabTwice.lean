/- The laws TableTwice, TableStays: their walks. Conditions: what came in is shaped. -/
import Derived.Test.YtianochlnbehnaaTabRef3
import Derived.Test.YtianochlnbehnaaTabSame
namespace Go.Proofs.Ytianochlnbehnaa
open Go Go.RowKit Go.Tm
set_option linter.unusedVariables false
set_option linter.unusedSimpArgs false

theorem putS_twice (l : List Prc) (p : Prc) : putS (putS l p) p = putS l p := by
  rcases putS_cases l p with ⟨i, x, hx, hp, hno, he⟩ | ⟨hno, a, b, hl, he, ha, _⟩
  · have hi := (List.getElem?_eq_some_iff.1 hx).1
    rw [he]
    rw [putS_some (l := l.set i p) (x := p) (i := i) (by rw [List.getElem?_set]; simp [hi]) rfl (fun j y hj hy => by
      rw [List.getElem?_set_ne (by omega)] at hy; exact hno j y hj hy)]
    simp
  · rw [he]
    rw [putS_some (l := a ++ p :: b) (x := p) (i := a.length) (by simp) rfl (fun j y hj hy => by
      rw [List.getElem?_append_left hj] at hy
      have := ha y (List.mem_of_getElem? hy)
      omega)]
    simp
theorem remove_put {l : List Prc} {p : Prc} (h : ∀ x ∈ l, x.pid ≠ p.pid) : removeS (putS l p) p.pid = l := by
  rcases putS_cases l p with ⟨i, x, hx, hp, hno, he⟩ | ⟨hno, a, b, hl, he, ha, _⟩
  · exact absurd hp (h x (List.mem_of_getElem? hx))
  · rw [he]
    unfold removeS
    rw [List.filter_append, List.filter_cons, if_neg (by simp), ← List.filter_append, ← hl]
    exact List.filter_eq_self.2 (fun x hx => by simpa using h x hx)
theorem findS_cases (l : List Prc) (pid : Int) : (findS l pid).2 = true ∨ ((findS l pid).2 = false ∧ ∀ x ∈ l, x.pid ≠ pid) := by
  rcases at_cases l pid with ⟨_, hno⟩ | ⟨i, x, _, hx, hp, hno⟩
  · right; exact ⟨by rw [findS_none hno], hno⟩
  · left; rw [findS_some hx hp hno]

set_option maxHeartbeats 4000000 in
theorem tableTwice_walk (v : Value) (l : List Prc) (p : Prc) (w : World) (hv : Sl w true 26 v (prs l)) (hby : l.length * 168 ≤ 140737488351232) (hw : ∀ x ∈ l, PrWf x) (hp : PrWf p) :
    Calls Try.prog 9 #[v, prV p] w fun e w' => e = .returned (.bool true) ∧ Below w.heap.size w w' := by
  have HV := Lib.hid hv
  have hln := putS_len l p
  have HP1 := Lib.hid (fun W h => put_any v l p W h (by omega))
  have hp2 := fun u W h => put_any u (putS l p) p W h (by omega)
  rw [putS_twice] at hp2
  have HP2 := Lib.hid hp2
  have HF := Lib.hid (fun W h => find_any v l p.pid W h)
  have HR := Lib.hid (fun u W h => remove_any u (putS l p) p.pid W h (by omega))
  have HRM := Lib.hid (fun h => remove_put (l := l) (p := p) h)
  have HWK := Lib.hid (show ∀ x ∈ putS l p, PrWf x from fun x hx => by
    rcases putS_mem hx with rfl | hx
    · exact hp
    · exact hw x hx)
  have HW := Lib.hid hw
  have hfc := findS_cases l p.pid
  obtain ⟨a, cap, rfl, hl⟩ := hv.shape
  rw [prs_len] at hl HV HP1 HF ⊢
  have q0 := prC0 p
  clear hv hp2 hw
  generalize putS l p = k at *
  generalize findS l p.pid = fx at *
  obtain ⟨x, bx⟩ := fx
  dsimp only at HF hfc
  go_enter Try.func9, Try.ntmps9
  ((go_wp2_with fail); (with_reducible refine (shown_any _).mono ?_); (rintro e w1 ⟨rfl, hb1⟩); (have hz1 := hb1.size); (try simp only [World.size_alloc, World.size_setCell] at hz1))
  (have b1 : Box w1 w.heap.size (prC p) 33 := (by (try have k1 := (Lib.hid True.intro).out); ((apply Box.cast); (repeat (first | with_reducible assumption | ((with_reducible apply Box.new1); (first | with_reducible rfl | rfl | (solve | simp))) | with_reducible apply Box.drewN | with_reducible apply Box.drew | with_reducible apply Box.set | with_reducible apply Box.other | with_reducible apply Box.alloc | (with_reducible apply Box.below; rotate_left; with_reducible assumption; rotate_right) | with_reducible rfl | omega | (dsimp only; omega) | (simp only [drew_heap', drewN_heap', World.size_alloc, World.size_setCell]; omega) | rfl | (solve | simp) | (solve | (simp; omega))))))); (obtain ⟨hc1, hf1, hl1, hn1, hm1⟩ := b1.rules); (have K1 := Lib.hid b1); (clear b1)
  have hbw1 : Below w.heap.size w w1 := by (repeat (first | with_reducible assumption | with_reducible exact Below.refl _ _ | with_reducible refine Below.setCell ?_ ?_ _ | with_reducible refine Below.alloc ?_ ?_ _ | with_reducible refine below_drewN' ?_ _ | with_reducible refine Below.drew ?_ | with_reducible refine Below.trans ?_ (Below.mono (by assumption) ?_) | omega | (dsimp only; omega) | (simp only [drew_heap', drewN_heap', World.size_alloc, World.size_setCell]; omega) | (solve | simp) | (solve | (simp; omega))))
  clear hb1
  go_wp2_with (first | ((with_reducible refine at_dst (some 11) ?_); (refine wpList_load_boxG 33 _ rfl (prC p) ty_proc (pr_val p) K1.out ?_ ?_ ?_; (focus (solve | simp [Act.eval, Act.put])); (focus rfl))) | fail)
  with_reducible refine (HP1.out _ (HV.out.below hbw1)).mono ?_
  rintro e w2 ⟨v2, rfl, hs2, hb2⟩
  have hz2 := hb2.size
  (have b2 : Box w2 w.heap.size (prC p) 33 := (by (try have k2 := K1.out); ((apply Box.cast); (repeat (first | with_reducible assumption | ((with_reducible apply Box.new1); (first | with_reducible rfl | rfl | (solve | simp))) | with_reducible apply Box.drewN | with_reducible apply Box.drew | with_reducible apply Box.set | with_reducible apply Box.other | with_reducible apply Box.alloc | (with_reducible apply Box.below; rotate_left; with_reducible assumption; rotate_right) | with_reducible rfl | omega | (dsimp only; omega) | (simp only [drew_heap', drewN_heap', World.size_alloc, World.size_setCell]; omega) | rfl | (solve | simp) | (solve | (simp; omega))))))); (obtain ⟨hc2, hf2, hl2, hn2, hm2⟩ := b2.rules); (have K2 := Lib.hid b2); (clear b2)
  have hbw2 : Below w.heap.size w w2 := hbw1.trans (hb2.mono hbw1.size)
  have HS2 := Lib.hid hs2
  clear hs2 hb2 hbw1 hc1 hf1 hl1 hn1 hm1
  go_wp2_with (first | ((with_reducible refine at_dst (some 14) ?_); (refine wpList_load_boxG 33 _ rfl (prC p) ty_proc (pr_val p) K2.out ?_ ?_ ?_; (focus (solve | simp [Act.eval, Act.put])); (focus rfl))) | fail)
  with_reducible refine (HP2.out _ _ HS2.out).mono ?_
  rintro e w3 ⟨v3, rfl, hs3, hb3⟩
  have hz3 := hb3.size
  (have b3 : Box w3 w.heap.size (prC p) 33 := (by (try have k3 := K2.out); ((apply Box.cast); (repeat (first | with_reducible assumption | ((with_reducible apply Box.new1); (first | with_reducible rfl | rfl | (solve | simp))) | with_reducible apply Box.drewN | with_reducible apply Box.drew | with_reducible apply Box.set | with_reducible apply Box.other | with_reducible apply Box.alloc | (with_reducible apply Box.below; rotate_left; with_reducible assumption; rotate_right) | with_reducible rfl | omega | (dsimp only; omega) | (simp only [drew_heap', drewN_heap', World.size_alloc, World.size_setCell]; omega) | rfl | (solve | simp) | (solve | (simp; omega))))))); (obtain ⟨hc3, hf3, hl3, hn3, hm3⟩ := b3.rules); (have K3 := Lib.hid b3); (clear b3)
  have hbw3 : Below w.heap.size w w3 := hbw2.trans (hb3.mono hbw2.size)
  have HS3 := Lib.hid hs3
  have HSM := Lib.hid (same_any v3 v2 k k w3 hs3 (HS2.out.below hb3) HWK.out HWK.out)
  have HK3 := Lib.hid (HS2.out.below hb3)
  rw [decide_eq_true rfl] at HSM
  clear hs3 hb3 hc2 hf2 hl2 hn2 hm2 hbw2
  go_wp2_with fail
  with_reducible refine HSM.out.mono ?_
  rintro e w4 ⟨rfl, hb4⟩
  have hz4 := hb4.size
  (have b4 : Box w4 w.heap.size (prC p) 33 := (by (try have k4 := K3.out); ((apply Box.cast); (repeat (first | with_reducible assumption | ((with_reducible apply Box.new1); (first | with_reducible rfl | rfl | (solve | simp))) | with_reducible apply Box.drewN | with_reducible apply Box.drew | with_reducible apply Box.set | with_reducible apply Box.other | with_reducible apply Box.alloc | (with_reducible apply Box.below; rotate_left; with_reducible assumption; rotate_right) | with_reducible rfl | omega | (dsimp only; omega) | (simp only [drew_heap', drewN_heap', World.size_alloc, World.size_setCell]; omega) | rfl | (solve | simp) | (solve | (simp; omega))))))); (obtain ⟨hc4, hf4, hl4, hn4, hm4⟩ := b4.rules); (have K4 := Lib.hid b4); (clear b4)
  have hbw4 : Below w.heap.size w w4 := hbw3.trans (hb4.mono hbw3.size)
  have HK4 := Lib.hid (HK3.out.below hb4)
  clear hb4 hc3 hf3 hl3 hn3 hm3 hbw3
  go_wp2_with fail
  with_reducible refine (HF.out _ (HV.out.below hbw4)).mono ?_
  rintro e w5 ⟨rfl, hb5⟩
  have hz5 := hb5.size
  (have b5 : Box w5 w.heap.size (prC p) 33 := (by (try have k5 := K4.out); ((apply Box.cast); (repeat (first | with_reducible assumption | ((with_reducible apply Box.new1); (first | with_reducible rfl | rfl | (solve | simp))) | with_reducible apply Box.drewN | with_reducible apply Box.drew | with_reducible apply Box.set | with_reducible apply Box.other | with_reducible apply Box.alloc | (with_reducible apply Box.below; rotate_left; with_reducible assumption; rotate_right) | with_reducible rfl | omega | (dsimp only; omega) | (simp only [drew_heap', drewN_heap', World.size_alloc, World.size_setCell]; omega) | rfl | (solve | simp) | (solve | (simp; omega))))))); (obtain ⟨hc5, hf5, hl5, hn5, hm5⟩ := b5.rules); (have K5 := Lib.hid b5); (clear b5)
  have hbw5 : Below w.heap.size w w5 := hbw4.trans (hb5.mono hbw4.size)
  have HK5 := Lib.hid (HK4.out.below hb5)
  clear hb5 hc4 hf4 hl4 hn4 hm4 hbw4
  rcases hfc with rfl | ⟨rfl, hno⟩
  · go_wp2_with (first | ((with_reducible refine at_st 33 ?_); (refine wpList_store_freshA rfl 33 _ _ rfl (prC x) ty_proc (pr_val x) (by rfl) ?_ ?_ ?_; (focus (solve | simp [Act.eval, Act.put])); (focus (solve | simp [Act.eval, Act.put])))) | fail)
    go_ret
    exact ⟨by simp, by (repeat (first | with_reducible assumption | with_reducible exact Below.refl _ _ | with_reducible refine Below.setCell ?_ ?_ _ | with_reducible refine Below.alloc ?_ ?_ _ | with_reducible refine below_drewN' ?_ _ | with_reducible refine Below.drew ?_ | with_reducible refine Below.trans ?_ (Below.mono (by assumption) ?_) | omega | (dsimp only; omega) | (simp only [drew_heap', drewN_heap', World.size_alloc, World.size_setCell]; omega) | (solve | simp) | (solve | (simp; omega))))⟩
  · rw [HRM.out hno] at HR
    clear hno
    go_wp2_with (first | ((with_reducible refine at_st 33 ?_); (refine wpList_store_freshA rfl 33 _ _ rfl (prC x) ty_proc (pr_val x) (by rfl) ?_ ?_ ?_; (focus (solve | simp [Act.eval, Act.put])); (focus (solve | simp [Act.eval, Act.put])))) | fail)
    have hbw6 : Below w5.heap.size w5 (w5.alloc (.cells (prC x) 33)) := (Below.refl _ _).alloc (Nat.le_refl _) _
    with_reducible refine (HR.out _ _ (HK5.out.below hbw6)).mono ?_
    rintro e w7 ⟨v7, rfl, hs7, hb7⟩
    have hz7 := hb7.size
    simp only [World.size_alloc] at hz7
    have hbw7 : Below w.heap.size w w7 := hbw5.trans ((hbw6.trans (hb7.mono (by simp))).mono hbw5.size)
    have HSN := Lib.hid (same_any v7 (.slice a l.length cap) l l w7 hs7 (HV.out.below hbw7) HW.out HW.out)
    rw [decide_eq_true rfl] at HSN
    clear hs7
    go_wp2_with fail
    with_reducible refine HSN.out.mono ?_
    rintro e w8 ⟨rfl, hb8⟩
    go_wp2_with fail
    go_ret
    exact ⟨by simp, hbw7.trans (hb8.mono hbw7.size)⟩

def RightN (ps : List Int) : Prop := (∀ x ∈ ps, 1 ≤ x) ∧ ps.Pairwise (· < ·)
theorem right_iff (l : List Prc) : RightT l ↔ RightN (l.map (·.pid)) := by
  constructor
  · intro h
    refine ⟨fun x hx => ?_, ?_⟩
    · obtain ⟨y, hy, rfl⟩ := List.mem_map.1 hx
      obtain ⟨i, hi, rfl⟩ := List.getElem_of_mem hy
      exact right_pos h i _ (List.getElem?_eq_getElem hi)
    · rw [List.pairwise_iff_getElem]
      intro i j hi hj hij
      simp only [List.length_map] at hi hj
      simp only [List.getElem_map]
      induction j with
      | zero => omega
      | succ j ih =>
        have h1 := h (j + 1) _ (List.getElem?_eq_getElem hj)
        simp only [lastP, List.getElem?_eq_getElem (show j < l.length by omega)] at h1
        rcases Nat.lt_succ_iff_lt_or_eq.1 hij with hlt | rfl
        · have := ih (by omega) hlt
          omega
        · exact h1
  · rintro ⟨h1, h2⟩ i x hx
    have hi := (List.getElem?_eq_some_iff.1 hx).1
    rw [List.getElem?_eq_getElem hi] at hx
    cases hx
    cases i with
    | zero =>
      have := h1 (l[0].pid) (List.mem_map_of_mem (List.getElem_mem _))
      simp only [lastP]; omega
    | succ i =>
      rw [List.pairwise_iff_getElem] at h2
      have := h2 i (i + 1) (by simp; omega) (by simpa using hi) (by omega)
      simp only [List.getElem_map] at this
      simp only [lastP, List.getElem?_eq_getElem (show i < l.length by omega)]
      exact this
theorem right_adopt {l : List Prc} (h : RightT l) (a b : Int) : RightT (adoptS l a b) := by
  rw [right_iff] at h ⊢
  have e : (adoptS l a b).map (·.pid) = l.map (·.pid) := by
    unfold adoptS
    rw [List.map_map]
    refine List.map_congr_left fun x _ => ?_
    simp only [Function.comp, adopt1]
    split <;> rfl
  rw [e]; exact h
theorem right_remove {l : List Prc} (h : RightT l) (pid : Int) : RightT (removeS l pid) := by
  rw [right_iff] at h ⊢
  have hs : ((removeS l pid).map (·.pid)).Sublist (l.map (·.pid)) := List.filter_sublist.map _
  exact ⟨fun x hx => h.1 x (hs.subset hx), h.2.sublist hs⟩
theorem right_put {l : List Prc} (h : RightT l) {p : Prc} (hp : 1 ≤ p.pid) : RightT (putS l p) := by
  rw [right_iff] at h ⊢
  rcases putS_cases l p with ⟨i, x, hx, hpx, hno, he⟩ | ⟨hno, a, b, hl, he, ha, hb⟩
  · have e : (l.set i p).map (·.pid) = l.map (·.pid) := by
      rw [List.map_set]
      exact set_self (by rw [List.getElem?_map, hx, ← hpx]; rfl)
    rw [he, e]; exact h
  · rw [hl, List.map_append] at h
    rw [he, List.map_append, List.map_cons]
    obtain ⟨h1, h2⟩ := h
    rw [List.pairwise_append] at h2
    obtain ⟨h3, h4, h5⟩ := h2
    have hb' : ∀ y ∈ b.map (·.pid), p.pid < y := by
      cases b with
      | nil => simp
      | cons z r =>
        have hz := hb z rfl
        rw [List.map_cons, List.pairwise_cons] at h4
        intro y hy
        rcases List.mem_cons.1 hy with rfl | hy
        · exact hz
        · have := h4.1 y hy; omega
    have ha' : ∀ y ∈ a.map (·.pid), y < p.pid := by
      intro y hy
      obtain ⟨z, hz, rfl⟩ := List.mem_map.1 hy
      exact ha z hz
    refine ⟨fun y hy => ?_, ?_⟩
    · simp only [List.mem_append, List.mem_cons] at hy
      rcases hy with hy | rfl | hy
      · exact h1 y (List.mem_append_left _ hy)
      · exact hp
      · exact h1 y (List.mem_append_right _ hy)
    · rw [List.pairwise_append, List.pairwise_cons]
      refine ⟨h3, ⟨hb', h4⟩, fun y hy z hz => ?_⟩
      rcases List.mem_cons.1 hz with rfl | hz
      · exact ha' y hy
      · exact h5 y hy z hz

set_option maxHeartbeats 4000000 in
theorem tableStays_walk (v : Value) (l : List Prc) (p : Prc) (pid : Int) (w : World) (hv : Sl w true 26 v (prs l)) (hby : l.length * 168 ≤ 140737488351232) :
    Calls Try.prog 8 #[v, prV p, .int .i64 pid] w fun e w' => e = .returned (.bool true) ∧ Below w.heap.size w w' := by
  have HV := Lib.hid hv
  have hr0 := fun W h => refRight_any v l W h
  have HP := Lib.hid (fun W h => put_any v l p W h (by omega))
  have hrp := fun u W h => refRight_any u (putS l p) W h
  have HM := Lib.hid (fun W h => remove_any v l pid W h (by omega))
  have hrm := fun u W h => refRight_any u (removeS l pid) W h
  have HA := Lib.hid (fun W h => adopt_any v l pid 1 W h (by omega))
  have hra := fun u W h => refRight_any u (adoptS l pid 1) W h
  obtain ⟨a, cap, rfl, hl⟩ := hv.shape
  rw [prs_len] at hl HV HP HM HA hr0 ⊢
  have q0 := prC0 p
  clear hv
  by_cases hr : RightT l
  · rw [rightT_true hr] at hr0
    rw [rightT_true (right_remove hr pid)] at hrm
    rw [rightT_true (right_adopt hr pid 1)] at hra
    have HR0 := Lib.hid hr0
    have HRM := Lib.hid hrm
    have HRA := Lib.hid hra
    have HRP := Lib.hid (show 1 ≤ p.pid → ∀ u W, Sl W true 26 u (prs (putS l p)) → Calls Try.prog 19 #[u] W fun e w' => e = .returned (.bool true) ∧ Below W.heap.size W w' from fun h u W hs => by
      have := hrp u W hs
      rwa [rightT_true (right_put hr h)] at this)
    clear hr0 hrm hra hrp hr
    generalize putS l p = k at *
    generalize removeS l pid = d at *
    generalize adoptS l pid 1 = ad at *
    go_enter Try.func8, Try.ntmps8
    ((go_wp2_with fail); (with_reducible refine (shown_any _).mono ?_); (rintro e w1 ⟨rfl, hb1⟩); (have hz1 := hb1.size); (try simp only [World.size_alloc, World.size_setCell] at hz1))
    (have b1 : Box w1 w.heap.size (prC p) 33 := (by (try have k1 := (Lib.hid True.intro).out); ((apply Box.cast); (repeat (first | with_reducible assumption | ((with_reducible apply Box.new1); (first | with_reducible rfl | rfl | (solve | simp))) | with_reducible apply Box.drewN | with_reducible apply Box.drew | with_reducible apply Box.set | with_reducible apply Box.other | with_reducible apply Box.alloc | (with_reducible apply Box.below; rotate_left; with_reducible assumption; rotate_right) | with_reducible rfl | omega | (dsimp only; omega) | (simp only [drew_heap', drewN_heap', World.size_alloc, World.size_setCell]; omega) | rfl | (solve | simp) | (solve | (simp; omega))))))); (obtain ⟨hc1, hf1, hl1, hn1, hm1⟩ := b1.rules); (have K1 := Lib.hid b1); (clear b1)
    have hbw1 : Below w.heap.size w w1 := by (repeat (first | with_reducible assumption | with_reducible exact Below.refl _ _ | with_reducible refine Below.setCell ?_ ?_ _ | with_reducible refine Below.alloc ?_ ?_ _ | with_reducible refine below_drewN' ?_ _ | with_reducible refine Below.drew ?_ | with_reducible refine Below.trans ?_ (Below.mono (by assumption) ?_) | omega | (dsimp only; omega) | (simp only [drew_heap', drewN_heap', World.size_alloc, World.size_setCell]; omega) | (solve | simp) | (solve | (simp; omega))))
    clear hb1
    go_wp2_with fail
    with_reducible refine (HR0.out _ (HV.out.below hbw1)).mono ?_
    rintro e w2 ⟨rfl, hb2⟩
    have hz2 := hb2.size
    (have b2 : Box w2 w.heap.size (prC p) 33 := (by (try have k2 := K1.out); ((apply Box.cast); (repeat (first | with_reducible assumption | ((with_reducible apply Box.new1); (first | with_reducible rfl | rfl | (solve | simp))) | with_reducible apply Box.drewN | with_reducible apply Box.drew | with_reducible apply Box.set | with_reducible apply Box.other | with_reducible apply Box.alloc | (with_reducible apply Box.below; rotate_left; with_reducible assumption; rotate_right) | with_reducible rfl | omega | (dsimp only; omega) | (simp only [drew_heap', drewN_heap', World.size_alloc, World.size_setCell]; omega) | rfl | (solve | simp) | (solve | (simp; omega))))))); (obtain ⟨hc2, hf2, hl2, hn2, hm2⟩ := b2.rules); (have K2 := Lib.hid b2); (clear b2)
    have hbw2 : Below w.heap.size w w2 := hbw1.trans (hb2.mono hbw1.size)
    clear hb2 hbw1 hc1 hf1 hl1 hn1 hm1
    by_cases h1 : p.pid < 1
    · have hd1 : decide (p.pid < 1) = true := by simpa using h1
      go_wp2_with fail
      with_reducible refine (HM.out _ (HV.out.below hbw2)).mono ?_
      rintro e w3 ⟨v3, rfl, hs3, hb3⟩
      have hbw3 : Below w.heap.size w w3 := hbw2.trans (hb3.mono hbw2.size)
      have HS3 := Lib.hid hs3
      clear hs3 hb3
      go_wp2_with fail
      with_reducible refine (HRM.out _ _ HS3.out).mono ?_
      rintro e w4 ⟨rfl, hb4⟩
      have hbw4 : Below w.heap.size w w4 := hbw3.trans (hb4.mono hbw3.size)
      clear hb4
      go_wp2_with fail
      with_reducible refine (HA.out _ (HV.out.below hbw4)).mono ?_
      rintro e w5 ⟨v5, rfl, hs5, hb5⟩
      have hbw5 : Below w.heap.size w w5 := hbw4.trans (hb5.mono hbw4.size)
      have HS5 := Lib.hid hs5
      clear hs5 hb5
      go_wp2_with fail
      with_reducible refine (HRA.out _ _ HS5.out).mono ?_
      rintro e w6 ⟨rfl, hb6⟩
      go_wp2_with fail
      go_ret
      exact ⟨by simp, hbw5.trans (hb6.mono hbw5.size)⟩
    · have hd1 : decide (p.pid < 1) = false := by simpa using h1
      have hrp := HRP.out (by omega)
      have HRQ := Lib.hid hrp
      clear hrp
      go_wp2_with (first | ((with_reducible refine at_dst (some 21) ?_); (refine wpList_load_boxG 33 _ rfl (prC p) ty_proc (pr_val p) K2.out ?_ ?_ ?_; (focus (solve | simp [Act.eval, Act.put])); (focus rfl))) | fail)
      with_reducible refine (HP.out _ (HV.out.below hbw2)).mono ?_
      rintro e w7 ⟨v7, rfl, hs7, hb7⟩
      have hbw7 : Below w.heap.size w w7 := hbw2.trans (hb7.mono hbw2.size)
      have HS7 := Lib.hid hs7
      clear hs7 hb7
      go_wp2_with fail
      with_reducible refine (HRQ.out _ _ HS7.out).mono ?_
      rintro e w8 ⟨rfl, hb8⟩
      have hbw8 : Below w.heap.size w w8 := hbw7.trans (hb8.mono hbw7.size)
      clear hb8
      go_wp2_with fail
      with_reducible refine (HM.out _ (HV.out.below hbw8)).mono ?_
      rintro e w3 ⟨v3, rfl, hs3, hb3⟩
      have hbw3 : Below w.heap.size w w3 := hbw8.trans (hb3.mono hbw8.size)
      have HS3 := Lib.hid hs3
      clear hs3 hb3
      go_wp2_with fail
      with_reducible refine (HRM.out _ _ HS3.out).mono ?_
      rintro e w4 ⟨rfl, hb4⟩
      have hbw4 : Below w.heap.size w w4 := hbw3.trans (hb4.mono hbw3.size)
      clear hb4
      go_wp2_with fail
      with_reducible refine (HA.out _ (HV.out.below hbw4)).mono ?_
      rintro e w5 ⟨v5, rfl, hs5, hb5⟩
      have hbw5 : Below w.heap.size w w5 := hbw4.trans (hb5.mono hbw4.size)
      have HS5 := Lib.hid hs5
      clear hs5 hb5
      go_wp2_with fail
      with_reducible refine (HRA.out _ _ HS5.out).mono ?_
      rintro e w6 ⟨rfl, hb6⟩
      go_wp2_with fail
      go_ret
      exact ⟨by simp, hbw5.trans (hb6.mono hbw5.size)⟩
  · rw [rightT_false hr] at hr0
    have HR0 := Lib.hid hr0
    clear hr0 hrp hrm hra
    go_enter Try.func8, Try.ntmps8
    ((go_wp2_with fail); (with_reducible refine (shown_any _).mono ?_); (rintro e w1 ⟨rfl, hb1⟩); (have hz1 := hb1.size); (try simp only [World.size_alloc, World.size_setCell] at hz1))
    have hbw1 : Below w.heap.size w w1 := by (repeat (first | with_reducible assumption | with_reducible exact Below.refl _ _ | with_reducible refine Below.setCell ?_ ?_ _ | with_reducible refine Below.alloc ?_ ?_ _ | with_reducible refine below_drewN' ?_ _ | with_reducible refine Below.drew ?_ | with_reducible refine Below.trans ?_ (Below.mono (by assumption) ?_) | omega | (dsimp only; omega) | (simp only [drew_heap', drewN_heap', World.size_alloc, World.size_setCell]; omega) | (solve | simp) | (solve | (simp; omega))))
    clear hb1
    go_wp2_with fail
    with_reducible refine (HR0.out _ (HV.out.below hbw1)).mono ?_
    rintro e w2 ⟨rfl, hb2⟩
    go_wp2_with fail
    go_ret
    exact ⟨by simp, hbw1.trans (hb2.mono hbw1.size)⟩
end Go.Proofs.Ytianochlnbehnaa
