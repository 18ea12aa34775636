/- The law TableActs: its walk. Conditions: what came in is shaped. -/
import Derived.Test.YtianochlnbehnaaTabTwice
import Derived.Test.YtianochlnbehnaaTabAdopts
import Derived.Test.YtianochlnbehnaaLib11
namespace Go.Proofs.Ytianochlnbehnaa
open Go Go.RowKit Go.Tm
set_option linter.unusedVariables false
set_option linter.unusedSimpArgs false

@[irreducible] def inC (v : Value) (p : Prc) (pid to : Int) (u : Value) : Array Value := (v :: ((prC p).toList ++ [.int .i64 pid, .int .i64 to, u])).toArray
theorem inC_eq (v : Value) (p : Prc) (pid to : Int) (u : Value) : inC v p pid to u = (v :: ((prC p).toList ++ [.int .i64 pid, .int .i64 to, u])).toArray := by unfold inC; rfl
theorem inC0 (v : Value) (p : Prc) (pid to : Int) (u : Value) : (inC v p pid to u)[0]? = some v := by simp [inC_eq]
theorem inC27 (v : Value) (p : Prc) (pid to : Int) (u : Value) : (inC v p pid to u)[27]? = some (.int .i64 pid) := by
  rw [inC_eq]; simp only [List.getElem?_toArray, List.getElem?_cons_succ]
  rw [List.getElem?_append_right (by simp [prC_size])]; simp [prC_size]
theorem inC28 (v : Value) (p : Prc) (pid to : Int) (u : Value) : (inC v p pid to u)[28]? = some (.int .i64 to) := by
  rw [inC_eq]; simp only [List.getElem?_toArray, List.getElem?_cons_succ]
  rw [List.getElem?_append_right (by simp [prC_size])]; simp [prC_size]
theorem inC29 (v : Value) (p : Prc) (pid to : Int) (u : Value) : (inC v p pid to u)[29]? = some u := by
  rw [inC_eq]; simp only [List.getElem?_toArray, List.getElem?_cons_succ]
  rw [List.getElem?_append_right (by simp [prC_size])]; simp [prC_size]
theorem inC_cells {W : World} {B : Nat} {T : TypeId} {v : Value} {p : Prc} {pid to : Int} {u : Value} (h : Box W B (inC v p pid to u) T) : Cells W B 1 (prV p).cells.toList := fun j x hx => by
  have hj := (List.getElem?_eq_some_iff.1 hx).1
  have e : (prV p).cells = prC p := rfl
  rw [e] at hx hj
  rw [h.rules.1 (1 + j), inC_eq, List.getElem?_toArray, Nat.add_comm 1 j, List.getElem?_cons_succ, List.getElem?_append_left hj]
  exact hx

theorem refSame_same (v u : Value) (l : List Prc) (w : World) (hv : Sl w true 26 v (prs l)) (hu : Sl w true 26 u (prs l)) (hl : ∀ x ∈ l, PrWf x) :
    Calls Try.prog 23 #[v, u] w fun e w' => e = .returned (.bool true) ∧ Below w.heap.size w w' := by
  have h := refSame_any v u l l w hv hu hl hl
  rwa [decide_eq_true rfl] at h

set_option maxHeartbeats 4000000 in
theorem tableActs_walk (v u : Value) (l m : List Prc) (p : Prc) (pid to : Int) (w : World) (hv : Sl w true 26 v (prs l)) (hu : Sl w true 26 u (prs m)) (hby : l.length * 168 ≤ 140737488351232) (hw : ∀ x ∈ l, PrWf x) (hwm : ∀ x ∈ m, PrWf x) (hp : PrWf p) (hto : (Lit.int .i64 to).wf = true) :
    Calls Try.prog 10 #[.agg (inC v p pid to u)] w fun e w' => e = .returned (.bool true) ∧ Below w.heap.size w w' := by
  have HV := Lib.hid hv
  have HU := Lib.hid hu
  have HF := Lib.hid (fun W h => find_any v l pid W h)
  have HF2 := Lib.hid (fun W h => refFind_any v l pid W h)
  have HD := Lib.hid (fun W h => dead_any v l pid W h)
  have HD2 := Lib.hid (fun W h => refDead_any v l pid W h)
  have HP := Lib.hid (fun W h => put_any v l p W h (by omega))
  have HP2 := Lib.hid (fun W h => refPut_any v l p W h (by omega))
  have HM := Lib.hid (fun W h => remove_any v l pid W h (by omega))
  have HM2 := Lib.hid (fun W h => refRemove_any v l pid W h (by omega))
  have HA := Lib.hid (fun W h => adopt_any v l pid to W h (by omega))
  have HA2 := Lib.hid (fun W h => refAdopt_any v l pid to W h (by omega))
  have HC := Lib.hid (fun W h => children_int v l pid W h (by omega))
  have HC2 := Lib.hid (fun W h => refChildren_any v l pid W h (by omega))
  have HN := Lib.hid (fun W h => next_any v l W h)
  have HN2 := Lib.hid (fun W h => refNext_any v l W h)
  have HR := Lib.hid (fun W h => right_any v l W h)
  have HR2 := Lib.hid (fun W h => refRight_any v l W h)
  have HS := Lib.hid (fun W h h' => same_any v u l m W h h' hw hwm)
  have HS2 := Lib.hid (fun W h h' => refSame_any v u l m W h h' hw hwm)
  have HWP := Lib.hid (show ∀ x ∈ putS l p, PrWf x from fun x hx => by
    rcases putS_mem hx with rfl | hx
    · exact hp
    · exact hw x hx)
  have HWM := Lib.hid (show ∀ x ∈ removeS l pid, PrWf x from fun x hx => hw x (List.mem_filter.1 hx).1)
  have HWA := Lib.hid (show ∀ x ∈ adoptS l pid to, PrWf x from fun x hx => by
    obtain ⟨y, hy, rfl⟩ := List.mem_map.1 hx
    exact adopt1_wf hto (hw y hy))
  have hfw := findS_wf hw pid
  have q0 := inC0 v p pid to u
  have q27 := inC27 v p pid to u
  have q28 := inC28 v p pid to u
  have q29 := inC29 v p pid to u
  have HCE := Lib.hid (inC_cells (Box.new w (inC v p pid to u) 52))
  clear hv hu hw hwm hp
  generalize findS l pid = fx at *
  obtain ⟨x, bx⟩ := fx
  generalize deadS l pid = dx at *
  obtain ⟨d1, d2⟩ := dx
  generalize putS l p = pl at *
  generalize removeS l pid = rl at *
  generalize adoptS l pid to = al at *
  generalize kidI l pid = kl at *
  generalize wrap64 (mostS l + 1) = nx at *
  generalize rightT l = rt at *
  generalize decide (l = m) = sm at *
  generalize inC v p pid to u = ic at *
  dsimp only at HF HF2 HD HD2 hfw
  have hxx := bin_same x hfw
  obtain ⟨a, cap, rfl, hl⟩ := HV.out.shape
  obtain ⟨a2, cap2, rfl, hl2⟩ := HU.out.shape
  simp only [prs_len] at HV HU HF HF2 HD HD2 HP HP2 HM HM2 HA HA2 HC HC2 HN HN2 HR HR2 HS HS2 hl hl2 q0 q29
  go_enter Try.func10, Try.ntmps10
  go_wp2_with (first | ((with_reducible refine at_ld 33 ?_); (refine wpList_load_val rfl 33 _ rfl w.heap.size (1) ?_ (prV p) ty_proc (pr_val p) HCE.out ?_; (focus (solve | simp [Act.eval, Act.put])))) | ((with_reducible refine at_st 33 ?_); (refine wpList_store_freshA rfl 33 _ _ rfl (prC p) ty_proc (pr_val p) (by rfl) ?_ ?_ ?_; (focus (solve | simp [Act.eval, Act.put])); (focus (solve | simp [Act.eval, Act.put])))) | fail)
  ((go_wp2_with fail); (with_reducible refine (shown_any _).mono ?_); (rintro e w1 ⟨rfl, hb1⟩); (have hz1 := hb1.size); (try simp only [World.size_alloc, World.size_setCell] at hz1))
  (have b1 : Box w1 (w.heap.size + 1) (prC p) 33 := (by (try have k1 := (Lib.hid True.intro).out); ((apply Box.cast); (repeat (first | with_reducible assumption | ((with_reducible apply Box.new1); (first | with_reducible rfl | rfl | (solve | simp))) | with_reducible apply Box.drewN | with_reducible apply Box.drew | with_reducible apply Box.set | with_reducible apply Box.other | with_reducible apply Box.alloc | (with_reducible apply Box.below; rotate_left; with_reducible assumption; rotate_right) | with_reducible rfl | omega | (dsimp only; omega) | (simp only [drew_heap', drewN_heap', World.size_alloc, World.size_setCell]; omega) | rfl | (solve | simp) | (solve | (simp; omega))))))); (obtain ⟨hc1, hf1, hl1, hn1, hm1⟩ := b1.rules); (have K1 := Lib.hid b1); (clear b1)
  have hbw1 : Below w.heap.size w w1 := by (repeat (first | with_reducible assumption | with_reducible exact Below.refl _ _ | with_reducible refine Below.setCell ?_ ?_ _ | with_reducible refine Below.alloc ?_ ?_ _ | with_reducible refine below_drewN' ?_ _ | with_reducible refine Below.drew ?_ | with_reducible refine Below.trans ?_ (Below.mono (by assumption) ?_) | omega | (dsimp only; omega) | (simp only [drew_heap', drewN_heap', World.size_alloc, World.size_setCell]; omega) | (solve | simp) | (solve | (simp; omega))))
  clear hb1 hc1 hf1 hl1 hn1 hm1 q0 q27 q28 q29 HCE
  go_wp2_with fail
  with_reducible refine (HF.out _ (HV.out.below hbw1)).mono ?_
  rintro e w2 ⟨rfl, hb2⟩
  have hz2 := hb2.size
  have hbw2 : Below w.heap.size w w2 := hbw1.trans (hb2.mono hbw1.size)
  have KP2 := Lib.hid (K1.out.below hb2 K1.out.lt)
  clear hb2
  go_wp2_with (first | ((with_reducible refine at_st 33 ?_); (refine wpList_store_freshA rfl 33 _ _ rfl (prC x) ty_proc (pr_val x) (by rfl) ?_ ?_ ?_; (focus (solve | simp [Act.eval, Act.put])); (focus (solve | simp [Act.eval, Act.put])))) | fail)
  with_reducible refine (HF2.out _ (HV.out.below (hbw2.alloc hbw2.size _))).mono ?_
  rintro e w3 ⟨rfl, hb3⟩
  have hz3 := hb3.size
  simp only [World.size_alloc] at hz3
  have hbw3 : Below w.heap.size w w3 := by (repeat (first | with_reducible assumption | with_reducible exact Below.refl _ _ | with_reducible refine Below.setCell ?_ ?_ _ | with_reducible refine Below.alloc ?_ ?_ _ | with_reducible refine below_drewN' ?_ _ | with_reducible refine Below.drew ?_ | with_reducible refine Below.trans ?_ (Below.mono (by assumption) ?_) | omega | (dsimp only; omega) | (simp only [drew_heap', drewN_heap', World.size_alloc, World.size_setCell]; omega) | (solve | simp) | (solve | (simp; omega))))
  have KP3 := Lib.hid ((KP2.out.alloc _).below hb3 (Nat.lt_of_lt_of_le KP2.out.lt (by simp)))
  have KX3 := Lib.hid ((Box.new w2 (prC x) 33).below hb3 (by simp))
  clear hb3
  go_wp2_with (first | ((with_reducible refine at_st 33 ?_); (refine wpList_store_freshA rfl 33 _ _ rfl (prC x) ty_proc (pr_val x) (by rfl) ?_ ?_ ?_; (focus (solve | simp [Act.eval, Act.put])); (focus (solve | simp [Act.eval, Act.put])))) | fail)
  with_reducible refine (HD.out _ (HV.out.below (hbw3.alloc hbw3.size _))).mono ?_
  rintro e w4 ⟨rfl, hb4⟩
  have hz4 := hb4.size
  simp only [World.size_alloc] at hz4
  have hbw4 : Below w.heap.size w w4 := by (repeat (first | with_reducible assumption | with_reducible exact Below.refl _ _ | with_reducible refine Below.setCell ?_ ?_ _ | with_reducible refine Below.alloc ?_ ?_ _ | with_reducible refine below_drewN' ?_ _ | with_reducible refine Below.drew ?_ | with_reducible refine Below.trans ?_ (Below.mono (by assumption) ?_) | omega | (dsimp only; omega) | (simp only [drew_heap', drewN_heap', World.size_alloc, World.size_setCell]; omega) | (solve | simp) | (solve | (simp; omega))))
  have KP4 := Lib.hid ((KP3.out.alloc _).below hb4 (Nat.lt_of_lt_of_le KP3.out.lt (by simp)))
  have KX4 := Lib.hid ((KX3.out.alloc _).below hb4 (Nat.lt_of_lt_of_le KX3.out.lt (by simp)))
  have KY4 := Lib.hid ((Box.new w3 (prC x) 33).below hb4 (by simp))
  clear hb4
  go_wp2_with fail
  with_reducible refine (HD2.out _ (HV.out.below hbw4)).mono ?_
  rintro e w5 ⟨rfl, hb5⟩
  have hz5 := hb5.size
  have hbw5 : Below w.heap.size w w5 := hbw4.trans (hb5.mono hbw4.size)
  have KP5 := Lib.hid (KP4.out.below hb5 KP4.out.lt)
  have KX5 := Lib.hid (KX4.out.below hb5 KX4.out.lt)
  have KY5 := Lib.hid (KY4.out.below hb5 KY4.out.lt)
  clear hb5 KP4 KX4 KY4 KP3 KX3 KP2 K1
  go_wp2_with fail
  refine wp_region_held_drew (S := fun W => Box W (w.heap.size + 1) (prC p) 33 ∧ Below w5.heap.size w5 W) (by kernel_rfl) ⟨KP5.out.drew, (Below.refl _ _).drew⟩ (fun hHeld => ?_)
  ((refine wpAnyH_take (i := 0) (oi := ⟨some 54, _, _, _, _, _⟩) (v := ?_) rfl (by kernel_rfl) (by kernel_rfl) (by kernel_rfl) (fun _ _ _ h => h) (Or.inl ⟨by rfl, ?_⟩) (by assumption) ?_); rotate_left; (focus ((intro w hSw); go_simp; (try with_reducible rfl))); (try simp only [Act.put, List.setIfInBounds_toArray, List.set_cons_zero, List.set_cons_succ]))
  ((refine wpAnyH_take (i := 1) (oi := ⟨some 55, _, _, _, _, _⟩) rfl (by kernel_rfl) (by kernel_rfl) (by kernel_rfl) (fun _ _ _ h => h) (yieldsIf_load_box 33 _ rfl (prC p) ty_proc (pr_val p) (by rfl) ?_ (fun w hs => hs.1)) (by assumption) ?_); (focus (solve | simp [Act.eval, Act.put])); (try simp only [Act.put, List.setIfInBounds_toArray, List.set_cons_zero, List.set_cons_succ]))
  ((refine wpAnyH_take (i := 3) (oi := ⟨some 57, _, _, _, _, _⟩) (v := ?_) rfl (by kernel_rfl) (by kernel_rfl) (by kernel_rfl) (fun _ _ _ h => h) (Or.inl ⟨by rfl, ?_⟩) (by assumption) ?_); rotate_left; (focus ((intro w hSw); go_simp; (try with_reducible rfl))); (try simp only [Act.put, List.setIfInBounds_toArray, List.set_cons_zero, List.set_cons_succ]))
  ((refine wpAnyH_take (i := 4) (oi := ⟨some 58, _, _, _, _, _⟩) rfl (by kernel_rfl) (by kernel_rfl) (by kernel_rfl) (fun _ _ _ h => h) (yieldsIf_load_box 33 _ rfl (prC p) ty_proc (pr_val p) (by rfl) ?_ (fun w hs => hs.1)) (by assumption) ?_); (focus (solve | simp [Act.eval, Act.put])); (try simp only [Act.put, List.setIfInBounds_toArray, List.set_cons_zero, List.set_cons_succ]))
  ((refine wpAnyH_ready (rs := [2]) (by kernel_rfl) (by simp) ?_); (refine AllReadyH.cons (o := ⟨some 56, _, _, _, _, _⟩) rfl (fun K hK => ?_) AllReadyH.nil); go_simp; (with_reducible refine (HP.out _ (HV.out.below (by (repeat (first | with_reducible assumption | with_reducible exact Below.refl _ _ | with_reducible refine Below.setCell ?_ ?_ _ | with_reducible refine Below.alloc ?_ ?_ _ | with_reducible refine below_drewN' ?_ _ | with_reducible refine Below.drew ?_ | with_reducible refine Below.trans ?_ (Below.mono (by assumption) ?_) | omega | (dsimp only; omega) | (simp only [drew_heap', drewN_heap', World.size_alloc, World.size_setCell]; omega) | (solve | simp) | (solve | (simp; omega))))))).mono ?_); (rintro en w6 ⟨v6, rfl, hs6, hb6⟩); ((have hz6 := hb6.size); (try simp only [drew_heap', drewN_heap', World.size_alloc] at hz6); (have hbc6 : Below w5.heap.size w5 w6 := (by (repeat (first | with_reducible assumption | with_reducible exact Below.refl _ _ | with_reducible refine Below.setCell ?_ ?_ _ | with_reducible refine Below.alloc ?_ ?_ _ | with_reducible refine below_drewN' ?_ _ | with_reducible refine Below.drew ?_ | with_reducible refine Below.trans ?_ (Below.mono (by assumption) ?_) | omega | (dsimp only; omega) | (simp only [drew_heap', drewN_heap', World.size_alloc, World.size_setCell]; omega) | (solve | simp) | (solve | (simp; omega)))))); (have hbw6 : Below w.heap.size w w6 := hbw5.trans (hbc6.mono hbw5.size)); (have H6 := Lib.hid hs6); (clear hs6)); (try go_wp2_with fail); (refine hK.out _ _ (⟨KP5.out.below hbc6 KP5.out.lt, hbc6⟩) (fun hHeld => ?_)); (clear hK K); (try simp only [Act.put, List.setIfInBounds_toArray, List.set_cons_zero, List.set_cons_succ]))
  ((refine wpAnyH_ready (rs := [5]) (by kernel_rfl) (by simp) ?_); (refine AllReadyH.cons (o := ⟨some 59, _, _, _, _, _⟩) rfl (fun K hK => ?_) AllReadyH.nil); go_simp; (with_reducible refine (HP2.out _ (HV.out.below hbw6)).mono ?_); (rintro en w7 ⟨v7, rfl, hs7, hb7⟩); ((have hz7 := hb7.size); (try simp only [drew_heap', drewN_heap', World.size_alloc] at hz7); (have hbc7 : Below w5.heap.size w5 w7 := (by (repeat (first | with_reducible assumption | with_reducible exact Below.refl _ _ | with_reducible refine Below.setCell ?_ ?_ _ | with_reducible refine Below.alloc ?_ ?_ _ | with_reducible refine below_drewN' ?_ _ | with_reducible refine Below.drew ?_ | with_reducible refine Below.trans ?_ (Below.mono (by assumption) ?_) | omega | (dsimp only; omega) | (simp only [drew_heap', drewN_heap', World.size_alloc, World.size_setCell]; omega) | (solve | simp) | (solve | (simp; omega)))))); (have hbw7 : Below w.heap.size w w7 := hbw5.trans (hbc7.mono hbw5.size)); (have H7 := Lib.hid hs7); (clear hs7)); (try go_wp2_with fail); (refine hK.out _ _ (⟨KP5.out.below hbc7 KP5.out.lt, hbc7⟩) (fun hHeld => ?_)); (clear hK K); (try simp only [Act.put, List.setIfInBounds_toArray, List.set_cons_zero, List.set_cons_succ]))
  have H6b := Lib.hid (H6.out.below hb7)
  clear hb6 hb7
  ((refine wpAnyH_ready (rs := [6]) (by kernel_rfl) (by simp) ?_); (refine AllReadyH.cons (o := ⟨some 60, _, _, _, _, _⟩) rfl (fun K hK => ?_) AllReadyH.nil); go_simp; (with_reducible refine (refSame_same v6 v7 pl _ H6b.out H7.out HWP.out).mono ?_); (rintro en w8 ⟨rfl, hb8⟩); ((have hz8 := hb8.size); (try simp only [drew_heap', drewN_heap', World.size_alloc] at hz8); (have hbc8 : Below w5.heap.size w5 w8 := (by (repeat (first | with_reducible assumption | with_reducible exact Below.refl _ _ | with_reducible refine Below.setCell ?_ ?_ _ | with_reducible refine Below.alloc ?_ ?_ _ | with_reducible refine below_drewN' ?_ _ | with_reducible refine Below.drew ?_ | with_reducible refine Below.trans ?_ (Below.mono (by assumption) ?_) | omega | (dsimp only; omega) | (simp only [drew_heap', drewN_heap', World.size_alloc, World.size_setCell]; omega) | (solve | simp) | (solve | (simp; omega)))))); (have hbw8 : Below w.heap.size w w8 := hbw5.trans (hbc8.mono hbw5.size))); (try go_wp2_with fail); (refine hK.out _ _ (⟨KP5.out.below hbc8 KP5.out.lt, hbc8⟩) (fun hHeld => ?_)); (clear hK K); (try simp only [Act.put, List.setIfInBounds_toArray, List.set_cons_zero, List.set_cons_succ]))
  clear hb8 H6 H6b H7
  ((refine wpAnyH_take (i := 7) (oi := ⟨some 61, _, _, _, _, _⟩) (v := ?_) rfl (by kernel_rfl) (by kernel_rfl) (by kernel_rfl) (fun _ _ _ h => h) (Or.inl ⟨by rfl, ?_⟩) (by assumption) ?_); rotate_left; (focus ((intro w hSw); go_simp; (try with_reducible rfl))); (try simp only [Act.put, List.setIfInBounds_toArray, List.set_cons_zero, List.set_cons_succ]))
  ((refine wpAnyH_take (i := 8) (oi := ⟨some 62, _, _, _, _, _⟩) (v := ?_) rfl (by kernel_rfl) (by kernel_rfl) (by kernel_rfl) (fun _ _ _ h => h) (Or.inl ⟨by rfl, ?_⟩) (by assumption) ?_); rotate_left; (focus ((intro w hSw); go_simp; (try with_reducible rfl))); (try simp only [Act.put, List.setIfInBounds_toArray, List.set_cons_zero, List.set_cons_succ]))
  ((refine wpAnyH_take (i := 9) (oi := ⟨some 63, _, _, _, _, _⟩) (v := ?_) rfl (by kernel_rfl) (by kernel_rfl) (by kernel_rfl) (fun _ _ _ h => h) (Or.inl ⟨by rfl, ?_⟩) (by assumption) ?_); rotate_left; (focus ((intro w hSw); go_simp; (try with_reducible rfl))); (try simp only [Act.put, List.setIfInBounds_toArray, List.set_cons_zero, List.set_cons_succ]))
  ((refine wpAnyH_take (i := 11) (oi := ⟨some 65, _, _, _, _, _⟩) (v := ?_) rfl (by kernel_rfl) (by kernel_rfl) (by kernel_rfl) (fun _ _ _ h => h) (Or.inl ⟨by rfl, ?_⟩) (by assumption) ?_); rotate_left; (focus ((intro w hSw); go_simp; (try with_reducible rfl))); (try simp only [Act.put, List.setIfInBounds_toArray, List.set_cons_zero, List.set_cons_succ]))
  ((refine wpAnyH_take (i := 12) (oi := ⟨some 66, _, _, _, _, _⟩) (v := ?_) rfl (by kernel_rfl) (by kernel_rfl) (by kernel_rfl) (fun _ _ _ h => h) (Or.inl ⟨by rfl, ?_⟩) (by assumption) ?_); rotate_left; (focus ((intro w hSw); go_simp; (try with_reducible rfl))); (try simp only [Act.put, List.setIfInBounds_toArray, List.set_cons_zero, List.set_cons_succ]))
  ((refine wpAnyH_ready (rs := [10]) (by kernel_rfl) (by simp) ?_); (refine AllReadyH.cons (o := ⟨some 64, _, _, _, _, _⟩) rfl (fun K hK => ?_) AllReadyH.nil); go_simp; (with_reducible refine (HM.out _ (HV.out.below hbw8)).mono ?_); (rintro en w9 ⟨v9, rfl, hs9, hb9⟩); ((have hz9 := hb9.size); (try simp only [drew_heap', drewN_heap', World.size_alloc] at hz9); (have hbc9 : Below w5.heap.size w5 w9 := (by (repeat (first | with_reducible assumption | with_reducible exact Below.refl _ _ | with_reducible refine Below.setCell ?_ ?_ _ | with_reducible refine Below.alloc ?_ ?_ _ | with_reducible refine below_drewN' ?_ _ | with_reducible refine Below.drew ?_ | with_reducible refine Below.trans ?_ (Below.mono (by assumption) ?_) | omega | (dsimp only; omega) | (simp only [drew_heap', drewN_heap', World.size_alloc, World.size_setCell]; omega) | (solve | simp) | (solve | (simp; omega)))))); (have hbw9 : Below w.heap.size w w9 := hbw5.trans (hbc9.mono hbw5.size)); (have H9 := Lib.hid hs9); (clear hs9)); (try go_wp2_with fail); (refine hK.out _ _ (⟨KP5.out.below hbc9 KP5.out.lt, hbc9⟩) (fun hHeld => ?_)); (clear hK K); (try simp only [Act.put, List.setIfInBounds_toArray, List.set_cons_zero, List.set_cons_succ]))
  ((refine wpAnyH_ready (rs := [13]) (by kernel_rfl) (by simp) ?_); (refine AllReadyH.cons (o := ⟨some 67, _, _, _, _, _⟩) rfl (fun K hK => ?_) AllReadyH.nil); go_simp; (with_reducible refine (HM2.out _ (HV.out.below hbw9)).mono ?_); (rintro en w10 ⟨v10, rfl, hs10, hb10⟩); ((have hz10 := hb10.size); (try simp only [drew_heap', drewN_heap', World.size_alloc] at hz10); (have hbc10 : Below w5.heap.size w5 w10 := (by (repeat (first | with_reducible assumption | with_reducible exact Below.refl _ _ | with_reducible refine Below.setCell ?_ ?_ _ | with_reducible refine Below.alloc ?_ ?_ _ | with_reducible refine below_drewN' ?_ _ | with_reducible refine Below.drew ?_ | with_reducible refine Below.trans ?_ (Below.mono (by assumption) ?_) | omega | (dsimp only; omega) | (simp only [drew_heap', drewN_heap', World.size_alloc, World.size_setCell]; omega) | (solve | simp) | (solve | (simp; omega)))))); (have hbw10 : Below w.heap.size w w10 := hbw5.trans (hbc10.mono hbw5.size)); (have H10 := Lib.hid hs10); (clear hs10)); (try go_wp2_with fail); (refine hK.out _ _ (⟨KP5.out.below hbc10 KP5.out.lt, hbc10⟩) (fun hHeld => ?_)); (clear hK K); (try simp only [Act.put, List.setIfInBounds_toArray, List.set_cons_zero, List.set_cons_succ]))
  have H9b := Lib.hid (H9.out.below hb10)
  clear hb9 hb10
  ((refine wpAnyH_ready (rs := [14]) (by kernel_rfl) (by simp) ?_); (refine AllReadyH.cons (o := ⟨some 68, _, _, _, _, _⟩) rfl (fun K hK => ?_) AllReadyH.nil); go_simp; (with_reducible refine (refSame_same v9 v10 rl _ H9b.out H10.out HWM.out).mono ?_); (rintro en w11 ⟨rfl, hb11⟩); ((have hz11 := hb11.size); (try simp only [drew_heap', drewN_heap', World.size_alloc] at hz11); (have hbc11 : Below w5.heap.size w5 w11 := (by (repeat (first | with_reducible assumption | with_reducible exact Below.refl _ _ | with_reducible refine Below.setCell ?_ ?_ _ | with_reducible refine Below.alloc ?_ ?_ _ | with_reducible refine below_drewN' ?_ _ | with_reducible refine Below.drew ?_ | with_reducible refine Below.trans ?_ (Below.mono (by assumption) ?_) | omega | (dsimp only; omega) | (simp only [drew_heap', drewN_heap', World.size_alloc, World.size_setCell]; omega) | (solve | simp) | (solve | (simp; omega)))))); (have hbw11 : Below w.heap.size w w11 := hbw5.trans (hbc11.mono hbw5.size))); (try go_wp2_with fail); (refine hK.out _ _ (⟨KP5.out.below hbc11 KP5.out.lt, hbc11⟩) (fun hHeld => ?_)); (clear hK K); (try simp only [Act.put, List.setIfInBounds_toArray, List.set_cons_zero, List.set_cons_succ]))
  clear hb11 H9 H9b H10
  ((refine wpAnyH_take (i := 15) (oi := ⟨some 69, _, _, _, _, _⟩) (v := ?_) rfl (by kernel_rfl) (by kernel_rfl) (by kernel_rfl) (fun _ _ _ h => h) (Or.inl ⟨by rfl, ?_⟩) (by assumption) ?_); rotate_left; (focus ((intro w hSw); go_simp; (try with_reducible rfl))); (try simp only [Act.put, List.setIfInBounds_toArray, List.set_cons_zero, List.set_cons_succ]))
  ((refine wpAnyH_take (i := 16) (oi := ⟨some 70, _, _, _, _, _⟩) (v := ?_) rfl (by kernel_rfl) (by kernel_rfl) (by kernel_rfl) (fun _ _ _ h => h) (Or.inl ⟨by rfl, ?_⟩) (by assumption) ?_); rotate_left; (focus ((intro w hSw); go_simp; (try with_reducible rfl))); (try simp only [Act.put, List.setIfInBounds_toArray, List.set_cons_zero, List.set_cons_succ]))
  ((refine wpAnyH_take (i := 17) (oi := ⟨some 71, _, _, _, _, _⟩) (v := ?_) rfl (by kernel_rfl) (by kernel_rfl) (by kernel_rfl) (fun _ _ _ h => h) (Or.inl ⟨by rfl, ?_⟩) (by assumption) ?_); rotate_left; (focus ((intro w hSw); go_simp; (try with_reducible rfl))); (try simp only [Act.put, List.setIfInBounds_toArray, List.set_cons_zero, List.set_cons_succ]))
  ((refine wpAnyH_take (i := 18) (oi := ⟨some 72, _, _, _, _, _⟩) (v := ?_) rfl (by kernel_rfl) (by kernel_rfl) (by kernel_rfl) (fun _ _ _ h => h) (Or.inl ⟨by rfl, ?_⟩) (by assumption) ?_); rotate_left; (focus ((intro w hSw); go_simp; (try with_reducible rfl))); (try simp only [Act.put, List.setIfInBounds_toArray, List.set_cons_zero, List.set_cons_succ]))
  ((refine wpAnyH_take (i := 19) (oi := ⟨some 73, _, _, _, _, _⟩) (v := ?_) rfl (by kernel_rfl) (by kernel_rfl) (by kernel_rfl) (fun _ _ _ h => h) (Or.inl ⟨by rfl, ?_⟩) (by assumption) ?_); rotate_left; (focus ((intro w hSw); go_simp; (try with_reducible rfl))); (try simp only [Act.put, List.setIfInBounds_toArray, List.set_cons_zero, List.set_cons_succ]))
  ((refine wpAnyH_take (i := 21) (oi := ⟨some 75, _, _, _, _, _⟩) (v := ?_) rfl (by kernel_rfl) (by kernel_rfl) (by kernel_rfl) (fun _ _ _ h => h) (Or.inl ⟨by rfl, ?_⟩) (by assumption) ?_); rotate_left; (focus ((intro w hSw); go_simp; (try with_reducible rfl))); (try simp only [Act.put, List.setIfInBounds_toArray, List.set_cons_zero, List.set_cons_succ]))
  ((refine wpAnyH_take (i := 22) (oi := ⟨some 76, _, _, _, _, _⟩) (v := ?_) rfl (by kernel_rfl) (by kernel_rfl) (by kernel_rfl) (fun _ _ _ h => h) (Or.inl ⟨by rfl, ?_⟩) (by assumption) ?_); rotate_left; (focus ((intro w hSw); go_simp; (try with_reducible rfl))); (try simp only [Act.put, List.setIfInBounds_toArray, List.set_cons_zero, List.set_cons_succ]))
  ((refine wpAnyH_take (i := 23) (oi := ⟨some 77, _, _, _, _, _⟩) (v := ?_) rfl (by kernel_rfl) (by kernel_rfl) (by kernel_rfl) (fun _ _ _ h => h) (Or.inl ⟨by rfl, ?_⟩) (by assumption) ?_); rotate_left; (focus ((intro w hSw); go_simp; (try with_reducible rfl))); (try simp only [Act.put, List.setIfInBounds_toArray, List.set_cons_zero, List.set_cons_succ]))
  ((refine wpAnyH_ready (rs := [20]) (by kernel_rfl) (by simp) ?_); (refine AllReadyH.cons (o := ⟨some 74, _, _, _, _, _⟩) rfl (fun K hK => ?_) AllReadyH.nil); go_simp; (with_reducible refine (HA.out _ (HV.out.below hbw11)).mono ?_); (rintro en w12 ⟨v12, rfl, hs12, hb12⟩); ((have hz12 := hb12.size); (try simp only [drew_heap', drewN_heap', World.size_alloc] at hz12); (have hbc12 : Below w5.heap.size w5 w12 := (by (repeat (first | with_reducible assumption | with_reducible exact Below.refl _ _ | with_reducible refine Below.setCell ?_ ?_ _ | with_reducible refine Below.alloc ?_ ?_ _ | with_reducible refine below_drewN' ?_ _ | with_reducible refine Below.drew ?_ | with_reducible refine Below.trans ?_ (Below.mono (by assumption) ?_) | omega | (dsimp only; omega) | (simp only [drew_heap', drewN_heap', World.size_alloc, World.size_setCell]; omega) | (solve | simp) | (solve | (simp; omega)))))); (have hbw12 : Below w.heap.size w w12 := hbw5.trans (hbc12.mono hbw5.size)); (have H12 := Lib.hid hs12); (clear hs12)); (try go_wp2_with fail); (refine hK.out _ _ (⟨KP5.out.below hbc12 KP5.out.lt, hbc12⟩) (fun hHeld => ?_)); (clear hK K); (try simp only [Act.put, List.setIfInBounds_toArray, List.set_cons_zero, List.set_cons_succ]))
  ((refine wpAnyH_ready (rs := [24]) (by kernel_rfl) (by simp) ?_); (refine AllReadyH.cons (o := ⟨some 78, _, _, _, _, _⟩) rfl (fun K hK => ?_) AllReadyH.nil); go_simp; (with_reducible refine (HA2.out _ (HV.out.below hbw12)).mono ?_); (rintro en w13 ⟨v13, rfl, hs13, hb13⟩); ((have hz13 := hb13.size); (try simp only [drew_heap', drewN_heap', World.size_alloc] at hz13); (have hbc13 : Below w5.heap.size w5 w13 := (by (repeat (first | with_reducible assumption | with_reducible exact Below.refl _ _ | with_reducible refine Below.setCell ?_ ?_ _ | with_reducible refine Below.alloc ?_ ?_ _ | with_reducible refine below_drewN' ?_ _ | with_reducible refine Below.drew ?_ | with_reducible refine Below.trans ?_ (Below.mono (by assumption) ?_) | omega | (dsimp only; omega) | (simp only [drew_heap', drewN_heap', World.size_alloc, World.size_setCell]; omega) | (solve | simp) | (solve | (simp; omega)))))); (have hbw13 : Below w.heap.size w w13 := hbw5.trans (hbc13.mono hbw5.size)); (have H13 := Lib.hid hs13); (clear hs13)); (try go_wp2_with fail); (refine hK.out _ _ (⟨KP5.out.below hbc13 KP5.out.lt, hbc13⟩) (fun hHeld => ?_)); (clear hK K); (try simp only [Act.put, List.setIfInBounds_toArray, List.set_cons_zero, List.set_cons_succ]))
  have H12b := Lib.hid (H12.out.below hb13)
  clear hb12 hb13
  ((refine wpAnyH_ready (rs := [25]) (by kernel_rfl) (by simp) ?_); (refine AllReadyH.cons (o := ⟨some 79, _, _, _, _, _⟩) rfl (fun K hK => ?_) AllReadyH.nil); go_simp; (with_reducible refine (refSame_same v12 v13 al _ H12b.out H13.out HWA.out).mono ?_); (rintro en w14 ⟨rfl, hb14⟩); ((have hz14 := hb14.size); (try simp only [drew_heap', drewN_heap', World.size_alloc] at hz14); (have hbc14 : Below w5.heap.size w5 w14 := (by (repeat (first | with_reducible assumption | with_reducible exact Below.refl _ _ | with_reducible refine Below.setCell ?_ ?_ _ | with_reducible refine Below.alloc ?_ ?_ _ | with_reducible refine below_drewN' ?_ _ | with_reducible refine Below.drew ?_ | with_reducible refine Below.trans ?_ (Below.mono (by assumption) ?_) | omega | (dsimp only; omega) | (simp only [drew_heap', drewN_heap', World.size_alloc, World.size_setCell]; omega) | (solve | simp) | (solve | (simp; omega)))))); (have hbw14 : Below w.heap.size w w14 := hbw5.trans (hbc14.mono hbw5.size))); (try go_wp2_with fail); (refine hK.out _ _ (⟨KP5.out.below hbc14 KP5.out.lt, hbc14⟩) (fun hHeld => ?_)); (clear hK K); (try simp only [Act.put, List.setIfInBounds_toArray, List.set_cons_zero, List.set_cons_succ]))
  clear hb14 H12 H12b H13
  ((refine wpAnyH_take (i := 26) (oi := ⟨some 80, _, _, _, _, _⟩) (v := ?_) rfl (by kernel_rfl) (by kernel_rfl) (by kernel_rfl) (fun _ _ _ h => h) (Or.inl ⟨by rfl, ?_⟩) (by assumption) ?_); rotate_left; (focus ((intro w hSw); go_simp; (try with_reducible rfl))); (try simp only [Act.put, List.setIfInBounds_toArray, List.set_cons_zero, List.set_cons_succ]))
  ((refine wpAnyH_take (i := 27) (oi := ⟨some 17, _, _, _, _, _⟩) (v := ?_) rfl (by kernel_rfl) (by kernel_rfl) (by kernel_rfl) (fun _ _ _ h => h) (Or.inl ⟨by rfl, ?_⟩) (by assumption) ?_); rotate_left; (focus ((intro w hSw); go_simp; (try with_reducible rfl))); (try simp only [Act.put, List.setIfInBounds_toArray, List.set_cons_zero, List.set_cons_succ]))
  refine wpAnyH_done (by kernel_rfl) ?_ _
  have KX14 := Lib.hid (KX5.out.below hbc14 KX5.out.lt)
  have KY14 := Lib.hid (KY5.out.below hbc14 KY5.out.lt)
  go_wp2_with fail
  with_reducible refine (HC.out _ (HV.out.below hbw14)).mono ?_
  rintro e w15 ⟨v15, rfl, ho15, hb15⟩
  have hbw15 : Below w.heap.size w w15 := hbw14.trans (hb15.mono hbw14.size)
  have HO15 := Lib.hid ho15.sl
  clear ho15
  go_wp2_with fail
  with_reducible refine (HC2.out _ (HV.out.below hbw15)).mono ?_
  rintro e w16 ⟨v16, rfl, hs16, hb16⟩
  have hbw16 : Below w.heap.size w w16 := hbw15.trans (hb16.mono hbw15.size)
  have HI17 := Lib.hid (ints_true v15 v16 kl w16 (HO15.out.below hb16) hs16)
  clear hs16
  go_wp2_with fail
  with_reducible refine HI17.out.mono ?_
  rintro e w17 ⟨rfl, hb17⟩
  have hbw17 : Below w.heap.size w w17 := hbw16.trans (hb17.mono hbw16.size)
  have hbe17 : Below w14.heap.size w14 w17 := hb15.trans ((hb16.trans (hb17.mono hb16.size)).mono hb15.size)
  have KX17 := Lib.hid (KX14.out.below hbe17 KX14.out.lt)
  have KY17 := Lib.hid (KY14.out.below hbe17 KY14.out.lt)
  clear hb15 hb16 hb17 hbe17 KX14 KY14
  go_wp2_with (first | ((with_reducible refine at_dst (some 96) ?_); (refine wpList_load_boxG 33 _ rfl (prC x) ty_proc (pr_val x) KX17.out ?_ ?_ ?_; (focus (solve | simp [Act.eval, Act.put])); (focus rfl))) | ((with_reducible refine at_dst (some 97) ?_); (refine wpList_load_boxG 33 _ rfl (prC x) ty_proc (pr_val x) KY17.out ?_ ?_ ?_; (focus (solve | simp [Act.eval, Act.put])); (focus rfl))) | fail)
  with_reducible refine (HN.out _ (HV.out.below hbw17)).mono ?_
  rintro e w18 ⟨rfl, hb18⟩
  have hbw18 : Below w.heap.size w w18 := hbw17.trans (hb18.mono hbw17.size)
  clear hb18
  go_wp2_with fail
  with_reducible refine (HN2.out _ (HV.out.below hbw18)).mono ?_
  rintro e w19 ⟨rfl, hb19⟩
  have hbw19 : Below w.heap.size w w19 := hbw18.trans (hb19.mono hbw18.size)
  clear hb19
  go_wp2_with fail
  with_reducible refine (HR.out _ (HV.out.below hbw19)).mono ?_
  rintro e w20 ⟨rfl, hb20⟩
  have hbw20 : Below w.heap.size w w20 := hbw19.trans (hb20.mono hbw19.size)
  clear hb20
  go_wp2_with fail
  with_reducible refine (HR2.out _ (HV.out.below hbw20)).mono ?_
  rintro e w21 ⟨rfl, hb21⟩
  have hbw21 : Below w.heap.size w w21 := hbw20.trans (hb21.mono hbw20.size)
  clear hb21
  go_wp2_with fail
  with_reducible refine (HS.out _ (HV.out.below hbw21) (HU.out.below hbw21)).mono ?_
  rintro e w22 ⟨rfl, hb22⟩
  have hbw22 : Below w.heap.size w w22 := hbw21.trans (hb22.mono hbw21.size)
  clear hb22
  go_wp2_with fail
  with_reducible refine (HS2.out _ (HV.out.below hbw22) (HU.out.below hbw22)).mono ?_
  rintro e w23 ⟨rfl, hb23⟩
  have hbw23 : Below w.heap.size w w23 := hbw22.trans (hb23.mono hbw22.size)
  clear hb23
  go_wp2_with fail
  go_ret
  exact ⟨by simp, hbw23⟩
end Go.Proofs.Ytianochlnbehnaa
