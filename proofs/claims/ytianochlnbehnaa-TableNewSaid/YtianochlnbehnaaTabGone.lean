/- The laws TableGone, TableNew: their walks. Conditions: what came in is shaped. -/
import Derived.Test.YtianochlnbehnaaTabShown
namespace Go.Proofs.Ytianochlnbehnaa
open Go Go.RowKit Go.Tm
set_option linter.unusedVariables false
set_option linter.unusedSimpArgs false

set_option maxHeartbeats 4000000 in
theorem tableGone_walk (v : Value) (l : List Prc) (pid other : Int) (w : World) (hv : Sl w true 26 v (prs l)) (hby : l.length * 168 ≤ 140737488351232) (hw : ∀ x ∈ l, PrWf x) :
    Calls Try.prog 6 #[v, .int .i64 pid, .int .i64 other] w fun e w' => e = .returned (.bool true) ∧ Below w.heap.size w w' := by
  have HV := Lib.hid hv
  have HREM := Lib.hid (fun W h => remove_any v l pid W h (by omega))
  have hf1 := fun u W h => find_any u (removeS l pid) pid W h
  have HF2 := Lib.hid (fun u W h => find_any u (removeS l pid) other W h)
  have HF3 := Lib.hid (fun W h => find_any v l other W h)
  rw [find_remove_same] at hf1
  have HF1 := Lib.hid hf1
  have hle := removeS_le l pid
  clear hf1
  obtain ⟨a, cap, rfl, hl⟩ := hv.shape
  rw [prs_len] at hl HV HREM HF3 ⊢
  clear hv
  by_cases ho : other = pid
  · subst ho
    rw [find_remove_same] at HF2
    generalize removeS l other = k at *
    generalize findS l other = fx at *
    obtain ⟨x, bx⟩ := fx
    dsimp only at HF1 HF2 HF3
    go_enter Try.func6, Try.ntmps6
    ((go_wp2_with fail); (with_reducible refine (shown_any _).mono ?_); (rintro e w1 ⟨rfl, hb1⟩); (have hz1 := hb1.size); (try simp only [World.size_alloc, World.size_setCell] at hz1))
    have hbw1 : Below w.heap.size w w1 := by (repeat (first | with_reducible assumption | with_reducible exact Below.refl _ _ | with_reducible refine Below.setCell ?_ ?_ _ | with_reducible refine Below.alloc ?_ ?_ _ | with_reducible refine below_drewN' ?_ _ | with_reducible refine Below.drew ?_ | with_reducible refine Below.trans ?_ (Below.mono (by assumption) ?_) | omega | (dsimp only; omega) | (simp only [drew_heap', drewN_heap', World.size_alloc, World.size_setCell]; omega) | (solve | simp) | (solve | (simp; omega))))
    go_wp2_with fail
    with_reducible refine (HREM.out _ (HV.out.below hbw1)).mono ?_
    rintro e w2 ⟨v2, rfl, hs2, hb2⟩
    have hz2 := hb2.size
    have hbw2 : Below w.heap.size w w2 := hbw1.trans (hb2.mono hbw1.size)
    have HS2 := Lib.hid hs2
    obtain ⟨a2, cap2, rfl, _⟩ := hs2.shape
    rw [prs_len] at HS2 ⊢
    clear hs2 hb2 hbw1
    go_wp2_with fail
    with_reducible refine (HF1.out _ _ HS2.out).mono ?_
    rintro e w3 ⟨rfl, hb3⟩
    have hz3 := hb3.size
    have hbw3 : Below w.heap.size w w3 := hbw2.trans (hb3.mono hbw2.size)
    have hbx3 : Below w2.heap.size w2 w3 := hb3
    clear hb3
    go_wp2_with (first | ((with_reducible refine at_st 33 ?_); (refine wpList_store_freshA rfl 33 _ _ rfl (prC (oneP 0)) ty_proc (pr_val (oneP 0)) (by rfl) ?_ ?_ ?_; (focus (solve | simp [Act.eval, Act.put])); (focus (solve | simp [Act.eval, Act.put])))) | fail)
    with_reducible refine (HF3.out _ (HV.out.below (hbw3.alloc hbw3.size _))).mono ?_
    rintro e w4 ⟨rfl, hb4⟩
    have hz4 := hb4.size
    simp only [World.size_alloc] at hz4
    have hbw4 : Below w.heap.size w w4 := by (repeat (first | with_reducible assumption | with_reducible exact Below.refl _ _ | with_reducible refine Below.setCell ?_ ?_ _ | with_reducible refine Below.alloc ?_ ?_ _ | with_reducible refine below_drewN' ?_ _ | with_reducible refine Below.drew ?_ | with_reducible refine Below.trans ?_ (Below.mono (by assumption) ?_) | omega | (dsimp only; omega) | (simp only [drew_heap', drewN_heap', World.size_alloc, World.size_setCell]; omega) | (solve | simp) | (solve | (simp; omega))))
    have hbx4 : Below w2.heap.size w2 w4 := (hbx3.alloc hbx3.size _).trans (hb4.mono (by simp; omega))
    clear hb4
    go_wp2_with (first | ((with_reducible refine at_st 33 ?_); (refine wpList_store_freshA rfl 33 _ _ rfl (prC x) ty_proc (pr_val x) (by rfl) ?_ ?_ ?_; (focus (solve | simp [Act.eval, Act.put])); (focus (solve | simp [Act.eval, Act.put])))) | fail)
    with_reducible refine (HF2.out _ _ (HS2.out.below (hbx4.alloc hbx4.size _))).mono ?_
    rintro e w5 ⟨rfl, hb5⟩
    have hz5 := hb5.size
    simp only [World.size_alloc] at hz5
    have hbw5 : Below w.heap.size w w5 := by (repeat (first | with_reducible assumption | with_reducible exact Below.refl _ _ | with_reducible refine Below.setCell ?_ ?_ _ | with_reducible refine Below.alloc ?_ ?_ _ | with_reducible refine below_drewN' ?_ _ | with_reducible refine Below.drew ?_ | with_reducible refine Below.trans ?_ (Below.mono (by assumption) ?_) | omega | (dsimp only; omega) | (simp only [drew_heap', drewN_heap', World.size_alloc, World.size_setCell]; omega) | (solve | simp) | (solve | (simp; omega))))
    clear hb5
    go_wp2_with (first | ((with_reducible refine at_st 33 ?_); (refine wpList_store_freshA rfl 33 _ _ rfl (prC (oneP 0)) ty_proc (pr_val (oneP 0)) (by rfl) ?_ ?_ ?_; (focus (solve | simp [Act.eval, Act.put])); (focus (solve | simp [Act.eval, Act.put])))) | fail)
    go_ret
    exact ⟨by simp, by (repeat (first | with_reducible assumption | with_reducible exact Below.refl _ _ | with_reducible refine Below.setCell ?_ ?_ _ | with_reducible refine Below.alloc ?_ ?_ _ | with_reducible refine below_drewN' ?_ _ | with_reducible refine Below.drew ?_ | with_reducible refine Below.trans ?_ (Below.mono (by assumption) ?_) | omega | (dsimp only; omega) | (simp only [drew_heap', drewN_heap', World.size_alloc, World.size_setCell]; omega) | (solve | simp) | (solve | (simp; omega))))⟩
  · rw [find_remove_other l ho] at HF2
    have hwx := findS_wf hw other
    generalize removeS l pid = k at *
    generalize findS l other = fx at *
    obtain ⟨x, bx⟩ := fx
    dsimp only at HF1 HF2 HF3 hwx
    have hob : (other == pid) = false := by simpa using ho
    have heq2 := bin_same x hwx
    go_enter Try.func6, Try.ntmps6
    ((go_wp2_with fail); (with_reducible refine (shown_any _).mono ?_); (rintro e w1 ⟨rfl, hb1⟩); (have hz1 := hb1.size); (try simp only [World.size_alloc, World.size_setCell] at hz1))
    have hbw1 : Below w.heap.size w w1 := by (repeat (first | with_reducible assumption | with_reducible exact Below.refl _ _ | with_reducible refine Below.setCell ?_ ?_ _ | with_reducible refine Below.alloc ?_ ?_ _ | with_reducible refine below_drewN' ?_ _ | with_reducible refine Below.drew ?_ | with_reducible refine Below.trans ?_ (Below.mono (by assumption) ?_) | omega | (dsimp only; omega) | (simp only [drew_heap', drewN_heap', World.size_alloc, World.size_setCell]; omega) | (solve | simp) | (solve | (simp; omega))))
    go_wp2_with fail
    with_reducible refine (HREM.out _ (HV.out.below hbw1)).mono ?_
    rintro e w2 ⟨v2, rfl, hs2, hb2⟩
    have hz2 := hb2.size
    have hbw2 : Below w.heap.size w w2 := hbw1.trans (hb2.mono hbw1.size)
    have HS2 := Lib.hid hs2
    obtain ⟨a2, cap2, rfl, _⟩ := hs2.shape
    rw [prs_len] at HS2 ⊢
    clear hs2 hb2 hbw1
    go_wp2_with fail
    with_reducible refine (HF1.out _ _ HS2.out).mono ?_
    rintro e w3 ⟨rfl, hb3⟩
    have hz3 := hb3.size
    have hbw3 : Below w.heap.size w w3 := hbw2.trans (hb3.mono hbw2.size)
    have hbx3 : Below w2.heap.size w2 w3 := hb3
    clear hb3
    go_wp2_with (first | ((with_reducible refine at_st 33 ?_); (refine wpList_store_freshA rfl 33 _ _ rfl (prC (oneP 0)) ty_proc (pr_val (oneP 0)) (by rfl) ?_ ?_ ?_; (focus (solve | simp [Act.eval, Act.put])); (focus (solve | simp [Act.eval, Act.put])))) | fail)
    with_reducible refine (HF3.out _ (HV.out.below (hbw3.alloc hbw3.size _))).mono ?_
    rintro e w4 ⟨rfl, hb4⟩
    have hz4 := hb4.size
    simp only [World.size_alloc] at hz4
    have hbw4 : Below w.heap.size w w4 := by (repeat (first | with_reducible assumption | with_reducible exact Below.refl _ _ | with_reducible refine Below.setCell ?_ ?_ _ | with_reducible refine Below.alloc ?_ ?_ _ | with_reducible refine below_drewN' ?_ _ | with_reducible refine Below.drew ?_ | with_reducible refine Below.trans ?_ (Below.mono (by assumption) ?_) | omega | (dsimp only; omega) | (simp only [drew_heap', drewN_heap', World.size_alloc, World.size_setCell]; omega) | (solve | simp) | (solve | (simp; omega))))
    have hbx4 : Below w2.heap.size w2 w4 := (hbx3.alloc hbx3.size _).trans (hb4.mono (by simp; omega))
    clear hb4
    go_wp2_with (first | ((with_reducible refine at_st 33 ?_); (refine wpList_store_freshA rfl 33 _ _ rfl (prC x) ty_proc (pr_val x) (by rfl) ?_ ?_ ?_; (focus (solve | simp [Act.eval, Act.put])); (focus (solve | simp [Act.eval, Act.put])))) | fail)
    with_reducible refine (HF2.out _ _ (HS2.out.below (hbx4.alloc hbx4.size _))).mono ?_
    rintro e w5 ⟨rfl, hb5⟩
    have hz5 := hb5.size
    simp only [World.size_alloc] at hz5
    have b54 : Box w5 w4.heap.size (prC x) 33 := (Box.new w4 _ _).below hb5 (by simp)
    have hbw5 : Below w.heap.size w w5 := by (repeat (first | with_reducible assumption | with_reducible exact Below.refl _ _ | with_reducible refine Below.setCell ?_ ?_ _ | with_reducible refine Below.alloc ?_ ?_ _ | with_reducible refine below_drewN' ?_ _ | with_reducible refine Below.drew ?_ | with_reducible refine Below.trans ?_ (Below.mono (by assumption) ?_) | omega | (dsimp only; omega) | (simp only [drew_heap', drewN_heap', World.size_alloc, World.size_setCell]; omega) | (solve | simp) | (solve | (simp; omega))))
    have KR6 := Lib.hid (b54.alloc (.cells (prC x) 33))
    have KS6 := Lib.hid (Box.new w5 (prC x) 33)
    clear hb5 b54
    go_wp2_with (first | ((with_reducible refine at_st 33 ?_); (refine wpList_store_freshA rfl 33 _ _ rfl (prC x) ty_proc (pr_val x) (by rfl) ?_ ?_ ?_; (focus (solve | simp [Act.eval, Act.put])); (focus (solve | simp [Act.eval, Act.put])))) | ((with_reducible refine at_dst (some 47) ?_); (refine wpList_load_boxG 33 _ rfl (prC x) ty_proc (pr_val x) KR6.out ?_ ?_ ?_; (focus (solve | simp [Act.eval, Act.put])); (focus rfl))) | ((with_reducible refine at_dst (some 48) ?_); (refine wpList_load_boxG 33 _ rfl (prC x) ty_proc (pr_val x) KS6.out ?_ ?_ ?_; (focus (solve | simp [Act.eval, Act.put])); (focus rfl))) | fail)
    go_ret
    exact ⟨by simp, by (repeat (first | with_reducible assumption | with_reducible exact Below.refl _ _ | with_reducible refine Below.setCell ?_ ?_ _ | with_reducible refine Below.alloc ?_ ?_ _ | with_reducible refine below_drewN' ?_ _ | with_reducible refine Below.drew ?_ | with_reducible refine Below.trans ?_ (Below.mono (by assumption) ?_) | omega | (dsimp only; omega) | (simp only [drew_heap', drewN_heap', World.size_alloc, World.size_setCell]; omega) | (solve | simp) | (solve | (simp; omega))))⟩

theorem mostS_ge {l : List Prc} : ∀ x ∈ l, x.pid ≤ mostS l := by
  have h : ∀ (l : List Prc) (m : Int), m ≤ l.foldl (fun m x => max m x.pid) m ∧ ∀ x ∈ l, x.pid ≤ l.foldl (fun m x => max m x.pid) m := by
    intro l
    induction l with
    | nil => intro m; simp
    | cons y r ih =>
      intro m
      obtain ⟨h1, h2⟩ := ih (max m y.pid)
      refine ⟨by simp only [List.foldl_cons]; omega, fun x hx => ?_⟩
      simp only [List.foldl_cons]
      rcases List.mem_cons.1 hx with rfl | hx
      · omega
      · exact h2 x hx
  exact (h l 0).2
theorem mostS_cases (l : List Prc) : 0 ≤ mostS l ∧ (mostS l = 0 ∨ ∃ x ∈ l, x.pid = mostS l) := by
  have h : ∀ (l : List Prc) (m : Int), m ≤ l.foldl (fun m x => max m x.pid) m ∧ (l.foldl (fun m x => max m x.pid) m = m ∨ ∃ x ∈ l, x.pid = l.foldl (fun m x => max m x.pid) m) := by
    intro l
    induction l with
    | nil => intro m; simp
    | cons y r ih =>
      intro m
      obtain ⟨h1, h2⟩ := ih (max m y.pid)
      simp only [List.foldl_cons]
      refine ⟨by omega, ?_⟩
      rcases h2 with h2 | ⟨x, hx, h2⟩
      · rw [h2]
        by_cases hm : m ≤ y.pid
        · right; exact ⟨y, by simp, by omega⟩
        · left; omega
      · right; exact ⟨x, by simp [hx], h2⟩
  exact h l 0

set_option maxHeartbeats 4000000 in
theorem tableNew_walk (v : Value) (l : List Prc) (w : World) (hv : Sl w true 26 v (prs l)) (hw : ∀ x ∈ l, PrWf x) :
    Calls Try.prog 4 #[v] w fun e w' => e = .returned (.bool true) ∧ Below w.heap.size w w' := by
  have HV := Lib.hid hv
  have HN := Lib.hid (fun W h => next_any v l W h)
  have HF := Lib.hid (fun n W h => find_any v l n W h)
  have HW := Lib.hid hw
  obtain ⟨a, cap, rfl, hl⟩ := hv.shape
  rw [prs_len] at hl HV HN HF ⊢
  clear hv hw
  go_enter Try.func4, Try.ntmps4
  ((go_wp2_with fail); (with_reducible refine (shown_any _).mono ?_); (rintro e w1 ⟨rfl, hb1⟩); (have hz1 := hb1.size); (try simp only [World.size_alloc, World.size_setCell] at hz1))
  have hbw1 : Below w.heap.size w w1 := by (repeat (first | with_reducible assumption | with_reducible exact Below.refl _ _ | with_reducible refine Below.setCell ?_ ?_ _ | with_reducible refine Below.alloc ?_ ?_ _ | with_reducible refine below_drewN' ?_ _ | with_reducible refine Below.drew ?_ | with_reducible refine Below.trans ?_ (Below.mono (by assumption) ?_) | omega | (dsimp only; omega) | (simp only [drew_heap', drewN_heap', World.size_alloc, World.size_setCell]; omega) | (solve | simp) | (solve | (simp; omega))))
  go_wp2_with fail
  with_reducible refine (HN.out _ (HV.out.below hbw1)).mono ?_
  rintro e w2 ⟨rfl, hb2⟩
  have hbw2 : Below w.heap.size w w2 := hbw1.trans (hb2.mono hbw1.size)
  clear hb1 hb2 hbw1
  go_wp2_with fail
  go_loopw [5] (fun t W => ∃ i : Nat, i ≤ l.length ∧ t = .int .i64 i ∧ Below w.heap.size w W ∧ ∀ (j : Nat) (x : Prc), j < i → l[j]? = some x → x.pid ≠ 9223372036854775807) (fun t _ => l.length - (intOf t).toNat)
  case atStart => exact ⟨0, Nat.zero_le _, rfl, hbw2, by intro j x h; omega⟩
  case round =>
    obtain ⟨i, hi, rfl, hbw, hprev⟩ := hrel
    have hws := hbw.size
    have HP := Lib.hid hprev
    clear hprev
    by_cases hlt : i < l.length
    · obtain ⟨x, hx⟩ : ∃ x, l[i]? = some x := ⟨_, List.getElem?_eq_getElem hlt⟩
      obtain ⟨b, off, rfl, hb, -, c0, -, -⟩ := Sl.pr (HV.out.below hbw) hx
      have HX := Lib.hid hx
      have hwr : IntKind.i64.wrap ((i : Int) + 1) = i + 1 := IntWalk.i64_in _ (by omega)
      clear hx
      by_cases hm : x.pid = 9223372036854775807
      · have hmb : (x.pid == 9223372036854775807) = true := by simpa using hm
        clear hm
        go_wp2_with fail
        go_ret
        exact ⟨by simp, hbw⟩
      · have hmb : (x.pid == 9223372036854775807) = false := by simpa using hm
        have HM := Lib.hid hm
        clear hm
        go_wp2_with fail
        go_roundw
        case rel =>
          refine ⟨i + 1, by omega, by go_num, hbw, fun j y hj hy => ?_⟩
          rcases Nat.lt_succ_iff_lt_or_eq.1 hj with hj | rfl
          · exact HP.out j y hj hy
          · rw [HX.out] at hy; cases hy; exact HM.out
        case measure => simp [intOf]; omega
    · obtain rfl : i = l.length := by omega
      have hall : ∀ x ∈ l, x.pid ≤ 9223372036854775806 := fun x hx => by
        obtain ⟨j, hj, rfl⟩ := List.getElem_of_mem hx
        have h1 := HP.out j _ hj (List.getElem?_eq_getElem hj)
        have h2 := (HW.out _ hx).1
        simp [Lit.wf, IntKind.min, IntKind.max, IntKind.bits, IntKind.signed] at h2
        omega
      have hge := mostS_ge (l := l)
      obtain ⟨h0, hm⟩ := mostS_cases l
      have hmx : mostS l ≤ 9223372036854775806 := by
        rcases hm with hm | ⟨x, hx, hm⟩
        · omega
        · have := hall x hx; omega
      have hn : wrap64 (mostS l + 1) = mostS l + 1 := by unfold wrap64; omega
      rw [hn]
      have HF1 := Lib.hid (show findS l (mostS l + 1) = (oneP 0, false) from findS_none (fun x hx => by have := hge x hx; omega))
      have HGE := Lib.hid (fun i x (hx : l[i]? = some x) => hge x (List.mem_of_getElem? hx))
      clear hall hge hm hn HP hlt hi
      generalize mostS l = M at *
      go_wp2_with fail
      go_loopw [6] (fun t W => ∃ i : Nat, i ≤ l.length ∧ t = .int .i64 i ∧ Below w.heap.size w W) (fun t _ => l.length - (intOf t).toNat)
      case atStart => exact ⟨0, Nat.zero_le _, rfl, hbw⟩
      case round =>
        obtain ⟨i, hi, rfl, hbv⟩ := hrel
        have hwv := hbv.size
        by_cases hlt : i < l.length
        · obtain ⟨x, hx⟩ : ∃ x, l[i]? = some x := ⟨_, List.getElem?_eq_getElem hlt⟩
          obtain ⟨b, off, rfl, hb, -, c0, -, -⟩ := Sl.pr (HV.out.below hbv) hx
          have hle := HGE.out i x hx
          have hnb : ¬ M + 1 ≤ x.pid := by omega
          have hwr : IntKind.i64.wrap ((i : Int) + 1) = i + 1 := IntWalk.i64_in _ (by omega)
          clear hx
          go_wp2_with fail
          go_roundw
          case rel => exact ⟨i + 1, by omega, by go_num, hbv⟩
          case measure => simp [intOf]; omega
        · obtain rfl : i = l.length := by omega
          have h1 : (1 : Int) ≤ M + 1 := by omega
          have HFF := HF.out (M + 1)
          rw [HF1.out] at HFF
          have HF2 := Lib.hid HFF
          dsimp only at HF2
          clear HFF
          go_wp2_with fail
          with_reducible refine (HF2.out _ (HV.out.below hbv)).mono ?_
          rintro e w5 ⟨rfl, hb5⟩
          have hz5 := hb5.size
          have hbw5 : Below w.heap.size w w5 := hbv.trans (hb5.mono hbv.size)
          go_wp2_with (first | ((with_reducible refine at_st 33 ?_); (refine wpList_store_freshA rfl 33 _ _ rfl (prC (oneP 0)) ty_proc (pr_val (oneP 0)) (by rfl) ?_ ?_ ?_; (focus (solve | simp [Act.eval, Act.put])); (focus (solve | simp [Act.eval, Act.put])))) | fail)
          go_ret
          exact ⟨by simp, by (repeat (first | with_reducible assumption | with_reducible exact Below.refl _ _ | with_reducible refine Below.setCell ?_ ?_ _ | with_reducible refine Below.alloc ?_ ?_ _ | with_reducible refine below_drewN' ?_ _ | with_reducible refine Below.drew ?_ | with_reducible refine Below.trans ?_ (Below.mono (by assumption) ?_) | omega | (dsimp only; omega) | (simp only [drew_heap', drewN_heap', World.size_alloc, World.size_setCell]; omega) | (solve | simp) | (solve | (simp; omega))))⟩
end Go.Proofs.Ytianochlnbehnaa
