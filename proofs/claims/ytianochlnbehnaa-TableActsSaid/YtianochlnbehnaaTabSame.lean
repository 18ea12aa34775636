/- table.Same, the reference's Same: whether two rows are one. Conditions: lengths within the reach, numbers within their kinds. -/
import Derived.Test.YtianochlnbehnaaTabShown
namespace Go.Proofs.Ytianochlnbehnaa
open Go Go.RowKit Go.Tm
set_option linter.unusedVariables false
set_option linter.unusedSimpArgs false

theorem ne_len {α : Type} {l m : List α} (h : l.length ≠ m.length) : ¬ l = m := fun e => h (by rw [e])
theorem eq_of_takes {α : Type} {l m : List α} (h : l.length = m.length) (ht : l.take l.length = m.take l.length) : l = m := by
  rw [List.take_length] at ht
  rw [ht, h, List.take_length]
theorem takes_step {α : Type} {l m : List α} {i : Nat} {x : α} (h : l.take i = m.take i) (hx : l[i]? = some x) (hy : m[i]? = some x) : l.take (i + 1) = m.take (i + 1) := by
  rw [take_step hx, take_step hy, h]
theorem ne_at {α : Type} {l m : List α} {i : Nat} {x y : α} (hx : l[i]? = some x) (hy : m[i]? = some y) (h : x ≠ y) : ¬ l = m := fun e => by
  subst e; rw [hx] at hy; cases hy; exact h rfl

theorem same1_body : Body Try.prog 40 := body_of Try.func40 (by kernel_rfl) (by kernel_rfl)
set_option maxHeartbeats 1000000 in
theorem same1_any (x y : Prc) (hx : PrWf x) (hy : PrWf y) (w : World) :
    Calls Try.prog 40 #[prV x, prV y] w fun e w' => e = .returned (.bool (decide (x = y))) ∧ Below w.heap.size w w' := by
  have hbin := bin_eql x y hx hy
  generalize decide (x = y) = r at *
  have KX := Lib.hid ((Box.new w (prC x) 33).alloc (.cells (prC y) 33))
  have KY := Lib.hid (Box.new1 (w.alloc (.cells (prC x) 33)) (prC y) 33 (n := w.heap.size + 1) (by simp))
  go_enter Try.func40, Try.ntmps40
  go_wp2_with (first | ((with_reducible refine at_dst (some 5) ?_); (refine wpList_load_boxG 33 _ rfl (prC x) ty_proc (pr_val x) KX.out ?_ ?_ ?_; (focus (solve | simp [Act.eval, Act.put])); (focus rfl))) | ((with_reducible refine at_dst (some 6) ?_); (refine wpList_load_boxG 33 _ rfl (prC y) ty_proc (pr_val y) KY.out ?_ ?_ ?_; (focus (solve | simp [Act.eval, Act.put])); (focus rfl))) | fail)
  go_ret
  exact ⟨rfl, by (repeat (first | with_reducible assumption | with_reducible exact Below.refl _ _ | with_reducible refine Below.setCell ?_ ?_ _ | with_reducible refine Below.alloc ?_ ?_ _ | with_reducible refine below_drewN' ?_ _ | with_reducible refine Below.drew ?_ | with_reducible refine Below.trans ?_ (Below.mono (by assumption) ?_) | omega | (dsimp only; omega) | (simp only [drew_heap', drewN_heap', World.size_alloc, World.size_setCell]; omega) | (solve | simp) | (solve | (simp; omega))))⟩

set_option maxHeartbeats 4000000 in
theorem equalFunc_any (v u : Value) (l m : List Prc) (w : World) (hv : Sl w true 26 v (prs l)) (hu : Sl w true 26 u (prs m)) (hl : ∀ x ∈ l, PrWf x) (hm : ∀ x ∈ m, PrWf x) :
    Calls Try.prog 39 #[v, u, .func (.func 40) #[] #[]] w fun e w' => e = .returned (.bool (decide (l = m))) ∧ Below w.heap.size w w' := by
  have HV := Lib.hid hv
  have HU := Lib.hid hu
  have HL := Lib.hid hl
  have HM := Lib.hid hm
  obtain ⟨a, cap, rfl, hl63⟩ := hv.shape
  obtain ⟨a2, cap2, rfl, hm63⟩ := hu.shape
  rw [prs_len] at hl63 hm63 HV HU ⊢
  rw [prs_len]
  have hbody := same1_body
  unfold Body at hbody
  clear hv hu hl hm
  by_cases hlen : l.length = m.length
  · have HLEN := Lib.hid hlen
    rw [← hlen] at HU hm63 ⊢
    clear hlen
    go_enter Try.func39, Try.ntmps39
    go_wp2_with fail
    go_loopw [17] (fun t W => ∃ i : Nat, i ≤ l.length ∧ t = .int .i64 i ∧ Below w.heap.size w W ∧ Hid (l.take i = m.take i)) (fun t _ => l.length - (intOf t).toNat)
    case atStart => exact ⟨0, Nat.zero_le _, rfl, Below.refl _ _, Lib.hid rfl⟩
    case round =>
      obtain ⟨i, hi, rfl, hbw, HT⟩ := hrel
      have hws := hbw.size
      by_cases hlt : i < l.length
      · obtain ⟨x, hx⟩ : ∃ x, l[i]? = some x := ⟨_, List.getElem?_eq_getElem hlt⟩
        obtain ⟨y, hy⟩ : ∃ y, m[i]? = some y := ⟨_, List.getElem?_eq_getElem (by rw [← HLEN.out]; exact hlt)⟩
        obtain ⟨b, off, rfl, hb, hcx, -, -, -⟩ := Sl.pr (HV.out.below hbw) hx
        obtain ⟨b2, off2, rfl, hb2, hcy, -, -, -⟩ := Sl.pr (HU.out.below hbw) hy
        have HCX := Lib.hid hcx
        have HCY := Lib.hid (hcy.below ((Below.refl wr.heap.size wr).alloc (Nat.le_refl _) (.cells (prC x) 33)) hb2)
        have HS := Lib.hid (fun W => same1_any x y (HL.out x (List.mem_of_getElem? hx)) (HM.out y (List.mem_of_getElem? hy)) W)
        have KX := Lib.hid ((Box.new wr (prC x) 33).alloc (.cells (prC y) 33))
        have KY := Lib.hid (Box.new1 (wr.alloc (.cells (prC x) 33)) (prC y) 33 (n := wr.heap.size + 1) (by simp))
        have hwr : IntKind.i64.wrap ((i : Int) + 1) = i + 1 := IntWalk.i64_in _ (by omega)
        have HX := Lib.hid hx
        have HY := Lib.hid hy
        clear hx hy hcx hcy
        by_cases hxy : x = y
        · rw [decide_eq_true hxy] at HS
          have HXY := Lib.hid hxy
          clear hxy
          go_wp2_with (first | ((with_reducible refine at_ld 33 ?_); (refine wpList_load_val rfl 33 _ rfl b (off + i * 26) ?_ (prV x) ty_proc (pr_val x) HCX.out ?_; (focus (solve | simp [Act.eval, Act.put])))) | ((with_reducible refine at_ld 33 ?_); (refine wpList_load_val rfl 33 _ rfl b2 (off2 + i * 26) ?_ (prV y) ty_proc (pr_val y) HCY.out ?_; (focus (solve | simp [Act.eval, Act.put])))) | ((with_reducible refine at_st 33 ?_); (refine wpList_store_freshA rfl 33 _ _ rfl (prC x) ty_proc (pr_val x) (by rfl) ?_ ?_ ?_; (focus (solve | simp [Act.eval, Act.put])); (focus (solve | simp [Act.eval, Act.put])))) | ((with_reducible refine at_st 33 ?_); (refine wpList_store_freshA rfl 33 _ _ rfl (prC y) ty_proc (pr_val y) (by rfl) ?_ ?_ ?_; (focus (solve | simp [Act.eval, Act.put])); (focus (solve | simp [Act.eval, Act.put])))) | ((with_reducible refine at_dst (some 27) ?_); (refine wpList_load_boxG 33 _ rfl (prC x) ty_proc (pr_val x) KX.out ?_ ?_ ?_; (focus (solve | simp [Act.eval, Act.put])); (focus rfl))) | ((with_reducible refine at_dst (some 28) ?_); (refine wpList_load_boxG 33 _ rfl (prC y) ty_proc (pr_val y) KY.out ?_ ?_ ?_; (focus (solve | simp [Act.eval, Act.put])); (focus rfl))) | fail)
          with_reducible refine (HS.out _).mono ?_
          rintro e w5 ⟨rfl, hb5⟩
          have hz5 := hb5.size
          simp only [World.size_alloc] at hz5
          have hbw5 : Below w.heap.size w w5 := by (repeat (first | with_reducible assumption | with_reducible exact Below.refl _ _ | with_reducible refine Below.setCell ?_ ?_ _ | with_reducible refine Below.alloc ?_ ?_ _ | with_reducible refine below_drewN' ?_ _ | with_reducible refine Below.drew ?_ | with_reducible refine Below.trans ?_ (Below.mono (by assumption) ?_) | omega | (dsimp only; omega) | (simp only [drew_heap', drewN_heap', World.size_alloc, World.size_setCell]; omega) | (solve | simp) | (solve | (simp; omega))))
          go_wp2_with fail
          go_roundw
          case rel => exact ⟨i + 1, by omega, by go_num, hbw5, Lib.hid (takes_step HT.out HX.out (by rw [HXY.out]; exact HY.out))⟩
          case measure => simp [intOf]; omega
        · rw [decide_eq_false hxy] at HS
          have HN := Lib.hid (decide_eq_false (ne_at HX.out HY.out hxy))
          clear hxy
          go_wp2_with (first | ((with_reducible refine at_ld 33 ?_); (refine wpList_load_val rfl 33 _ rfl b (off + i * 26) ?_ (prV x) ty_proc (pr_val x) HCX.out ?_; (focus (solve | simp [Act.eval, Act.put])))) | ((with_reducible refine at_ld 33 ?_); (refine wpList_load_val rfl 33 _ rfl b2 (off2 + i * 26) ?_ (prV y) ty_proc (pr_val y) HCY.out ?_; (focus (solve | simp [Act.eval, Act.put])))) | ((with_reducible refine at_st 33 ?_); (refine wpList_store_freshA rfl 33 _ _ rfl (prC x) ty_proc (pr_val x) (by rfl) ?_ ?_ ?_; (focus (solve | simp [Act.eval, Act.put])); (focus (solve | simp [Act.eval, Act.put])))) | ((with_reducible refine at_st 33 ?_); (refine wpList_store_freshA rfl 33 _ _ rfl (prC y) ty_proc (pr_val y) (by rfl) ?_ ?_ ?_; (focus (solve | simp [Act.eval, Act.put])); (focus (solve | simp [Act.eval, Act.put])))) | ((with_reducible refine at_dst (some 27) ?_); (refine wpList_load_boxG 33 _ rfl (prC x) ty_proc (pr_val x) KX.out ?_ ?_ ?_; (focus (solve | simp [Act.eval, Act.put])); (focus rfl))) | ((with_reducible refine at_dst (some 28) ?_); (refine wpList_load_boxG 33 _ rfl (prC y) ty_proc (pr_val y) KY.out ?_ ?_ ?_; (focus (solve | simp [Act.eval, Act.put])); (focus rfl))) | fail)
          with_reducible refine (HS.out _).mono ?_
          rintro e w5 ⟨rfl, hb5⟩
          have hz5 := hb5.size
          simp only [World.size_alloc] at hz5
          have hbw5 : Below w.heap.size w w5 := by (repeat (first | with_reducible assumption | with_reducible exact Below.refl _ _ | with_reducible refine Below.setCell ?_ ?_ _ | with_reducible refine Below.alloc ?_ ?_ _ | with_reducible refine below_drewN' ?_ _ | with_reducible refine Below.drew ?_ | with_reducible refine Below.trans ?_ (Below.mono (by assumption) ?_) | omega | (dsimp only; omega) | (simp only [drew_heap', drewN_heap', World.size_alloc, World.size_setCell]; omega) | (solve | simp) | (solve | (simp; omega))))
          go_wp2_with fail
          go_ret
          exact ⟨by rw [HN.out]; rfl, hbw5⟩
      · obtain rfl : i = l.length := by omega
        have HE := Lib.hid (decide_eq_true (eq_of_takes HLEN.out HT.out))
        go_wp2_with fail
        go_ret
        exact ⟨by rw [HE.out]; rfl, hbw⟩
  · have HN := Lib.hid (decide_eq_false (ne_len hlen))
    have hne : ((l.length : Int) != (m.length : Int)) = true := by simp; omega
    clear hlen
    go_enter Try.func39, Try.ntmps39
    go_wp2_with fail
    go_ret
    exact ⟨by rw [HN.out]; rfl, Below.refl _ _⟩
theorem same_any (v u : Value) (l m : List Prc) (w : World) (hv : Sl w true 26 v (prs l)) (hu : Sl w true 26 u (prs m)) (hl : ∀ x ∈ l, PrWf x) (hm : ∀ x ∈ m, PrWf x) :
    Calls Try.prog 20 #[v, u] w fun e w' => e = .returned (.bool (decide (l = m))) ∧ Below w.heap.size w w' := by
  have HE := Lib.hid (equalFunc_any v u l m w hv hu hl hm)
  generalize decide (l = m) = r at *
  clear hv hu hl hm
  go_enter Try.func20, Try.ntmps20
  go_wp2_with fail
  with_reducible refine HE.out.mono ?_
  rintro e w1 ⟨rfl, hb1⟩
  go_wp2_with fail
  go_ret
  exact ⟨rfl, hb1⟩

set_option maxHeartbeats 4000000 in
theorem refSame_any (v u : Value) (l m : List Prc) (w : World) (hv : Sl w true 26 v (prs l)) (hu : Sl w true 26 u (prs m)) (hl : ∀ x ∈ l, PrWf x) (hm : ∀ x ∈ m, PrWf x) :
    Calls Try.prog 23 #[v, u] w fun e w' => e = .returned (.bool (decide (l = m))) ∧ Below w.heap.size w w' := by
  have HV := Lib.hid hv
  have HU := Lib.hid hu
  have HL := Lib.hid hl
  have HM := Lib.hid hm
  obtain ⟨a, cap, rfl, hl63⟩ := hv.shape
  obtain ⟨a2, cap2, rfl, hm63⟩ := hu.shape
  rw [prs_len] at hl63 hm63 HV HU ⊢
  rw [prs_len]
  clear hv hu hl hm
  by_cases hlen : l.length = m.length
  · have HLEN := Lib.hid hlen
    rw [← hlen] at HU hm63 ⊢
    clear hlen
    go_enter Try.func23, Try.ntmps23
    go_wp2_with fail
    go_loopw [5] (fun t W => ∃ i : Nat, i ≤ l.length ∧ t = .int .i64 i ∧ Below w.heap.size w W ∧ Hid (l.take i = m.take i)) (fun t _ => l.length - (intOf t).toNat)
    case atStart => exact ⟨0, Nat.zero_le _, rfl, Below.refl _ _, Lib.hid rfl⟩
    case round =>
      obtain ⟨i, hi, rfl, hbw, HT⟩ := hrel
      have hws := hbw.size
      by_cases hlt : i < l.length
      · obtain ⟨x, hx⟩ : ∃ x, l[i]? = some x := ⟨_, List.getElem?_eq_getElem hlt⟩
        obtain ⟨y, hy⟩ : ∃ y, m[i]? = some y := ⟨_, List.getElem?_eq_getElem (by rw [← HLEN.out]; exact hlt)⟩
        obtain ⟨b, off, rfl, hb, hcx, -, -, -⟩ := Sl.pr (HV.out.below hbw) hx
        obtain ⟨b2, off2, rfl, hb2, hcy, -, -, -⟩ := Sl.pr (HU.out.below hbw) hy
        have HCX := Lib.hid hcx
        have HCY := Lib.hid hcy
        have hbin := bin_neq x y (HL.out x (List.mem_of_getElem? hx)) (HM.out y (List.mem_of_getElem? hy))
        have heq := eql_pr x y (HL.out x (List.mem_of_getElem? hx)) (HM.out y (List.mem_of_getElem? hy))
        have hwr : IntKind.i64.wrap ((i : Int) + 1) = i + 1 := IntWalk.i64_in _ (by omega)
        have HX := Lib.hid hx
        have HY := Lib.hid hy
        clear hx hy hcx hcy
        by_cases hxy : x = y
        · rw [decide_eq_true hxy] at hbin heq
          have HXY := Lib.hid hxy
          clear hxy
          go_wp2_with fail
          ((refine wp_region_quiet_below (by kernel_rfl) (by kernel_rfl) ?_); (repeat (first | go_big_quiet_skip | (go_big_quiet_want; first | ((first | (refine quiet_load_valA 33 _ rfl b (off + i * 26) (prC x) ty_proc (pr_val x) HCX.out hb ?_ ?_; (focus (solve | simp [Act.eval, Act.put]))) | (refine quiet_load_valA 33 _ rfl b2 (off2 + i * 26) (prC y) ty_proc (pr_val y) HCY.out hb2 ?_ ?_; (focus (solve | simp [Act.eval, Act.put])))); (simp only [Act.put, List.setIfInBounds_toArray, List.set_cons_succ, List.set_cons_zero]); go_big_quiet_on) | (go_big_quiet_op; first | go_big_quiet_on | go_big_quiet_call (fail))))); (refine wpQuiet_nil ?_); (intro _ hw'); (obtain ⟨⟨dq, osq⟩, hw''⟩ := hw'); (subst hw''); (have hb7 := below_regrown wr dq osq); (generalize Go.Sort.grow (redrawn wr dq) osq = w7 at *); (have hz7 := hb7.size))
          go_wp2_with fail
          go_roundw
          case rel => exact ⟨i + 1, by omega, by go_num, hbw.trans (hb7.mono hws), Lib.hid (takes_step HT.out HX.out (by rw [HXY.out]; exact HY.out))⟩
          case measure => simp [intOf]; omega
        · rw [decide_eq_false hxy] at hbin heq
          have HN := Lib.hid (decide_eq_false (ne_at HX.out HY.out hxy))
          clear hxy
          go_wp2_with fail
          ((refine wp_region_quiet_below (by kernel_rfl) (by kernel_rfl) ?_); (repeat (first | go_big_quiet_skip | (go_big_quiet_want; first | ((first | (refine quiet_load_valA 33 _ rfl b (off + i * 26) (prC x) ty_proc (pr_val x) HCX.out hb ?_ ?_; (focus (solve | simp [Act.eval, Act.put]))) | (refine quiet_load_valA 33 _ rfl b2 (off2 + i * 26) (prC y) ty_proc (pr_val y) HCY.out hb2 ?_ ?_; (focus (solve | simp [Act.eval, Act.put])))); (simp only [Act.put, List.setIfInBounds_toArray, List.set_cons_succ, List.set_cons_zero]); go_big_quiet_on) | (go_big_quiet_op; first | go_big_quiet_on | go_big_quiet_call (fail))))); (refine wpQuiet_nil ?_); (intro _ hw'); (obtain ⟨⟨dq, osq⟩, hw''⟩ := hw'); (subst hw''); (have hb7 := below_regrown wr dq osq); (generalize Go.Sort.grow (redrawn wr dq) osq = w7 at *); (have hz7 := hb7.size))
          go_wp2_with fail
          go_ret
          exact ⟨by rw [HN.out]; rfl, hbw.trans (hb7.mono hws)⟩
      · obtain rfl : i = l.length := by omega
        have HE := Lib.hid (decide_eq_true (eq_of_takes HLEN.out HT.out))
        go_wp2_with fail
        go_ret
        exact ⟨by rw [HE.out]; rfl, hbw⟩
  · have HN := Lib.hid (decide_eq_false (ne_len hlen))
    have hne : ((l.length : Int) != (m.length : Int)) = true := by simp; omega
    clear hlen
    go_enter Try.func23, Try.ntmps23
    go_wp2_with fail
    go_ret
    exact ⟨by rw [HN.out]; rfl, Below.refl _ _⟩
end Go.Proofs.Ytianochlnbehnaa
