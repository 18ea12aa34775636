/- The law TableAdopts: its walk. Conditions: what came in is shaped. -/
import Derived.Test.YtianochlnbehnaaTabShown
namespace Go.Proofs.Ytianochlnbehnaa
open Go Go.RowKit Go.Tm
set_option linter.unusedVariables false
set_option linter.unusedSimpArgs false

theorem adopt1_wf {a b : Int} {x : Prc} (hb : (Lit.int .i64 b).wf = true) (hx : PrWf x) : PrWf (adopt1 a b x) := by
  unfold adopt1
  split
  · exact ⟨hx.1, hb, hx.2.2⟩
  · exact hx
theorem adoptS_at {l : List Prc} {a b : Int} {i : Nat} {x : Prc} (h : l[i]? = some x) : (adoptS l a b)[i]? = some (adopt1 a b x) := by
  unfold adoptS; rw [List.getElem?_map, h]; rfl
theorem adopt_none (l : List Prc) {a b : Int} (h : a ≠ b) : kidI (adoptS l a b) a = [] := by
  unfold kidI kidsP adoptS
  rw [List.map_eq_nil_iff, List.filter_eq_nil_iff]
  intro x hx
  obtain ⟨y, _, rfl⟩ := List.mem_map.1 hx
  unfold adopt1
  split
  · simp; omega
  · rename_i hn; simpa using hn

set_option maxHeartbeats 8000000 in
theorem tableAdopts_walk (v : Value) (l : List Prc) (fr to : Int) (w : World) (hv : Sl w true 26 v (prs l)) (hby : l.length * 168 ≤ 140737488351232) (hw : ∀ x ∈ l, PrWf x) (hto : (Lit.int .i64 to).wf = true) :
    Calls Try.prog 7 #[v, .int .i64 fr, .int .i64 to] w fun e w' => e = .returned (.bool true) ∧ Below w.heap.size w w' := by
  have HV := Lib.hid hv
  have HA := Lib.hid (fun W h => adopt_any v l fr to W h (by omega))
  have hcl := adoptS_len l fr to
  have HC := Lib.hid (fun u W h => children_int u (adoptS l fr to) fr W h (by rw [hcl]; omega))
  have HKN := Lib.hid (fun h => adopt_none l (a := fr) (b := to) h)
  have HAT := Lib.hid (fun i x (h : l[i]? = some x) => adoptS_at (a := fr) (b := to) h)
  have HW := Lib.hid hw
  obtain ⟨a, cap, rfl, hl⟩ := hv.shape
  rw [prs_len] at hl HV HA ⊢
  clear hv hw
  generalize adoptS l fr to = k at *
  have HCL := Lib.hid hcl
  clear hcl
  go_enter Try.func7, Try.ntmps7
  ((go_wp2_with fail); (with_reducible refine (shown_any _).mono ?_); (rintro e w1 ⟨rfl, hb1⟩); (have hz1 := hb1.size); (try simp only [World.size_alloc, World.size_setCell] at hz1))
  have hbw1 : Below w.heap.size w w1 := by (repeat (first | with_reducible assumption | with_reducible exact Below.refl _ _ | with_reducible refine Below.setCell ?_ ?_ _ | with_reducible refine Below.alloc ?_ ?_ _ | with_reducible refine below_drewN' ?_ _ | with_reducible refine Below.drew ?_ | with_reducible refine Below.trans ?_ (Below.mono (by assumption) ?_) | omega | (dsimp only; omega) | (simp only [drew_heap', drewN_heap', World.size_alloc, World.size_setCell]; omega) | (solve | simp) | (solve | (simp; omega))))
  go_wp2_with fail
  with_reducible refine (HA.out _ (HV.out.below hbw1)).mono ?_
  rintro e w2 ⟨v2, rfl, hs2, hb2⟩
  have hbw2 : Below w.heap.size w w2 := hbw1.trans (hb2.mono hbw1.size)
  have HS2 := Lib.hid hs2
  obtain ⟨a2, cap2, rfl, _⟩ := hs2.shape
  rw [prs_len, HCL.out] at HS2 ⊢
  clear hb1 hb2 hbw1 hs2
  have hnn : ((l.length : Int) != (l.length : Int)) = false := by simp
  go_wp2_with fail
  go_loopw [9] (fun t W => ∃ i : Nat, i ≤ l.length ∧ t = .int .i64 i ∧ Below w2.heap.size w2 W) (fun t _ => l.length - (intOf t).toNat)
  case atStart => exact ⟨0, Nat.zero_le _, rfl, Below.refl _ _⟩
  case round =>
    obtain ⟨i, hi, rfl, hbx⟩ := hrel
    have hws := hbx.size
    have hbw : Below w.heap.size w wr := hbw2.trans (hbx.mono hbw2.size)
    by_cases hlt : i < l.length
    · obtain ⟨x, hx⟩ : ∃ x, l[i]? = some x := ⟨_, List.getElem?_eq_getElem hlt⟩
      have hk := HAT.out i x hx
      have hxw := HW.out x (List.mem_of_getElem? hx)
      obtain ⟨b, off, rfl, hb, hcx, -, -, -⟩ := Sl.pr (HV.out.below hbw) hx
      obtain ⟨b2, off2, rfl, hb2, hcy, -, -, -⟩ := Sl.pr (HS2.out.below hbx) hk
      have hwr : IntKind.i64.wrap ((i : Int) + 1) = i + 1 := IntWalk.i64_in _ (by omega)
      have HCX := Lib.hid hcx
      have KB0 := Lib.hid (Box.new wr (prC x) 33)
      have q1 := prC1 x
      clear hx hk hcx
      by_cases hp : x.par = fr
      · have hpb : (x.par == fr) = true := by simpa using hp
        have hyw := adopt1_wf (a := fr) hto hxw
        have e1 : adopt1 fr to x = { x with par := to } := by unfold adopt1; rw [if_pos hp]
        rw [e1] at hcy hyw
        obtain ⟨y, hy⟩ : ∃ y : Prc, y = { x with par := to } := ⟨_, rfl⟩
        have hps := prC_par x to
        rw [← hy] at hcy hyw hps
        have hbin := bin_neq y y hyw hyw
        have heq := eql_pr_same y hyw
        rw [decide_eq_true rfl] at hbin
        have hB3 : Below wr.heap.size wr (wr.alloc (.cells (prC y) 33)) := (Below.refl _ _).alloc (Nat.le_refl _) _
        have hbox := Box.new wr (prC y) 33
        have HCY := Lib.hid (hcy.below hB3 hb2)
        have hb2' : b2 < (wr.alloc (.cells (prC y) 33)).heap.size := Nat.lt_of_lt_of_le hb2 hB3.size
        have HBC := Lib.hid hbox.cells
        have hbl := hbox.lt
        have HB3 := Lib.hid hB3
        have HPS := Lib.hid hps
        clear hp hy e1 hcy hB3 hbox hps
        go_wp2_with (first | ((with_reducible refine at_ld 33 ?_); (refine wpList_load_val rfl 33 _ rfl b (off + i * 26) ?_ (prV x) ty_proc (pr_val x) HCX.out ?_; (focus (solve | simp [Act.eval, Act.put])))) | ((with_reducible refine at_st 33 ?_); (refine wpList_store_freshA rfl 33 _ _ rfl (prC x) ty_proc (pr_val x) (by rfl) ?_ ?_ ?_; (focus (solve | simp [Act.eval, Act.put])); (focus (solve | simp [Act.eval, Act.put])))) | fail)
        rw [HPS.out]
        clear HPS
        generalize wr.alloc (.cells (prC y) 33) = w6 at *
        ((refine wp_region_quiet_below (by kernel_rfl) (by kernel_rfl) ?_); (repeat (first | go_big_quiet_skip | (go_big_quiet_want; first | ((first | (refine quiet_load_valA 33 _ rfl b2 (off2 + i * 26) (prC y) ty_proc (pr_val y) HCY.out hb2' ?_ ?_; (focus (solve | simp [Act.eval, Act.put]))) | (refine quiet_load_valA 33 _ rfl wr.heap.size 0 (prC y) ty_proc (pr_val y) HBC.out hbl ?_ ?_; (focus (solve | simp [Act.eval, Act.put])))); (simp only [Act.put, List.setIfInBounds_toArray, List.set_cons_succ, List.set_cons_zero]); go_big_quiet_on) | (go_big_quiet_op; first | go_big_quiet_on | go_big_quiet_call (fail))))); (refine wpQuiet_nil ?_); (intro _ hw'); (obtain ⟨⟨dq, osq⟩, hw''⟩ := hw'); (subst hw''); (have hb7 := below_regrown w6 dq osq); (generalize Go.Sort.grow (redrawn w6 dq) osq = w7 at *); (have hz7 := hb7.size))
        go_wp2_with fail
        go_roundw
        case rel => exact ⟨i + 1, by omega, by go_num, hbx.trans ((HB3.out.trans (hb7.mono HB3.out.size)).mono hws)⟩
        case measure => simp [intOf]; omega
      · have hpb : (x.par == fr) = false := by simpa using hp
        have e1 : adopt1 fr to x = x := by unfold adopt1; rw [if_neg hp]
        rw [e1] at hcy
        have hbin := bin_neq x x hxw hxw
        have heq := eql_pr_same x hxw
        rw [decide_eq_true rfl] at hbin
        have hB3 : Below wr.heap.size wr (wr.alloc (.cells (prC x) 33)) := (Below.refl _ _).alloc (Nat.le_refl _) _
        have hbox := Box.new wr (prC x) 33
        have HCY := Lib.hid (hcy.below hB3 hb2)
        have hb2' : b2 < (wr.alloc (.cells (prC x) 33)).heap.size := Nat.lt_of_lt_of_le hb2 hB3.size
        have HBC := Lib.hid hbox.cells
        have hbl := hbox.lt
        have HB3 := Lib.hid hB3
        clear hp e1 hcy hB3 hbox
        go_wp2_with (first | ((with_reducible refine at_ld 33 ?_); (refine wpList_load_val rfl 33 _ rfl b (off + i * 26) ?_ (prV x) ty_proc (pr_val x) HCX.out ?_; (focus (solve | simp [Act.eval, Act.put])))) | ((with_reducible refine at_st 33 ?_); (refine wpList_store_freshA rfl 33 _ _ rfl (prC x) ty_proc (pr_val x) (by rfl) ?_ ?_ ?_; (focus (solve | simp [Act.eval, Act.put])); (focus (solve | simp [Act.eval, Act.put])))) | fail)
        generalize wr.alloc (.cells (prC x) 33) = w6 at *
        ((refine wp_region_quiet_below (by kernel_rfl) (by kernel_rfl) ?_); (repeat (first | go_big_quiet_skip | (go_big_quiet_want; first | ((first | (refine quiet_load_valA 33 _ rfl b2 (off2 + i * 26) (prC x) ty_proc (pr_val x) HCY.out hb2' ?_ ?_; (focus (solve | simp [Act.eval, Act.put]))) | (refine quiet_load_valA 33 _ rfl wr.heap.size 0 (prC x) ty_proc (pr_val x) HBC.out hbl ?_ ?_; (focus (solve | simp [Act.eval, Act.put])))); (simp only [Act.put, List.setIfInBounds_toArray, List.set_cons_succ, List.set_cons_zero]); go_big_quiet_on) | (go_big_quiet_op; first | go_big_quiet_on | go_big_quiet_call (fail))))); (refine wpQuiet_nil ?_); (intro _ hw'); (obtain ⟨⟨dq, osq⟩, hw''⟩ := hw'); (subst hw''); (have hb7 := below_regrown w6 dq osq); (generalize Go.Sort.grow (redrawn w6 dq) osq = w7 at *); (have hz7 := hb7.size))
        go_wp2_with fail
        go_roundw
        case rel => exact ⟨i + 1, by omega, by go_num, hbx.trans ((HB3.out.trans (hb7.mono HB3.out.size)).mono hws)⟩
        case measure => simp [intOf]; omega
    · obtain rfl : i = l.length := by omega
      by_cases hft : fr = to
      · subst hft
        go_wp2_with fail
        go_ret
        exact ⟨by simp, hbw⟩
      · have hfb : (fr == to) = false := by simpa using hft
        rw [HKN.out hft] at HC
        clear hft
        go_wp2_with fail
        with_reducible refine (HC.out _ _ (HS2.out.below hbx)).mono ?_
        rintro e w5 ⟨v5, rfl, ho5, hb5⟩
        obtain ⟨a5, c5, he5, _⟩ := ho5.sl.shape
        replace he5 : v5 = .slice a5 0 c5 := he5
        subst he5
        have hbw5 : Below w.heap.size w w5 := hbw.trans (hb5.mono hbw.size)
        clear ho5
        go_wp2_with fail
        go_ret
        exact ⟨by simp, hbw5⟩
end Go.Proofs.Ytianochlnbehnaa
