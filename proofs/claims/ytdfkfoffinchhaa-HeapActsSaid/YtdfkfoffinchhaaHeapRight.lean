/- heap.New, Right, and the reference's: what they answer. Conditions: lengths within the reach. -/
import Derived.Test.YtdfkfoffinchhaaHeapLib
namespace Go.Proofs.Ytdfkfoffinchhaa
open Go Go.RowKit Go.Tm
set_option linter.unusedVariables false
set_option linter.unusedSimpArgs false

open Classical in
noncomputable def rightB (size : Int) (l : List Sp) : Bool := decide (RightP size l)
theorem rightB_true {size : Int} {l : List Sp} (h : RightP size l) : rightB size l = true := by unfold rightB; simp [h]
theorem rightB_false {size : Int} {l : List Sp} (h : ¬ RightP size l) : rightB size l = false := by unfold rightB; simp [h]
theorem right_at {size a : Int} {l : List Sp} (h : rightG size a l) {i : Nat} {x : Sp} (hx : l[i]? = some x) : endG a (l.take i) ≤ x.1 ∧ 1 ≤ x.2.1 ∧ x.2.1 ≤ size ∧ x.1 ≤ size - x.2.1 := by
  have h1 := rightG_take h (i + 1)
  rw [take_step hx, rightG_snoc] at h1
  exact h1.2
theorem right_next {size a : Int} {l : List Sp} {i : Nat} {x : Sp} (hx : l[i]? = some x) (h : rightG size a (l.take i)) (h1 : endG a (l.take i) ≤ x.1) (h2 : 1 ≤ x.2.1) (h3 : x.2.1 ≤ size) (h4 : x.1 ≤ size - x.2.1) : rightG size a (l.take (i + 1)) := by
  rw [take_step hx, rightG_snoc]
  exact ⟨h, h1, h2, h3, h4⟩
theorem end_next {a : Int} {l : List Sp} {i : Nat} {x : Sp} (hx : l[i]? = some x) : endG a (l.take (i + 1)) = x.1 + x.2.1 := by
  rw [take_step hx, endG_snoc]

set_option maxHeartbeats 2000000 in
theorem right_any (size : Int) (v : Value) (l : List Sp) (w : World) (hv : Sl w true 3 v (sps l)) (hs : (Lit.int .i64 size).wf = true) (hw : ∀ x ∈ l, SpWf x) :
    Calls Try.prog 16 #[.agg #[.int .i64 size, v]] w fun e w' => e = .returned (.bool (rightB size l)) ∧ Below w.heap.size w w' := by
  have HV := Lib.hid hv
  have HW := Lib.hid hw
  have hsz : -9223372036854775808 ≤ size ∧ size ≤ 9223372036854775807 := by simpa [Lit.wf, IntKind.min, IntKind.max, IntKind.bits, IntKind.signed] using hs
  obtain ⟨a, cap, rfl, hl⟩ := hv.shape
  rw [sps_len] at hl HV ⊢
  clear hv hw hs
  go_enter Try.func16, Try.ntmps16
  go_wp2_with fail
  go_loopw [3, 9] (fun m t W => ∃ i : Nat, i ≤ l.length ∧ t = .int .i64 i ∧ m = .int .i64 (endG 0 (l.take i)) ∧ Below w.heap.size w W ∧ Box W w.heap.size #[.int .i64 size, .slice a l.length cap] 24 ∧ rightG size 0 (l.take i) ∧ (0 < i → 0 ≤ size)) (fun _ t _ => l.length - (intOf t).toNat)
  case atStart => exact ⟨0, Nat.zero_le _, rfl, rfl, by (repeat (first | with_reducible assumption | with_reducible exact Below.refl _ _ | with_reducible refine Below.setCell ?_ ?_ _ | with_reducible refine Below.alloc ?_ ?_ _ | with_reducible refine below_drewN' ?_ _ | with_reducible refine Below.drew ?_ | with_reducible refine Below.trans ?_ (Below.mono (by assumption) ?_) | omega | (dsimp only; omega) | (simp only [drew_heap', drewN_heap', World.size_alloc, World.size_setCell]; omega) | (solve | simp) | (solve | (simp; omega)))), Box.new _ _ _, trivial, by omega⟩
  case round =>
    obtain ⟨i, hi, rfl, rfl, hbw, hbx, hrt, hnn⟩ := hrel
    have hws := hbw.size
    obtain ⟨hc1, hf1, hl1, hn1, hm1⟩ := hbx.rules
    have KB := Lib.hid hbx
    have HR := Lib.hid hrt
    clear hbx hrt
    by_cases hlt : i < l.length
    · obtain ⟨x, hx⟩ : ∃ x, l[i]? = some x := ⟨_, List.getElem?_eq_getElem hlt⟩
      have hwx := HW.out x (List.mem_of_getElem? hx)
      obtain ⟨b, off, rfl, hb, c0, c1, c2⟩ := Sl.sp (HV.out.below hbw) hx
      have hwr : IntKind.i64.wrap ((i : Int) + 1) = i + 1 := IntWalk.i64_in _ (by omega)
      have HX := Lib.hid hx
      have HE := Lib.hid (end_next (a := 0) hx)
      have hle : 0 ≤ endG 0 (l.take i) := by
        by_cases h0 : 0 < i
        · exact (rightG_end HR.out (hnn h0)).1
        · have : i = 0 := by omega
          subst this; simp [endG]
      clear hx
      obtain ⟨p, n, u⟩ := x
      simp only [SpWf, Lit.wf, IntKind.min, IntKind.max, IntKind.bits, IntKind.signed] at hwx
      have hp2 : -9223372036854775808 ≤ p ∧ p ≤ 9223372036854775807 ∧ -9223372036854775808 ≤ n ∧ n ≤ 9223372036854775807 := by
        simp at hwx; omega
      dsimp only at c0 c1 c2
      clear hwx
      generalize hat : endG 0 (l.take i) = at0 at *
      have hcase : p < at0 ∨ (¬ p < at0 ∧ n < 1) ∨ (¬ p < at0 ∧ ¬ n < 1 ∧ size < n) ∨ (¬ p < at0 ∧ ¬ n < 1 ∧ ¬ size < n ∧ size - n < p) ∨ (¬ p < at0 ∧ ¬ n < 1 ∧ ¬ size < n ∧ ¬ size - n < p) := by omega
      have HAT := Lib.hid hat
      clear hat
      rcases hcase with h1 | ⟨h1, h2⟩ | ⟨h1, h2, h3⟩ | ⟨h1, h2, h3, h4⟩ | ⟨h1, h2, h3, h4⟩
      ·
        have HN := Lib.hid (rightB_false (size := size) (l := l) (fun h => by have := right_at h.1 HX.out; rw [HAT.out] at this; dsimp only at this; omega))
        go_wp2_with fail
        go_ret
        exact ⟨by rw [HN.out]; rfl, by (repeat (first | with_reducible assumption | with_reducible exact Below.refl _ _ | with_reducible refine Below.setCell ?_ ?_ _ | with_reducible refine Below.alloc ?_ ?_ _ | with_reducible refine below_drewN' ?_ _ | with_reducible refine Below.drew ?_ | with_reducible refine Below.trans ?_ (Below.mono (by assumption) ?_) | omega | (dsimp only; omega) | (simp only [drew_heap', drewN_heap', World.size_alloc, World.size_setCell]; omega) | (solve | simp) | (solve | (simp; omega))))⟩
      ·
        have HN := Lib.hid (rightB_false (size := size) (l := l) (fun h => by have := right_at h.1 HX.out; rw [HAT.out] at this; dsimp only at this; omega))
        go_wp2_with fail
        go_ret
        exact ⟨by rw [HN.out]; rfl, by (repeat (first | with_reducible assumption | with_reducible exact Below.refl _ _ | with_reducible refine Below.setCell ?_ ?_ _ | with_reducible refine Below.alloc ?_ ?_ _ | with_reducible refine below_drewN' ?_ _ | with_reducible refine Below.drew ?_ | with_reducible refine Below.trans ?_ (Below.mono (by assumption) ?_) | omega | (dsimp only; omega) | (simp only [drew_heap', drewN_heap', World.size_alloc, World.size_setCell]; omega) | (solve | simp) | (solve | (simp; omega))))⟩
      ·
        have HN := Lib.hid (rightB_false (size := size) (l := l) (fun h => by have := right_at h.1 HX.out; rw [HAT.out] at this; dsimp only at this; omega))
        go_wp2_with fail
        go_ret
        exact ⟨by rw [HN.out]; rfl, by (repeat (first | with_reducible assumption | with_reducible exact Below.refl _ _ | with_reducible refine Below.setCell ?_ ?_ _ | with_reducible refine Below.alloc ?_ ?_ _ | with_reducible refine below_drewN' ?_ _ | with_reducible refine Below.drew ?_ | with_reducible refine Below.trans ?_ (Below.mono (by assumption) ?_) | omega | (dsimp only; omega) | (simp only [drew_heap', drewN_heap', World.size_alloc, World.size_setCell]; omega) | (solve | simp) | (solve | (simp; omega))))⟩
      · have hsub : IntKind.i64.wrap (size - n) = size - n := IntWalk.i64_in _ (by omega)
        have HN := Lib.hid (rightB_false (size := size) (l := l) (fun h => by have := right_at h.1 HX.out; rw [HAT.out] at this; dsimp only at this; omega))
        go_wp2_with fail
        go_ret
        exact ⟨by rw [HN.out]; rfl, by (repeat (first | with_reducible assumption | with_reducible exact Below.refl _ _ | with_reducible refine Below.setCell ?_ ?_ _ | with_reducible refine Below.alloc ?_ ?_ _ | with_reducible refine below_drewN' ?_ _ | with_reducible refine Below.drew ?_ | with_reducible refine Below.trans ?_ (Below.mono (by assumption) ?_) | omega | (dsimp only; omega) | (simp only [drew_heap', drewN_heap', World.size_alloc, World.size_setCell]; omega) | (solve | simp) | (solve | (simp; omega))))⟩
      · have hsub : IntKind.i64.wrap (size - n) = size - n := IntWalk.i64_in _ (by omega)
        have hsum : IntKind.i64.wrap (p + n) = p + n := IntWalk.i64_in _ (by omega)
        have HRN := Lib.hid (right_next HX.out HR.out (by rw [HAT.out]; dsimp only; omega) (by dsimp only; omega) (by dsimp only; omega) (by dsimp only; omega))
        go_wp2_with fail
        go_roundw
        case rel => exact ⟨i + 1, by omega, by go_num, by rw [HE.out], by (repeat (first | with_reducible assumption | with_reducible exact Below.refl _ _ | with_reducible refine Below.setCell ?_ ?_ _ | with_reducible refine Below.alloc ?_ ?_ _ | with_reducible refine below_drewN' ?_ _ | with_reducible refine Below.drew ?_ | with_reducible refine Below.trans ?_ (Below.mono (by assumption) ?_) | omega | (dsimp only; omega) | (simp only [drew_heap', drewN_heap', World.size_alloc, World.size_setCell]; omega) | (solve | simp) | (solve | (simp; omega)))), KB.out.alloc _, HRN.out, by omega⟩
        case measure => simp [intOf]; omega
    · obtain rfl : i = l.length := by omega
      rw [List.take_length] at HR
      have hsb : rightB size l = decide (0 ≤ size) := by
        by_cases h0 : 0 ≤ size
        · rw [rightB_true ⟨HR.out, h0⟩]; simp [h0]
        · rw [rightB_false (fun h => h0 h.2)]; simp [h0]
      have HSB := Lib.hid hsb
      clear hsb
      go_wp2_with fail
      go_ret
      exact ⟨by rw [HSB.out]; simp, hbw⟩

set_option maxHeartbeats 4000000 in
theorem refRight_any (size : Int) (v : Value) (l : List Sp) (w : World) (hv : Sl w true 3 v (sps l)) (hs : (Lit.int .i64 size).wf = true) (hw : ∀ x ∈ l, SpWf x) :
    Calls Try.prog 14 #[.agg #[.int .i64 size, v]] w fun e w' => e = .returned (.bool (rightB size l)) ∧ Below w.heap.size w w' := by
  have HV := Lib.hid hv
  have HW := Lib.hid hw
  have hsz : -9223372036854775808 ≤ size ∧ size ≤ 9223372036854775807 := by simpa [Lit.wf, IntKind.min, IntKind.max, IntKind.bits, IntKind.signed] using hs
  obtain ⟨a, cap, rfl, hl⟩ := hv.shape
  rw [sps_len] at hl HV ⊢
  clear hv hw hs
  by_cases hneg : size < 0
  · have HN := Lib.hid (rightB_false (size := size) (l := l) (fun h => by have := h.2; omega))
    go_enter Try.func14, Try.ntmps14
    go_wp2_with fail
    go_ret
    exact ⟨by rw [HN.out]; rfl, by (repeat (first | with_reducible assumption | with_reducible exact Below.refl _ _ | with_reducible refine Below.setCell ?_ ?_ _ | with_reducible refine Below.alloc ?_ ?_ _ | with_reducible refine below_drewN' ?_ _ | with_reducible refine Below.drew ?_ | with_reducible refine Below.trans ?_ (Below.mono (by assumption) ?_) | omega | (dsimp only; omega) | (simp only [drew_heap', drewN_heap', World.size_alloc, World.size_setCell]; omega) | (solve | simp) | (solve | (simp; omega))))⟩
  go_enter Try.func14, Try.ntmps14
  go_wp2_with fail
  go_loopw [3] (fun t W => ∃ i : Nat, i ≤ l.length ∧ t = .int .i64 i ∧ Below w.heap.size w W ∧ Box W w.heap.size #[.int .i64 size, .slice a l.length cap] 24 ∧ rightG size 0 (l.take i)) (fun t _ => l.length - (intOf t).toNat)
  case atStart => exact ⟨0, Nat.zero_le _, rfl, by (repeat (first | with_reducible assumption | with_reducible exact Below.refl _ _ | with_reducible refine Below.setCell ?_ ?_ _ | with_reducible refine Below.alloc ?_ ?_ _ | with_reducible refine below_drewN' ?_ _ | with_reducible refine Below.drew ?_ | with_reducible refine Below.trans ?_ (Below.mono (by assumption) ?_) | omega | (dsimp only; omega) | (simp only [drew_heap', drewN_heap', World.size_alloc, World.size_setCell]; omega) | (solve | simp) | (solve | (simp; omega)))), Box.new _ _ _, trivial⟩
  case round =>
    obtain ⟨i, hi, rfl, hbw, hbx, hrt⟩ := hrel
    have hws := hbw.size
    obtain ⟨hc1, hf1, hl1, hn1, hm1⟩ := hbx.rules
    have KB := Lib.hid hbx
    have HR := Lib.hid hrt
    clear hbx hrt
    by_cases hlt : i < l.length
    · obtain ⟨x, hx⟩ : ∃ x, l[i]? = some x := ⟨_, List.getElem?_eq_getElem hlt⟩
      have hwx := HW.out x (List.mem_of_getElem? hx)
      obtain ⟨b, off, rfl, hb, c0, c1, c2⟩ := Sl.sp (HV.out.below hbw) hx
      have hwr : IntKind.i64.wrap ((i : Int) + 1) = i + 1 := IntWalk.i64_in _ (by omega)
      have HX := Lib.hid hx
      clear hx
      obtain ⟨p, n, u⟩ := x
      simp only [SpWf, Lit.wf, IntKind.min, IntKind.max, IntKind.bits, IntKind.signed] at hwx
      have hp2 : -9223372036854775808 ≤ p ∧ p ≤ 9223372036854775807 ∧ -9223372036854775808 ≤ n ∧ n ≤ 9223372036854775807 := by
        simp at hwx; omega
      dsimp only at c0 c1 c2
      clear hwx
      have hcase : p < 0 ∨ (¬ p < 0 ∧ n < 1) ∨ (¬ p < 0 ∧ ¬ n < 1 ∧ size < p) ∨ (¬ p < 0 ∧ ¬ n < 1 ∧ ¬ size < p ∧ size - p < n) ∨ (¬ p < 0 ∧ ¬ n < 1 ∧ ¬ size < p ∧ ¬ size - p < n) := by omega
      have HRA := Lib.hid (fun h : RightP size l => right_at h.1 HX.out)
      rcases hcase with h1 | ⟨h1, h2⟩ | ⟨h1, h2, h3⟩ | ⟨h1, h2, h3, h4⟩ | ⟨h1, h2, h3, h4⟩
      · have HN := Lib.hid (rightB_false (size := size) (l := l) (fun h => by have h1 := HRA.out h; have h2 := (rightG_end HR.out (by omega)).1; dsimp only at h1; omega))
        go_wp2_with fail
        go_ret
        exact ⟨by rw [HN.out]; rfl, by (repeat (first | with_reducible assumption | with_reducible exact Below.refl _ _ | with_reducible refine Below.setCell ?_ ?_ _ | with_reducible refine Below.alloc ?_ ?_ _ | with_reducible refine below_drewN' ?_ _ | with_reducible refine Below.drew ?_ | with_reducible refine Below.trans ?_ (Below.mono (by assumption) ?_) | omega | (dsimp only; omega) | (simp only [drew_heap', drewN_heap', World.size_alloc, World.size_setCell]; omega) | (solve | simp) | (solve | (simp; omega))))⟩
      · have HN := Lib.hid (rightB_false (size := size) (l := l) (fun h => by have h1 := HRA.out h; dsimp only at h1; omega))
        go_wp2_with fail
        go_ret
        exact ⟨by rw [HN.out]; rfl, by (repeat (first | with_reducible assumption | with_reducible exact Below.refl _ _ | with_reducible refine Below.setCell ?_ ?_ _ | with_reducible refine Below.alloc ?_ ?_ _ | with_reducible refine below_drewN' ?_ _ | with_reducible refine Below.drew ?_ | with_reducible refine Below.trans ?_ (Below.mono (by assumption) ?_) | omega | (dsimp only; omega) | (simp only [drew_heap', drewN_heap', World.size_alloc, World.size_setCell]; omega) | (solve | simp) | (solve | (simp; omega))))⟩
      · have HN := Lib.hid (rightB_false (size := size) (l := l) (fun h => by have h1 := HRA.out h; dsimp only at h1; omega))
        go_wp2_with fail
        go_ret
        exact ⟨by rw [HN.out]; rfl, by (repeat (first | with_reducible assumption | with_reducible exact Below.refl _ _ | with_reducible refine Below.setCell ?_ ?_ _ | with_reducible refine Below.alloc ?_ ?_ _ | with_reducible refine below_drewN' ?_ _ | with_reducible refine Below.drew ?_ | with_reducible refine Below.trans ?_ (Below.mono (by assumption) ?_) | omega | (dsimp only; omega) | (simp only [drew_heap', drewN_heap', World.size_alloc, World.size_setCell]; omega) | (solve | simp) | (solve | (simp; omega))))⟩
      · have hsub : IntKind.i64.wrap (size - p) = size - p := IntWalk.i64_in _ (by omega)
        have HN := Lib.hid (rightB_false (size := size) (l := l) (fun h => by have h1 := HRA.out h; dsimp only at h1; omega))
        go_wp2_with fail
        go_ret
        exact ⟨by rw [HN.out]; rfl, by (repeat (first | with_reducible assumption | with_reducible exact Below.refl _ _ | with_reducible refine Below.setCell ?_ ?_ _ | with_reducible refine Below.alloc ?_ ?_ _ | with_reducible refine below_drewN' ?_ _ | with_reducible refine Below.drew ?_ | with_reducible refine Below.trans ?_ (Below.mono (by assumption) ?_) | omega | (dsimp only; omega) | (simp only [drew_heap', drewN_heap', World.size_alloc, World.size_setCell]; omega) | (solve | simp) | (solve | (simp; omega))))⟩
      · have hsub : IntKind.i64.wrap (size - p) = size - p := IntWalk.i64_in _ (by omega)
        have hB3 : Below wr.heap.size wr (wr.alloc (.cells #[.int .i64 p, .int .i64 n, .int .i64 u] 31)) := (Below.refl _ _).alloc (Nat.le_refl _) _
        have k0 := (KB.out.alloc (.cells #[.int .i64 p, .int .i64 n, .int .i64 u] 31)).regrown
        have k1 := (Box.new wr #[.int .i64 p, .int .i64 n, .int .i64 u] 31).regrown
        have HB3 := Lib.hid hB3
        by_cases hi0 : i = 0
        · have hgt : decide ((0 : Int) < (i : Int)) = false := by simp; omega
          have hgt2 : decide (0 < i) = false := by simp; omega
          have HRN := Lib.hid (right_next HX.out HR.out (by subst hi0; simp only [List.take_zero, endG]; omega) (by dsimp only; omega) (by dsimp only; omega) (by dsimp only; omega))
          clear hi0 hB3
          go_wp2_with fail
          generalize hW6 : wr.alloc (.cells #[.int .i64 p, .int .i64 n, .int .i64 u] 31) = w6 at *
          ((refine wp_region_quiet_below (by kernel_rfl) (by kernel_rfl) ?_); (repeat (go_big_quiet_step (fail))); (refine wpQuiet_nil ?_); (intro _ hw'); (obtain ⟨⟨dq, osq⟩, hw''⟩ := hw'); (subst hw''); (have hb7 := below_regrown w6 dq osq); (generalize Go.Sort.grow (redrawn w6 dq) osq = w7 at *); (have hz7 := hb7.size))
          have hbx7 : Below wr.heap.size wr w7 := HB3.out.trans (hb7.mono HB3.out.size)
          clear k0 k1
          go_wp2_with fail
          go_roundw
          case rel => exact ⟨i + 1, by omega, by go_num, hbw.trans (hbx7.mono hws), KB.out.below hbx7 hl1, HRN.out⟩
          case measure => simp [intOf]; omega
        · obtain ⟨k, rfl⟩ : ∃ k, i = k + 1 := ⟨i - 1, by omega⟩
          obtain ⟨y, hy⟩ : ∃ y, l[k]? = some y := ⟨_, List.getElem?_eq_getElem (by omega)⟩
          have hry := right_at (i := k) (x := y) (size := size) (a := 0) (l := l.take (k + 1)) HR.out (by rw [List.getElem?_take, if_pos (by omega)]; exact hy)
          have HEN := Lib.hid (end_next (a := 0) hy)
          obtain ⟨_, _, he, hb2, e0, e1, -⟩ := Sl.sp (HV.out.below hbw) hy
          simp only [Option.some.injEq, Addr.mk.injEq, and_true] at he
          obtain ⟨rfl, rfl⟩ := he
          have hle0 : 0 ≤ endG 0 ((l.take (k + 1)).take k) := (rightG_end (rightG_take HR.out k) (by omega)).1
          clear hy
          obtain ⟨p', n', u'⟩ := y
          dsimp only at e0 e1 hry
          have hsum : IntKind.i64.wrap (p' + n') = p' + n' := IntWalk.i64_in _ (by omega)
          clear hle0 hry
          have hws1 : IntKind.i64.wrap ((k : Int) + 1 - 1) = k := by rw [IntWalk.i64_in _ (by omega)]; omega
          have hlt' : (k : Int) + 1 < l.length := by omega
          have hgt : decide ((0 : Int) < (k : Int) + 1) = true := decide_eq_true (by omega)
          have hgt2 : decide (0 < k + 1) = true := by simp
          have g0 := cell_rg (hB3.cell (p := ⟨b, off + k * 3, none⟩) hb2 |>.trans e0) (Nat.lt_of_lt_of_le hb2 hB3.size)
          have g1 := cell_rg (hB3.cell (p := ⟨b, off + k * 3 + 1, none⟩) hb2 |>.trans e1) (Nat.lt_of_lt_of_le hb2 hB3.size)
          clear hB3
          by_cases hpe : p < p' + n'
          · have hd : decide (p < p' + n') = true := by simpa using hpe
            have HN := Lib.hid (rightB_false (size := size) (l := l) (fun h => by have h1 := HRA.out h; rw [HEN.out] at h1; dsimp only at h1; omega))
            go_wp2_with fail
            generalize hW6 : wr.alloc (.cells #[.int .i64 p, .int .i64 n, .int .i64 u] 31) = w6 at *
            ((refine wp_region_quiet_below (by kernel_rfl) (by kernel_rfl) ?_); (repeat (go_big_quiet_step (fail))); (refine wpQuiet_nil ?_); (intro _ hw'); (obtain ⟨⟨dq, osq⟩, hw''⟩ := hw'); (subst hw''); (have hb7 := below_regrown w6 dq osq); (generalize Go.Sort.grow (redrawn w6 dq) osq = w7 at *); (have hz7 := hb7.size))
            have hbx7 : Below wr.heap.size wr w7 := HB3.out.trans (hb7.mono HB3.out.size)
            clear k0 k1 g0 g1
            go_wp2_with fail
            go_ret
            exact ⟨by rw [HN.out]; rfl, hbw.trans (hbx7.mono hws)⟩
          · have hd : decide (p < p' + n') = false := by simpa using hpe
            have HRN := Lib.hid (right_next HX.out HR.out (by rw [HEN.out]; dsimp only; omega) (by dsimp only; omega) (by dsimp only; omega) (by dsimp only; omega))
            go_wp2_with fail
            generalize hW6 : wr.alloc (.cells #[.int .i64 p, .int .i64 n, .int .i64 u] 31) = w6 at *
            ((refine wp_region_quiet_below (by kernel_rfl) (by kernel_rfl) ?_); (repeat (go_big_quiet_step (fail))); (refine wpQuiet_nil ?_); (intro _ hw'); (obtain ⟨⟨dq, osq⟩, hw''⟩ := hw'); (subst hw''); (have hb7 := below_regrown w6 dq osq); (generalize Go.Sort.grow (redrawn w6 dq) osq = w7 at *); (have hz7 := hb7.size))
            have hbx7 : Below wr.heap.size wr w7 := HB3.out.trans (hb7.mono HB3.out.size)
            clear k0 k1 g0 g1
            go_wp2_with fail
            go_roundw
            case rel => exact ⟨k + 1 + 1, by omega, by go_num, hbw.trans (hbx7.mono hws), KB.out.below hbx7 hl1, HRN.out⟩
            case measure => simp [intOf]; omega
    · obtain rfl : i = l.length := by omega
      rw [List.take_length] at HR
      have HT := Lib.hid (rightB_true ⟨HR.out, by omega⟩)
      go_wp2_with fail
      go_ret
      exact ⟨by rw [HT.out]; rfl, hbw⟩
end Go.Proofs.Ytdfkfoffinchhaa
