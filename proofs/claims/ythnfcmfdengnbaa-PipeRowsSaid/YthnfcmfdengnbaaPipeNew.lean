/- The law PipeNew: its walk. Conditions: what came in is shaped. -/
import Derived.Test.YthnfcmfdengnbaaPipeRow
namespace Go.Proofs.Ythnfcmfdengnbaa
open Go Go.RowKit Go.Tm
set_option linter.unusedVariables false
set_option linter.unusedSimpArgs false

theorem eql_same (d : ByteArray) (r q : Int) (hd : d.size ≤ 9223372036854775807) (hr : (Lit.int .i64 r).wf = true) (hq : (Lit.int .i64 q).wf = true) :
    ∀ w, (Op.equalIn 10000 26 (.agg #[.string d, .int .i64 r, .int .i64 q]) (.agg #[.string d, .int .i64 r, .int .i64 q])).run Try.prog w = .ok true w :=
  eql_pipe d d r q r q (by unfold maxLen; omega) hr hq (by unfold maxLen; omega) hr hq true (by simp)

theorem freeV_iff (d : ByteArray) (r q : Int) : freeV (.agg #[.string d, .int .i64 r, .int .i64 q]) = true ↔ r ≤ 0 ∧ q ≤ 0 := by
  have : freeV (.agg #[.string d, .int .i64 r, .int .i64 q]) = (decide (r ≤ 0) && decide (q ≤ 0)) := rfl
  rw [this]; simp

/-- What Make answers, seen from outside. -/
theorem makeS_cases (xs : List Value) (hx : ∀ x ∈ xs, PipeV x) : (makeS xs = (xs, 0, 5) ∧ 4 ≤ xs.length) ∨
    ∃ (ys : List Value) (i : Nat), makeS xs = (ys, (i : Int) + 1, 0) ∧ i < ys.length ∧ xs.length ≤ ys.length ∧ ys.length ≤ xs.length + 1 ∧ ys[i]? = some newV ∧ (∀ j x, j ≠ i → xs[j]? = some x → ys[j]? = some x) ∧
      (∀ d r q, xs[i]? = some (.agg #[.string d, .int .i64 r, .int .i64 q]) → r ≤ 0 ∧ q ≤ 0) ∧ ∀ y ∈ ys, PipeV y := by
  unfold makeS idx
  cases h : xs.findIdx? freeV with
  | none =>
    simp only [Int.reduceNeg, Int.reduceLT, if_true]
    by_cases h4 : 4 ≤ xs.length
    · rw [if_pos h4]; exact .inl ⟨rfl, h4⟩
    · rw [if_neg h4]
      refine .inr ⟨_, xs.length, rfl, by simp, by simp, by simp, by simp, ?_, ?_, ?_⟩
      · intro j x hj hx
        rw [List.getElem?_append_left (List.getElem?_eq_some_iff.1 hx).1]; exact hx
      · intro d r q hx
        rw [List.getElem?_eq_none (Nat.le_refl _)] at hx; cases hx
      · intro y hy
        rcases List.mem_append.1 hy with hy | hy
        · exact hx y hy
        · rw [List.mem_singleton.1 hy]; exact newV_pipe
  | some i =>
    rw [List.findIdx?_eq_some_iff_getElem] at h
    obtain ⟨hi, hp, _⟩ := h
    rw [if_neg (show ¬ ((i : Int) < 0) by omega)]
    refine .inr ⟨xs.set i newV, i, by simp, by simpa using hi, by simp, by simp, by simp [hi], ?_, ?_, ?_⟩
    · intro j x hj hx
      rw [List.getElem?_set_ne (by omega)]; exact hx
    · intro d r q hx
      rw [List.getElem?_eq_getElem hi] at hx
      rw [Option.some.inj hx, freeV_iff] at hp
      exact hp
    · intro y hy
      rcases List.mem_or_eq_of_mem_set hy with hy | rfl
      · exact hx y hy
      · exact newV_pipe

set_option maxHeartbeats 4000000 in
theorem pipeNew_walk (v : Value) (xs : List Value) (w : World) (hsl : Sl w true 3 v xs) (hx : ∀ x ∈ xs, PipeV x) (hby : xs.length * 32 ≤ 140737488355328) :
    Calls Try.prog 9 #[v] w fun e w' => e = .returned (.bool true) ∧ Below w.heap.size w w' := by
  have HSL := Lib.hid hsl
  have hMk := fun W h => make_any v xs W h hx hby
  obtain ⟨a, cap, rfl, hlen⟩ := hsl.shape
  clear hsl
  rcases makeS_cases xs hx with ⟨hm, h4⟩ | ⟨ys, i, hm, hi, hle, hle1, hyi, hoth, hfr, hys⟩
  · rw [hm] at hMk
    have HX := Lib.hid hx
    clear hx hm
    have h4' : (4 : Int) ≤ xs.length := by omega
    go_enter Try.func9, Try.ntmps9
    ((go_wp2_with fail); (with_reducible refine (shown_true _).mono ?_); (rintro e w1 ⟨rfl, hb1⟩); (have hz1 := hb1.size); (try simp only [World.size_alloc, World.size_setCell] at hz1))
    go_wp2_with fail
    with_reducible refine (hMk _ (HSL.out.below (by (repeat (first | with_reducible assumption | with_reducible exact Below.refl _ _ | with_reducible refine Below.setCell ?_ ?_ _ | with_reducible refine Below.alloc ?_ ?_ _ | with_reducible refine below_drewN' ?_ _ | with_reducible refine Below.drew ?_ | with_reducible refine Below.trans ?_ (Below.mono (by assumption) ?_) | omega | (dsimp only; omega) | (simp only [drew_heap', drewN_heap', World.size_alloc, World.size_setCell]; omega) | (solve | simp) | (solve | (simp; omega))))))).mono ?_
    rintro e w2 ⟨v2, rfl, hs2, hb2⟩
    have hz2 := hb2.size
    have HS2 := Lib.hid hs2
    clear hs2 hMk
    ((go_wp2_with fail); (with_reducible refine (same_true v2 _ xs _ HS2.out (HSL.out.below (by (repeat (first | with_reducible assumption | with_reducible exact Below.refl _ _ | with_reducible refine Below.setCell ?_ ?_ _ | with_reducible refine Below.alloc ?_ ?_ _ | with_reducible refine below_drewN' ?_ _ | with_reducible refine Below.drew ?_ | with_reducible refine Below.trans ?_ (Below.mono (by assumption) ?_) | omega | (dsimp only; omega) | (simp only [drew_heap', drewN_heap', World.size_alloc, World.size_setCell]; omega) | (solve | simp) | (solve | (simp; omega)))))) HX.out).mono ?_); (rintro e w3 ⟨rfl, hb3⟩); (have hz3 := hb3.size); (try simp only [World.size_alloc, World.size_setCell] at hz3))
    go_wp2_with fail
    go_ret
    exact ⟨rfl, by (repeat (first | with_reducible assumption | with_reducible exact Below.refl _ _ | with_reducible refine Below.setCell ?_ ?_ _ | with_reducible refine Below.alloc ?_ ?_ _ | with_reducible refine below_drewN' ?_ _ | with_reducible refine Below.drew ?_ | with_reducible refine Below.trans ?_ (Below.mono (by assumption) ?_) | omega | (dsimp only; omega) | (simp only [drew_heap', drewN_heap', World.size_alloc, World.size_setCell]; omega) | (solve | simp) | (solve | (simp; omega))))⟩
  · rw [hm] at hMk
    have HX := Lib.hid hx
    have HOTH := Lib.hid hoth
    have HFR := Lib.hid hfr
    have HYI := Lib.hid hyi
    have HYS := Lib.hid hys
    clear hx hm hoth hfr hyi hys
    have hsub : IntKind.i64.wrap ((i : Int) + 1 - 1) = i := by rw [IntWalk.i64_in _ (by omega)]; omega
    have hnl : ¬ ys.length < xs.length := by omega
    have hnl2 : ¬ xs.length + 1 < ys.length := by omega
    have hnl3 : ¬ ys.length < i + 1 := by omega
    have hnl4 : ¬ (xs.length : Int) + 1 < ys.length := by omega
    have hnl5 : ¬ (ys.length : Int) < (i : Int) + 1 := by omega
    have hw1 : IntKind.i64.wrap ((xs.length : Int) + 1) = xs.length + 1 ∨ xs.length = 9223372036854775807 := by
      by_cases h : xs.length = 9223372036854775807
      · exact .inr h
      · exact .inl (IntWalk.i64_in _ (by omega))
    have hw1 : IntKind.i64.wrap ((xs.length : Int) + 1) = xs.length + 1 := hw1.resolve_right (by omega)
    go_enter Try.func9, Try.ntmps9
    ((go_wp2_with fail); (with_reducible refine (shown_true _).mono ?_); (rintro e w1 ⟨rfl, hb1⟩); (have hz1 := hb1.size); (try simp only [World.size_alloc, World.size_setCell] at hz1))
    go_wp2_with fail
    with_reducible refine (hMk _ (HSL.out.below (by (repeat (first | with_reducible assumption | with_reducible exact Below.refl _ _ | with_reducible refine Below.setCell ?_ ?_ _ | with_reducible refine Below.alloc ?_ ?_ _ | with_reducible refine below_drewN' ?_ _ | with_reducible refine Below.drew ?_ | with_reducible refine Below.trans ?_ (Below.mono (by assumption) ?_) | omega | (dsimp only; omega) | (simp only [drew_heap', drewN_heap', World.size_alloc, World.size_setCell]; omega) | (solve | simp) | (solve | (simp; omega))))))).mono ?_
    rintro e w2 ⟨v2, rfl, hs2, hb2⟩
    have hz2 := hb2.size
    have HS2 := Lib.hid hs2
    obtain ⟨a2, cap2, rfl, hlen2⟩ := hs2.shape
    obtain ⟨b2, off2, rfl, hlt2, hcell⟩ := hs2.at HYI.out
    have c0 : w2.cell? ⟨b2, off2 + i * 3, none⟩ = some (.string ⟨#[]⟩) := hcell 0 _ rfl
    have c1 : w2.cell? ⟨b2, off2 + i * 3 + 1, none⟩ = some (.int .i64 1) := hcell 1 _ rfl
    have c2 : w2.cell? ⟨b2, off2 + i * 3 + 2, none⟩ = some (.int .i64 1) := hcell 2 _ rfl
    have heq := eql_same ⟨#[]⟩ 1 1 (by decide) rfl rfl
    clear hs2 hMk hcell
    go_wp2_with fail
    go_loopw [7] (fun t W => ∃ j : Nat, j ≤ xs.length ∧ t = .int .i64 j ∧ Below w2.heap.size w2 W) (fun t _ => xs.length - (intOf t).toNat)
    case atStart => exact ⟨0, Nat.zero_le _, rfl, Below.refl _ _⟩
    case round =>
      obtain ⟨j, hj, rfl, hbw⟩ := hrel
      have hws := hbw.size
      clear c0 c1 c2 heq
      have hbw0 : Below w.heap.size w wr := by (repeat (first | with_reducible assumption | with_reducible exact Below.refl _ _ | with_reducible refine Below.setCell ?_ ?_ _ | with_reducible refine Below.alloc ?_ ?_ _ | with_reducible refine below_drewN' ?_ _ | with_reducible refine Below.drew ?_ | with_reducible refine Below.trans ?_ (Below.mono (by assumption) ?_) | omega | (dsimp only; omega) | (simp only [drew_heap', drewN_heap', World.size_alloc, World.size_setCell]; omega) | (solve | simp) | (solve | (simp; omega))))
      by_cases hlt : j < xs.length
      · obtain ⟨x, hxj⟩ : ∃ x, xs[j]? = some x := ⟨_, List.getElem?_eq_getElem hlt⟩
        obtain ⟨d, r, q, rfl, hd, hr, hq⟩ := HX.out x (List.mem_of_getElem? hxj)
        obtain ⟨b, off, rfl, hb, hcell⟩ := (HSL.out.below hbw0).at hxj
        have c0 : wr.cell? ⟨b, off + j * 3, none⟩ = some (.string d) := hcell 0 _ rfl
        have c1 : wr.cell? ⟨b, off + j * 3 + 1, none⟩ = some (.int .i64 r) := hcell 1 _ rfl
        have c2 : wr.cell? ⟨b, off + j * 3 + 2, none⟩ = some (.int .i64 q) := hcell 2 _ rfl
        have hwr : IntKind.i64.wrap ((j : Int) + 1) = j + 1 := IntWalk.i64_in _ (by omega)
        have heq := eql_same d r q hd hr hq
        by_cases hji : j = i
        · subst hji
          obtain ⟨hr0, hq0⟩ := HFR.out d r q hxj
          have hr1 : ¬ (0 : Int) < r := by omega
          have hq1 : ¬ (0 : Int) < q := by omega
          have hr2 : decide ((0 : Int) < r) = false := by simp; omega
          have hq2 : decide ((0 : Int) < q) = false := by simp; omega
          clear hcell hxj
          go_wp2_with fail
          have g1 := cell_rg c1 hb
          have g2 := cell_rg c2 hb
          ((refine wp_region_quiet_below (by kernel_rfl) (by kernel_rfl) ?_); (repeat (go_big_quiet_step (fail))); (refine wpQuiet_nil ?_); (intro _ hw'); (obtain ⟨⟨dq, osq⟩, hw''⟩ := hw'); (subst hw''); (have hb7 := below_regrown wr dq osq); (generalize Go.Sort.grow (redrawn wr dq) osq = w7 at *); (have hz7 := hb7.size))
          go_wp2_with fail
          go_roundw
          case rel => exact ⟨j + 1, by omega, by go_num, by (repeat (first | with_reducible assumption | with_reducible exact Below.refl _ _ | with_reducible refine Below.setCell ?_ ?_ _ | with_reducible refine Below.alloc ?_ ?_ _ | with_reducible refine below_drewN' ?_ _ | with_reducible refine Below.drew ?_ | with_reducible refine Below.trans ?_ (Below.mono (by assumption) ?_) | omega | (dsimp only; omega) | (simp only [drew_heap', drewN_heap', World.size_alloc, World.size_setCell]; omega) | (solve | simp) | (solve | (simp; omega))))⟩
          case measure => simp [intOf]; omega
        · have hji' : ¬ (j : Int) = i := by omega
          have n1 : ((j : Int) != (i : Int)) = true := by simp; omega
          have n2 : ((j : Int) == (i : Int)) = false := by simp; omega
          have n3 : (j != i) = true := by simp; omega
          have n4 : (j == i) = false := by simp; omega
          obtain ⟨b', off', ha', hb', hcell'⟩ := (HS2.out.below hbw).at (HOTH.out j _ hji hxj)
          simp only [Option.some.injEq, Addr.mk.injEq, and_true] at ha'
          obtain ⟨rfl, rfl⟩ := ha'
          have e0 : wr.cell? ⟨b2, off2 + j * 3, none⟩ = some (.string d) := hcell' 0 _ rfl
          have e1 : wr.cell? ⟨b2, off2 + j * 3 + 1, none⟩ = some (.int .i64 r) := hcell' 1 _ rfl
          have e2 : wr.cell? ⟨b2, off2 + j * 3 + 2, none⟩ = some (.int .i64 q) := hcell' 2 _ rfl
          clear hcell hcell' hxj
          have hjl : j < ys.length := by omega
          go_wp2_with fail
          have g0 := cell_rg c0 hb
          have g1 := cell_rg c1 hb
          have g2 := cell_rg c2 hb
          have k0 := cell_rg e0 hb'
          have k1 := cell_rg e1 hb'
          have k2 := cell_rg e2 hb'
          ((refine wp_region_quiet_below (by kernel_rfl) (by kernel_rfl) ?_); (repeat (go_big_quiet_step (fail))); (refine wpQuiet_nil ?_); (intro _ hw'); (obtain ⟨⟨dq, osq⟩, hw''⟩ := hw'); (subst hw''); (have hb7 := below_regrown wr dq osq); (generalize Go.Sort.grow (redrawn wr dq) osq = w7 at *); (have hz7 := hb7.size))
          go_wp2_with fail
          go_roundw
          case rel => exact ⟨j + 1, by omega, by go_num, by (repeat (first | with_reducible assumption | with_reducible exact Below.refl _ _ | with_reducible refine Below.setCell ?_ ?_ _ | with_reducible refine Below.alloc ?_ ?_ _ | with_reducible refine below_drewN' ?_ _ | with_reducible refine Below.drew ?_ | with_reducible refine Below.trans ?_ (Below.mono (by assumption) ?_) | omega | (dsimp only; omega) | (simp only [drew_heap', drewN_heap', World.size_alloc, World.size_setCell]; omega) | (solve | simp) | (solve | (simp; omega))))⟩
          case measure => simp [intOf]; omega
      · go_wp2_with fail
        go_ret
        exact ⟨rfl, hbw0⟩
end Go.Proofs.Ythnfcmfdengnbaa
