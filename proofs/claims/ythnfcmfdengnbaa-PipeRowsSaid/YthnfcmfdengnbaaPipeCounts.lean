/- The law PipeCounts: its walk. Conditions: what came in is shaped. -/
import Derived.Test.YthnfcmfdengnbaaPipeNew
namespace Go.Proofs.Ythnfcmfdengnbaa
open Go Go.RowKit Go.Tm
set_option linter.unusedVariables false
set_option linter.unusedSimpArgs false

theorem wrap_back (n : Int) (h : (Lit.int .i64 n).wf = true) : wrap64 (wrap64 (n + 1) + -1) = n := by
  simp only [Lit.wf, IntKind.min, IntKind.max, IntKind.bits, IntKind.signed, Bool.and_eq_true, decide_eq_true_eq] at h
  unfold wrap64
  simp at h ⊢
  omega
theorem countV_pipe (b : Bool) (n : Int) {x : Value} (h : PipeV x) : PipeV (countV b n x) := by
  obtain ⟨d, r, q, rfl, hd, hr, hq⟩ := h
  cases b
  · exact ⟨d, _, q, rfl, hd, wrap64_wf _, hq⟩
  · exact ⟨d, r, _, rfl, hd, hr, wrap64_wf _⟩
theorem countV_back (b : Bool) {x : Value} (h : PipeV x) : countV b (-1) (countV b 1 x) = x := by
  obtain ⟨d, r, q, rfl, hd, hr, hq⟩ := h
  cases b
  · rw [countV_f, countV_f, wrap_back _ hr]
  · rw [countV_t, countV_t, wrap_back _ hq]
theorem countS_pipe {xs : List Value} (hx : ∀ x ∈ xs, PipeV x) (p : Int) (b : Bool) (n : Int) : ∀ x ∈ countS xs p b n, PipeV x := by
  intro y hy
  obtain ⟨i, hi, rfl⟩ := List.getElem_of_mem hy
  rw [countS_len] at hi
  have h := countS_get xs p b n (List.getElem?_eq_getElem hi)
  rw [List.getElem?_eq_getElem (by rw [countS_len]; exact hi)] at h
  rw [Option.some.inj h]
  have := hx _ (List.getElem_mem hi)
  split
  · exact countV_pipe _ _ this
  · exact this
theorem countS_back {xs : List Value} (hx : ∀ x ∈ xs, PipeV x) (p : Int) (b : Bool) : countS (countS xs p b 1) p b (-1) = xs := by
  apply List.ext_getElem?
  intro i
  by_cases hi : i < xs.length
  · have h1 := countS_get xs p b 1 (List.getElem?_eq_getElem hi)
    have h2 := countS_get _ p b (-1) h1
    rw [h2, List.getElem?_eq_getElem hi]
    have := hx _ (List.getElem_mem hi)
    by_cases hp : (i : Int) + 1 = p
    · rw [if_pos hp, if_pos hp, countV_back b this]
    · rw [if_neg hp, if_neg hp]
  · rw [List.getElem?_eq_none (by rw [countS_len, countS_len]; omega), List.getElem?_eq_none (by omega)]

set_option maxHeartbeats 4000000 in
theorem pipeCounts_walk (v : Value) (xs : List Value) (p : Int) (wb : Bool) (w : World) (hsl : Sl w true 3 v xs) (hx : ∀ x ∈ xs, PipeV x) (hby : xs.length * 32 ≤ 140737488355328) (hp : (Lit.int .i64 p).wf = true) :
    Calls Try.prog 8 #[v, .agg #[.int .i64 p, .bool wb]] w fun e w' => e = .returned (.bool true) ∧ Below w.heap.size w w' := by
  have HSL := Lib.hid hsl
  have hC1 := fun W h => count_any v xs p wb 1 W h hx hby hp
  have hC2 := fun u W h => count_any u (countS xs p wb 1) p wb (-1) W h (countS_pipe hx p wb 1) (by rw [countS_len]; exact hby) hp
  rw [countS_back hx] at hC2
  obtain ⟨a, cap, rfl, hlen⟩ := hsl.shape
  have HX := Lib.hid hx
  have hget := fun i x h => countS_get xs p wb 1 (i := i) (x := x) h
  have HGET := Lib.hid hget
  have hl := countS_len xs p wb 1
  generalize countS xs p wb 1 = ys at *
  have HL := Lib.hid hl
  clear hl
  have HC2 := Lib.hid hC2
  clear hsl hx hget hC2
  go_enter Try.func8, Try.ntmps8
  ((go_wp2_with fail); (with_reducible refine (shown_true _).mono ?_); (rintro e w1 ⟨rfl, hb1⟩); (have hz1 := hb1.size); (try simp only [World.size_alloc, World.size_setCell] at hz1))
  (have b1 : Box w1 w.heap.size #[.int .i64 p, .bool wb] 44 := (by (try have k1 := (Lib.hid True.intro).out); ((apply Box.cast); (repeat (first | with_reducible assumption | ((with_reducible apply Box.new1); (first | with_reducible rfl | rfl | (solve | simp))) | with_reducible apply Box.drewN | with_reducible apply Box.drew | with_reducible apply Box.set | with_reducible apply Box.other | with_reducible apply Box.alloc | (with_reducible apply Box.below; rotate_left; with_reducible assumption; rotate_right) | with_reducible rfl | omega | (dsimp only; omega) | (simp only [drew_heap', drewN_heap', World.size_alloc, World.size_setCell]; omega) | rfl | (solve | simp) | (solve | (simp; omega))))))); (obtain ⟨hc1, hf1, hl1, hn1, hm1⟩ := b1.rules); (have K1 := Lib.hid b1); (clear b1)
  go_wp2_with fail
  with_reducible refine (hC1 _ (HSL.out.below (by (repeat (first | with_reducible assumption | with_reducible exact Below.refl _ _ | with_reducible refine Below.setCell ?_ ?_ _ | with_reducible refine Below.alloc ?_ ?_ _ | with_reducible refine below_drewN' ?_ _ | with_reducible refine Below.drew ?_ | with_reducible refine Below.trans ?_ (Below.mono (by assumption) ?_) | omega | (dsimp only; omega) | (simp only [drew_heap', drewN_heap', World.size_alloc, World.size_setCell]; omega) | (solve | simp) | (solve | (simp; omega))))))).mono ?_
  rintro e w2 ⟨v2, rfl, hs2, hb2⟩
  have hz2 := hb2.size
  (have b2 : Box w2 w.heap.size #[.int .i64 p, .bool wb] 44 := (by (try have k2 := K1.out); ((apply Box.cast); (repeat (first | with_reducible assumption | ((with_reducible apply Box.new1); (first | with_reducible rfl | rfl | (solve | simp))) | with_reducible apply Box.drewN | with_reducible apply Box.drew | with_reducible apply Box.set | with_reducible apply Box.other | with_reducible apply Box.alloc | (with_reducible apply Box.below; rotate_left; with_reducible assumption; rotate_right) | with_reducible rfl | omega | (dsimp only; omega) | (simp only [drew_heap', drewN_heap', World.size_alloc, World.size_setCell]; omega) | rfl | (solve | simp) | (solve | (simp; omega))))))); (obtain ⟨hc2, hf2, hl2, hn2, hm2⟩ := b2.rules); (have K2 := Lib.hid b2); (clear b2)
  obtain ⟨a2, cap2, rfl, hlen2⟩ := hs2.shape
  rw [HL.out] at hs2
  have HS2 := Lib.hid hs2
  rw [HL.out]
  clear hs2 hC1 hlen2
  go_wp2_with fail
  go_loopw [7] (fun t W => ∃ j : Nat, j ≤ xs.length ∧ t = .int .i64 j ∧ Below w2.heap.size w2 W) (fun t _ => xs.length - (intOf t).toNat)
  case atStart => exact ⟨0, Nat.zero_le _, rfl, Below.refl _ _⟩
  case round =>
    obtain ⟨j, hj, rfl, hbw⟩ := hrel
    have hws := hbw.size
    (have b3 : Box wr w.heap.size #[.int .i64 p, .bool wb] 44 := (by (try have k3 := K2.out); ((apply Box.cast); (repeat (first | with_reducible assumption | ((with_reducible apply Box.new1); (first | with_reducible rfl | rfl | (solve | simp))) | with_reducible apply Box.drewN | with_reducible apply Box.drew | with_reducible apply Box.set | with_reducible apply Box.other | with_reducible apply Box.alloc | (with_reducible apply Box.below; rotate_left; with_reducible assumption; rotate_right) | with_reducible rfl | omega | (dsimp only; omega) | (simp only [drew_heap', drewN_heap', World.size_alloc, World.size_setCell]; omega) | rfl | (solve | simp) | (solve | (simp; omega))))))); (obtain ⟨hc3, hf3, hl3, hn3, hm3⟩ := b3.rules); (have K3 := Lib.hid b3); (clear b3)
    have hbw0 : Below w.heap.size w wr := by (repeat (first | with_reducible assumption | with_reducible exact Below.refl _ _ | with_reducible refine Below.setCell ?_ ?_ _ | with_reducible refine Below.alloc ?_ ?_ _ | with_reducible refine below_drewN' ?_ _ | with_reducible refine Below.drew ?_ | with_reducible refine Below.trans ?_ (Below.mono (by assumption) ?_) | omega | (dsimp only; omega) | (simp only [drew_heap', drewN_heap', World.size_alloc, World.size_setCell]; omega) | (solve | simp) | (solve | (simp; omega))))
    clear hc1 hf1 hl1 hn1 hm1 hc2 hf2 hl2 hn2 hm2
    by_cases hlt : j < xs.length
    · obtain ⟨x, hxj⟩ : ∃ x, xs[j]? = some x := ⟨_, List.getElem?_eq_getElem hlt⟩
      have hyj := HGET.out j x hxj
      obtain ⟨d, r, q, rfl, hd, hr, hq⟩ := HX.out x (List.mem_of_getElem? hxj)
      obtain ⟨b, off, rfl, hb, hcell⟩ := (HSL.out.below hbw0).at hxj
      have c0 : wr.cell? ⟨b, off + j * 3, none⟩ = some (.string d) := hcell 0 _ rfl
      have c1 : wr.cell? ⟨b, off + j * 3 + 1, none⟩ = some (.int .i64 r) := hcell 1 _ rfl
      have c2 : wr.cell? ⟨b, off + j * 3 + 2, none⟩ = some (.int .i64 q) := hcell 2 _ rfl
      have hwr : IntKind.i64.wrap ((j : Int) + 1) = j + 1 := IntWalk.i64_in _ (by omega)
      have heq := eql_same d r q hd hr hq
      by_cases hjp : (j : Int) + 1 = p
      · rw [if_pos hjp] at hyj
        obtain ⟨r', q', hcv⟩ : ∃ r' q', countV wb 1 (.agg #[.string d, .int .i64 r, .int .i64 q]) = .agg #[.string d, .int .i64 r', .int .i64 q'] := by
          cases wb
          · exact ⟨_, _, countV_f d r q 1⟩
          · exact ⟨_, _, countV_t d r q 1⟩
        rw [hcv] at hyj
        obtain ⟨b', off', rfl, hb', hcell'⟩ := (HS2.out.below hbw).at hyj
        have e0 : wr.cell? ⟨b', off' + j * 3, none⟩ = some (.string d) := hcell' 0 _ rfl
        clear hcell hcell' hxj hyj hcv
        subst hjp
        go_wp2_with fail
        have g0 := cell_rg c0 hb
        have k0 := cell_rg e0 hb'
        have K3b := K3.out.regrown
        ((refine wp_region_quiet_below (by kernel_rfl) (by kernel_rfl) ?_); (repeat (go_big_quiet_step (fail))); (refine wpQuiet_nil ?_); (intro _ hw'); (obtain ⟨⟨dq, osq⟩, hw''⟩ := hw'); (subst hw''); (have hb7 := below_regrown wr dq osq); (generalize Go.Sort.grow (redrawn wr dq) osq = w7 at *); (have hz7 := hb7.size))
        clear g0 k0 K3b
        go_wp2_with fail
        go_roundw
        case rel => exact ⟨j + 1, by omega, by go_num, by (repeat (first | with_reducible assumption | with_reducible exact Below.refl _ _ | with_reducible refine Below.setCell ?_ ?_ _ | with_reducible refine Below.alloc ?_ ?_ _ | with_reducible refine below_drewN' ?_ _ | with_reducible refine Below.drew ?_ | with_reducible refine Below.trans ?_ (Below.mono (by assumption) ?_) | omega | (dsimp only; omega) | (simp only [drew_heap', drewN_heap', World.size_alloc, World.size_setCell]; omega) | (solve | simp) | (solve | (simp; omega))))⟩
        case measure => simp [intOf]; omega
      · rw [if_neg hjp] at hyj
        have n1 : ((j : Int) + 1 != p) = true := by simp; omega
        have n2 : ((j : Int) + 1 == p) = false := by simp; omega
        obtain ⟨b', off', rfl, hb', hcell'⟩ := (HS2.out.below hbw).at hyj
        have e0 : wr.cell? ⟨b', off' + j * 3, none⟩ = some (.string d) := hcell' 0 _ rfl
        have e1 : wr.cell? ⟨b', off' + j * 3 + 1, none⟩ = some (.int .i64 r) := hcell' 1 _ rfl
        have e2 : wr.cell? ⟨b', off' + j * 3 + 2, none⟩ = some (.int .i64 q) := hcell' 2 _ rfl
        clear hcell hcell' hxj hyj
        go_wp2_with fail
        have g0 := cell_rg c0 hb
        have g1 := cell_rg c1 hb
        have g2 := cell_rg c2 hb
        have k0 := cell_rg e0 hb'
        have k1 := cell_rg e1 hb'
        have k2 := cell_rg e2 hb'
        have K3b := K3.out.regrown
        ((refine wp_region_quiet_below (by kernel_rfl) (by kernel_rfl) ?_); (repeat (go_big_quiet_step (fail))); (refine wpQuiet_nil ?_); (intro _ hw'); (obtain ⟨⟨dq, osq⟩, hw''⟩ := hw'); (subst hw''); (have hb7 := below_regrown wr dq osq); (generalize Go.Sort.grow (redrawn wr dq) osq = w7 at *); (have hz7 := hb7.size))
        clear g0 g1 g2 k0 k1 k2 K3b
        go_wp2_with fail
        go_roundw
        case rel => exact ⟨j + 1, by omega, by go_num, by (repeat (first | with_reducible assumption | with_reducible exact Below.refl _ _ | with_reducible refine Below.setCell ?_ ?_ _ | with_reducible refine Below.alloc ?_ ?_ _ | with_reducible refine below_drewN' ?_ _ | with_reducible refine Below.drew ?_ | with_reducible refine Below.trans ?_ (Below.mono (by assumption) ?_) | omega | (dsimp only; omega) | (simp only [drew_heap', drewN_heap', World.size_alloc, World.size_setCell]; omega) | (solve | simp) | (solve | (simp; omega))))⟩
        case measure => simp [intOf]; omega
    · go_wp2_with fail
      with_reducible refine (HC2.out _ _ (HS2.out.below (by (repeat (first | with_reducible assumption | with_reducible exact Below.refl _ _ | with_reducible refine Below.setCell ?_ ?_ _ | with_reducible refine Below.alloc ?_ ?_ _ | with_reducible refine below_drewN' ?_ _ | with_reducible refine Below.drew ?_ | with_reducible refine Below.trans ?_ (Below.mono (by assumption) ?_) | omega | (dsimp only; omega) | (simp only [drew_heap', drewN_heap', World.size_alloc, World.size_setCell]; omega) | (solve | simp) | (solve | (simp; omega))))))).mono ?_
      rintro e w3 ⟨v3, rfl, hs3, hb3⟩
      have hz3 := hb3.size
      have HS3 := Lib.hid hs3
      clear hs3
      ((go_wp2_with fail); (with_reducible refine (same_true v3 _ xs _ HS3.out (HSL.out.below (by (repeat (first | with_reducible assumption | with_reducible exact Below.refl _ _ | with_reducible refine Below.setCell ?_ ?_ _ | with_reducible refine Below.alloc ?_ ?_ _ | with_reducible refine below_drewN' ?_ _ | with_reducible refine Below.drew ?_ | with_reducible refine Below.trans ?_ (Below.mono (by assumption) ?_) | omega | (dsimp only; omega) | (simp only [drew_heap', drewN_heap', World.size_alloc, World.size_setCell]; omega) | (solve | simp) | (solve | (simp; omega)))))) HX.out).mono ?_); (rintro e w4 ⟨rfl, hb4⟩); (have hz4 := hb4.size); (try simp only [World.size_alloc, World.size_setCell] at hz4))
      go_wp2_with fail
      go_ret
      exact ⟨rfl, by (repeat (first | with_reducible assumption | with_reducible exact Below.refl _ _ | with_reducible refine Below.setCell ?_ ?_ _ | with_reducible refine Below.alloc ?_ ?_ _ | with_reducible refine below_drewN' ?_ _ | with_reducible refine Below.drew ?_ | with_reducible refine Below.trans ?_ (Below.mono (by assumption) ?_) | omega | (dsimp only; omega) | (simp only [drew_heap', drewN_heap', World.size_alloc, World.size_setCell]; omega) | (solve | simp) | (solve | (simp; omega))))⟩
end Go.Proofs.Ythnfcmfdengnbaa
