/- The law TraceCuts: its walk. Conditions: what came in is shaped. -/
import Derived.Test.YtnjhnkbjbkbnoaaTraceFns2
namespace Go.Proofs.Ytnjhnkbjbkbnoaa
open Go Go.RowKit Go.Tm
set_option linter.unusedVariables false
set_option linter.unusedSimpArgs false

theorem until_mono (l : List Ev) {a b : Int} (h : a ≤ b) : untilN l a ≤ untilN l b := by
  rcases Nat.lt_or_ge (untilN l b) (untilN l a) with h' | h'
  · have hle := untilN_le l a
    have hx := List.getElem?_eq_getElem (l := l) (show untilN l b < l.length by omega)
    have h1 := tw_at hx h'
    have h2 := tw_stop hx
    simp at h1 h2
    omega
  · exact h'
theorem until_at {l : List Ev} {t : Int} {i : Nat} {x : Ev} (hx : l[i]? = some x) (h : i < untilN l t) : x.2.2.2 < t := by
  have := tw_at hx h
  simpa using this
theorem until_stop {l : List Ev} {t : Int} {x : Ev} (hx : l[untilN l t]? = some x) : t ≤ x.2.2.2 := by
  have := tw_stop hx
  simpa using this

set_option maxHeartbeats 8000000 in
theorem traceCuts_walk (v : Value) (l : List Ev) (a b : Int) (w : World) (hv : Sl w true 4 v (evs l)) (hw : ∀ x ∈ l, EvWf x) :
    Calls Try.prog 4 #[v, .int .u64 a, .int .u64 b] w fun e w' => e = .returned (.bool true) ∧ Below w.heap.size w w' := by
  have HV := Lib.hid hv
  have HW := Lib.hid hw
  have HX := Lib.hid (fun W h => until_any v l a W h)
  have HY := Lib.hid (fun W h => until_any v l b W h)
  have hla := untilN_le l a
  have hlb := untilN_le l b
  have hmo : a ≤ b → untilN l a ≤ untilN l b := until_mono l
  have HAT := Lib.hid (fun i x (hx : l[i]? = some x) (h : i < untilN l a) => until_at hx h)
  have HST := Lib.hid (fun x (hx : l[untilN l b]? = some x) => until_stop hx)
  obtain ⟨av, cv, rfl, hl⟩ := hv.shape
  rw [evs_len] at hl HV HX HY ⊢
  have HT := Lib.hid (fun (m i : Nat) (x : Ev) (h : i < m) (hx : l[i]? = some x) => (show (l.take m)[i]? = some x by rw [List.getElem?_take, if_pos h]; exact hx))
  generalize untilN l a = m at *
  generalize untilN l b = n at *
  clear hv hw
  go_enter Try.func4, Try.ntmps4
  ((go_wp2_with fail); (with_reducible refine (shown_any _).mono ?_); (rintro e w1 ⟨rfl, hb1⟩); (have hz1 := hb1.size); (try simp only [World.size_alloc, World.size_setCell] at hz1))
  go_wp2_with fail
  with_reducible refine (HX.out _ (HV.out.below (by (repeat (first | with_reducible assumption | with_reducible exact Below.refl _ _ | with_reducible refine Below.setCell ?_ ?_ _ | with_reducible refine Below.alloc ?_ ?_ _ | with_reducible refine below_drewN' ?_ _ | with_reducible refine Below.drew ?_ | with_reducible refine Below.trans ?_ (Below.mono (by assumption) ?_) | omega | (dsimp only; omega) | (simp only [drew_heap', drewN_heap', World.size_alloc, World.size_setCell]; omega) | (solve | simp) | (solve | (simp; omega))))))).mono ?_
  rintro e w2 ⟨v2, rfl, hs2, hb2⟩
  have hz2 := hb2.size
  obtain ⟨a2, c2, rfl, hl2⟩ := hs2.shape
  have hm2 : (evs (l.take m)).length = m := by rw [evs_len, List.length_take]; omega
  rw [hm2] at hl2 hs2 ⊢
  have HS2 := Lib.hid hs2
  clear hs2
  go_wp2_with fail
  with_reducible refine (HY.out _ (HV.out.below (by (repeat (first | with_reducible assumption | with_reducible exact Below.refl _ _ | with_reducible refine Below.setCell ?_ ?_ _ | with_reducible refine Below.alloc ?_ ?_ _ | with_reducible refine below_drewN' ?_ _ | with_reducible refine Below.drew ?_ | with_reducible refine Below.trans ?_ (Below.mono (by assumption) ?_) | omega | (dsimp only; omega) | (simp only [drew_heap', drewN_heap', World.size_alloc, World.size_setCell]; omega) | (solve | simp) | (solve | (simp; omega))))))).mono ?_
  rintro e w3 ⟨v3, rfl, hs3, hb3⟩
  have hz3 := hb3.size
  obtain ⟨a3, c3, rfl, hl3⟩ := hs3.shape
  have hn2 : (evs (l.take n)).length = n := by rw [evs_len, List.length_take]; omega
  rw [hn2] at hl3 hs3 ⊢
  have HS3 := Lib.hid hs3
  have hbw : Below w.heap.size w w3 := by (repeat (first | with_reducible assumption | with_reducible exact Below.refl _ _ | with_reducible refine Below.setCell ?_ ?_ _ | with_reducible refine Below.alloc ?_ ?_ _ | with_reducible refine below_drewN' ?_ _ | with_reducible refine Below.drew ?_ | with_reducible refine Below.trans ?_ (Below.mono (by assumption) ?_) | omega | (dsimp only; omega) | (simp only [drew_heap', drewN_heap', World.size_alloc, World.size_setCell]; omega) | (solve | simp) | (solve | (simp; omega))))
  have HS2' := Lib.hid (HS2.out.below hb3)
  clear hs3 HS2 hm2 hn2
  by_cases hab : b < a
  · go_wp2_with fail
    go_ret
    exact ⟨rfl, hbw⟩
  have hmn := hmo (by omega)
  have hmn' : ¬ (n : Int) < (m : Int) := by omega
  have hmd : decide (n < m) = false := by simp; omega
  have hbd : decide (b < a) = false := by simpa using hab
  go_wp2_with fail
  go_loopw [10] (fun t W => ∃ i : Nat, i ≤ m ∧ t = .int .i64 i ∧ Below w3.heap.size w3 W) (fun t _ => m - (intOf t).toNat)
  case atStart => exact ⟨0, Nat.zero_le _, rfl, Below.refl _ _⟩
  case round =>
    obtain ⟨i, hi, rfl, hbx⟩ := hrel
    have hws := hbx.size
    by_cases hlt : i < m
    · obtain ⟨x, hx⟩ : ∃ x, l[i]? = some x := ⟨_, List.getElem?_eq_getElem (by omega)⟩
      have hxw := HW.out x (List.mem_of_getElem? hx)
      have heq := eql_ev x x hxw hxw true (by simp)
      have hlx := HAT.out i x hx hlt
      have hlx' : ¬ a ≤ x.2.2.2 := by omega
      obtain ⟨b1, off, rfl, hb, p0, p1, p2, p3⟩ := Sl.ev (HS2'.out.below hbx) (HT.out m i x hlt hx)
      obtain ⟨b2, off2, rfl, hb2', e0, e1, e2, e3⟩ := Sl.ev (HS3.out.below hbx) (HT.out n i x (by omega) hx)
      have hwr : IntKind.i64.wrap ((i : Int) + 1) = i + 1 := IntWalk.i64_in _ (by omega)
      have hcd : decide (a ≤ x.2.2.2) = false := by simpa using hlx'
      have g0 := cell_rg p0 hb
      have g1 := cell_rg p1 hb
      have g2 := cell_rg p2 hb
      have g3 := cell_rg p3 hb
      have k0 := cell_rg e0 hb2'
      have k1 := cell_rg e1 hb2'
      have k2 := cell_rg e2 hb2'
      have k3 := cell_rg e3 hb2'
      clear hx hxw hlx
      go_wp2_with fail
      ((refine wp_region_quiet_below (by kernel_rfl) (by kernel_rfl) ?_); (repeat (go_big_quiet_step (fail))); (refine wpQuiet_nil ?_); (intro _ hw'); (obtain ⟨⟨dq, osq⟩, hw''⟩ := hw'); (subst hw''); (have hb7 := below_regrown wr dq osq); (generalize Go.Sort.grow (redrawn wr dq) osq = w7 at *); (have hz7 := hb7.size))
      clear g0 g1 g2 g3 k0 k1 k2 k3
      go_wp2_with fail
      go_roundw
      case rel => exact ⟨i + 1, by omega, by go_num, hbx.trans (hb7.mono hws)⟩
      case measure => simp [intOf]; omega
    · by_cases hnl : n = l.length
      · go_wp2_with fail
        go_ret
        exact ⟨rfl, hbw.trans (hbx.mono (by omega))⟩
      · obtain ⟨x, hx⟩ : ∃ x, l[n]? = some x := ⟨_, List.getElem?_eq_getElem (by omega)⟩
        have hsx := HST.out x hx
        obtain ⟨b1, off, rfl, hb, p0, p1, p2, p3⟩ := Sl.ev (HV.out.below (hbw.trans (hbx.mono (by omega)))) hx
        have hnl' : ((n : Int) == (l.length : Int)) = false := by simp; omega
        clear hx
        go_wp2_with fail
        go_ret
        exact ⟨rfl, hbw.trans (hbx.mono (by omega))⟩
end Go.Proofs.Ytnjhnkbjbkbnoaa
