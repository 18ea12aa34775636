/- The code's Right. Conditions: numbers within their kinds. -/
import Derived.Test.YtndmgbdgcemcmaaSleepRef3
namespace Go.Proofs.Ytndmgbdgcemcmaa
open Go Go.RowKit Go.Tm
set_option linter.unusedVariables false
set_option linter.unusedSimpArgs false

theorem behind_self (x : Al) : behind x x = false := by simp [behind]

set_option maxHeartbeats 8000000 in
theorem right_any (v : Value) (l : List Al) (w : World) (hv : Sl w true 2 v (als l)) (hw : ∀ x ∈ l, AlWf x) :
    Calls Try.prog 20 #[v] w fun e w' => e = .returned (.bool (rightB l)) ∧ Below w.heap.size w w' := by
  have HV := Lib.hid hv
  have HW := Lib.hid hw
  obtain ⟨a, cap, rfl, hl⟩ := hv.shape
  rw [als_len] at hl HV ⊢
  clear hv hw
  go_enter Try.func20, Try.ntmps20
  go_wp2_with fail
  go_loopw [6] (fun t W => ∃ i : Nat, i ≤ l.length ∧ t = .int .i64 i ∧ Below w.heap.size w W ∧ ∀ (j : Nat) (a b : Al), j + 1 < i → l[j]? = some a → l[j + 1]? = some b → behind b a = true) (fun t _ => l.length - (intOf t).toNat)
  case atStart => exact ⟨0, by omega, rfl, Below.refl _ _, by intro j a b h; omega⟩
  case round =>
    obtain ⟨i, hi, rfl, hbw, hprev⟩ := hrel
    have HP := Lib.hid hprev
    have hws := hbw.size
    clear hprev
    by_cases hlt : i < l.length
    · cases i with
      | zero =>
        have hlt' : (0 : Int) < l.length := by omega
        simp only [Int.natCast_zero] at *
        go_wp2_with fail
        ((refine wp_region_quiet_below (by kernel_rfl) (by kernel_rfl) ?_); (repeat (go_big_quiet_step (fail))); (refine wpQuiet_nil ?_); (intro _ hw'); (obtain ⟨⟨dq, osq⟩, hw''⟩ := hw'); (subst hw''); (have hb7 := below_regrown wr dq osq); (generalize Go.Sort.grow (redrawn wr dq) osq = w7 at *); (have hz7 := hb7.size))
        go_wp2_with fail
        go_roundw
        case rel => exact ⟨1, by omega, by go_num, hbw.trans (hb7.mono hws), by intro j a b h; omega⟩
        case measure => simp [intOf]; omega
      | succ k =>
        obtain ⟨x, hx⟩ : ∃ x, l[k]? = some x := ⟨_, List.getElem?_eq_getElem (by omega)⟩
        obtain ⟨y, hy⟩ : ∃ y, l[k + 1]? = some y := ⟨_, List.getElem?_eq_getElem hlt⟩
        obtain ⟨b, off, rfl, hb, c0, c1⟩ := Sl.al (HV.out.below hbw) hx
        obtain ⟨_, _, he, hb2, e0, e1⟩ := Sl.al (HV.out.below hbw) hy
        simp only [Option.some.injEq, Addr.mk.injEq, and_true] at he
        obtain ⟨rfl, rfl⟩ := he
        simp only [Int.natCast_add, Int.natCast_one] at *
        have hwr : IntKind.i64.wrap ((k : Int) + 1 + 1) = k + 1 + 1 := IntWalk.i64_in _ (by omega)
        have hws1 : IntKind.i64.wrap ((k : Int) + 1 - 1) = k := by rw [IntWalk.i64_in _ (by omega)]; omega
        have hlt' : (k : Int) + 1 < l.length := by omega
        have hgt : decide ((0 : Int) < (k : Int) + 1) = true := by first | (simp; done) | (simp; omega)
        have HX := Lib.hid hx
        have HY := Lib.hid hy
        have g0 := cell_rg c0 hb
        have g1 := cell_rg c1 hb
        have g2 := cell_rg e0 hb2
        have g3 := cell_rg e1 hb2
        have heq := eql_al y x (HW.out y (List.mem_of_getElem? hy)) (HW.out x (List.mem_of_getElem? hx)) (decide (y = x)) (by simp)
        have RH := fun W => behind_any y x W
        clear hx hy
        by_cases hyx : y = x
        · have HYX := Lib.hid hyx
          rw [show decide (y = x) = true by simpa using hyx] at heq
          clear hyx RH
          go_wp2_with fail
          ((refine wp_region_quiet_below (by kernel_rfl) (by kernel_rfl) ?_); (repeat (go_big_quiet_step (fail))); (refine wpQuiet_nil ?_); (intro _ hw'); (obtain ⟨⟨dq, osq⟩, hw''⟩ := hw'); (subst hw''); (have hb7 := below_regrown wr dq osq); (generalize Go.Sort.grow (redrawn wr dq) osq = w7 at *); (have hz7 := hb7.size))
          clear g0 g1 g2 g3
          go_wp2_with fail
          go_ret
          refine ⟨?_, hbw.trans (hb7.mono hws)⟩
          have hnr : ¬ RightP l := fun h => by
            have := h k _ _ HX.out HY.out
            rw [HYX.out, behind_self] at this
            simp at this
          rw [rightB_false hnr]
          rfl
        · rw [show decide (y = x) = false by simpa using hyx] at heq
          clear hyx
          by_cases hbh : behind y x = true
          · have HBH := Lib.hid hbh
            rw [hbh] at RH
            have cR : ∀ dd os, Calls Try.prog 24 #[alV y, alV x] (Go.Sort.grow (redrawn wr dd) os) fun e w'' => e = .returned (.bool true) ∧ ∃ p : Regrown, w'' = Go.Sort.grow (redrawn wr p.d) p.os := fun dd os => Calls.regrown_of (RH _)
            have CR := Lib.hid cR
            clear RH cR hbh
            go_wp2_with fail
            ((refine wp_region_quiet_below (by kernel_rfl) (by kernel_rfl) ?_); (repeat (go_big_quiet_step ((first | (go_at_call 24; exact CR.out _ _))))); (refine wpQuiet_nil ?_); (intro _ hw'); (obtain ⟨⟨dq, osq⟩, hw''⟩ := hw'); (subst hw''); (have hb7 := below_regrown wr dq osq); (generalize Go.Sort.grow (redrawn wr dq) osq = w7 at *); (have hz7 := hb7.size))
            clear g0 g1 g2 g3
            go_wp2_with fail
            go_roundw
            case rel =>
              refine ⟨k + 1 + 1, by omega, by go_num, hbw.trans (hb7.mono hws), ?_⟩
              intro j a b hj ha hb
              by_cases hjk : j = k
              · subst hjk
                rw [HX.out] at ha; rw [HY.out] at hb
                cases ha; cases hb
                exact HBH.out
              · exact HP.out j a b (by omega) ha hb
            case measure => simp [intOf]; omega
          · rw [Bool.not_eq_true] at hbh
            have HBH := Lib.hid hbh
            rw [hbh] at RH
            have cR : ∀ dd os, Calls Try.prog 24 #[alV y, alV x] (Go.Sort.grow (redrawn wr dd) os) fun e w'' => e = .returned (.bool false) ∧ ∃ p : Regrown, w'' = Go.Sort.grow (redrawn wr p.d) p.os := fun dd os => Calls.regrown_of (RH _)
            have CR := Lib.hid cR
            clear RH cR hbh
            go_wp2_with fail
            ((refine wp_region_quiet_below (by kernel_rfl) (by kernel_rfl) ?_); (repeat (go_big_quiet_step ((first | (go_at_call 24; exact CR.out _ _))))); (refine wpQuiet_nil ?_); (intro _ hw'); (obtain ⟨⟨dq, osq⟩, hw''⟩ := hw'); (subst hw''); (have hb7 := below_regrown wr dq osq); (generalize Go.Sort.grow (redrawn wr dq) osq = w7 at *); (have hz7 := hb7.size))
            clear g0 g1 g2 g3
            go_wp2_with fail
            go_ret
            refine ⟨?_, hbw.trans (hb7.mono hws)⟩
            have hnr : ¬ RightP l := fun h => by
              have := h k _ _ HX.out HY.out
              rw [HBH.out] at this
              simp at this
            rw [rightB_false hnr]
            rfl
    · obtain rfl : i = l.length := by omega
      go_wp2_with fail
      go_ret
      refine ⟨?_, hbw⟩
      have hnr : RightP l := fun j a b ha hb => HP.out j a b (by have := (List.getElem?_eq_some_iff.1 hb).1; omega) ha hb
      rw [rightB_true hnr]
      rfl
end Go.Proofs.Ytndmgbdgcemcmaa
