/- The law WindowOne: its walk. Conditions: what came in is shaped. -/
import Derived.Test.YtinhnecgmokfkaaWinShown
import Derived.Test.YtinhnecgmokfkaaWinPure2
namespace Go.Proofs.Ytinhnecgmokfkaa
open Go Go.RowKit Go.Tm
set_option linter.unusedVariables false
set_option linter.unusedSimpArgs false

set_option maxHeartbeats 8000000 in
theorem windowOne_walk (pv wv cv : Value) (p : Pln) (sched t : Int) (w : World) (hp : PlanIs w pv wv cv p) (ht : 0 ≤ t) (ht2 : t ≤ 18446744073709551615) (hf : p.frame ≤ 9223372036854775807) :
    Calls Try.prog 6 #[planV pv wv cv p, .int .i64 sched, .int .u64 t] w fun e w' => e = .returned (.bool true) ∧ Below w.heap.size w w' := by
  have HP := Lib.hid hp
  have KC := Lib.hid (fun W (h : PlanIs W pv wv cv p) => refCheck_any pv wv cv p W h)
  have KA0 := Lib.hid (fun W (h : PlanIs W pv wv cv p) => at_any pv wv cv p sched t W h ht hf)
  have KG0 := Lib.hid (fun part W (h : PlanIs W pv wv cv p) => granted_any pv wv cv p sched part t W h ht ht2 hf)
  have KG1 := Lib.hid (fun (h' : t + 1 ≤ 18446744073709551615) part W (h : PlanIs W pv wv cv p) => granted_any pv wv cv p sched part (t + 1) W h (by omega) h' hf)
  have KST := Lib.hid (fun part => grant_step (p := p) (sched := sched) (part := part) ht)
  have KGR := Lib.hid (fun part => grant_range (p := p) (sched := sched) (part := part) ht)
  have KSI := Lib.hid (sumP_ind (atS p sched t))
  have hwho := at_who (p := p) (sched := sched) (t := t)
  obtain ⟨a1, k1, a2, k2, a3, k3, rfl, rfl, rfl, hl1, hl2, hl3⟩ := hp.shape
  clear hp
  go_enter Try.func6, Try.ntmps6
  go_wp2_with fail
  have hbx0 : Box (w.alloc (.cells #[.slice a1 p.parts.length k1, .int .i64 p.frame, .slice a2 p.wins.length k2, .slice a3 p.chans.length k3] 26)) (w.heap.size) #[.slice a1 p.parts.length k1, .int .i64 p.frame, .slice a2 p.wins.length k2, .slice a3 p.chans.length k3] 26 := (Box.new _ _ _)
  have hx0 : Below w.heap.size w (w.alloc (.cells #[.slice a1 p.parts.length k1, .int .i64 p.frame, .slice a2 p.wins.length k2, .slice a3 p.chans.length k3] 26)) := ((Below.refl _ _).alloc (Nat.le_refl _) _)
  generalize hW0 : (w.alloc (.cells #[.slice a1 p.parts.length k1, .int .i64 p.frame, .slice a2 p.wins.length k2, .slice a3 p.chans.length k3] 26)) = w0 at *
  clear hW0
  with_reducible refine (shown_any _).mono ?_
  rintro e w1 ⟨rfl, hb⟩
  have hx1 := hx0.trans (hb.mono hx0.size)
  have hbx1 := hbx0.below hb hbx0.lt
  clear hb
  obtain ⟨c1, f1, l1, n1, m1⟩ := hbx1.rules
  go_wp2_with fail
  with_reducible refine (KC.out _ (HP.out.below hx1)).mono ?_
  rintro e w2 ⟨⟨k, rfl, hk⟩, hb⟩
  have hx2 := hx1.trans (hb.mono hx1.size)
  have hbx2 := hbx1.below hb hbx1.lt
  clear hb c1 f1 l1 n1 m1
  obtain ⟨c1, f1, l1, n1, m1⟩ := hbx2.rules
  by_cases hpk : PlanOk p
  case neg =>
    have hk0 : (k != 0) = true := by simp; exact fun e => hpk (hk.1 e)
    clear hk
    go_wp2_with fail
    go_ret
    exact ⟨rfl, hx2⟩
  obtain rfl : k = 0 := hk.2 hpk
  clear hk
  by_cases h62 : 4611686018427387904 < t
  case pos =>
    have h62d : decide (4611686018427387904 < t) = true := by simpa using h62
    go_wp2_with fail
    go_ret
    exact ⟨rfl, hx2⟩
  have h62d : decide (4611686018427387904 < t) = false := by simpa using h62
  generalize atS p sched t = ax at *
  obtain ⟨a, x⟩ := ax
  dsimp only at KA0 KSI hwho
  have hw1 : IntKind.u64.wrap (t + 1) = t + 1 := u64_small (by omega) (by omega)
  have KG2 := Lib.hid (KG1.out (by omega))
  have HWHO := Lib.hid hwho
  have hp4 := hpk.parts4
  have HBX := Lib.hid hbx2
  clear KG1 hwho hbx2 hbx1 hbx0
  go_wp2_with fail
  clear c1 f1 l1 n1 m1
  go_loopw [8, 9] (fun s t W => ∃ i : Nat, i ≤ p.parts.length ∧ t = .int .i64 i ∧ s = .int .u64 (sumP (ind (a, x)) i) ∧ Below w2.heap.size w2 W) (fun _ t _ => p.parts.length - (intOf t).toNat)
  case atStart => exact ⟨0, Nat.zero_le _, rfl, rfl, Below.refl _ _⟩
  case round =>
    obtain ⟨i, hi, rfl, rfl, hbw⟩ := hrel
    have hws := hbw.size
    have hxw : Below w.heap.size w wr := hx2.trans (hbw.mono hx2.size)
    have hbx3 := HBX.out.below hbw HBX.out.lt
    obtain ⟨c1, f1, l1, n1, m1⟩ := hbx3.rules
    have hwi : IntKind.i64.wrap ((i : Int) + 1) = i + 1 := IntWalk.i64_in _ (by omega)
    by_cases hlt : i < p.parts.length
    · have hst := KST.out (i : Int)
      have hgr := KGR.out (i : Int)
      have hsi := KSI.out i
      have hss : sumP (ind (a, x)) (i + 1) = sumP (ind (a, x)) i + ind (a, x) i := rfl
      have hid : ind (a, x) i = 0 ∨ ind (a, x) i = 1 := by unfold ind; split <;> simp
      have hs01 : sumP (ind (a, x)) i = 0 ∨ sumP (ind (a, x)) i = 1 := by rw [hsi]; split <;> simp
      have C1' := KG2.out (i : Int)
      rw [hst] at C1'
      have C0' := KG0.out (i : Int)
      have HSS := Lib.hid hss
      clear hst hsi hss
      generalize grantS p sched i t = G at *
      generalize ind (a, x) i = d at *
      generalize sumP (ind (a, x)) i = s at *
      have KD1 := Lib.hid C1'
      have KD0 := Lib.hid C0'
      have hwa : IntKind.u64.wrap (s + (G + d)) = s + (G + d) := u64_small (by omega) (by omega)
      have hwb : IntKind.u64.wrap (s + (G + d) - G) = s + (G + d) - G := u64_small (by omega) (by omega)
      have e1 : s + (G + d) - G = s + d := by omega
      have HE := Lib.hid e1
      clear C1' C0' e1
      have hC1 : ∀ dd os, Calls Try.prog 14 #[.agg #[.slice a1 p.parts.length k1, .int .i64 p.frame, .slice a2 p.wins.length k2, .slice a3 p.chans.length k3], .int .i64 sched, .int .i64 i, .int .u64 (t + 1)] (Go.Sort.grow (redrawn wr dd) os) fun e w'' => e = .returned (.int .u64 (G + d)) ∧ ∃ p : Regrown, w'' = Go.Sort.grow (redrawn wr p.d) p.os := fun dd os => Calls.regrown_of (KD1.out _ (HP.out.below (hxw.trans ((below_regrown wr dd os).mono hxw.size))))
      have C1 := Lib.hid hC1
      have hC0 : ∀ dd os, Calls Try.prog 14 #[.agg #[.slice a1 p.parts.length k1, .int .i64 p.frame, .slice a2 p.wins.length k2, .slice a3 p.chans.length k3], .int .i64 sched, .int .i64 i, .int .u64 t] (Go.Sort.grow (redrawn wr dd) os) fun e w'' => e = .returned (.int .u64 G) ∧ ∃ p : Regrown, w'' = Go.Sort.grow (redrawn wr p.d) p.os := fun dd os => Calls.regrown_of (KD0.out _ (HP.out.below (hxw.trans ((below_regrown wr dd os).mono hxw.size))))
      have C0 := Lib.hid hC0
      clear hC1 hC0
      have k0 := hbx3.regrown
      go_wp2_with fail
      ((refine wp_region_quiet_below (by kernel_rfl) (by kernel_rfl) ?_); (repeat (go_big_quiet_step ((go_at_call 14; with_reducible first | exact C1.out _ _ | exact C0.out _ _)))); (refine wpQuiet_nil ?_); (intro _ hw'); (obtain ⟨⟨dq, osq⟩, hw''⟩ := hw'); (subst hw''); (have hb7 := below_regrown wr dq osq); (generalize Go.Sort.grow (redrawn wr dq) osq = w7 at *); (have hz7 := hb7.size))
      clear k0
      go_wp2_with fail
      exact ⟨⟨i + 1, by omega, by go_num, by rw [HSS.out, HE.out], hbw.trans (hb7.mono hws)⟩, by simp [intOf]; omega⟩
    · obtain rfl : i = p.parts.length := by omega
      have hsi := KSI.out p.parts.length
      go_wp2_with fail
      with_reducible refine (KA0.out _ (HP.out.below hxw)).mono ?_
      rintro e w4 ⟨rfl, hb⟩
      have hx4 : Below w.heap.size w w4 := hxw.trans (hb.mono hxw.size)
      have hbx4 := hbx3.below hb hbx3.lt
      clear hb c1 f1 l1 n1 m1
      obtain ⟨c1, f1, l1, n1, m1⟩ := hbx4.rules
      rcases HWHO.out with hwho | ⟨h1, h2, hwho | hwho⟩
      · obtain ⟨rfl, rfl⟩ : a = -1 ∧ x = 0 := by simpa using hwho
        rw [if_neg (by omega)] at hsi
        rw [hsi]
        go_wp2_with fail
        go_ret
        exact ⟨by simp; omega, hx4⟩
      · obtain rfl : x = 1 := hwho
        rw [if_neg (by omega)] at hsi
        rw [hsi]
        have d1 : (a == -1) = false := by simp; omega
        have d2 : decide (a < (p.parts.length : Int)) = true := by simpa using h2
        go_wp2_with fail
        go_ret
        exact ⟨by simp, hx4⟩
      · obtain rfl : x = 2 := hwho
        rw [if_pos ⟨rfl, h1, h2⟩] at hsi
        rw [hsi]
        have d1 : (a == -1) = false := by simp; omega
        have d2 : decide (a < (p.parts.length : Int)) = true := by simpa using h2
        go_wp2_with fail
        go_ret
        exact ⟨by simp, hx4⟩
end Go.Proofs.Ytinhnecgmokfkaa
