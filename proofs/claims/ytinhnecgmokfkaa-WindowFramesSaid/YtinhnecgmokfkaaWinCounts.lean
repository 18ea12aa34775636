/- The law WindowCounts: its walk. Conditions: what came in is shaped. -/
import Derived.Test.YtinhnecgmokfkaaWinShown
import Derived.Test.YtinhnecgmokfkaaWinPure2
namespace Go.Proofs.Ytinhnecgmokfkaa
open Go Go.RowKit Go.Tm
set_option linter.unusedVariables false
set_option linter.unusedSimpArgs false

set_option maxHeartbeats 8000000 in
theorem windowCounts_walk (pv wv cv : Value) (p : Pln) (sched part t : Int) (w : World) (hp : PlanIs w pv wv cv p) (ht : 0 ≤ t) (ht2 : t ≤ 18446744073709551615) (hf : p.frame ≤ 9223372036854775807) :
    Calls Try.prog 4 #[.agg #[pv, .int .i64 p.frame, wv, cv, .int .i64 sched, .int .i64 part, .int .u64 t]] w fun e w' => e = .returned (.bool true) ∧ Below w.heap.size w w' := by
  have HP := Lib.hid hp
  have KA0 := Lib.hid (fun W (h : PlanIs W pv wv cv p) => at_any pv wv cv p sched t W h ht hf)
  have KG0 := Lib.hid (fun W (h : PlanIs W pv wv cv p) => granted_any pv wv cv p sched part t W h ht ht2 hf)
  have KG1 := Lib.hid (fun (h' : t + 1 ≤ 18446744073709551615) W (h : PlanIs W pv wv cv p) => granted_any pv wv cv p sched part (t + 1) W h (by omega) h' hf)
  have KGZ := Lib.hid (fun W (h : PlanIs W pv wv cv p) => granted_any pv wv cv p sched part 0 W h (by omega) (by omega) hf)
  rw [grant_zero] at KGZ
  rw [grant_step ht] at KG1
  have hgr := grant_range (p := p) (sched := sched) (part := part) ht
  generalize grantS p sched part t = G at *
  generalize atS p sched t = ax at *
  obtain ⟨a, x⟩ := ax
  dsimp only at KA0
  obtain ⟨a1, k1, a2, k2, a3, k3, rfl, rfl, rfl, hl1, hl2, hl3⟩ := hp.shape
  clear hp
  by_cases hmax : t = 18446744073709551615
  case pos =>
    subst hmax
    go_enter Try.func4, Try.ntmps4
    go_wp2_with fail
    have hbx0 : Box ((w.alloc (.cells #[.slice a1 p.parts.length k1, .int .i64 p.frame, .slice a2 p.wins.length k2, .slice a3 p.chans.length k3, .int .i64 sched, .int .i64 part, .int .u64 18446744073709551615] 35)).alloc (.cells #[.slice a1 p.parts.length k1, .int .i64 p.frame, .slice a2 p.wins.length k2, .slice a3 p.chans.length k3] 26)) (w.heap.size + 1) #[.slice a1 p.parts.length k1, .int .i64 p.frame, .slice a2 p.wins.length k2, .slice a3 p.chans.length k3] 26 := (Box.new1 _ _ _ (by simp))
    have hx0 : Below w.heap.size w ((w.alloc (.cells #[.slice a1 p.parts.length k1, .int .i64 p.frame, .slice a2 p.wins.length k2, .slice a3 p.chans.length k3, .int .i64 sched, .int .i64 part, .int .u64 18446744073709551615] 35)).alloc (.cells #[.slice a1 p.parts.length k1, .int .i64 p.frame, .slice a2 p.wins.length k2, .slice a3 p.chans.length k3] 26)) := (((Below.refl _ _).alloc (Nat.le_refl _) _).alloc (by simp <;> omega) _)
    generalize hW0 : ((w.alloc (.cells #[.slice a1 p.parts.length k1, .int .i64 p.frame, .slice a2 p.wins.length k2, .slice a3 p.chans.length k3, .int .i64 sched, .int .i64 part, .int .u64 18446744073709551615] 35)).alloc (.cells #[.slice a1 p.parts.length k1, .int .i64 p.frame, .slice a2 p.wins.length k2, .slice a3 p.chans.length k3] 26)) = w0 at *
    clear hW0
    with_reducible refine (shown_any _).mono ?_
    rintro e w1 ⟨rfl, hb⟩
    have hx1 := hx0.trans (hb.mono hx0.size)
    have hbx1 := hbx0.below hb hbx0.lt
    clear hb
    obtain ⟨c1, f1, l1, n1, m1⟩ := hbx1.rules
    go_wp2_with fail
    go_ret
    exact ⟨rfl, hx1⟩
  have hmb : (t == 18446744073709551615) = false := by simpa using hmax
  have hw1 : IntKind.u64.wrap (t + 1) = t + 1 := u64_small (by omega) (by omega)
  have KG2 := Lib.hid (KG1.out (by omega))
  clear KG1
  go_enter Try.func4, Try.ntmps4
  go_wp2_with fail
  have hbx0 : Box ((w.alloc (.cells #[.slice a1 p.parts.length k1, .int .i64 p.frame, .slice a2 p.wins.length k2, .slice a3 p.chans.length k3, .int .i64 sched, .int .i64 part, .int .u64 t] 35)).alloc (.cells #[.slice a1 p.parts.length k1, .int .i64 p.frame, .slice a2 p.wins.length k2, .slice a3 p.chans.length k3] 26)) (w.heap.size + 1) #[.slice a1 p.parts.length k1, .int .i64 p.frame, .slice a2 p.wins.length k2, .slice a3 p.chans.length k3] 26 := (Box.new1 _ _ _ (by simp))
  have hx0 : Below w.heap.size w ((w.alloc (.cells #[.slice a1 p.parts.length k1, .int .i64 p.frame, .slice a2 p.wins.length k2, .slice a3 p.chans.length k3, .int .i64 sched, .int .i64 part, .int .u64 t] 35)).alloc (.cells #[.slice a1 p.parts.length k1, .int .i64 p.frame, .slice a2 p.wins.length k2, .slice a3 p.chans.length k3] 26)) := (((Below.refl _ _).alloc (Nat.le_refl _) _).alloc (by simp <;> omega) _)
  generalize hW0 : ((w.alloc (.cells #[.slice a1 p.parts.length k1, .int .i64 p.frame, .slice a2 p.wins.length k2, .slice a3 p.chans.length k3, .int .i64 sched, .int .i64 part, .int .u64 t] 35)).alloc (.cells #[.slice a1 p.parts.length k1, .int .i64 p.frame, .slice a2 p.wins.length k2, .slice a3 p.chans.length k3] 26)) = w0 at *
  clear hW0
  with_reducible refine (shown_any _).mono ?_
  rintro e w1 ⟨rfl, hb⟩
  have hx1 := hx0.trans (hb.mono hx0.size)
  have hbx1 := hbx0.below hb hbx0.lt
  clear hb
  obtain ⟨c1, f1, l1, n1, m1⟩ := hbx1.rules
  go_wp2_with fail
  with_reducible refine (KA0.out _ (HP.out.below hx1)).mono ?_
  rintro e w2 ⟨rfl, hb⟩
  have hx2 := hx1.trans (hb.mono hx1.size)
  have hbx2 := hbx1.below hb hbx1.lt
  clear hb c1 f1 l1 n1 m1
  obtain ⟨c1, f1, l1, n1, m1⟩ := hbx2.rules
  by_cases h1 : a = part
  · have h1b : (a == part) = true := by simpa using h1
    by_cases h2 : x = 2
    · have h2b : (x == 2) = true := by simpa using h2
      have hin : ind (a, x) part = 1 := by unfold ind; rw [if_pos (by rw [h1, h2])]
      rw [hin] at KG2
      have hws : IntKind.u64.wrap (G + 1) = G + 1 := u64_small (by omega) (by omega)
      have hC1 : ∀ dd os, Calls Try.prog 14 #[.agg #[.slice a1 p.parts.length k1, .int .i64 p.frame, .slice a2 p.wins.length k2, .slice a3 p.chans.length k3], .int .i64 sched, .int .i64 part, .int .u64 (t + 1)] (Go.Sort.grow (redrawn w2 dd) os) fun e w'' => e = .returned (.int .u64 (G + 1)) ∧ ∃ p : Regrown, w'' = Go.Sort.grow (redrawn w2 p.d) p.os := fun dd os => Calls.regrown_of (KG2.out _ (HP.out.below (hx2.trans ((below_regrown w2 dd os).mono hx2.size))))
      have C1 := Lib.hid hC1
      clear hC1
      have hC0 : ∀ dd os, Calls Try.prog 14 #[.agg #[.slice a1 p.parts.length k1, .int .i64 p.frame, .slice a2 p.wins.length k2, .slice a3 p.chans.length k3], .int .i64 sched, .int .i64 part, .int .u64 t] (Go.Sort.grow (redrawn w2 dd) os) fun e w'' => e = .returned (.int .u64 (G)) ∧ ∃ p : Regrown, w'' = Go.Sort.grow (redrawn w2 p.d) p.os := fun dd os => Calls.regrown_of (KG0.out _ (HP.out.below (hx2.trans ((below_regrown w2 dd os).mono hx2.size))))
      have C0 := Lib.hid hC0
      clear hC0
      have hCZ : ∀ dd os, Calls Try.prog 14 #[.agg #[.slice a1 p.parts.length k1, .int .i64 p.frame, .slice a2 p.wins.length k2, .slice a3 p.chans.length k3], .int .i64 sched, .int .i64 part, .int .u64 0] (Go.Sort.grow (redrawn w2 dd) os) fun e w'' => e = .returned (.int .u64 (0)) ∧ ∃ p : Regrown, w'' = Go.Sort.grow (redrawn w2 p.d) p.os := fun dd os => Calls.regrown_of (KGZ.out _ (HP.out.below (hx2.trans ((below_regrown w2 dd os).mono hx2.size))))
      have CZ := Lib.hid hCZ
      clear hCZ
      have k0 := hbx2.regrown
      go_wp2_with fail
      ((refine wp_region_quiet_below (by kernel_rfl) (by kernel_rfl) ?_); (repeat (go_big_quiet_step ((go_at_call 14; with_reducible first | exact C1.out _ _ | exact C0.out _ _ | exact CZ.out _ _)))); (refine wpQuiet_nil ?_); (intro _ hw'); (obtain ⟨⟨dq, osq⟩, hw''⟩ := hw'); (subst hw''); (have hb7 := below_regrown w2 dq osq); (generalize Go.Sort.grow (redrawn w2 dq) osq = w7 at *); (have hz7 := hb7.size))
      clear k0
      go_wp2_with fail
      go_ret
      exact ⟨by simp, hx2.trans (hb7.mono hx2.size)⟩
    · have h2b : (x == 2) = false := by simpa using h2
      have hin : ind (a, x) part = 0 := by unfold ind; rw [if_neg (by simp [h2])]
      rw [hin] at KG2
      have hws : IntKind.u64.wrap (G + 0) = G + 0 := u64_small (by omega) (by omega)
      have hC1 : ∀ dd os, Calls Try.prog 14 #[.agg #[.slice a1 p.parts.length k1, .int .i64 p.frame, .slice a2 p.wins.length k2, .slice a3 p.chans.length k3], .int .i64 sched, .int .i64 part, .int .u64 (t + 1)] (Go.Sort.grow (redrawn w2 dd) os) fun e w'' => e = .returned (.int .u64 (G + 0)) ∧ ∃ p : Regrown, w'' = Go.Sort.grow (redrawn w2 p.d) p.os := fun dd os => Calls.regrown_of (KG2.out _ (HP.out.below (hx2.trans ((below_regrown w2 dd os).mono hx2.size))))
      have C1 := Lib.hid hC1
      clear hC1
      have hC0 : ∀ dd os, Calls Try.prog 14 #[.agg #[.slice a1 p.parts.length k1, .int .i64 p.frame, .slice a2 p.wins.length k2, .slice a3 p.chans.length k3], .int .i64 sched, .int .i64 part, .int .u64 t] (Go.Sort.grow (redrawn w2 dd) os) fun e w'' => e = .returned (.int .u64 (G)) ∧ ∃ p : Regrown, w'' = Go.Sort.grow (redrawn w2 p.d) p.os := fun dd os => Calls.regrown_of (KG0.out _ (HP.out.below (hx2.trans ((below_regrown w2 dd os).mono hx2.size))))
      have C0 := Lib.hid hC0
      clear hC0
      have hCZ : ∀ dd os, Calls Try.prog 14 #[.agg #[.slice a1 p.parts.length k1, .int .i64 p.frame, .slice a2 p.wins.length k2, .slice a3 p.chans.length k3], .int .i64 sched, .int .i64 part, .int .u64 0] (Go.Sort.grow (redrawn w2 dd) os) fun e w'' => e = .returned (.int .u64 (0)) ∧ ∃ p : Regrown, w'' = Go.Sort.grow (redrawn w2 p.d) p.os := fun dd os => Calls.regrown_of (KGZ.out _ (HP.out.below (hx2.trans ((below_regrown w2 dd os).mono hx2.size))))
      have CZ := Lib.hid hCZ
      clear hCZ
      have k0 := hbx2.regrown
      go_wp2_with fail
      ((refine wp_region_quiet_below (by kernel_rfl) (by kernel_rfl) ?_); (repeat (go_big_quiet_step ((go_at_call 14; with_reducible first | exact C1.out _ _ | exact C0.out _ _ | exact CZ.out _ _)))); (refine wpQuiet_nil ?_); (intro _ hw'); (obtain ⟨⟨dq, osq⟩, hw''⟩ := hw'); (subst hw''); (have hb7 := below_regrown w2 dq osq); (generalize Go.Sort.grow (redrawn w2 dq) osq = w7 at *); (have hz7 := hb7.size))
      clear k0
      go_wp2_with fail
      go_ret
      exact ⟨by simp, hx2.trans (hb7.mono hx2.size)⟩
  · have h1b : (a == part) = false := by simpa using h1
    have hin : ind (a, x) part = 0 := by unfold ind; rw [if_neg (by simp [h1])]
    rw [hin] at KG2
    have hws : IntKind.u64.wrap (G + 0) = G + 0 := u64_small (by omega) (by omega)
    have hC1 : ∀ dd os, Calls Try.prog 14 #[.agg #[.slice a1 p.parts.length k1, .int .i64 p.frame, .slice a2 p.wins.length k2, .slice a3 p.chans.length k3], .int .i64 sched, .int .i64 part, .int .u64 (t + 1)] (Go.Sort.grow (redrawn w2 dd) os) fun e w'' => e = .returned (.int .u64 (G + 0)) ∧ ∃ p : Regrown, w'' = Go.Sort.grow (redrawn w2 p.d) p.os := fun dd os => Calls.regrown_of (KG2.out _ (HP.out.below (hx2.trans ((below_regrown w2 dd os).mono hx2.size))))
    have C1 := Lib.hid hC1
    clear hC1
    have hC0 : ∀ dd os, Calls Try.prog 14 #[.agg #[.slice a1 p.parts.length k1, .int .i64 p.frame, .slice a2 p.wins.length k2, .slice a3 p.chans.length k3], .int .i64 sched, .int .i64 part, .int .u64 t] (Go.Sort.grow (redrawn w2 dd) os) fun e w'' => e = .returned (.int .u64 (G)) ∧ ∃ p : Regrown, w'' = Go.Sort.grow (redrawn w2 p.d) p.os := fun dd os => Calls.regrown_of (KG0.out _ (HP.out.below (hx2.trans ((below_regrown w2 dd os).mono hx2.size))))
    have C0 := Lib.hid hC0
    clear hC0
    have hCZ : ∀ dd os, Calls Try.prog 14 #[.agg #[.slice a1 p.parts.length k1, .int .i64 p.frame, .slice a2 p.wins.length k2, .slice a3 p.chans.length k3], .int .i64 sched, .int .i64 part, .int .u64 0] (Go.Sort.grow (redrawn w2 dd) os) fun e w'' => e = .returned (.int .u64 (0)) ∧ ∃ p : Regrown, w'' = Go.Sort.grow (redrawn w2 p.d) p.os := fun dd os => Calls.regrown_of (KGZ.out _ (HP.out.below (hx2.trans ((below_regrown w2 dd os).mono hx2.size))))
    have CZ := Lib.hid hCZ
    clear hCZ
    have k0 := hbx2.regrown
    go_wp2_with fail
    ((refine wp_region_quiet_below (by kernel_rfl) (by kernel_rfl) ?_); (repeat (go_big_quiet_step ((go_at_call 14; with_reducible first | exact C1.out _ _ | exact C0.out _ _ | exact CZ.out _ _)))); (refine wpQuiet_nil ?_); (intro _ hw'); (obtain ⟨⟨dq, osq⟩, hw''⟩ := hw'); (subst hw''); (have hb7 := below_regrown w2 dq osq); (generalize Go.Sort.grow (redrawn w2 dq) osq = w7 at *); (have hz7 := hb7.size))
    clear k0
    go_wp2_with fail
    go_ret
    exact ⟨by simp, hx2.trans (hb7.mono hx2.size)⟩
end Go.Proofs.Ytinhnecgmokfkaa
