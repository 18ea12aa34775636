/- The law WindowFrames: its walk. Conditions: what came in is shaped. -/
import Derived.Test.YtinhnecgmokfkaaWinShown
import Derived.Test.YtinhnecgmokfkaaWinPure2
namespace Go.Proofs.Ytinhnecgmokfkaa
open Go Go.RowKit Go.Tm
set_option linter.unusedVariables false
set_option linter.unusedSimpArgs false

set_option maxHeartbeats 8000000 in
theorem windowFrames_walk (pv wv cv : Value) (p : Pln) (sched part t : Int) (w : World) (hp : PlanIs w pv wv cv p) (ht : 0 ≤ t) (ht2 : t ≤ 18446744073709551615) (hf : p.frame ≤ 9223372036854775807) :
    Calls Try.prog 5 #[.agg #[pv, .int .i64 p.frame, wv, cv, .int .i64 sched, .int .i64 part, .int .u64 t]] w fun e w' => e = .returned (.bool true) ∧ Below w.heap.size w w' := by
  have HP := Lib.hid hp
  have KC := Lib.hid (fun W (h : PlanIs W pv wv cv p) => refCheck_any pv wv cv p W h)
  have KA0 := Lib.hid (fun W (h : PlanIs W pv wv cv p) => at_any pv wv cv p sched t W h ht hf)
  have KA1 := Lib.hid (fun (h' : 0 ≤ p.frame) W (h : PlanIs W pv wv cv p) => at_any pv wv cv p sched (t + p.frame) W h (by omega) hf)
  have KF := Lib.hid (fun W (h : PlanIs W pv wv cv p) => frame_any pv wv cv p sched part p.frame W h hf)
  have KG0 := Lib.hid (fun W (h : PlanIs W pv wv cv p) => granted_any pv wv cv p sched part t W h ht ht2 hf)
  have KG1 := Lib.hid (fun (h' : 0 ≤ p.frame ∧ t + p.frame ≤ 18446744073709551615) W (h : PlanIs W pv wv cv p) => granted_any pv wv cv p sched part (t + p.frame) W h (by omega) h'.2 hf)
  have KGF := Lib.hid (fun h => grant_frame (p := p) (sched := sched) (part := part) (t := t) h)
  have hgr := grant_range (p := p) (sched := sched) (part := part) ht
  have hF0 := frameS_nonneg p sched part p.frame
  have hF1 := frameS_whole p sched part
  obtain ⟨a1, k1, a2, k2, a3, k3, rfl, rfl, rfl, hl1, hl2, hl3⟩ := hp.shape
  clear hp
  go_enter Try.func5, Try.ntmps5
  go_wp2_with fail
  have hbx0 : Box ((w.alloc (.cells #[.slice a1 p.parts.length k1, .int .i64 p.frame, .slice a2 p.wins.length k2, .slice a3 p.chans.length k3, .int .i64 sched, .int .i64 part, .int .u64 t] 38)).alloc (.cells #[.slice a1 p.parts.length k1, .int .i64 p.frame, .slice a2 p.wins.length k2, .slice a3 p.chans.length k3] 26)) (w.heap.size + 1) #[.slice a1 p.parts.length k1, .int .i64 p.frame, .slice a2 p.wins.length k2, .slice a3 p.chans.length k3] 26 := (Box.new1 _ _ _ (by simp))
  have hx0 : Below w.heap.size w ((w.alloc (.cells #[.slice a1 p.parts.length k1, .int .i64 p.frame, .slice a2 p.wins.length k2, .slice a3 p.chans.length k3, .int .i64 sched, .int .i64 part, .int .u64 t] 38)).alloc (.cells #[.slice a1 p.parts.length k1, .int .i64 p.frame, .slice a2 p.wins.length k2, .slice a3 p.chans.length k3] 26)) := (((Below.refl _ _).alloc (Nat.le_refl _) _).alloc (by simp <;> omega) _)
  generalize hW0 : ((w.alloc (.cells #[.slice a1 p.parts.length k1, .int .i64 p.frame, .slice a2 p.wins.length k2, .slice a3 p.chans.length k3, .int .i64 sched, .int .i64 part, .int .u64 t] 38)).alloc (.cells #[.slice a1 p.parts.length k1, .int .i64 p.frame, .slice a2 p.wins.length k2, .slice a3 p.chans.length k3] 26)) = w0 at *
  clear hW0
  with_reducible refine (shown_any _).mono ?_
  rintro e w1 ⟨rfl, hb⟩
  have hx1 := hx0.trans (hb.mono hx0.size)
  have hbx1 := hbx0.below hb hbx0.lt
  clear hb
  obtain ⟨c1, f1, l1, n1, m1⟩ := hbx1.rules
  go_wp2_with fail
  with_reducible refine (KC.out _ (HP.out.below hx1)).mono ?_
  rintro e w2 ⟨⟨k, rfl, hk⟩, hb⟩
  have hx2 := hx1.trans (hb.mono hx1.size)
  have hbx2 := hbx1.below hb hbx1.lt
  clear hb c1 f1 l1 n1 m1
  obtain ⟨c1, f1, l1, n1, m1⟩ := hbx2.rules
  by_cases hpk : PlanOk p
  case neg =>
    have hk0 : (k != 0) = true := by simp; exact fun e => hpk (hk.1 e)
    clear hk
    go_wp2_with fail
    go_ret
    exact ⟨rfl, hx2⟩
  obtain rfl : k = 0 := hk.2 hpk
  clear hk
  by_cases h62 : 4611686018427387904 < t
  case pos =>
    have h62d : decide (4611686018427387904 < t) = true := by simpa using h62
    go_wp2_with fail
    go_ret
    exact ⟨rfl, hx2⟩
  have h62d : decide (4611686018427387904 < t) = false := by simpa using h62
  have hfr1 := hpk.frame1
  have hfr2 := hpk.frame4096
  obtain ⟨e1, e2⟩ := KGF.out hfr1
  rw [e1] at KG1
  rw [e2] at KA1
  have hfm : frm p.frame = p.frame := by unfold frm; rw [if_neg (by omega)]
  rw [hfm] at hF1
  clear e1 e2 hfm
  generalize grantS p sched part t = G at *
  generalize frameS p sched part p.frame = F at *
  generalize atS p sched t = ax at *
  obtain ⟨a, x⟩ := ax
  dsimp only at KA0 KA1
  have KA2 := Lib.hid (KA1.out (by omega))
  have KG2 := Lib.hid (KG1.out (by omega))
  have hw1 : IntKind.u64.wrap p.frame = p.frame := u64_small (by omega) (by omega)
  have hw2 : IntKind.u64.wrap (t + p.frame) = t + p.frame := u64_small (by omega) (by omega)
  have hwF : IntKind.u64.wrap F = F := u64_small (by omega) (by omega)
  have hwG : IntKind.u64.wrap (G + F) = G + F := u64_small (by omega) (by omega)
  clear KA1 KG1 KGF
  go_wp2_with fail
  with_reducible refine (KA0.out _ (HP.out.below hx2)).mono ?_
  rintro e w3 ⟨rfl, hb⟩
  have hx3 := hx2.trans (hb.mono hx2.size)
  have hbx3 := hbx2.below hb hbx2.lt
  clear hb c1 f1 l1 n1 m1
  obtain ⟨c1, f1, l1, n1, m1⟩ := hbx3.rules
  go_wp2_with fail
  with_reducible refine (KA2.out _ (HP.out.below hx3)).mono ?_
  rintro e w4 ⟨rfl, hb⟩
  have hx4 := hx3.trans (hb.mono hx3.size)
  have hbx4 := hbx3.below hb hbx3.lt
  clear hb c1 f1 l1 n1 m1
  obtain ⟨c1, f1, l1, n1, m1⟩ := hbx4.rules
  go_wp2_with fail
  with_reducible refine (KF.out _ (HP.out.below hx4)).mono ?_
  rintro e w5 ⟨rfl, hb⟩
  have hx5 := hx4.trans (hb.mono hx4.size)
  have hbx5 := hbx4.below hb hbx4.lt
  clear hb c1 f1 l1 n1 m1
  obtain ⟨c1, f1, l1, n1, m1⟩ := hbx5.rules
  have hC1 : ∀ dd os, Calls Try.prog 14 #[.agg #[.slice a1 p.parts.length k1, .int .i64 p.frame, .slice a2 p.wins.length k2, .slice a3 p.chans.length k3], .int .i64 sched, .int .i64 part, .int .u64 (t + p.frame)] (Go.Sort.grow (redrawn w5 dd) os) fun e w'' => e = .returned (.int .u64 (G + F)) ∧ ∃ p : Regrown, w'' = Go.Sort.grow (redrawn w5 p.d) p.os := fun dd os => Calls.regrown_of (KG2.out _ (HP.out.below (hx5.trans ((below_regrown w5 dd os).mono hx5.size))))
  have C1 := Lib.hid hC1
  clear hC1
  have hC0 : ∀ dd os, Calls Try.prog 14 #[.agg #[.slice a1 p.parts.length k1, .int .i64 p.frame, .slice a2 p.wins.length k2, .slice a3 p.chans.length k3], .int .i64 sched, .int .i64 part, .int .u64 t] (Go.Sort.grow (redrawn w5 dd) os) fun e w'' => e = .returned (.int .u64 (G)) ∧ ∃ p : Regrown, w'' = Go.Sort.grow (redrawn w5 p.d) p.os := fun dd os => Calls.regrown_of (KG0.out _ (HP.out.below (hx5.trans ((below_regrown w5 dd os).mono hx5.size))))
  have C0 := Lib.hid hC0
  clear hC0
  have k0 := hbx5.regrown
  go_wp2_with fail
  ((refine wp_region_quiet_below (by kernel_rfl) (by kernel_rfl) ?_); (repeat (go_big_quiet_step ((go_at_call 14; with_reducible first | exact C1.out _ _ | exact C0.out _ _)))); (refine wpQuiet_nil ?_); (intro _ hw'); (obtain ⟨⟨dq, osq⟩, hw''⟩ := hw'); (subst hw''); (have hb7 := below_regrown w5 dq osq); (generalize Go.Sort.grow (redrawn w5 dq) osq = w7 at *); (have hz7 := hb7.size))
  clear k0
  go_wp2_with fail
  go_ret
  exact ⟨by simp, hx5.trans (hb7.mono hx5.size)⟩
end Go.Proofs.Ytinhnecgmokfkaa
