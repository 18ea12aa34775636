/- The law WindowTells: its walk. Conditions: what came in is shaped. -/
import Derived.Test.YtinhnecgmokfkaaWinShown
import Derived.Test.YtinhnecgmokfkaaWinPure2
import Derived.Test.YtinhnecgmokfkaaWinRef2
namespace Go.Proofs.Ytinhnecgmokfkaa
open Go Go.RowKit Go.Tm
set_option linter.unusedVariables false
set_option linter.unusedSimpArgs false

set_option maxHeartbeats 16000000 in
theorem windowTells_walk (pv wv cv : Value) (p : Pln) (sched part n t : Int) (w : World) (hp : PlanIs w pv wv cv p) (ht : 0 ≤ t) (ht2 : t ≤ 18446744073709551615) (hn : n ≤ 9223372036854775807) (hf : p.frame ≤ 9223372036854775807) :
    Calls Try.prog 8 #[.agg #[pv, .int .i64 p.frame, wv, cv, .int .i64 sched, .int .i64 part, .int .i64 n, .int .u64 t]] w fun e w' => e = .returned (.bool true) ∧ Below w.heap.size w w' := by
  have HP := Lib.hid hp
  have KA := Lib.hid (fun W (h : PlanIs W pv wv cv p) => at_any pv wv cv p sched t W h ht hf)
  have KB := Lib.hid (fun W (h : PlanIs W pv wv cv p) => refAt_any pv wv cv p sched t W h ht ht2)
  have KS := Lib.hid (fun W (h : PlanIs W pv wv cv p) => starts_any pv wv cv p sched t W h ht hf)
  have KR := Lib.hid (fun W (h : PlanIs W pv wv cv p) => refStarts_any pv wv cv p sched t W h ht ht2)
  have KF := Lib.hid (fun W (h : PlanIs W pv wv cv p) => frame_any pv wv cv p sched part n W h hn)
  have KE := Lib.hid (fun W (h : PlanIs W pv wv cv p) => refFrame_any pv wv cv p sched part n W h)
  have KG := Lib.hid (fun W (h : PlanIs W pv wv cv p) => granted_any pv wv cv p sched part t W h ht ht2 hf)
  have KH := Lib.hid (fun W (h : PlanIs W pv wv cv p) => refGranted_any pv wv cv p sched part t W h ht ht2)
  generalize grantS p sched part t = G at *
  generalize frameS p sched part n = F at *
  generalize startS p sched t = S at *
  generalize atS p sched t = ax at *
  obtain ⟨a, x⟩ := ax
  dsimp only at KA KB
  obtain ⟨a1, k1, a2, k2, a3, k3, rfl, rfl, rfl, hl1, hl2, hl3⟩ := hp.shape
  clear hp
  go_enter Try.func8, Try.ntmps8
  go_wp2_with fail
  have hbx0 : Box ((w.alloc (.cells #[.slice a1 p.parts.length k1, .int .i64 p.frame, .slice a2 p.wins.length k2, .slice a3 p.chans.length k3, .int .i64 sched, .int .i64 part, .int .i64 n, .int .u64 t] 42)).alloc (.cells #[.slice a1 p.parts.length k1, .int .i64 p.frame, .slice a2 p.wins.length k2, .slice a3 p.chans.length k3] 26)) (w.heap.size + 1) #[.slice a1 p.parts.length k1, .int .i64 p.frame, .slice a2 p.wins.length k2, .slice a3 p.chans.length k3] 26 := (Box.new1 _ _ _ (by simp))
  have hx0 : Below w.heap.size w ((w.alloc (.cells #[.slice a1 p.parts.length k1, .int .i64 p.frame, .slice a2 p.wins.length k2, .slice a3 p.chans.length k3, .int .i64 sched, .int .i64 part, .int .i64 n, .int .u64 t] 42)).alloc (.cells #[.slice a1 p.parts.length k1, .int .i64 p.frame, .slice a2 p.wins.length k2, .slice a3 p.chans.length k3] 26)) := (((Below.refl _ _).alloc (Nat.le_refl _) _).alloc (by simp <;> omega) _)
  generalize hW0 : ((w.alloc (.cells #[.slice a1 p.parts.length k1, .int .i64 p.frame, .slice a2 p.wins.length k2, .slice a3 p.chans.length k3, .int .i64 sched, .int .i64 part, .int .i64 n, .int .u64 t] 42)).alloc (.cells #[.slice a1 p.parts.length k1, .int .i64 p.frame, .slice a2 p.wins.length k2, .slice a3 p.chans.length k3] 26)) = w0 at *
  clear hW0
  with_reducible refine (shown_any _).mono ?_
  rintro e w1 ⟨rfl, hb⟩
  have hx1 := hx0.trans (hb.mono hx0.size)
  have hbx1 := hbx0.below hb hbx0.lt
  clear hb
  obtain ⟨c1, f1, l1, n1, m1⟩ := hbx1.rules
  go_wp2_with fail
  with_reducible refine (KA.out _ (HP.out.below hx1)).mono ?_
  rintro e w2 ⟨rfl, hb⟩
  have hx2 := hx1.trans (hb.mono hx1.size)
  have hbx2 := hbx1.below hb hbx1.lt
  clear hb c1 f1 l1 n1 m1
  obtain ⟨c1, f1, l1, n1, m1⟩ := hbx2.rules
  go_wp2_with fail
  with_reducible refine (KB.out _ (HP.out.below hx2)).mono ?_
  rintro e w3 ⟨rfl, hb⟩
  have hx3 := hx2.trans (hb.mono hx2.size)
  have hbx3 := hbx2.below hb hbx2.lt
  clear hb c1 f1 l1 n1 m1
  obtain ⟨c1, f1, l1, n1, m1⟩ := hbx3.rules
  have hCS : ∀ dd os, Calls Try.prog 15 #[.agg #[.slice a1 p.parts.length k1, .int .i64 p.frame, .slice a2 p.wins.length k2, .slice a3 p.chans.length k3], .int .i64 sched, .int .u64 t] (Go.Sort.grow (redrawn w3 dd) os) fun e w'' => e = .returned (.bool S) ∧ ∃ p : Regrown, w'' = Go.Sort.grow (redrawn w3 p.d) p.os := fun dd os => Calls.regrown_of (KS.out _ (HP.out.below (hx3.trans ((below_regrown w3 dd os).mono hx3.size))))
  have CS := Lib.hid hCS
  clear hCS
  have hCR : ∀ dd os, Calls Try.prog 17 #[.agg #[.slice a1 p.parts.length k1, .int .i64 p.frame, .slice a2 p.wins.length k2, .slice a3 p.chans.length k3], .int .i64 sched, .int .u64 t] (Go.Sort.grow (redrawn w3 dd) os) fun e w'' => e = .returned (.bool S) ∧ ∃ p : Regrown, w'' = Go.Sort.grow (redrawn w3 p.d) p.os := fun dd os => Calls.regrown_of (KR.out _ (HP.out.below (hx3.trans ((below_regrown w3 dd os).mono hx3.size))))
  have CR := Lib.hid hCR
  clear hCR
  have hCF : ∀ dd os, Calls Try.prog 12 #[.agg #[.slice a1 p.parts.length k1, .int .i64 p.frame, .slice a2 p.wins.length k2, .slice a3 p.chans.length k3], .int .i64 sched, .int .i64 part, .int .i64 n] (Go.Sort.grow (redrawn w3 dd) os) fun e w'' => e = .returned (.int .i64 F) ∧ ∃ p : Regrown, w'' = Go.Sort.grow (redrawn w3 p.d) p.os := fun dd os => Calls.regrown_of (KF.out _ (HP.out.below (hx3.trans ((below_regrown w3 dd os).mono hx3.size))))
  have CF := Lib.hid hCF
  clear hCF
  have hCE : ∀ dd os, Calls Try.prog 18 #[.agg #[.slice a1 p.parts.length k1, .int .i64 p.frame, .slice a2 p.wins.length k2, .slice a3 p.chans.length k3], .int .i64 sched, .int .i64 part, .int .i64 n] (Go.Sort.grow (redrawn w3 dd) os) fun e w'' => e = .returned (.int .i64 F) ∧ ∃ p : Regrown, w'' = Go.Sort.grow (redrawn w3 p.d) p.os := fun dd os => Calls.regrown_of (KE.out _ (HP.out.below (hx3.trans ((below_regrown w3 dd os).mono hx3.size))))
  have CE := Lib.hid hCE
  clear hCE
  have hCG : ∀ dd os, Calls Try.prog 14 #[.agg #[.slice a1 p.parts.length k1, .int .i64 p.frame, .slice a2 p.wins.length k2, .slice a3 p.chans.length k3], .int .i64 sched, .int .i64 part, .int .u64 t] (Go.Sort.grow (redrawn w3 dd) os) fun e w'' => e = .returned (.int .u64 G) ∧ ∃ p : Regrown, w'' = Go.Sort.grow (redrawn w3 p.d) p.os := fun dd os => Calls.regrown_of (KG.out _ (HP.out.below (hx3.trans ((below_regrown w3 dd os).mono hx3.size))))
  have CG := Lib.hid hCG
  clear hCG
  have hCH : ∀ dd os, Calls Try.prog 19 #[.agg #[.slice a1 p.parts.length k1, .int .i64 p.frame, .slice a2 p.wins.length k2, .slice a3 p.chans.length k3], .int .i64 sched, .int .i64 part, .int .u64 t] (Go.Sort.grow (redrawn w3 dd) os) fun e w'' => e = .returned (.int .u64 G) ∧ ∃ p : Regrown, w'' = Go.Sort.grow (redrawn w3 p.d) p.os := fun dd os => Calls.regrown_of (KH.out _ (HP.out.below (hx3.trans ((below_regrown w3 dd os).mono hx3.size))))
  have CH := Lib.hid hCH
  clear hCH
  have k0 := hbx3.regrown
  go_wp2_with fail
  ((refine wp_region_quiet_below (by kernel_rfl) (by kernel_rfl) ?_); (repeat (go_big_quiet_step ((first | (go_at_call 15; with_reducible exact CS.out _ _) | (go_at_call 17; with_reducible exact CR.out _ _) | (go_at_call 12; with_reducible exact CF.out _ _) | (go_at_call 18; with_reducible exact CE.out _ _) | (go_at_call 14; with_reducible exact CG.out _ _) | (go_at_call 19; with_reducible exact CH.out _ _))))); (refine wpQuiet_nil ?_); (intro _ hw'); (obtain ⟨⟨dq, osq⟩, hw''⟩ := hw'); (subst hw''); (have hb7 := below_regrown w3 dq osq); (generalize Go.Sort.grow (redrawn w3 dq) osq = w7 at *); (have hz7 := hb7.size))
  clear k0
  go_wp2_with fail
  go_ret
  exact ⟨by simp, hx3.trans (hb7.mono hx3.size)⟩
end Go.Proofs.Ytinhnecgmokfkaa
