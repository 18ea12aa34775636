/- The law WindowBegins: its walk. Conditions: what came in is shaped. -/
import Derived.Test.YtinhnecgmokfkaaWinShown
import Derived.Test.YtinhnecgmokfkaaWinPure2
namespace Go.Proofs.Ytinhnecgmokfkaa
open Go Go.RowKit Go.Tm
set_option linter.unusedVariables false
set_option linter.unusedSimpArgs false

set_option maxHeartbeats 8000000 in
theorem windowBegins_walk (pv wv cv : Value) (p : Pln) (sched t : Int) (w : World) (hp : PlanIs w pv wv cv p) (ht : 0 ≤ t) (hf : p.frame ≤ 9223372036854775807) :
    Calls Try.prog 7 #[planV pv wv cv p, .int .i64 sched, .int .u64 t] w fun e w' => e = .returned (.bool true) ∧ Below w.heap.size w w' := by
  have HP := Lib.hid hp
  have KC := Lib.hid (fun W (h : PlanIs W pv wv cv p) => refCheck_any pv wv cv p W h)
  have KS := Lib.hid (fun W (h : PlanIs W pv wv cv p) => starts_any pv wv cv p sched t W h ht hf)
  have KA0 := Lib.hid (fun W (h : PlanIs W pv wv cv p) => at_any pv wv cv p sched t W h ht hf)
  have KA1 := Lib.hid (fun W (h : PlanIs W pv wv cv p) => at_any pv wv cv p sched (t + 1) W h (by omega) hf)
  have KA2 := Lib.hid (fun W (h : PlanIs W pv wv cv p) => at_any pv wv cv p sched (t + 2) W h (by omega) hf)
  have KB := Lib.hid (fun h => begins (p := p) (sched := sched) ht h)
  obtain ⟨a1, k1, a2, k2, a3, k3, rfl, rfl, rfl, hl1, hl2, hl3⟩ := hp.shape
  clear hp
  go_enter Try.func7, Try.ntmps7
  go_wp2_with fail
  have hbx0 : Box (w.alloc (.cells #[.slice a1 p.parts.length k1, .int .i64 p.frame, .slice a2 p.wins.length k2, .slice a3 p.chans.length k3] 26)) (w.heap.size) #[.slice a1 p.parts.length k1, .int .i64 p.frame, .slice a2 p.wins.length k2, .slice a3 p.chans.length k3] 26 := (Box.new _ _ _)
  have hx0 : Below w.heap.size w (w.alloc (.cells #[.slice a1 p.parts.length k1, .int .i64 p.frame, .slice a2 p.wins.length k2, .slice a3 p.chans.length k3] 26)) := ((Below.refl _ _).alloc (Nat.le_refl _) _)
  generalize hW0 : (w.alloc (.cells #[.slice a1 p.parts.length k1, .int .i64 p.frame, .slice a2 p.wins.length k2, .slice a3 p.chans.length k3] 26)) = w0 at *
  clear hW0
  with_reducible refine (shown_any _).mono ?_
  rintro e w1 ⟨rfl, hb⟩
  have hx1 := hx0.trans (hb.mono hx0.size)
  have hbx1 := hbx0.below hb hbx0.lt
  clear hb
  obtain ⟨c1, f1, l1, n1, m1⟩ := hbx1.rules
  go_wp2_with fail
  with_reducible refine (KC.out _ (HP.out.below hx1)).mono ?_
  rintro e w2 ⟨⟨k, rfl, hk⟩, hb⟩
  have hx2 := hx1.trans (hb.mono hx1.size)
  have hbx2 := hbx1.below hb hbx1.lt
  clear hb c1 f1 l1 n1 m1
  obtain ⟨c1, f1, l1, n1, m1⟩ := hbx2.rules
  by_cases hpk : PlanOk p
  case neg =>
    have hk0 : (k != 0) = true := by simp; exact fun e => hpk (hk.1 e)
    clear hk
    go_wp2_with fail
    go_ret
    exact ⟨rfl, hx2⟩
  obtain rfl : k = 0 := hk.2 hpk
  clear hk
  by_cases h62 : 4611686018427387904 < t
  case pos =>
    have h62d : decide (4611686018427387904 < t) = true := by simpa using h62
    go_wp2_with fail
    go_ret
    exact ⟨rfl, hx2⟩
  have h62d : decide (4611686018427387904 < t) = false := by simpa using h62
  go_wp2_with fail
  with_reducible refine (KS.out _ (HP.out.below hx2)).mono ?_
  rintro e w3 ⟨rfl, hb⟩
  have hx3 := hx2.trans (hb.mono hx2.size)
  have hbx3 := hbx2.below hb hbx2.lt
  clear hb c1 f1 l1 n1 m1
  obtain ⟨c1, f1, l1, n1, m1⟩ := hbx3.rules
  cases hst : startS p sched t
  case false =>
    go_wp2_with fail
    go_ret
    exact ⟨rfl, hx3⟩
  obtain ⟨a, ha, e0, e1, e2⟩ := KB.out hst
  rw [e0] at KA0
  rw [e1] at KA1
  rw [e2] at KA2
  have hw1 : IntKind.u64.wrap (t + 1) = t + 1 := u64_small (by omega) (by omega)
  have hw2 : IntKind.u64.wrap (t + 2) = t + 2 := u64_small (by omega) (by omega)
  have had : decide (0 ≤ a) = true := by simpa using ha
  clear e0 e1 e2
  go_wp2_with fail
  with_reducible refine (KA0.out _ (HP.out.below hx3)).mono ?_
  rintro e w4 ⟨rfl, hb⟩
  have hx4 := hx3.trans (hb.mono hx3.size)
  have hbx4 := hbx3.below hb hbx3.lt
  clear hb c1 f1 l1 n1 m1
  obtain ⟨c1, f1, l1, n1, m1⟩ := hbx4.rules
  go_wp2_with fail
  with_reducible refine (KA1.out _ (HP.out.below hx4)).mono ?_
  rintro e w5 ⟨rfl, hb⟩
  have hx5 := hx4.trans (hb.mono hx4.size)
  have hbx5 := hbx4.below hb hbx4.lt
  clear hb c1 f1 l1 n1 m1
  obtain ⟨c1, f1, l1, n1, m1⟩ := hbx5.rules
  go_wp2_with fail
  with_reducible refine (KA2.out _ (HP.out.below hx5)).mono ?_
  rintro e w6 ⟨rfl, hb⟩
  have hx6 := hx5.trans (hb.mono hx5.size)
  have hbx6 := hbx5.below hb hbx5.lt
  clear hb c1 f1 l1 n1 m1
  obtain ⟨c1, f1, l1, n1, m1⟩ := hbx6.rules
  go_wp2_with fail
  go_ret
  exact ⟨rfl, hx6⟩
end Go.Proofs.Ytinhnecgmokfkaa
