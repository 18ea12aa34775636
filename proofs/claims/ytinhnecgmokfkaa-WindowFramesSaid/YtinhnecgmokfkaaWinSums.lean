/- The law WindowSums: its walk. Conditions: what came in is shaped. -/
import Derived.Test.YtinhnecgmokfkaaWinShown
import Derived.Test.YtinhnecgmokfkaaWinPure3
namespace Go.Proofs.Ytinhnecgmokfkaa
open Go Go.RowKit Go.Tm
set_option linter.unusedVariables false
set_option linter.unusedSimpArgs false

set_option maxHeartbeats 16000000 in
theorem windowSums_walk (pv wv cv : Value) (p : Pln) (sched n : Int) (w : World) (hp : PlanIs w pv wv cv p) (hf : p.frame ≤ 9223372036854775807) :
    Calls Try.prog 3 #[planV pv wv cv p, .int .i64 sched, .int .i64 n] w fun e w' => e = .returned (.bool true) ∧ Below w.heap.size w w' := by
  have HP := Lib.hid hp
  have KC := Lib.hid (fun W (h : PlanIs W pv wv cv p) => refCheck_any pv wv cv p W h)
  have KA := Lib.hid (fun (i : Int) (h' : 0 ≤ i) W (h : PlanIs W pv wv cv p) => at_any pv wv cv p sched i W h h' hf)
  have KF := Lib.hid (fun part (m : Int) (h' : m ≤ 9223372036854775807) W (h : PlanIs W pv wv cv p) => frame_any pv wv cv p sched part m W h h')
  have KSR := Lib.hid (fun k m => sum_range (p := p) (sched := sched) k m)
  have KSO := Lib.hid (fun m => sum_other (p := p) (sched := sched) m)
  have KOR := Lib.hid (fun m => othS_range (winsOf p sched) m)
  obtain ⟨a1, k1, a2, k2, a3, k3, rfl, rfl, rfl, hl1, hl2, hl3⟩ := hp.shape
  clear hp
  go_enter Try.func3, Try.ntmps3
  go_wp2_with fail
  have hbx0 : Box (w.alloc (.cells #[.slice a1 p.parts.length k1, .int .i64 p.frame, .slice a2 p.wins.length k2, .slice a3 p.chans.length k3] 26)) (w.heap.size) #[.slice a1 p.parts.length k1, .int .i64 p.frame, .slice a2 p.wins.length k2, .slice a3 p.chans.length k3] 26 := (Box.new _ _ _)
  have hx0 : Below w.heap.size w (w.alloc (.cells #[.slice a1 p.parts.length k1, .int .i64 p.frame, .slice a2 p.wins.length k2, .slice a3 p.chans.length k3] 26)) := ((Below.refl _ _).alloc (Nat.le_refl _) _)
  generalize hW0 : (w.alloc (.cells #[.slice a1 p.parts.length k1, .int .i64 p.frame, .slice a2 p.wins.length k2, .slice a3 p.chans.length k3] 26)) = w0 at *
  clear hW0
  with_reducible refine (shown_any _).mono ?_
  rintro e w1 ⟨rfl, hb⟩
  have hx1 := hx0.trans (hb.mono hx0.size)
  have hbx1 := hbx0.below hb hbx0.lt
  clear hb
  obtain ⟨c1, f1, l1, n1, m1⟩ := hbx1.rules
  go_wp2_with fail
  with_reducible refine (KC.out _ (HP.out.below hx1)).mono ?_
  rintro e w2 ⟨⟨k, rfl, hk⟩, hb⟩
  have hx2 := hx1.trans (hb.mono hx1.size)
  have hbx2 := hbx1.below hb hbx1.lt
  clear hb c1 f1 l1 n1 m1
  obtain ⟨c1, f1, l1, n1, m1⟩ := hbx2.rules
  by_cases hpk : PlanOk p
  case neg =>
    have hk0 : (k != 0) = true := by simp; exact fun e => hpk (hk.1 e)
    clear hk
    go_wp2_with fail
    go_ret
    exact ⟨rfl, hx2⟩
  obtain rfl : k = 0 := hk.2 hpk
  clear hk
  by_cases hn0 : n < 0
  case pos =>
    have hn0d : decide (n < 0) = true := by simpa using hn0
    go_wp2_with fail
    go_ret
    exact ⟨rfl, hx2⟩
  have hn0d : decide (n < 0) = false := by simpa using hn0
  by_cases hn1 : p.frame < n
  case pos =>
    have hn1d : decide (p.frame < n) = true := by simpa using hn1
    go_wp2_with fail
    go_ret
    exact ⟨rfl, hx2⟩
  have hn1d : decide (p.frame < n) = false := by simpa using hn1
  obtain ⟨m, rfl⟩ : ∃ m : Nat, n = m := ⟨n.toNat, by omega⟩
  have hfr1 := hpk.frame1
  have hfr2 := hpk.frame4096
  have hp4 := hpk.parts4
  have HBX := Lib.hid hbx2
  clear hbx2 hbx1 hbx0
  go_wp2_with fail
  clear c1 f1 l1 n1 m1
  go_loopw [8, 9] (fun s t W => ∃ i : Nat, i ≤ p.parts.length ∧ t = .int .i64 i ∧ s = .int .i64 (sumP (fun part => frameS p sched part m) i) ∧ Below w2.heap.size w2 W) (fun _ t _ => p.parts.length - (intOf t).toNat)
  case atStart => exact ⟨0, Nat.zero_le _, rfl, rfl, Below.refl _ _⟩
  case round =>
    obtain ⟨i, hi, rfl, rfl, hbw⟩ := hrel
    have hws := hbw.size
    obtain ⟨wo, rfl⟩ : ∃ x, x = wr := ⟨_, rfl⟩
    have hxw : Below w.heap.size w wo := hx2.trans (hbw.mono hx2.size)
    have hbx3 := HBX.out.below hbw HBX.out.lt
    obtain ⟨c1, f1, l1, n1, m1⟩ := hbx3.rules
    have hwi : IntKind.i64.wrap ((i : Int) + 1) = i + 1 := IntWalk.i64_in _ (by omega)
    by_cases hlt : i < p.parts.length
    · have h1 := KSR.out i m
      have h2 := KSR.out (i + 1) m
      have hss : sumP (fun part => frameS p sched part m) (i + 1) = sumP (fun part => frameS p sched part m) i + frameS p sched i m := rfl
      have hfn := frameS_nonneg p sched i m
      have hfl := frameS_le (p := p) (sched := sched) (part := i) (n := m) (by omega)
      have hfw := frameS_le_whole (p := p) (sched := sched) (part := i) (n := m) (by omega)
      rw [hss] at h2
      have KF1 := Lib.hid (KF.out i m (by omega))
      have KF2 := Lib.hid (KF.out i p.frame hf)
      have HSS := Lib.hid hss
      clear hss
      generalize sumP (fun part => frameS p sched part m) i = s at *
      generalize frameS p sched i m = A at *
      generalize frameS p sched i p.frame = F at *
      have hws2 : IntKind.i64.wrap (s + A) = s + A := IntWalk.i64_in _ (by omega)
      have d1 : decide (A < 0) = false := by simp; omega
      have d2 : decide ((m : Int) < A) = false := by simp; omega
      have d3 : decide (F < A) = false := by simp; omega
      go_wp2_with fail
      with_reducible refine (KF1.out _ (HP.out.below hxw)).mono ?_
      rintro e w3 ⟨rfl, hb⟩
      have hx3 : Below w.heap.size w w3 := hxw.trans (hb.mono hxw.size)
      have hy3 : Below w2.heap.size w2 w3 := hbw.trans (hb.mono hws)
      have hbx4 := hbx3.below hb hbx3.lt
      clear hb c1 f1 l1 n1 m1
      obtain ⟨c1, f1, l1, n1, m1⟩ := hbx4.rules
      go_wp2_with fail
      with_reducible refine (KF2.out _ (HP.out.below hx3)).mono ?_
      rintro e w4 ⟨rfl, hb⟩
      have hy4 : Below w2.heap.size w2 w4 := hy3.trans (hb.mono hy3.size)
      go_wp2_with fail
      go_roundw
      case rel => exact ⟨i + 1, by omega, by go_num, by rw [HSS.out], hy4⟩
      case measure => simp [intOf]; omega
    · obtain rfl : i = p.parts.length := by omega
      have h1 := KSR.out p.parts.length m
      go_wp2_with fail
      clear c1 f1 l1 n1 m1
      go_loopw [11, 12] (fun s t W => ∃ j : Nat, j ≤ m ∧ t = .int .i64 j ∧ s = .int .i64 (othS (winsOf p sched) j) ∧ Below wo.heap.size wo W) (fun _ t _ => m - (intOf t).toNat)
      case atStart => exact ⟨0, Nat.zero_le _, rfl, rfl, Below.refl _ _⟩
      case round =>
        obtain ⟨j, hj, rfl, rfl, hby⟩ := hrel
        have hws2 := hby.size
        have hx3 : Below w.heap.size w wr := hxw.trans (hby.mono hxw.size)
        have hbx4 := hbx3.below hby hbx3.lt
        obtain ⟨c1, f1, l1, n1, m1⟩ := hbx4.rules
        have hwj : IntKind.i64.wrap ((j : Int) + 1) = j + 1 := IntWalk.i64_in _ (by omega)
        have hor := KOR.out j
        by_cases hlt2 : j < m
        · have hwu : IntKind.u64.wrap (j : Int) = j := u64_small (by omega) (by omega)
          have K2 := KA.out j (by omega)
          have hat : atS p sched j = atL (winsOf p sched) j := by
            unfold atS
            rw [cyc_small (by omega) (by unfold frm; rw [if_neg (by omega)]; omega)]
          rw [hat] at K2
          have hos : othS (winsOf p sched) (j + 1) = othS (winsOf p sched) j + if (atL (winsOf p sched) j).2 = 2 then 0 else 1 := rfl
          have HOS := Lib.hid hos
          have K2' := Lib.hid K2
          clear K2 hos hat
          generalize atL (winsOf p sched) j = ax at *
          obtain ⟨a, x⟩ := ax
          generalize othS (winsOf p sched) j = o at *
          have hwo : IntKind.i64.wrap (o + 1) = o + 1 := IntWalk.i64_in _ (by omega)
          dsimp only at *
          by_cases hx2' : x = 2
          · subst hx2'
            go_wp2_with fail
            with_reducible refine (K2'.out _ (HP.out.below hx3)).mono ?_
            rintro e w4 ⟨rfl, hb⟩
            go_wp2_with fail
            go_roundw
            case rel => exact ⟨j + 1, by omega, by go_num, by rw [HOS.out]; simp, hby.trans (hb.mono hws2)⟩
            case measure => simp [intOf]; omega
          · have hxb : (x != 2) = true := by simpa using hx2'
            go_wp2_with fail
            with_reducible refine (K2'.out _ (HP.out.below hx3)).mono ?_
            rintro e w4 ⟨rfl, hb⟩
            go_wp2_with fail
            go_roundw
            case rel => exact ⟨j + 1, by omega, by go_num, by rw [HOS.out, if_neg hx2'], hby.trans (hb.mono hws2)⟩
            case measure => simp [intOf]; omega
        · obtain rfl : j = m := by omega
          have hso := KSO.out j
          generalize sumP (fun part => frameS p sched part j) p.parts.length = s at *
          generalize othS (winsOf p sched) j = o at *
          have hwo : IntKind.i64.wrap (s + o) = s + o := IntWalk.i64_in _ (by omega)
          have heq : (s + o == (j : Int)) = true := by simpa using hso
          have HSO := Lib.hid hso
          clear hso
          go_wp2_with fail
          go_ret
          exact ⟨by simp, hx3⟩
end Go.Proofs.Ytinhnecgmokfkaa
