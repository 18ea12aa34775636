/- The reference's At, Starts, Frame, Granted. Conditions: what came in is shaped. -/
import Derived.Test.YtinhnecgmokfkaaWinShown
import Derived.Test.YtinhnecgmokfkaaWinRef
namespace Go.Proofs.Ytinhnecgmokfkaa
open Go Go.RowKit Go.Tm
set_option linter.unusedVariables false
set_option linter.unusedSimpArgs false

theorem frame_there {p : Pln} {sched : Int} (h : There p sched) : frm p.frame = p.frame ∧ 1 ≤ p.frame ∧ p.frame ≤ 4096 :=
  ⟨by have := h.1.frame1; unfold frm; rw [if_neg (by omega)], h.1.frame1, h.1.frame4096⟩

set_option maxHeartbeats 4000000 in
theorem refAt_any (pv wv cv : Value) (p : Pln) (sched t : Int) (w : World) (hp : PlanIs w pv wv cv p) (ht : 0 ≤ t) (ht2 : t ≤ 18446744073709551615) :
    Calls Try.prog 16 #[planV pv wv cv p, .int .i64 sched, .int .u64 t] w fun e w' => e = .returned (.tuple #[.int .i64 (atS p sched t).1, .int .i64 (atS p sched t).2]) ∧ Below w.heap.size w w' := by
  have HP := Lib.hid hp
  have KT := Lib.hid (fun W (h : PlanIs W pv wv cv p) => there_any pv wv cv p sched W h)
  have KY := Lib.hid (fun W (h : PlanIs W pv wv cv p) => refCycle_any pv wv cv p sched (cyc p.frame t) W h)
  unfold atS
  obtain ⟨a1, k1, a2, k2, a3, k3, rfl, rfl, rfl, hl1, hl2, hl3⟩ := hp.shape
  clear hp
  by_cases hth : There p sched
  case neg =>
    rw [show thereB p sched = false by rw [Bool.eq_false_iff]; exact fun h => hth ((thereB_iff p sched).1 h)] at KT
    rw [winsOf_none hth, show atL [] (cyc p.frame t) = (-1, 0) from rfl]
    go_enter Try.func16, Try.ntmps16
    go_wp2_with fail
    have hbx0 := Box.new w (#[.slice a1 p.parts.length k1, .int .i64 p.frame, .slice a2 p.wins.length k2, .slice a3 p.chans.length k3] : Array Value) 26
    have hx0 : Below w.heap.size w (w.alloc (.cells #[.slice a1 p.parts.length k1, .int .i64 p.frame, .slice a2 p.wins.length k2, .slice a3 p.chans.length k3] 26)) := (Below.refl _ _).alloc (Nat.le_refl _) _
    generalize hW0 : w.alloc (.cells #[.slice a1 p.parts.length k1, .int .i64 p.frame, .slice a2 p.wins.length k2, .slice a3 p.chans.length k3] 26) = w0 at *
    clear hW0
    with_reducible refine (KT.out _ (HP.out.below hx0)).mono ?_
    rintro e w1 ⟨rfl, hb⟩
    have hx1 := hx0.trans (hb.mono hx0.size)
    have hbx1 := hbx0.below hb hbx0.lt
    clear hb
    obtain ⟨c1, f1, l1, n1, m1⟩ := hbx1.rules
    go_wp2_with fail
    exact bodyPost_ret (v := .tuple #[.int .i64 (-1), .int .i64 0]) (by simp [results, Try.results16, go_sem]) rfl ⟨rfl, hx1⟩
  rw [(thereB_iff p sched).2 hth] at KT
  obtain ⟨hfm, hf1, hf2⟩ := frame_there hth
  have hcy : cyc p.frame t = t % p.frame := by unfold cyc; rw [hfm]
  rw [hcy] at KY ⊢
  have hm0 : 0 ≤ t % p.frame := Int.emod_nonneg t (by omega)
  have hm1 : t % p.frame < p.frame := Int.emod_lt_of_pos t (by omega)
  have hw1 : IntKind.u64.wrap p.frame = p.frame := u64_small (by omega) (by omega)
  have hz : (p.frame == 0) = false := by simp; omega
  have hw3 : IntKind.i64.wrap (t % p.frame) = t % p.frame := IntWalk.i64_in _ (by omega)
  have hwm : IntKind.u64.wrap (t % p.frame) = t % p.frame := u64_small (by omega) (by omega)
  have hm : t.tmod p.frame = t % p.frame := Int.tmod_eq_emod_of_nonneg ht
  generalize atL (winsOf p sched) (t % p.frame) = ax at *
  obtain ⟨a, x⟩ := ax
  dsimp only at KY ⊢
  clear hfm hcy hth
  go_enter Try.func16, Try.ntmps16
  go_wp2_with fail
  have hbx0 := Box.new w (#[.slice a1 p.parts.length k1, .int .i64 p.frame, .slice a2 p.wins.length k2, .slice a3 p.chans.length k3] : Array Value) 26
  have hx0 : Below w.heap.size w (w.alloc (.cells #[.slice a1 p.parts.length k1, .int .i64 p.frame, .slice a2 p.wins.length k2, .slice a3 p.chans.length k3] 26)) := (Below.refl _ _).alloc (Nat.le_refl _) _
  generalize hW0 : w.alloc (.cells #[.slice a1 p.parts.length k1, .int .i64 p.frame, .slice a2 p.wins.length k2, .slice a3 p.chans.length k3] 26) = w0 at *
  clear hW0
  with_reducible refine (KT.out _ (HP.out.below hx0)).mono ?_
  rintro e w1 ⟨rfl, hb⟩
  have hx1 := hx0.trans (hb.mono hx0.size)
  have hbx1 := hbx0.below hb hbx0.lt
  clear hb
  obtain ⟨c1, f1, l1, n1, m1⟩ := hbx1.rules
  have hC1 : ∀ dd os, Calls Try.prog 25 #[.agg #[.slice a1 p.parts.length k1, .int .i64 p.frame, .slice a2 p.wins.length k2, .slice a3 p.chans.length k3], .int .i64 sched, .int .i64 (t % p.frame)] (Go.Sort.grow (redrawn w1 dd) os) fun e w'' => e = .returned (.tuple #[.int .i64 a, .int .i64 x]) ∧ ∃ p : Regrown, w'' = Go.Sort.grow (redrawn w1 p.d) p.os := fun dd os => Calls.regrown_of (KY.out _ (HP.out.below (hx1.trans ((below_regrown w1 dd os).mono hx1.size))))
  have C1 := Lib.hid hC1
  clear hC1
  have k0 := hbx1.regrown
  go_wp2_with fail
  ((refine wp_region_quiet_below (by kernel_rfl) (by kernel_rfl) ?_); (repeat (go_big_quiet_step ((go_at_call 25; with_reducible exact C1.out _ _)))); (refine wpQuiet_nil ?_); (intro _ hw'); (obtain ⟨⟨dq, osq⟩, hw''⟩ := hw'); (subst hw''); (have hb7 := below_regrown w1 dq osq); (generalize Go.Sort.grow (redrawn w1 dq) osq = w7 at *); (have hz7 := hb7.size))
  clear k0
  go_wp2_with fail
  exact bodyPost_ret (v := .tuple #[.int .i64 a, .int .i64 x]) (by simp [results, Try.results16, go_sem]) rfl ⟨rfl, hx1.trans (hb7.mono hx1.size)⟩

set_option maxHeartbeats 4000000 in
theorem refStarts_any (pv wv cv : Value) (p : Pln) (sched t : Int) (w : World) (hp : PlanIs w pv wv cv p) (ht : 0 ≤ t) (ht2 : t ≤ 18446744073709551615) :
    Calls Try.prog 17 #[planV pv wv cv p, .int .i64 sched, .int .u64 t] w fun e w' => e = .returned (.bool (startS p sched t)) ∧ Below w.heap.size w w' := by
  have HP := Lib.hid hp
  have KT := Lib.hid (fun W (h : PlanIs W pv wv cv p) => there_any pv wv cv p sched W h)
  unfold startS
  obtain ⟨a1, k1, a2, k2, a3, k3, rfl, rfl, rfl, hl1, hl2, hl3⟩ := hp.shape
  clear hp
  by_cases hth : There p sched
  case neg =>
    rw [show thereB p sched = false by rw [Bool.eq_false_iff]; exact fun h => hth ((thereB_iff p sched).1 h)] at KT
    rw [winsOf_none hth, show ([] : List Wn).any (begB (cyc p.frame t)) = false from rfl]
    go_enter Try.func17, Try.ntmps17
    go_wp2_with fail
    have hbx0 := Box.new w (#[.slice a1 p.parts.length k1, .int .i64 p.frame, .slice a2 p.wins.length k2, .slice a3 p.chans.length k3] : Array Value) 26
    have hx0 : Below w.heap.size w (w.alloc (.cells #[.slice a1 p.parts.length k1, .int .i64 p.frame, .slice a2 p.wins.length k2, .slice a3 p.chans.length k3] 26)) := (Below.refl _ _).alloc (Nat.le_refl _) _
    generalize hW0 : w.alloc (.cells #[.slice a1 p.parts.length k1, .int .i64 p.frame, .slice a2 p.wins.length k2, .slice a3 p.chans.length k3] 26) = w0 at *
    clear hW0
    with_reducible refine (KT.out _ (HP.out.below hx0)).mono ?_
    rintro e w1 ⟨rfl, hb⟩
    have hx1 := hx0.trans (hb.mono hx0.size)
    have hbx1 := hbx0.below hb hbx0.lt
    clear hb
    obtain ⟨c1, f1, l1, n1, m1⟩ := hbx1.rules
    go_wp2_with fail
    go_ret
    exact ⟨rfl, hx1⟩
  rw [(thereB_iff p sched).2 hth] at KT
  obtain ⟨hfm, hf1, hf2⟩ := frame_there hth
  have hcy : cyc p.frame t = t % p.frame := by unfold cyc; rw [hfm]
  rw [hcy]
  have hm0 : 0 ≤ t % p.frame := Int.emod_nonneg t (by omega)
  have hm1 : t % p.frame < p.frame := Int.emod_lt_of_pos t (by omega)
  have hw1 : IntKind.u64.wrap p.frame = p.frame := u64_small (by omega) (by omega)
  have hz : (p.frame == 0) = false := by simp; omega
  have hw3 : IntKind.i64.wrap (t % p.frame) = t % p.frame := IntWalk.i64_in _ (by omega)
  have hwm : IntKind.u64.wrap (t % p.frame) = t % p.frame := u64_small (by omega) (by omega)
  have hm : t.tmod p.frame = t % p.frame := Int.tmod_eq_emod_of_nonneg ht
  obtain ⟨hpk, h0, h1⟩ := hth
  obtain ⟨s, rfl⟩ : ∃ s : Nat, sched = s := ⟨sched.toNat, by omega⟩
  obtain ⟨l, hl⟩ : ∃ l, p.wins[s]? = some l := ⟨_, List.getElem?_eq_getElem (by omega)⟩
  have hzl : winsOf p s = l := winsOf_at hpk h0 h1 (by simpa using hl)
  rw [hzl]
  obtain ⟨b, off, a5, c5, rfl, hb0, hcell0, hll, hsl⟩ := WinsIs.at HP.out.wins hl
  have HSL := Lib.hid hsl
  have HCE := Lib.hid hcell0
  clear hl hsl hzl hcell0 hfm hcy
  go_enter Try.func17, Try.ntmps17
  go_wp2_with fail
  have hbx0 := Box.new w (#[.slice a1 p.parts.length k1, .int .i64 p.frame, .slice (some ⟨b, off, none⟩) p.wins.length k2, .slice a3 p.chans.length k3] : Array Value) 26
  have hx0 : Below w.heap.size w (w.alloc (.cells #[.slice a1 p.parts.length k1, .int .i64 p.frame, .slice (some ⟨b, off, none⟩) p.wins.length k2, .slice a3 p.chans.length k3] 26)) := (Below.refl _ _).alloc (Nat.le_refl _) _
  generalize hW0 : w.alloc (.cells #[.slice a1 p.parts.length k1, .int .i64 p.frame, .slice (some ⟨b, off, none⟩) p.wins.length k2, .slice a3 p.chans.length k3] 26) = w0 at *
  clear hW0
  with_reducible refine (KT.out _ (HP.out.below hx0)).mono ?_
  rintro e w1 ⟨rfl, hb⟩
  have hx1 := hx0.trans (hb.mono hx0.size)
  have hbx1 := hbx0.below hb hbx0.lt
  clear hb
  obtain ⟨c1, f1, l1, n1, m1⟩ := hbx1.rules
  have HBX := Lib.hid hbx1
  go_wp2_with fail
  clear c1 f1 l1 n1 m1
  generalize hme : t % p.frame = m at *
  have HME := Lib.hid hme
  clear hme
  go_loopw [9] (fun t W => ∃ i : Nat, i ≤ l.length ∧ t = .int .i64 i ∧ RowKit.Hid (∀ j x, j < i → l[j]? = some x → begB m x = false) ∧ W = w1) (fun t _ => l.length - (intOf t).toNat)
  case atStart => exact ⟨0, Nat.zero_le _, rfl, Lib.hid (by intro j x h; omega), rfl⟩
  case round =>
    obtain ⟨i, hi, rfl, HNO, rfl⟩ := hrel
    obtain ⟨c1, f1, l1, n1, m1⟩ := HBX.out.rules
    have hcell := (hx1.cell (p := ⟨b, off + s, none⟩) hb0).trans HCE.out
    by_cases hlt : i < l.length
    · have hwi : IntKind.i64.wrap ((i : Int) + 1) = i + 1 := IntWalk.i64_in _ (by omega)
      obtain ⟨⟨xp, xf, xl⟩, hx⟩ : ∃ x, l[i]? = some x := ⟨_, List.getElem?_eq_getElem hlt⟩
      obtain ⟨b2, off2, rfl, hb2, q0, q1, q2⟩ := Sl.wn (HSL.out.below hx1) hx
      dsimp only at q0 q1 q2
      have HXI := Lib.hid hx
      clear hx
      by_cases he : xf = m
      · have heb : (xf == m) = true := by simpa using he
        have HAN := Lib.hid (show l.any (begB m) = true by rw [List.any_eq_true]; exact ⟨_, List.mem_of_getElem? HXI.out, by unfold begB; simpa using he⟩)
        clear he
        go_wp2_with fail
        go_ret
        exact ⟨by rw [HME.out, HAN.out]; simp, hx1⟩
      · have heb : (xf == m) = false := by simpa using he
        have HNH := Lib.hid (show begB m (xp, xf, xl) = false by unfold begB; simpa using he)
        clear he
        go_wp2_with fail
        go_roundw
        case rel =>
          refine ⟨i + 1, by omega, by go_num, Lib.hid ?_, by first | rfl | trivial⟩
          intro j x hj hx
          rcases Nat.lt_succ_iff_lt_or_eq.1 hj with hj | rfl
          · exact HNO.out j x hj hx
          · rw [HXI.out] at hx; cases hx; exact HNH.out
        case measure => simp [intOf]; omega
    · obtain rfl : i = l.length := by omega
      have HAN := Lib.hid (show l.any (begB m) = false by
        rw [List.any_eq_false]
        intro x hx
        obtain ⟨j, hj, he⟩ := List.mem_iff_getElem.1 hx
        rw [HNO.out j x hj (by rw [List.getElem?_eq_getElem hj, he])]
        simp)
      go_wp2_with fail
      go_ret
      exact ⟨by rw [HME.out, HAN.out]; simp, hx1⟩

set_option maxHeartbeats 8000000 in
theorem refFrame_any (pv wv cv : Value) (p : Pln) (sched part n : Int) (w : World) (hp : PlanIs w pv wv cv p) :
    Calls Try.prog 18 #[planV pv wv cv p, .int .i64 sched, .int .i64 part, .int .i64 n] w fun e w' => e = .returned (.int .i64 (frameS p sched part n)) ∧ Below w.heap.size w w' := by
  have HP := Lib.hid hp
  have KT := Lib.hid (fun W (h : PlanIs W pv wv cv p) => there_any pv wv cv p sched W h)
  have KY := Lib.hid (fun m W (h : PlanIs W pv wv cv p) => refCycle_any pv wv cv p sched m W h)
  obtain ⟨a1, k1, a2, k2, a3, k3, rfl, rfl, rfl, hl1, hl2, hl3⟩ := hp.shape
  clear hp
  by_cases hth : There p sched
  case neg =>
    rw [show thereB p sched = false by rw [Bool.eq_false_iff]; exact fun h => hth ((thereB_iff p sched).1 h)] at KT
    rw [frameS_eq, winsOf_none hth, show frameL [] part n = 0 from rfl]
    go_enter Try.func18, Try.ntmps18
    go_wp2_with fail
    have hbx0 := Box.new w (#[.slice a1 p.parts.length k1, .int .i64 p.frame, .slice a2 p.wins.length k2, .slice a3 p.chans.length k3] : Array Value) 26
    have hx0 : Below w.heap.size w (w.alloc (.cells #[.slice a1 p.parts.length k1, .int .i64 p.frame, .slice a2 p.wins.length k2, .slice a3 p.chans.length k3] 26)) := (Below.refl _ _).alloc (Nat.le_refl _) _
    generalize hW0 : w.alloc (.cells #[.slice a1 p.parts.length k1, .int .i64 p.frame, .slice a2 p.wins.length k2, .slice a3 p.chans.length k3] 26) = w0 at *
    clear hW0
    with_reducible refine (KT.out _ (HP.out.below hx0)).mono ?_
    rintro e w1 ⟨rfl, hb⟩
    have hx1 := hx0.trans (hb.mono hx0.size)
    have hbx1 := hbx0.below hb hbx0.lt
    clear hb
    obtain ⟨c1, f1, l1, n1, m1⟩ := hbx1.rules
    go_wp2_with fail
    go_ret
    exact ⟨rfl, hx1⟩
  rw [(thereB_iff p sched).2 hth] at KT
  obtain ⟨hfm, hf1, hf2⟩ := frame_there hth
  have KST := Lib.hid (fun m (hm : 0 ≤ m) => frameS_step (p := p) (sched := sched) (part := part) (m := m) hm)
  have KLE := Lib.hid (fun m (hm : 0 ≤ m) => frameS_le (p := p) (sched := sched) (part := part) (n := m) hm)
  have KNN := Lib.hid (fun m => frameS_nonneg p sched part m)
  have KZ := Lib.hid (show frameS p sched part 0 = 0 from frameL_zero winsOf_wok)
  have KBIG := Lib.hid (fun (h : p.frame ≤ n) => (show frameS p sched part n = frameS p sched part p.frame from frameL_big (k := p.parts.length) h (fun x hx => (winsOf_ok x hx).2)))
  have KNEG := Lib.hid (fun (h : n ≤ 0) => (show frameS p sched part n = 0 from frameL_neg h winsOf_wok))
  clear hfm hth
  go_enter Try.func18, Try.ntmps18
  go_wp2_with fail
  have hbx0 := Box.new w (#[.slice a1 p.parts.length k1, .int .i64 p.frame, .slice a2 p.wins.length k2, .slice a3 p.chans.length k3] : Array Value) 26
  have hx0 : Below w.heap.size w (w.alloc (.cells #[.slice a1 p.parts.length k1, .int .i64 p.frame, .slice a2 p.wins.length k2, .slice a3 p.chans.length k3] 26)) := (Below.refl _ _).alloc (Nat.le_refl _) _
  generalize hW0 : w.alloc (.cells #[.slice a1 p.parts.length k1, .int .i64 p.frame, .slice a2 p.wins.length k2, .slice a3 p.chans.length k3] 26) = w0 at *
  clear hW0
  with_reducible refine (KT.out _ (HP.out.below hx0)).mono ?_
  rintro e w1 ⟨rfl, hb⟩
  have hx1 := hx0.trans (hb.mono hx0.size)
  have hbx1 := hbx0.below hb hbx0.lt
  clear hb
  obtain ⟨c1, f1, l1, n1, m1⟩ := hbx1.rules
  have HBX := Lib.hid hbx1
  go_wp2_with fail
  clear c1 f1 l1 n1 m1
  go_loopw [10, 11] (fun s t W => ∃ i : Nat, ((i : Int) ≤ n ∨ i = 0) ∧ (i : Int) ≤ p.frame ∧ t = .int .i64 i ∧ s = .int .i64 (frameS p sched part i) ∧ Below w1.heap.size w1 W) (fun _ t _ => p.frame.toNat - (intOf t).toNat)
  case atStart => exact ⟨0, .inr rfl, by omega, rfl, by rw [show ((0 : Nat) : Int) = 0 from rfl, KZ.out], Below.refl _ _⟩
  case round =>
    obtain ⟨i, hi, hif, rfl, rfl, hbw⟩ := hrel
    have hws := hbw.size
    have hxw : Below w.heap.size w wr := hx1.trans (hbw.mono hx1.size)
    have hbx3 := HBX.out.below hbw HBX.out.lt
    obtain ⟨c1, f1, l1, n1, m1⟩ := hbx3.rules
    by_cases hin : (i : Int) < n
    · have hind : decide ((i : Int) < n) = true := by simpa using hin
      by_cases hlt : (i : Int) < p.frame
      · have hltd : decide ((i : Int) < p.frame) = true := by simpa using hlt
        have hwi : IntKind.i64.wrap ((i : Int) + 1) = i + 1 := IntWalk.i64_in _ (by omega)
        have K2 := KY.out (i : Int)
        have hst := KST.out i (by omega)
        have h1 := KLE.out i (by omega)
        have h2 := KNN.out i
        have HST := Lib.hid hst
        have hws2 : IntKind.i64.wrap (frameS p sched part i + 1) = frameS p sched part i + 1 := IntWalk.i64_in _ (by omega)
        have K2' := Lib.hid K2
        clear K2 hst
        generalize atL (winsOf p sched) i = ax at *
        obtain ⟨a, x⟩ := ax
        generalize frameS p sched part i = s at *
        dsimp only at K2'
        by_cases e1 : a = part
        · have e1b : (a == part) = true := by simpa using e1
          by_cases e2 : x = 2
          · have e2b : (x == 2) = true := by simpa using e2
            have HIN := Lib.hid (show ind (a, x) part = 1 by unfold ind; rw [if_pos (by rw [e1, e2])])
            clear e1 e2
            go_wp2_with fail
            with_reducible refine (K2'.out _ (HP.out.below hxw)).mono ?_
            rintro e w4 ⟨rfl, hb⟩
            go_wp2_with fail
            go_roundw
            case rel => exact ⟨i + 1, .inl (by omega), by omega, by go_num, by rw [show ((i + 1 : Nat) : Int) = (i : Int) + 1 by omega, HST.out, HIN.out], hbw.trans (hb.mono hws)⟩
            case measure => simp [intOf]; omega
          · have e2b : (x == 2) = false := by simpa using e2
            have HIN := Lib.hid (show ind (a, x) part = 0 by unfold ind; rw [if_neg (by simp [e2])])
            clear e1 e2
            go_wp2_with fail
            with_reducible refine (K2'.out _ (HP.out.below hxw)).mono ?_
            rintro e w4 ⟨rfl, hb⟩
            go_wp2_with fail
            go_roundw
            case rel => exact ⟨i + 1, .inl (by omega), by omega, by go_num, by rw [show ((i + 1 : Nat) : Int) = (i : Int) + 1 by omega, HST.out, HIN.out, Int.add_zero], hbw.trans (hb.mono hws)⟩
            case measure => simp [intOf]; omega
        · have e1b : (a == part) = false := by simpa using e1
          have HIN := Lib.hid (show ind (a, x) part = 0 by unfold ind; rw [if_neg (by simp [e1])])
          clear e1
          go_wp2_with fail
          with_reducible refine (K2'.out _ (HP.out.below hxw)).mono ?_
          rintro e w4 ⟨rfl, hb⟩
          go_wp2_with fail
          go_roundw
          case rel => exact ⟨i + 1, .inl (by omega), by omega, by go_num, by rw [show ((i + 1 : Nat) : Int) = (i : Int) + 1 by omega, HST.out, HIN.out, Int.add_zero], hbw.trans (hb.mono hws)⟩
          case measure => simp [intOf]; omega
      · have hltd : decide ((i : Int) < p.frame) = false := by simpa using hlt
        have HQ := Lib.hid (show frameS p sched part i = frameS p sched part n by rw [KBIG.out (by omega)]; congr 1; omega)
        go_wp2_with fail
        go_ret
        exact ⟨by rw [← HQ.out]; simp, hxw⟩
    · have hind : decide ((i : Int) < n) = false := by simpa using hin
      have HQ := Lib.hid (show frameS p sched part i = frameS p sched part n by
        rcases hi with h | h
        · congr 1; omega
        · rw [h, show ((0 : Nat) : Int) = 0 from rfl, KZ.out, KNEG.out (by omega)])
      go_wp2_with fail
      go_ret
      exact ⟨by rw [← HQ.out]; simp, hxw⟩

set_option maxHeartbeats 8000000 in
theorem refGranted_any (pv wv cv : Value) (p : Pln) (sched part t : Int) (w : World) (hp : PlanIs w pv wv cv p) (ht : 0 ≤ t) (ht2 : t ≤ 18446744073709551615) :
    Calls Try.prog 19 #[planV pv wv cv p, .int .i64 sched, .int .i64 part, .int .u64 t] w fun e w' => e = .returned (.int .u64 (grantS p sched part t)) ∧ Below w.heap.size w w' := by
  have HP := Lib.hid hp
  have KT := Lib.hid (fun W (h : PlanIs W pv wv cv p) => there_any pv wv cv p sched W h)
  have KFA := Lib.hid (fun W (h : PlanIs W pv wv cv p) => refFrame_any pv wv cv p sched part p.frame W h)
  have KFB := Lib.hid (fun W (h : PlanIs W pv wv cv p) => refFrame_any pv wv cv p sched part (cyc p.frame t) W h)
  have hgp := grant_parts (p := p) (sched := sched) (part := part) ht
  have h3 := frameS_nonneg p sched part p.frame
  have h4 := frameS_whole p sched part
  have h5 := frameS_nonneg p sched part (cyc p.frame t)
  have h6 := frameS_le (p := p) (sched := sched) (part := part) (cyc_nonneg (f := p.frame) (t := t))
  obtain ⟨a1, k1, a2, k2, a3, k3, rfl, rfl, rfl, hl1, hl2, hl3⟩ := hp.shape
  clear hp
  by_cases hth : There p sched
  case neg =>
    rw [show thereB p sched = false by rw [Bool.eq_false_iff]; exact fun h => hth ((thereB_iff p sched).1 h)] at KT
    have hg0 : grantS p sched part t = 0 := by unfold grantS; simp only [frameS_eq, winsOf_none hth, frameL]; simp
    rw [hg0]
    clear hg0 hgp h3 h4 h5 h6
    go_enter Try.func19, Try.ntmps19
    go_wp2_with fail
    have hbx0 := Box.new w (#[.slice a1 p.parts.length k1, .int .i64 p.frame, .slice a2 p.wins.length k2, .slice a3 p.chans.length k3] : Array Value) 26
    have hx0 : Below w.heap.size w (w.alloc (.cells #[.slice a1 p.parts.length k1, .int .i64 p.frame, .slice a2 p.wins.length k2, .slice a3 p.chans.length k3] 26)) := (Below.refl _ _).alloc (Nat.le_refl _) _
    generalize hW0 : w.alloc (.cells #[.slice a1 p.parts.length k1, .int .i64 p.frame, .slice a2 p.wins.length k2, .slice a3 p.chans.length k3] 26) = w0 at *
    clear hW0
    with_reducible refine (KT.out _ (HP.out.below hx0)).mono ?_
    rintro e w1 ⟨rfl, hb⟩
    have hx1 := hx0.trans (hb.mono hx0.size)
    have hbx1 := hbx0.below hb hbx0.lt
    clear hb
    obtain ⟨c1, f1, l1, n1, m1⟩ := hbx1.rules
    go_wp2_with fail
    go_ret
    exact ⟨rfl, hx1⟩
  rw [(thereB_iff p sched).2 hth] at KT
  obtain ⟨hfm, hf1, hf2⟩ := frame_there hth
  unfold grantS
  have hcy : cyc p.frame t = t % p.frame := by unfold cyc; rw [hfm]
  rw [hcy] at KFB h5 h6 hgp ⊢
  rw [hfm] at hgp h4 ⊢
  have hm0 : 0 ≤ t % p.frame := Int.emod_nonneg t (by omega)
  have hm1 : t % p.frame < p.frame := Int.emod_lt_of_pos t (by omega)
  have hw1 : IntKind.u64.wrap p.frame = p.frame := u64_small (by omega) (by omega)
  have hz : (p.frame == 0) = false := by simp; omega
  have hw3 : IntKind.i64.wrap (t % p.frame) = t % p.frame := IntWalk.i64_in _ (by omega)
  have hwm : IntKind.u64.wrap (t % p.frame) = t % p.frame := u64_small (by omega) (by omega)
  have hm : t.tmod p.frame = t % p.frame := Int.tmod_eq_emod_of_nonneg ht
  have hq := Int.tdiv_eq_ediv_of_nonneg (b := p.frame) ht
  generalize frameS p sched part p.frame = F at *
  generalize frameS p sched part (t % p.frame) = R at *
  have hq2 : IntKind.u64.wrap (t / p.frame) = t / p.frame := u64_small (by omega) (by have := Int.ediv_le_self p.frame ht; omega)
  have hmm : IntKind.u64.wrap (t / p.frame * F) = t / p.frame * F := u64_small (by omega) (by omega)
  have hs : IntKind.u64.wrap (t / p.frame * F + R) = t / p.frame * F + R := u64_small (by omega) (by omega)
  have hwF : IntKind.u64.wrap F = F := u64_small (by omega) (by omega)
  have hwR : IntKind.u64.wrap R = R := u64_small (by omega) (by omega)
  clear hfm hcy hth
  go_enter Try.func19, Try.ntmps19
  go_wp2_with fail
  have hbx0 := Box.new w (#[.slice a1 p.parts.length k1, .int .i64 p.frame, .slice a2 p.wins.length k2, .slice a3 p.chans.length k3] : Array Value) 26
  have hx0 : Below w.heap.size w (w.alloc (.cells #[.slice a1 p.parts.length k1, .int .i64 p.frame, .slice a2 p.wins.length k2, .slice a3 p.chans.length k3] 26)) := (Below.refl _ _).alloc (Nat.le_refl _) _
  generalize hW0 : w.alloc (.cells #[.slice a1 p.parts.length k1, .int .i64 p.frame, .slice a2 p.wins.length k2, .slice a3 p.chans.length k3] 26) = w0 at *
  clear hW0
  with_reducible refine (KT.out _ (HP.out.below hx0)).mono ?_
  rintro e w1 ⟨rfl, hb⟩
  have hx1 := hx0.trans (hb.mono hx0.size)
  have hbx1 := hbx0.below hb hbx0.lt
  clear hb
  obtain ⟨c1, f1, l1, n1, m1⟩ := hbx1.rules
  have hCA : ∀ dd os, Calls Try.prog 18 #[.agg #[.slice a1 p.parts.length k1, .int .i64 p.frame, .slice a2 p.wins.length k2, .slice a3 p.chans.length k3], .int .i64 sched, .int .i64 part, .int .i64 p.frame] (Go.Sort.grow (redrawn w1 dd) os) fun e w'' => e = .returned (.int .i64 F) ∧ ∃ p : Regrown, w'' = Go.Sort.grow (redrawn w1 p.d) p.os := fun dd os => Calls.regrown_of (KFA.out _ (HP.out.below (hx1.trans ((below_regrown w1 dd os).mono hx1.size))))
  have CA := Lib.hid hCA
  have hCB : ∀ dd os, Calls Try.prog 18 #[.agg #[.slice a1 p.parts.length k1, .int .i64 p.frame, .slice a2 p.wins.length k2, .slice a3 p.chans.length k3], .int .i64 sched, .int .i64 part, .int .i64 (t % p.frame)] (Go.Sort.grow (redrawn w1 dd) os) fun e w'' => e = .returned (.int .i64 R) ∧ ∃ p : Regrown, w'' = Go.Sort.grow (redrawn w1 p.d) p.os := fun dd os => Calls.regrown_of (KFB.out _ (HP.out.below (hx1.trans ((below_regrown w1 dd os).mono hx1.size))))
  have CB := Lib.hid hCB
  clear hCA hCB
  have k0 := hbx1.regrown
  go_wp2_with fail
  ((refine wp_region_quiet_below (by kernel_rfl) (by kernel_rfl) ?_); (repeat (go_big_quiet_step ((go_at_call 18; with_reducible first | exact CA.out _ _ | exact CB.out _ _)))); (refine wpQuiet_nil ?_); (intro _ hw'); (obtain ⟨⟨dq, osq⟩, hw''⟩ := hw'); (subst hw''); (have hb7 := below_regrown w1 dq osq); (generalize Go.Sort.grow (redrawn w1 dq) osq = w7 at *); (have hz7 := hb7.size))
  clear k0
  go_wp2_with fail
  go_ret
  exact ⟨by simp, hx1.trans (hb7.mono hx1.size)⟩
end Go.Proofs.Ytinhnecgmokfkaa
