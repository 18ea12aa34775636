/- The reference's functions on windows. Conditions: what came in is shaped. -/
import Derived.Test.YtinhnecgmokfkaaWinShown
import Derived.Test.YtinhnecgmokfkaaWinPure3
namespace Go.Proofs.Ytinhnecgmokfkaa
open Go Go.RowKit Go.Tm
set_option linter.unusedVariables false
set_option linter.unusedSimpArgs false

def There (p : Pln) (sched : Int) : Prop := PlanOk p ∧ 0 ≤ sched ∧ sched < p.wins.length
open Classical in
noncomputable def thereB (p : Pln) (sched : Int) : Bool := decide (There p sched)
theorem thereB_iff (p : Pln) (sched : Int) : thereB p sched = true ↔ There p sched := by simp [thereB]
set_option maxHeartbeats 4000000 in
theorem there_any (pv wv cv : Value) (p : Pln) (sched : Int) (w : World) (hp : PlanIs w pv wv cv p) :
    Calls Try.prog 24 #[planV pv wv cv p, .int .i64 sched] w fun e w' => e = .returned (.bool (thereB p sched)) ∧ Below w.heap.size w w' := by
  have HP := Lib.hid hp
  have KC := Lib.hid (fun W (h : PlanIs W pv wv cv p) => refCheck_any pv wv cv p W h)
  have KT := Lib.hid (thereB_iff p sched)
  obtain ⟨a1, k1, a2, k2, a3, k3, rfl, rfl, rfl, hl1, hl2, hl3⟩ := hp.shape
  clear hp
  go_enter Try.func24, Try.ntmps24
  go_wp2_with fail
  have hbx0 := Box.new w (#[.slice a1 p.parts.length k1, .int .i64 p.frame, .slice a2 p.wins.length k2, .slice a3 p.chans.length k3] : Array Value) 26
  have hx0 : Below w.heap.size w (w.alloc (.cells #[.slice a1 p.parts.length k1, .int .i64 p.frame, .slice a2 p.wins.length k2, .slice a3 p.chans.length k3] 26)) := (Below.refl _ _).alloc (Nat.le_refl _) _
  generalize hW0 : w.alloc (.cells #[.slice a1 p.parts.length k1, .int .i64 p.frame, .slice a2 p.wins.length k2, .slice a3 p.chans.length k3] 26) = w0 at *
  clear hW0
  with_reducible refine (KC.out _ (HP.out.below hx0)).mono ?_
  rintro e w1 ⟨⟨k, rfl, hk⟩, hb⟩
  have hx1 := hx0.trans (hb.mono hx0.size)
  have hbx1 := hbx0.below hb hbx0.lt
  clear hb
  obtain ⟨c1, f1, l1, n1, m1⟩ := hbx1.rules
  by_cases hpk : PlanOk p
  case neg =>
    have hk0 : (k == 0) = false := by simp; exact fun e => hpk (hk.1 e)
    have hf : thereB p sched = false := by rw [Bool.eq_false_iff]; exact fun h => hpk (KT.out.1 h).1
    clear hk
    have HF := Lib.hid hf
    clear hf
    go_wp2_with fail
    go_ret
    exact ⟨by rw [HF.out]; simp <;> omega, hx1⟩
  obtain rfl : k = 0 := hk.2 hpk
  clear hk
  by_cases h0 : 0 ≤ sched
  case neg =>
    have h0d : decide (0 ≤ sched) = false := by simpa using h0
    have hf : thereB p sched = false := by rw [Bool.eq_false_iff]; exact fun h => h0 (KT.out.1 h).2.1
    have HF := Lib.hid hf
    clear hf
    go_wp2_with fail
    go_ret
    exact ⟨by rw [HF.out]; simp <;> omega, hx1⟩
  have h0d : decide (0 ≤ sched) = true := by simpa using h0
  by_cases h1 : sched < p.wins.length
  case neg =>
    have h1d : decide (sched < (p.wins.length : Int)) = false := by simpa using h1
    have hf : thereB p sched = false := by rw [Bool.eq_false_iff]; exact fun h => h1 (KT.out.1 h).2.2
    have HF := Lib.hid hf
    clear hf
    go_wp2_with fail
    go_ret
    exact ⟨by rw [HF.out]; simp <;> omega, hx1⟩
  have h1d : decide (sched < (p.wins.length : Int)) = true := by simpa using h1
  have hf : thereB p sched = true := KT.out.2 ⟨hpk, h0, h1⟩
  have HF := Lib.hid hf
  clear hf
  go_wp2_with fail
  go_ret
  exact ⟨by rw [HF.out]; simp <;> omega, hx1⟩

set_option maxHeartbeats 8000000 in
theorem refCycle_any (pv wv cv : Value) (p : Pln) (sched m : Int) (w : World) (hp : PlanIs w pv wv cv p) :
    Calls Try.prog 25 #[planV pv wv cv p, .int .i64 sched, .int .i64 m] w fun e w' => e = .returned (.tuple #[.int .i64 (atL (winsOf p sched) m).1, .int .i64 (atL (winsOf p sched) m).2]) ∧ Below w.heap.size w w' := by
  have HP := Lib.hid hp
  have KT := Lib.hid (fun W (h : PlanIs W pv wv cv p) => there_any pv wv cv p sched W h)
  obtain ⟨a1, k1, a2, k2, a3, k3, rfl, rfl, rfl, hl1, hl2, hl3⟩ := hp.shape
  clear hp
  by_cases hth : There p sched
  case neg =>
    rw [show thereB p sched = false by rw [Bool.eq_false_iff]; exact fun h => hth ((thereB_iff p sched).1 h)] at KT
    rw [winsOf_none hth, show atL [] m = (-1, 0) from rfl]
    go_enter Try.func25, Try.ntmps25
    go_wp2_with fail
    have hbx0 := Box.new w (#[.slice a1 p.parts.length k1, .int .i64 p.frame, .slice a2 p.wins.length k2, .slice a3 p.chans.length k3] : Array Value) 26
    have hx0 : Below w.heap.size w (w.alloc (.cells #[.slice a1 p.parts.length k1, .int .i64 p.frame, .slice a2 p.wins.length k2, .slice a3 p.chans.length k3] 26)) := (Below.refl _ _).alloc (Nat.le_refl _) _
    generalize hW0 : w.alloc (.cells #[.slice a1 p.parts.length k1, .int .i64 p.frame, .slice a2 p.wins.length k2, .slice a3 p.chans.length k3] 26) = w0 at *
    clear hW0
    with_reducible refine (KT.out _ (HP.out.below hx0)).mono ?_
    rintro e w1 ⟨rfl, hb⟩
    have hx1 := hx0.trans (hb.mono hx0.size)
    have hbx1 := hbx0.below hb hbx0.lt
    clear hb
    obtain ⟨c1, f1, l1, n1, m1⟩ := hbx1.rules
    go_wp2_with fail
    exact bodyPost_ret (v := .tuple #[.int .i64 (-1), .int .i64 0]) (by simp [results, Try.results25, go_sem]) rfl ⟨rfl, hx1⟩
  rw [(thereB_iff p sched).2 hth] at KT
  obtain ⟨hpk, h0, h1⟩ := hth
  obtain ⟨s, rfl⟩ : ∃ s : Nat, sched = s := ⟨sched.toNat, by omega⟩
  obtain ⟨l, hl⟩ : ∃ l, p.wins[s]? = some l := ⟨_, List.getElem?_eq_getElem (by omega)⟩
  have hzl : winsOf p s = l := winsOf_at hpk h0 h1 (by simpa using hl)
  have HOK := Lib.hid (fun x (hx : x ∈ l) => winsOf_wok x (by rw [hzl]; exact hx))
  rw [hzl]
  obtain ⟨b, off, a5, c5, rfl, hb0, hcell0, hll, hsl⟩ := WinsIs.at HP.out.wins hl
  have HSL := Lib.hid hsl
  have HCE := Lib.hid hcell0
  clear hl hsl hzl hcell0
  go_enter Try.func25, Try.ntmps25
  go_wp2_with fail
  have hbx0 := Box.new w (#[.slice a1 p.parts.length k1, .int .i64 p.frame, .slice (some ⟨b, off, none⟩) p.wins.length k2, .slice a3 p.chans.length k3] : Array Value) 26
  have hx0 : Below w.heap.size w (w.alloc (.cells #[.slice a1 p.parts.length k1, .int .i64 p.frame, .slice (some ⟨b, off, none⟩) p.wins.length k2, .slice a3 p.chans.length k3] 26)) := (Below.refl _ _).alloc (Nat.le_refl _) _
  generalize hW0 : w.alloc (.cells #[.slice a1 p.parts.length k1, .int .i64 p.frame, .slice (some ⟨b, off, none⟩) p.wins.length k2, .slice a3 p.chans.length k3] 26) = w0 at *
  clear hW0
  with_reducible refine (KT.out _ (HP.out.below hx0)).mono ?_
  rintro e w1 ⟨rfl, hb⟩
  have hx1 := hx0.trans (hb.mono hx0.size)
  have hbx1 := hbx0.below hb hbx0.lt
  clear hb
  obtain ⟨c1, f1, l1, n1, m1⟩ := hbx1.rules
  have HBX := Lib.hid hbx1
  go_wp2_with fail
  clear c1 f1 l1 n1 m1
  go_loopw [9] (fun t W => ∃ i : Nat, i ≤ l.length ∧ t = .int .i64 i ∧ RowKit.Hid (∀ j x, j < i → l[j]? = some x → hitB m x = false) ∧ Below w1.heap.size w1 W) (fun t _ => l.length - (intOf t).toNat)
  case atStart => exact ⟨0, Nat.zero_le _, rfl, Lib.hid (by intro j x h; omega), Below.refl _ _⟩
  case round =>
    obtain ⟨i, hi, rfl, HNO, hbw⟩ := hrel
    have hws := hbw.size
    have hxw : Below w.heap.size w wr := hx1.trans (hbw.mono hx1.size)
    have hbx3 := HBX.out.below hbw HBX.out.lt
    obtain ⟨c1, f1, l1, n1, m1⟩ := hbx3.rules
    have hcell := (hxw.cell (p := ⟨b, off + s, none⟩) hb0).trans HCE.out
    have hbr : b < wr.heap.size := Nat.lt_of_lt_of_le hb0 hxw.size
    by_cases hlt : i < l.length
    · have hwi : IntKind.i64.wrap ((i : Int) + 1) = i + 1 := IntWalk.i64_in _ (by omega)
      obtain ⟨⟨xp, xf, xl⟩, hx⟩ : ∃ x, l[i]? = some x := ⟨_, List.getElem?_eq_getElem hlt⟩
      obtain ⟨b2, off2, rfl, hb2, q0, q1, q2⟩ := Sl.wn (HSL.out.below hxw) hx
      have hok := HOK.out _ (List.mem_of_getElem? hx)
      unfold WOk at hok
      dsimp only at hok q0 q1 q2
      have HXI := Lib.hid hx
      have hw1 : IntKind.i64.wrap (xf + xl) = xf + xl := IntWalk.i64_in _ (by omega)
      have hw2 : IntKind.i64.wrap (xf + 2) = xf + 2 := IntWalk.i64_in _ (by omega)
      have hfd : hitB m (xp, xf, xl) = true → atL l m = (xp, howB m (xp, xf, xl)) := by
        intro h
        have h2 : l.find? (hitB m) = some (xp, xf, xl) := by
          rw [List.find?_eq_some_iff_getElem]
          refine ⟨h, i, hlt, by rw [List.getElem?_eq_getElem hlt] at hx; simpa using hx, ?_⟩
          intro j hj
          rw [HNO.out j l[j] hj (List.getElem?_eq_getElem (by omega))]
          rfl
        unfold atL
        rw [h2]
      have HFD := Lib.hid hfd
      clear hx hfd
      by_cases g1 : xf ≤ m
      · have g1d : decide (xf ≤ m) = true := by simpa using g1
        by_cases g2 : m < xf + xl
        · have g2d : decide (m < xf + xl) = true := by simpa using g2
          have hat := HFD.out (by unfold hitB; simp; omega)
          have HAT := Lib.hid hat
          clear hat
          by_cases g3 : m < xf + 2
          · have g3d : decide (m < xf + 2) = true := by simpa using g3
            have hho : howB m (xp, xf, xl) = 1 := by unfold howB; rw [if_pos (by show m - xf < 2; omega)]
            have HHO := Lib.hid hho
            clear hho
            go_wp2_with fail
            exact bodyPost_ret (v := .tuple #[.int .i64 xp, .int .i64 1]) (by simp [results, Try.results25, go_sem]) rfl ⟨by rw [HAT.out, HHO.out], hxw.alloc hxw.size _⟩
          · have g3d : decide (m < xf + 2) = false := by simpa using g3
            have hho : howB m (xp, xf, xl) = 2 := by unfold howB; rw [if_neg (by show ¬ m - xf < 2; omega)]
            have HHO := Lib.hid hho
            clear hho
            go_wp2_with fail
            exact bodyPost_ret (v := .tuple #[.int .i64 xp, .int .i64 2]) (by simp [results, Try.results25, go_sem]) rfl ⟨by rw [HAT.out, HHO.out], hxw.alloc hxw.size _⟩
        · have g2d : decide (m < xf + xl) = false := by simpa using g2
          have HNH := Lib.hid (show hitB m (xp, xf, xl) = false by unfold hitB; simp; omega)
          go_wp2_with fail
          go_roundw
          case rel =>
            refine ⟨i + 1, by omega, by go_num, Lib.hid ?_, hbw.alloc hws _⟩
            intro j x hj hx
            rcases Nat.lt_succ_iff_lt_or_eq.1 hj with hj | rfl
            · exact HNO.out j x hj hx
            · rw [HXI.out] at hx; cases hx; exact HNH.out
          case measure => simp [intOf]; omega
      · have g1d : decide (xf ≤ m) = false := by simpa using g1
        have HNH := Lib.hid (show hitB m (xp, xf, xl) = false by unfold hitB; simp; omega)
        go_wp2_with fail
        go_roundw
        case rel =>
          refine ⟨i + 1, by omega, by go_num, Lib.hid ?_, hbw.alloc hws _⟩
          intro j x hj hx
          rcases Nat.lt_succ_iff_lt_or_eq.1 hj with hj | rfl
          · exact HNO.out j x hj hx
          · rw [HXI.out] at hx; cases hx; exact HNH.out
        case measure => simp [intOf]; omega
    · obtain rfl : i = l.length := by omega
      have HAT := Lib.hid (show atL l m = (-1, 0) by
        unfold atL
        rw [show l.find? (hitB m) = none from by
          rw [List.find?_eq_none]
          intro x hx
          obtain ⟨j, hj, he⟩ := List.mem_iff_getElem.1 hx
          rw [HNO.out j x hj (by rw [List.getElem?_eq_getElem hj, he])]
          simp])
      go_wp2_with fail
      exact bodyPost_ret (v := .tuple #[.int .i64 (-1), .int .i64 0]) (by simp [results, Try.results25, go_sem]) rfl ⟨by rw [HAT.out], hxw⟩
end Go.Proofs.Ytinhnecgmokfkaa
