/- plan.Check's contract. Conditions: what came in is shaped. -/
import Derived.Test.YtinhnecgmokfkaaPlanCheck
namespace Go.Proofs.Ytinhnecgmokfkaa
open Go Go.RowKit Go.Tm
set_option linter.unusedVariables false
set_option linter.unusedSimpArgs false

set_option maxHeartbeats 16000000 in
theorem check_any (pv wv cv : Value) (p : Pln) (w : World) (hp : PlanIs w pv wv cv p) :
    Calls Try.prog 27 #[planV pv wv cv p] w fun e w' => (∃ k, e = .returned (.int .i64 k) ∧ (k = 0 ↔ PlanOk p)) ∧ Below w.heap.size w w' := by
  have HP := Lib.hid hp
  obtain ⟨a1, c1, a2, c2, a3, c3, rfl, rfl, rfl, hl1, hl2, hl3⟩ := hp.shape
  obtain ⟨vs, hvs, hvl, hvr⟩ := hp.wins.row
  have HL := Lib.hid (fun W h => containsFunc_wins (.slice a2 p.wins.length c2) vs 28 #[] longP W h (long_pred vs p.wins w W hvl hvr))
  rw [long_any hvl hvr] at HL
  have HVS := Lib.hid hvs
  have HPT := Lib.hid (fun W h => containsFunc_part (.slice a1 p.parts.length c1) (p.parts.map ptV) 31 #[] badPtP W h (part_pred p.parts W))
  rw [parts_any] at HPT
  have HCH := Lib.hid (fun (W : World) (B : Nat) hB h => containsFunc_chan (.slice a3 p.chans.length c3) (p.chans.map chV) 35 #[.pointer (some ⟨B, 0, none⟩)] (badChP p.parts.length) W h (chan_pred a1 p.parts.length c1 p.frame (.slice a2 p.wins.length c2) (.slice a3 p.chans.length c3) p.chans B W hB rfl rfl))
  rw [chans_any] at HCH
  clear hp hvs hvl hvr
  by_cases h1 : p.parts.length ≤ 4
  case neg =>
    have h1' : (4 : Int) < p.parts.length := by omega
    go_enter Try.func27, Try.ntmps27
    go_wp2_with fail
    go_ret
    exact ⟨⟨4, by simp, by constructor; (intro h; omega); (intro h; exact absurd h.parts4 h1)⟩, by (repeat (first | with_reducible assumption | with_reducible exact Below.refl _ _ | with_reducible refine Below.setCell ?_ ?_ _ | with_reducible refine Below.alloc ?_ ?_ _ | with_reducible refine below_drewN' ?_ _ | with_reducible refine Below.drew ?_ | with_reducible refine Below.trans ?_ (Below.mono (by assumption) ?_) | omega | (dsimp only; omega) | (simp only [drew_heap', drewN_heap', World.size_alloc, World.size_setCell]; omega) | (solve | simp) | (solve | (simp; omega))))⟩
  by_cases h2 : p.wins.length ≤ 3
  case neg =>
    have h2' : (3 : Int) < p.wins.length := by omega
    go_enter Try.func27, Try.ntmps27
    go_wp2_with fail
    go_ret
    exact ⟨⟨4, by simp, by constructor; (intro h; omega); (intro h; exact absurd h.wins3 h2)⟩, by (repeat (first | with_reducible assumption | with_reducible exact Below.refl _ _ | with_reducible refine Below.setCell ?_ ?_ _ | with_reducible refine Below.alloc ?_ ?_ _ | with_reducible refine below_drewN' ?_ _ | with_reducible refine Below.drew ?_ | with_reducible refine Below.trans ?_ (Below.mono (by assumption) ?_) | omega | (dsimp only; omega) | (simp only [drew_heap', drewN_heap', World.size_alloc, World.size_setCell]; omega) | (solve | simp) | (solve | (simp; omega))))⟩
  by_cases h3 : p.chans.length ≤ 6
  case neg =>
    have h3' : (6 : Int) < p.chans.length := by omega
    go_enter Try.func27, Try.ntmps27
    go_wp2_with fail
    go_ret
    exact ⟨⟨4, by simp, by constructor; (intro h; omega); (intro h; exact absurd h.chans6 h3)⟩, by (repeat (first | with_reducible assumption | with_reducible exact Below.refl _ _ | with_reducible refine Below.setCell ?_ ?_ _ | with_reducible refine Below.alloc ?_ ?_ _ | with_reducible refine below_drewN' ?_ _ | with_reducible refine Below.drew ?_ | with_reducible refine Below.trans ?_ (Below.mono (by assumption) ?_) | omega | (dsimp only; omega) | (simp only [drew_heap', drewN_heap', World.size_alloc, World.size_setCell]; omega) | (solve | simp) | (solve | (simp; omega))))⟩
  have h1' : ¬ (4 : Int) < p.parts.length := by omega
  have h2' : ¬ (3 : Int) < p.wins.length := by omega
  have h3' : ¬ (6 : Int) < p.chans.length := by omega
  have d1 : decide (4 < p.parts.length) = false := by simp; omega
  have d2 : decide (3 < p.wins.length) = false := by simp; omega
  have d3 : decide (6 < p.chans.length) = false := by simp; omega
  by_cases h4 : ∃ l ∈ p.wins, 8 < l.length
  case pos =>
    rw [decide_eq_true h4] at HL
    have HN := Lib.hid (show ¬ PlanOk p from fun h => by obtain ⟨l, hl, h8⟩ := h4; have := h.wins8 l hl; omega)
    clear h4
    go_enter Try.func27, Try.ntmps27
    go_wp2_with fail
    with_reducible refine (HL.out _ (HVS.out.below (by (repeat (first | with_reducible assumption | with_reducible exact Below.refl _ _ | with_reducible refine Below.setCell ?_ ?_ _ | with_reducible refine Below.alloc ?_ ?_ _ | with_reducible refine below_drewN' ?_ _ | with_reducible refine Below.drew ?_ | with_reducible refine Below.trans ?_ (Below.mono (by assumption) ?_) | omega | (dsimp only; omega) | (simp only [drew_heap', drewN_heap', World.size_alloc, World.size_setCell]; omega) | (solve | simp) | (solve | (simp; omega))))))).mono ?_
    rintro e w1 ⟨rfl, hb1⟩
    have hbw : Below w.heap.size w w1 := by (repeat (first | with_reducible assumption | with_reducible exact Below.refl _ _ | with_reducible refine Below.setCell ?_ ?_ _ | with_reducible refine Below.alloc ?_ ?_ _ | with_reducible refine below_drewN' ?_ _ | with_reducible refine Below.drew ?_ | with_reducible refine Below.trans ?_ (Below.mono (by assumption) ?_) | omega | (dsimp only; omega) | (simp only [drew_heap', drewN_heap', World.size_alloc, World.size_setCell]; omega) | (solve | simp) | (solve | (simp; omega))))
    go_wp2_with fail
    go_ret
    exact ⟨⟨4, by simp, by constructor; (intro h; omega); (intro h; exact absurd h HN.out)⟩, hbw⟩
  rw [decide_eq_false h4] at HL
  have H4 := Lib.hid (show ∀ l ∈ p.wins, l.length ≤ 8 from fun l hl => by rcases Nat.lt_or_ge 8 l.length with h | h; exact absurd ⟨l, hl, h⟩ h4; exact h)
  clear h4
  go_enter Try.func27, Try.ntmps27
  go_wp2_with fail
  with_reducible refine (HL.out _ (HVS.out.below (by (repeat (first | with_reducible assumption | with_reducible exact Below.refl _ _ | with_reducible refine Below.setCell ?_ ?_ _ | with_reducible refine Below.alloc ?_ ?_ _ | with_reducible refine below_drewN' ?_ _ | with_reducible refine Below.drew ?_ | with_reducible refine Below.trans ?_ (Below.mono (by assumption) ?_) | omega | (dsimp only; omega) | (simp only [drew_heap', drewN_heap', World.size_alloc, World.size_setCell]; omega) | (solve | simp) | (solve | (simp; omega))))))).mono ?_
  rintro e w1 ⟨rfl, hb1⟩
  have hz1 := hb1.size
  simp only [World.size_alloc] at hz1
  (have b1 : Box w1 w.heap.size #[.slice a1 p.parts.length c1, .int .i64 p.frame, .slice a2 p.wins.length c2, .slice a3 p.chans.length c3] 26 := (by (try have k1 := (Lib.hid True.intro).out); ((apply Box.cast); (repeat (first | with_reducible assumption | ((with_reducible apply Box.new1); (first | with_reducible rfl | rfl | (solve | simp))) | with_reducible apply Box.drewN | with_reducible apply Box.drew | with_reducible apply Box.set | with_reducible apply Box.other | with_reducible apply Box.alloc | (with_reducible apply Box.below; rotate_left; with_reducible assumption; rotate_right) | with_reducible rfl | omega | (dsimp only; omega) | (simp only [drew_heap', drewN_heap', World.size_alloc, World.size_setCell]; omega) | rfl | (solve | simp) | (solve | (simp; omega))))))); (obtain ⟨hc1, hf1, hl1, hn1, hm1⟩ := b1.rules); (have K1 := Lib.hid b1); (clear b1)
  have hx1 : Below w.heap.size w w1 := by (repeat (first | with_reducible assumption | with_reducible exact Below.refl _ _ | with_reducible refine Below.setCell ?_ ?_ _ | with_reducible refine Below.alloc ?_ ?_ _ | with_reducible refine below_drewN' ?_ _ | with_reducible refine Below.drew ?_ | with_reducible refine Below.trans ?_ (Below.mono (by assumption) ?_) | omega | (dsimp only; omega) | (simp only [drew_heap', drewN_heap', World.size_alloc, World.size_setCell]; omega) | (solve | simp) | (solve | (simp; omega))))
  clear hb1 HL HVS
  by_cases h5 : p.parts.length = 0
  case pos =>
    go_wp2_with fail
    go_ret
    exact ⟨⟨1, by simp, by constructor; (intro h; omega); (intro h; exact absurd h5 h.parts0)⟩, hx1⟩
  have e5 : ((p.parts.length : Int) == 0) = false := by rw [beq_eq_false_iff_ne]; omega
  by_cases h6 : p.wins.length = 0
  case pos =>
    go_wp2_with fail
    go_ret
    exact ⟨⟨1, by simp, by constructor; (intro h; omega); (intro h; exact absurd h6 h.wins0)⟩, hx1⟩
  have e6 : ((p.wins.length : Int) == 0) = false := by rw [beq_eq_false_iff_ne]; omega
  by_cases h7 : ∃ x ∈ p.parts, ¬ PartOk x
  case pos =>
    rw [decide_eq_true h7] at HPT
    have HN := Lib.hid (show ¬ PlanOk p from fun h => by obtain ⟨x, hx, h8⟩ := h7; exact h8 (h.part x hx))
    clear h7
    go_wp2_with fail
    with_reducible refine (HPT.out _ (HP.out.parts.below hx1)).mono ?_
    rintro e w2 ⟨rfl, hb2⟩
    have hbw : Below w.heap.size w w2 := hx1.trans (hb2.mono hx1.size)
    go_wp2_with fail
    go_ret
    exact ⟨⟨1, by simp, by constructor; (intro h; omega); (intro h; exact absurd h HN.out)⟩, hbw⟩
  rw [decide_eq_false h7] at HPT
  have H7 := Lib.hid (show ∀ x ∈ p.parts, PartOk x from fun x hx => Classical.byContradiction fun h => h7 ⟨x, hx, h⟩)
  clear h7
  go_wp2_with fail
  with_reducible refine (HPT.out _ (HP.out.parts.below hx1)).mono ?_
  rintro e w2 ⟨rfl, hb2⟩
  have hz2 := hb2.size
  (have b2 : Box w2 w.heap.size #[.slice a1 p.parts.length c1, .int .i64 p.frame, .slice a2 p.wins.length c2, .slice a3 p.chans.length c3] 26 := (by (try have k2 := K1.out); ((apply Box.cast); (repeat (first | with_reducible assumption | ((with_reducible apply Box.new1); (first | with_reducible rfl | rfl | (solve | simp))) | with_reducible apply Box.drewN | with_reducible apply Box.drew | with_reducible apply Box.set | with_reducible apply Box.other | with_reducible apply Box.alloc | (with_reducible apply Box.below; rotate_left; with_reducible assumption; rotate_right) | with_reducible rfl | omega | (dsimp only; omega) | (simp only [drew_heap', drewN_heap', World.size_alloc, World.size_setCell]; omega) | rfl | (solve | simp) | (solve | (simp; omega))))))); (obtain ⟨hc2, hf2, hl2, hn2, hm2⟩ := b2.rules); (have K2 := Lib.hid b2); (clear b2)
  have hx2 : Below w.heap.size w w2 := hx1.trans (hb2.mono hx1.size)
  have HPL := Lib.hid (HP.out.below hx2)
  clear hc1 hf1 hl1 hn1 hm1 hb2 hx1 HPT K1 HP hz1 hz2
  by_cases h8 : p.frame < 1
  case pos =>
    go_wp2_with fail
    go_ret
    exact ⟨⟨1, by simp, by constructor; (intro h; omega); (intro h; have := h.frame1; omega)⟩, hx2⟩
  by_cases h9 : 4096 < p.frame
  case pos =>
    go_wp2_with fail
    go_ret
    exact ⟨⟨1, by simp, by constructor; (intro h; omega); (intro h; have := h.frame4096; omega)⟩, hx2⟩
  have d8 : decide (p.frame < 1) = false := by simpa using h8
  have d9 : decide (4096 < p.frame) = false := by simpa using h9
  go_wp2_with fail
  have HF := Lib.hid (And.intro (show 1 ≤ p.frame by omega) (show p.frame ≤ 4096 by omega))
  go_loopw [61] (fun t W => ∃ i : Nat, i ≤ p.wins.length ∧ t = .int .i64 i ∧ (∀ j l, j < i → p.wins[j]? = some l → RowOk p.parts.length p.frame 0 l) ∧ Below w2.heap.size w2 W) (fun t _ => p.wins.length - (intOf t).toNat)
  case atStart => exact ⟨0, Nat.zero_le _, rfl, by intro j l h; omega, Below.refl _ _⟩
  case round =>
    obtain ⟨i, hi, rfl, hrows, hbx⟩ := hrel
    have HR := Lib.hid hrows
    clear hrows
    have hws := hbx.size
    obtain ⟨wo, rfl⟩ : ∃ x, x = wr := ⟨_, rfl⟩
    by_cases hlt : i < p.wins.length
    · obtain ⟨l, hl⟩ : ∃ l, p.wins[i]? = some l := ⟨_, List.getElem?_eq_getElem hlt⟩
      obtain ⟨b, off, a5, c5, rfl, hb, hcell, hll, hsl⟩ := WinsIs.at (HPL.out.wins.below hbx) hl
      have HLI := Lib.hid hl
      have HSL := Lib.hid hsl
      have hwi : IntKind.i64.wrap ((i : Int) + 1) = i + 1 := IntWalk.i64_in _ (by omega)
      clear hl hsl
      go_wp2_with fail
      go_loopw [6, 67] (fun s t W => ∃ (k : Nat) (b0 : Int), k ≤ l.length ∧ t = .int .i64 k ∧ s = .int .i64 b0 ∧ (RowOk p.parts.length p.frame 0 l ↔ RowOk p.parts.length p.frame b0 (l.drop k)) ∧ Below wo.heap.size wo W) (fun _ t _ => l.length - (intOf t).toNat)
      case atStart => exact ⟨0, 0, Nat.zero_le _, rfl, rfl, Iff.rfl, Below.refl _ _⟩
      case round =>
        obtain ⟨k, b0, hk, rfl, rfl, hiff, hby⟩ := hrel
        have HIF := Lib.hid hiff
        clear hiff
        have hws2 := hby.size
        by_cases hkl : k < l.length
        · obtain ⟨x, hx⟩ : ∃ x, l[k]? = some x := ⟨_, List.getElem?_eq_getElem hkl⟩
          obtain ⟨b2, off2, rfl, hb2, q0, q1, q2⟩ := Sl.wn (HSL.out.below hby) hx
          have hdr := rowOk_drop (n := p.parts.length) (frame := p.frame) (b := b0) hx
          have HDR := Lib.hid hdr
          have HWN := Lib.hid (fun W => window_any a1 p.parts.length c1 p.frame (.slice (some ⟨b, off, none⟩) p.wins.length c2) (.slice a3 p.chans.length c3) x b0 W HF.out.1 HF.out.2)
          have HEZ := Lib.hid (winE_zero (n := p.parts.length) (frame := p.frame) (x := x) (behind := b0))
          generalize winE p.parts.length p.frame x b0 = e0 at *
          have hb3 := Box.below (Box.below K2.out hbx K2.out.lt) hby (Box.below K2.out hbx K2.out.lt).lt
          obtain ⟨hc3, hf3, hl3', hn3, hm3⟩ := hb3.rules
          have hwk : IntKind.i64.wrap ((k : Int) + 1) = k + 1 := IntWalk.i64_in _ (by omega)
          clear hx hdr hb3
          obtain ⟨xp, xf, xl⟩ := x
          dsimp only at q0 q1 q2
          go_wp2_with fail
          with_reducible refine (HWN.out _).mono ?_
          rintro e w5 ⟨rfl, hb5⟩
          have hz5 := hb5.size
          simp only [World.size_alloc] at hz5
          have hb4 : Box w5 wr.heap.size #[.int .i64 xp, .int .i64 xf, .int .i64 xl] 48 := Box.below (Box.new wr _ _) hb5 (by simp)
          have hy5 : Below wo.heap.size wo w5 := by (repeat (first | with_reducible assumption | with_reducible exact Below.refl _ _ | with_reducible refine Below.setCell ?_ ?_ _ | with_reducible refine Below.alloc ?_ ?_ _ | with_reducible refine below_drewN' ?_ _ | with_reducible refine Below.drew ?_ | with_reducible refine Below.trans ?_ (Below.mono (by assumption) ?_) | omega | (dsimp only; omega) | (simp only [drew_heap', drewN_heap', World.size_alloc, World.size_setCell]; omega) | (solve | simp) | (solve | (simp; omega))))
          obtain ⟨hc4, hf4, hl4, hn4, hm4⟩ := hb4.rules
          clear hb4 hb5
          by_cases hz : e0 = 0
          · subst hz
            have hok := HEZ.out.1 rfl
            have hok1 := hok.1
            unfold WinOk at hok1
            dsimp only at hok1
            have hfr := HF.out
            have hwa : IntKind.i64.wrap (xf + xl) = xf + xl := IntWalk.i64_in _ (by omega)
            have HOK := Lib.hid hok
            clear hok hok1 hfr
            go_wp2_with fail
            go_roundw
            case rel =>
              refine ⟨k + 1, xf + xl, by omega, by go_num, rfl, ?_, hy5⟩
              rw [HIF.out, HDR.out]
              exact ⟨fun h => h.2.2, fun h => ⟨HOK.out.1, HOK.out.2, h⟩⟩
            case measure => simp [intOf]; omega
          · have hzb : (e0 != 0) = true := by simpa using hz
            have HZ := Lib.hid hz
            clear hz
            go_wp2_with fail
            go_ret
            refine ⟨⟨e0, by simp, fun h => absurd h HZ.out, fun h => ?_⟩, hx2.trans (((hbx.trans (hy5.mono hws)).mono hx2.size))⟩
            have h1 := HDR.out.1 (HIF.out.1 (h.rows l (List.mem_of_getElem? HLI.out)))
            exact HEZ.out.2 ⟨h1.1, h1.2.1⟩
        · obtain rfl : k = l.length := by omega
          have hrow := HIF.out.2 (by rw [List.drop_length]; trivial)
          have HRO := Lib.hid hrow
          clear hrow
          go_wp2_with fail
          go_roundw
          case rel =>
            refine ⟨i + 1, by omega, by go_num, ?_, hbx.trans (hby.mono hws)⟩
            intro j m hj hm
            rcases Nat.lt_succ_iff_lt_or_eq.1 hj with hj | rfl
            · exact HR.out j m hj hm
            · rw [HLI.out] at hm; cases hm; exact HRO.out
          case measure => simp [intOf]; omega
    · obtain rfl : i = p.wins.length := by omega
      have hb3 := Box.below K2.out hbx K2.out.lt
      have HC3 := Lib.hid (HCH.out wo w.heap.size hb3 (HPL.out.chans.below hbx))
      obtain ⟨hc3, hf3, hl3', hn3, hm3⟩ := hb3.rules
      clear hb3 HCH
      by_cases hch : ∃ x ∈ p.chans, ¬ ChanOk p.parts.length x
      · rw [decide_eq_true hch] at HC3
        have HN := Lib.hid (show ¬ PlanOk p from fun h => by obtain ⟨x, hx, h8⟩ := hch; exact h8 (h.chans x hx))
        clear hch
        go_wp2_with fail
        with_reducible refine HC3.out.mono ?_
        rintro e w5 ⟨rfl, hb5⟩
        go_wp2_with fail
        go_ret
        exact ⟨⟨1, by simp, by constructor; (intro h; omega); (intro h; exact absurd h HN.out)⟩, hx2.trans ((hbx.trans (hb5.mono hws)).mono hx2.size)⟩
      · rw [decide_eq_false hch] at HC3
        have HOK := Lib.hid (show PlanOk p from ⟨h1, h2, h3, H4.out, h5, h6, H7.out, HF.out.1, HF.out.2, fun l hl => by
          obtain ⟨j, hj, he⟩ := List.mem_iff_getElem.1 hl
          exact HR.out j l hj (by rw [List.getElem?_eq_getElem hj, he]), fun c hc => Classical.byContradiction fun h => hch ⟨c, hc, h⟩⟩)
        clear hch
        go_wp2_with fail
        with_reducible refine HC3.out.mono ?_
        rintro e w5 ⟨rfl, hb5⟩
        go_wp2_with fail
        go_ret
        exact ⟨⟨0, by simp, fun _ => HOK.out, fun _ => rfl⟩, hx2.trans ((hbx.trans (hb5.mono hws)).mono hx2.size)⟩
end Go.Proofs.Ytinhnecgmokfkaa
