/- The reference's Check: 0 where the plan is right, and else something else. Conditions: what came in is shaped. -/
import Derived.Test.YtinhnecgmokfkaaPlanCheck2
namespace Go.Proofs.Ytinhnecgmokfkaa
open Go Go.RowKit Go.Tm
set_option linter.unusedVariables false
set_option linter.unusedSimpArgs false

theorem act_at (m a b c : Int) {k : Nat} (h : k < 3) : ∃ x : Int, (#[.int .i64 m, .int .i64 a, .int .i64 b, .int .i64 c] : Array Value)[1 + k]? = some (.int .i64 x) ∧ (k = 0 → x = a) ∧ (k = 1 → x = b) ∧ (k = 2 → x = c) := by
  match k, h with
  | 0, _ => exact ⟨a, rfl, by simp, by simp, by simp⟩
  | 1, _ => exact ⟨b, rfl, by simp, by simp, by simp⟩
  | 2, _ => exact ⟨c, rfl, by simp, by simp, by simp⟩

set_option maxRecDepth 100000 in
set_option maxHeartbeats 40000000 in
theorem refCheck_any (pv wv cv : Value) (p : Pln) (w : World) (hp : PlanIs w pv wv cv p) :
    Calls Try.prog 11 #[planV pv wv cv p] w fun e w' => (∃ k, e = .returned (.int .i64 k) ∧ (k = 0 ↔ PlanOk p)) ∧ Below w.heap.size w w' := by
  have HP := Lib.hid hp
  obtain ⟨a1, c1, a2, c2, a3, c3, rfl, rfl, rfl, hl1, hl2, hl3⟩ := hp.shape
  clear hp
  by_cases h1 : p.parts.length ≤ 4
  case neg => as_aux_lemma =>
    have h1' : (4 : Int) < p.parts.length := by omega
    have d1 : decide (4 < p.parts.length) = true := by simp; omega
    have HN := Lib.hid (show ¬ PlanOk p from fun h => absurd h.parts4 h1)
    go_enter Try.func11, Try.ntmps11
    go_wp2_with fail
    have hbx := Box.new w #[.slice a1 p.parts.length c1, .int .i64 p.frame, .slice a2 p.wins.length c2, .slice a3 p.chans.length c3] 26
    have hx1 : Below w.heap.size w (w.alloc (.cells #[.slice a1 p.parts.length c1, .int .i64 p.frame, .slice a2 p.wins.length c2, .slice a3 p.chans.length c3] 26)) := (Below.refl _ _).alloc (Nat.le_refl _) _
    have hz1 : (w.alloc (.cells #[.slice a1 p.parts.length c1, .int .i64 p.frame, .slice a2 p.wins.length c2, .slice a3 p.chans.length c3] 26)).heap.size = w.heap.size + 1 := by simp
    generalize hW1 : w.alloc (.cells #[.slice a1 p.parts.length c1, .int .i64 p.frame, .slice a2 p.wins.length c2, .slice a3 p.chans.length c3] 26) = w1 at *
    clear hW1
    have HBX := Lib.hid hbx
    obtain ⟨hc1, hf1, hl1', hn1, hm1⟩ := hbx.rules
    clear hbx
    have HPL := Lib.hid (HP.out.below hx1)
    go_loopw [3, 4] (fun s t W => ∃ i : Nat, i ≤ p.wins.length ∧ s = .bool true ∧ t = .int .i64 i ∧ W = w1) (fun _ t _ => p.wins.length - (intOf t).toNat)
    case atStart => exact ⟨0, Nat.zero_le _, rfl, rfl, rfl⟩
    case round => as_aux_lemma =>
      obtain ⟨i, hi, rfl, rfl, rfl⟩ := hrel
      by_cases hlt : i < p.wins.length
      · have hwi : IntKind.i64.wrap ((i : Int) + 1) = i + 1 := IntWalk.i64_in _ (by omega)
        go_wp2_with fail
        go_roundw
        case rel => exact ⟨i + 1, by omega, rfl, by go_num, by first | rfl | trivial⟩
        case measure => simp [intOf]; omega
      · go_wp2_with fail
        go_ret
        exact ⟨⟨4, by simp, by constructor; (intro h; omega); (intro h; exact absurd h HN.out)⟩, hx1⟩
  have h1' : ¬ (4 : Int) < p.parts.length := by omega
  have d1 : decide (4 < p.parts.length) = false := by simp; omega
  by_cases h2 : p.wins.length ≤ 3
  case neg => as_aux_lemma =>
    have h2' : (3 : Int) < p.wins.length := by omega
    have d2 : decide (3 < p.wins.length) = true := by simp; omega
    have HN := Lib.hid (show ¬ PlanOk p from fun h => absurd h.wins3 h2)
    go_enter Try.func11, Try.ntmps11
    go_wp2_with fail
    have hbx := Box.new w #[.slice a1 p.parts.length c1, .int .i64 p.frame, .slice a2 p.wins.length c2, .slice a3 p.chans.length c3] 26
    have hx1 : Below w.heap.size w (w.alloc (.cells #[.slice a1 p.parts.length c1, .int .i64 p.frame, .slice a2 p.wins.length c2, .slice a3 p.chans.length c3] 26)) := (Below.refl _ _).alloc (Nat.le_refl _) _
    have hz1 : (w.alloc (.cells #[.slice a1 p.parts.length c1, .int .i64 p.frame, .slice a2 p.wins.length c2, .slice a3 p.chans.length c3] 26)).heap.size = w.heap.size + 1 := by simp
    generalize hW1 : w.alloc (.cells #[.slice a1 p.parts.length c1, .int .i64 p.frame, .slice a2 p.wins.length c2, .slice a3 p.chans.length c3] 26) = w1 at *
    clear hW1
    have HBX := Lib.hid hbx
    obtain ⟨hc1, hf1, hl1', hn1, hm1⟩ := hbx.rules
    clear hbx
    have HPL := Lib.hid (HP.out.below hx1)
    go_loopw [3, 4] (fun s t W => ∃ i : Nat, i ≤ p.wins.length ∧ s = .bool true ∧ t = .int .i64 i ∧ W = w1) (fun _ t _ => p.wins.length - (intOf t).toNat)
    case atStart => exact ⟨0, Nat.zero_le _, rfl, rfl, rfl⟩
    case round => as_aux_lemma =>
      obtain ⟨i, hi, rfl, rfl, rfl⟩ := hrel
      by_cases hlt : i < p.wins.length
      · have hwi : IntKind.i64.wrap ((i : Int) + 1) = i + 1 := IntWalk.i64_in _ (by omega)
        go_wp2_with fail
        go_roundw
        case rel => exact ⟨i + 1, by omega, rfl, by go_num, by first | rfl | trivial⟩
        case measure => simp [intOf]; omega
      · go_wp2_with fail
        go_ret
        exact ⟨⟨4, by simp, by constructor; (intro h; omega); (intro h; exact absurd h HN.out)⟩, hx1⟩
  have h2' : ¬ (3 : Int) < p.wins.length := by omega
  have d2 : decide (3 < p.wins.length) = false := by simp; omega
  by_cases h3 : p.chans.length ≤ 6
  case neg => as_aux_lemma =>
    have h3' : (6 : Int) < p.chans.length := by omega
    have d3 : decide (6 < p.chans.length) = true := by simp; omega
    have HN := Lib.hid (show ¬ PlanOk p from fun h => absurd h.chans6 h3)
    go_enter Try.func11, Try.ntmps11
    go_wp2_with fail
    have hbx := Box.new w #[.slice a1 p.parts.length c1, .int .i64 p.frame, .slice a2 p.wins.length c2, .slice a3 p.chans.length c3] 26
    have hx1 : Below w.heap.size w (w.alloc (.cells #[.slice a1 p.parts.length c1, .int .i64 p.frame, .slice a2 p.wins.length c2, .slice a3 p.chans.length c3] 26)) := (Below.refl _ _).alloc (Nat.le_refl _) _
    have hz1 : (w.alloc (.cells #[.slice a1 p.parts.length c1, .int .i64 p.frame, .slice a2 p.wins.length c2, .slice a3 p.chans.length c3] 26)).heap.size = w.heap.size + 1 := by simp
    generalize hW1 : w.alloc (.cells #[.slice a1 p.parts.length c1, .int .i64 p.frame, .slice a2 p.wins.length c2, .slice a3 p.chans.length c3] 26) = w1 at *
    clear hW1
    have HBX := Lib.hid hbx
    obtain ⟨hc1, hf1, hl1', hn1, hm1⟩ := hbx.rules
    clear hbx
    have HPL := Lib.hid (HP.out.below hx1)
    go_loopw [3, 4] (fun s t W => ∃ i : Nat, i ≤ p.wins.length ∧ s = .bool true ∧ t = .int .i64 i ∧ W = w1) (fun _ t _ => p.wins.length - (intOf t).toNat)
    case atStart => exact ⟨0, Nat.zero_le _, rfl, rfl, rfl⟩
    case round => as_aux_lemma =>
      obtain ⟨i, hi, rfl, rfl, rfl⟩ := hrel
      by_cases hlt : i < p.wins.length
      · have hwi : IntKind.i64.wrap ((i : Int) + 1) = i + 1 := IntWalk.i64_in _ (by omega)
        go_wp2_with fail
        go_roundw
        case rel => exact ⟨i + 1, by omega, rfl, by go_num, by first | rfl | trivial⟩
        case measure => simp [intOf]; omega
      · go_wp2_with fail
        go_ret
        exact ⟨⟨4, by simp, by constructor; (intro h; omega); (intro h; exact absurd h HN.out)⟩, hx1⟩
  have h3' : ¬ (6 : Int) < p.chans.length := by omega
  have d3 : decide (6 < p.chans.length) = false := by simp; omega
  go_enter Try.func11, Try.ntmps11
  go_wp2_with fail
  have hbx := Box.new w #[.slice a1 p.parts.length c1, .int .i64 p.frame, .slice a2 p.wins.length c2, .slice a3 p.chans.length c3] 26
  have hx1 : Below w.heap.size w (w.alloc (.cells #[.slice a1 p.parts.length c1, .int .i64 p.frame, .slice a2 p.wins.length c2, .slice a3 p.chans.length c3] 26)) := (Below.refl _ _).alloc (Nat.le_refl _) _
  have hz1 : (w.alloc (.cells #[.slice a1 p.parts.length c1, .int .i64 p.frame, .slice a2 p.wins.length c2, .slice a3 p.chans.length c3] 26)).heap.size = w.heap.size + 1 := by simp
  generalize hW1 : w.alloc (.cells #[.slice a1 p.parts.length c1, .int .i64 p.frame, .slice a2 p.wins.length c2, .slice a3 p.chans.length c3] 26) = w1 at *
  clear hW1
  have HBX := Lib.hid hbx
  obtain ⟨hc1, hf1, hl1', hn1, hm1⟩ := hbx.rules
  clear hbx
  have HPL := Lib.hid (HP.out.below hx1)
  go_loopw [3, 4] (fun s t W => ∃ (i : Nat) (b : Bool), i ≤ p.wins.length ∧ s = .bool b ∧ t = .int .i64 i ∧ RowKit.Hid (b = false → ∀ j l, j < i → p.wins[j]? = some l → l.length ≤ 8) ∧ RowKit.Hid (b = true → ¬ PlanOk p) ∧ W = w1) (fun _ t _ => p.wins.length - (intOf t).toNat)
  case atStart => exact ⟨0, false, Nat.zero_le _, rfl, rfl, Lib.hid (by intro _ j l h; omega), Lib.hid (by intro h; cases h), rfl⟩
  case round => as_aux_lemma =>
    obtain ⟨i, b, hi, rfl, rfl, HSM, HBG, rfl⟩ := hrel
    obtain ⟨w1, rfl⟩ : ∃ x, x = wr := ⟨_, rfl⟩
    have hwi : IntKind.i64.wrap ((i : Int) + 1) = i + 1 := IntWalk.i64_in _ (by omega)
    by_cases hlt : i < p.wins.length
    case pos => as_aux_lemma =>
      cases b
      · obtain ⟨l, hl⟩ : ∃ l, p.wins[i]? = some l := ⟨_, List.getElem?_eq_getElem hlt⟩
        obtain ⟨b, off, a5, c5, rfl, hb, hcell, hll, hsl⟩ := WinsIs.at HPL.out.wins hl
        have HLI := Lib.hid hl
        clear hl hsl
        by_cases h8 : 8 < l.length
        · have d8 : decide ((8 : Int) < l.length) = true := by simp; omega
          have HN := Lib.hid (show ¬ PlanOk p from fun h => by have := h.wins8 l (List.mem_of_getElem? HLI.out); omega)
          go_wp2_with fail
          go_roundw
          case rel => exact ⟨i + 1, true, by omega, rfl, by go_num, Lib.hid (by intro h; cases h), Lib.hid (fun _ => HN.out), by first | rfl | trivial⟩
          case measure => simp [intOf]; omega
        · have d8 : decide ((8 : Int) < l.length) = false := by simp; omega
          go_wp2_with fail
          go_roundw
          case rel =>
            refine ⟨i + 1, false, by omega, rfl, by go_num, Lib.hid ?_, Lib.hid (by intro h; cases h), by first | rfl | trivial⟩
            intro _ j m hj hm
            rcases Nat.lt_succ_iff_lt_or_eq.1 hj with hj | rfl
            · exact HSM.out rfl j m hj hm
            · rw [HLI.out] at hm; cases hm; omega
          case measure => simp [intOf]; omega
      · go_wp2_with fail
        go_roundw
        case rel => exact ⟨i + 1, true, by omega, rfl, by go_num, Lib.hid (by intro h; cases h), Lib.hid (fun _ => by first | exact HBG.out rfl | exact HBG.out trivial), by first | rfl | trivial⟩
        case measure => simp [intOf]; omega
    obtain rfl : i = p.wins.length := by omega
    cases b
    case true =>
      go_wp2_with fail
      go_ret
      exact ⟨⟨4, by simp, by constructor; (intro h; omega); (intro h; exact absurd h (by first | exact HBG.out rfl | exact HBG.out trivial))⟩, hx1⟩
    have H4 := Lib.hid (show ∀ l ∈ p.wins, l.length ≤ 8 from fun l hl => by
      obtain ⟨j, hj, he⟩ := List.mem_iff_getElem.1 hl
      exact HSM.out rfl j l hj (by rw [List.getElem?_eq_getElem hj, he]))
    clear HSM HBG hlt hi
    by_cases h5 : p.parts.length = 0
    case pos => as_aux_lemma =>
      go_wp2_with fail
      go_ret
      exact ⟨⟨1, by simp, by constructor; (intro h; omega); (intro h; exact absurd h5 h.parts0)⟩, hx1⟩
    have e5 : ((p.parts.length : Int) == 0) = false := by rw [beq_eq_false_iff_ne]; omega
    by_cases h6 : p.wins.length = 0
    case pos => as_aux_lemma =>
      go_wp2_with fail
      go_ret
      exact ⟨⟨1, by simp, by constructor; (intro h; omega); (intro h; exact absurd h6 h.wins0)⟩, hx1⟩
    have e6 : ((p.wins.length : Int) == 0) = false := by rw [beq_eq_false_iff_ne]; omega
    go_wp2_with fail
    go_loopw [5] (fun t W => ∃ i : Nat, i ≤ p.parts.length ∧ t = .int .i64 i ∧ (∀ j x, j < i → p.parts[j]? = some x → PartOk x) ∧ Below w1.heap.size w1 W) (fun t _ => p.parts.length - (intOf t).toNat)
    case atStart => exact ⟨0, Nat.zero_le _, rfl, by intro j x h; omega, Below.refl _ _⟩
    case round => as_aux_lemma =>
      obtain ⟨i, hi, rfl, hprev, hbw⟩ := hrel
      have HPR := Lib.hid hprev
      clear hprev
      have hws := hbw.size
      obtain ⟨wo, rfl⟩ : ∃ x, x = wr := ⟨_, rfl⟩
      have hbx := Box.below HBX.out hbw HBX.out.lt
      obtain ⟨hc2, hf2, hl2', hn2, hm2⟩ := hbx.rules
      have HBX2 := Lib.hid hbx
      clear hbx
      have hwi : IntKind.i64.wrap ((i : Int) + 1) = i + 1 := IntWalk.i64_in _ (by omega)
      by_cases hlt : i < p.parts.length
      case pos => as_aux_lemma =>
        obtain ⟨⟨m, a, b, c⟩, hx⟩ : ∃ x, p.parts[i]? = some x := ⟨_, List.getElem?_eq_getElem hlt⟩
        obtain ⟨b2, off2, rfl, hb2, q0, q1, q2, q3⟩ := Sl.pt (HPL.out.parts.below hbw) hx
        have HXI := Lib.hid hx
        clear hx
        dsimp only at q0 q1 q2 q3
        by_cases m1 : m < 64
        case pos => as_aux_lemma =>
          have HN := Lib.hid (show ¬ PlanOk p from fun h => by have h' := h.part _ (List.mem_of_getElem? HXI.out); unfold PartOk at h'; dsimp only at h'; omega)
          go_wp2_with fail
          go_ret
          exact ⟨⟨1, by simp, by constructor; (intro h; omega); (intro h; exact absurd h HN.out)⟩, hx1.trans ((hbw.alloc hws _).mono hx1.size)⟩
        have m1d : decide (m < 64) = false := by simpa using m1
        by_cases m2 : 1024 < m
        case pos => as_aux_lemma =>
          have HN := Lib.hid (show ¬ PlanOk p from fun h => by have h' := h.part _ (List.mem_of_getElem? HXI.out); unfold PartOk at h'; dsimp only at h'; omega)
          go_wp2_with fail
          go_ret
          exact ⟨⟨1, by simp, by constructor; (intro h; omega); (intro h; exact absurd h HN.out)⟩, hx1.trans ((hbw.alloc hws _).mono hx1.size)⟩
        have m2d : decide (1024 < m) = false := by simpa using m2
        have mt : m.tmod 4 = m % 4 := Int.tmod_eq_emod_of_nonneg (by omega)
        by_cases m3 : m % 4 = 0
        case neg => as_aux_lemma =>
          have m3d : (m % 4 != 0) = true := by simpa using m3
          have HN := Lib.hid (show ¬ PlanOk p from fun h => by have h' := h.part _ (List.mem_of_getElem? HXI.out); unfold PartOk at h'; dsimp only at h'; omega)
          go_wp2_with fail
          go_ret
          exact ⟨⟨1, by simp, by constructor; (intro h; omega); (intro h; exact absurd h HN.out)⟩, hx1.trans ((hbw.alloc hws _).mono hx1.size)⟩
        have m3d : (m % 4 != 0) = false := by simpa using m3
        go_wp2_with fail
        have hbp := Box.new wo (#[.int .i64 m, .int .i64 a, .int .i64 b, .int .i64 c] : Array Value) 52
        have hx3 : Below w1.heap.size w1 (wo.alloc (.cells #[.int .i64 m, .int .i64 a, .int .i64 b, .int .i64 c] 52)) := hbw.alloc hws _
        generalize hW3 : wo.alloc (.cells #[.int .i64 m, .int .i64 a, .int .i64 b, .int .i64 c] 52) = w3 at *
        clear hW3 hc2 hf2 hl2' hn2 hm2
        obtain ⟨hc3, hf3, hl3', hn3, hm3⟩ := hbp.rules
        have HC3 := Lib.hid hc3
        clear hbp hc3
        go_loopw [7] (fun t W => ∃ k : Nat, k ≤ 3 ∧ t = .int .i64 k ∧ RowKit.Hid ((0 < k → 1 ≤ a ∧ a ≤ 3) ∧ (1 < k → 1 ≤ b ∧ b ≤ 3) ∧ (2 < k → 1 ≤ c ∧ c ≤ 3)) ∧ W = w3) (fun t _ => 3 - (intOf t).toNat)
        case atStart => exact ⟨0, by omega, rfl, Lib.hid ⟨by omega, by omega, by omega⟩, rfl⟩
        case round => as_aux_lemma =>
          obtain ⟨k, hk, rfl, HAC, rfl⟩ := hrel
          obtain ⟨w3, rfl⟩ : ∃ x, x = wr := ⟨_, rfl⟩
          have hwk : IntKind.i64.wrap ((k : Int) + 1) = k + 1 := IntWalk.i64_in _ (by omega)
          by_cases hk3 : k < 3
          case pos => as_aux_lemma =>
            obtain ⟨y, hy, y0, y1, y2⟩ := act_at m a b c hk3
            have hcy := (HC3.out (1 + k)).trans hy
            have HY := Lib.hid (And.intro y0 (And.intro y1 y2))
            clear hy y0 y1 y2
            by_cases r1 : y < 1
            case pos => as_aux_lemma =>
              have HN := Lib.hid (show ¬ PlanOk p from fun h => by
                have h' := h.part _ (List.mem_of_getElem? HXI.out)
                unfold PartOk at h'
                dsimp only at h'
                obtain ⟨y0, y1, y2⟩ := HY.out
                rcases (show k = 0 ∨ k = 1 ∨ k = 2 by omega) with e | e | e
                · have := y0 e; omega
                · have := y1 e; omega
                · have := y2 e; omega)
              go_wp2_with fail
              go_ret
              exact ⟨⟨1, by simp, by constructor; (intro h; omega); (intro h; exact absurd h HN.out)⟩, hx1.trans (hx3.mono hx1.size)⟩
            have r1d : decide (y < 1) = false := by simpa using r1
            by_cases r2 : 3 < y
            case pos => as_aux_lemma =>
              have HN := Lib.hid (show ¬ PlanOk p from fun h => by
                have h' := h.part _ (List.mem_of_getElem? HXI.out)
                unfold PartOk at h'
                dsimp only at h'
                obtain ⟨y0, y1, y2⟩ := HY.out
                rcases (show k = 0 ∨ k = 1 ∨ k = 2 by omega) with e | e | e
                · have := y0 e; omega
                · have := y1 e; omega
                · have := y2 e; omega)
              go_wp2_with fail
              go_ret
              exact ⟨⟨1, by simp, by constructor; (intro h; omega); (intro h; exact absurd h HN.out)⟩, hx1.trans (hx3.mono hx1.size)⟩
            have r2d : decide (3 < y) = false := by simpa using r2
            have HRR := Lib.hid (And.intro r1 r2)
            go_wp2_with fail
            go_roundw
            case rel =>
              refine ⟨k + 1, by omega, by go_num, Lib.hid ?_, by first | rfl | trivial⟩
              obtain ⟨y0, y1, y2⟩ := HY.out
              obtain ⟨z0, z1, z2⟩ := HAC.out
              obtain ⟨r1, r2⟩ := HRR.out
              rcases (show k = 0 ∨ k = 1 ∨ k = 2 by omega) with e | e | e
              · have := y0 e; refine ⟨fun _ => by omega, fun _ => by omega, fun _ => by omega⟩
              · have := y1 e; refine ⟨fun _ => z0 (by omega), fun _ => by omega, fun _ => by omega⟩
              · have := y2 e; refine ⟨fun _ => z0 (by omega), fun _ => z1 (by omega), fun _ => by omega⟩
            case measure => simp [intOf]; omega
          obtain rfl : k = 3 := by omega
          have HPO := Lib.hid (show PartOk (m, a, b, c) from by
            obtain ⟨z0, z1, z2⟩ := HAC.out
            have := z0 (by omega)
            have := z1 (by omega)
            have := z2 (by omega)
            unfold PartOk
            dsimp only
            omega)
          go_wp2_with fail
          go_roundw
          case rel =>
            refine ⟨i + 1, by omega, by go_num, ?_, hx3⟩
            intro j x hj hx
            rcases Nat.lt_succ_iff_lt_or_eq.1 hj with hj | rfl
            · exact HPR.out j x hj hx
            · rw [HXI.out] at hx; cases hx; exact HPO.out
          case measure => simp [intOf]; omega
      have H7 := Lib.hid (show ∀ x ∈ p.parts, PartOk x from fun x hx => by
        obtain ⟨j, hj, he⟩ := List.mem_iff_getElem.1 hx
        exact HPR.out j x (by omega) (by rw [List.getElem?_eq_getElem hj, he]))
      clear HPR
      by_cases h8 : p.frame < 1
      case pos => as_aux_lemma =>
        go_wp2_with fail
        go_ret
        exact ⟨⟨1, by simp, by constructor; (intro h; omega); (intro h; have := h.frame1; omega)⟩, hx1.trans (hbw.mono hx1.size)⟩
      have d8 : decide (p.frame < 1) = false := by simpa using h8
      by_cases h9 : 4096 < p.frame
      case pos => as_aux_lemma =>
        go_wp2_with fail
        go_ret
        exact ⟨⟨1, by simp, by constructor; (intro h; omega); (intro h; have := h.frame4096; omega)⟩, hx1.trans (hbw.mono hx1.size)⟩
      have d9 : decide (4096 < p.frame) = false := by simpa using h9
      have HF := Lib.hid (And.intro (show 1 ≤ p.frame by omega) (show p.frame ≤ 4096 by omega))
      go_wp2_with fail
      have HPO := Lib.hid (HPL.out.below hbw)
      have hX1 : Below w.heap.size w wo := hx1.trans (hbw.mono hx1.size)
      clear hc2 hf2 hl2' hn2 hm2 hc1 hf1 hl1' hn1 hm1 hx1 hbw hlt hws HPL HBX
      go_loopw [8] (fun t W => ∃ i : Nat, i ≤ p.wins.length ∧ t = .int .i64 i ∧ RowKit.Hid (∀ j l, j < i → p.wins[j]? = some l → RowOk p.parts.length p.frame 0 l) ∧ Below wo.heap.size wo W) (fun t _ => p.wins.length - (intOf t).toNat)
      case atStart => exact ⟨0, Nat.zero_le _, rfl, Lib.hid (by intro j l h; omega), Below.refl _ _⟩
      case round => as_aux_lemma =>
        clear hi hwi
        obtain ⟨i, hi, rfl, HR, hbw⟩ := hrel
        have hws := hbw.size
        obtain ⟨wa, rfl⟩ : ∃ x, x = wr := ⟨_, rfl⟩
        have hX : Below w.heap.size w wa := hX1.trans (hbw.mono hX1.size)
        have HBA := Lib.hid (Box.below HBX2.out hbw HBX2.out.lt)
        have HPA := Lib.hid (HPO.out.below hbw)
        have HBW := Lib.hid hbw
        clear hbw
        by_cases hlt : i < p.wins.length
        case pos => as_aux_lemma =>
          obtain ⟨l, hl⟩ : ∃ l, p.wins[i]? = some l := ⟨_, List.getElem?_eq_getElem hlt⟩
          obtain ⟨b, off, a5, c5, rfl, hb, hcell, hll, hsl⟩ := WinsIs.at HPA.out.wins hl
          have HLI := Lib.hid hl
          have HSL := Lib.hid hsl
          have HCE := Lib.hid hcell
          have hwi : IntKind.i64.wrap ((i : Int) + 1) = i + 1 := IntWalk.i64_in _ (by omega)
          obtain ⟨hc2, hf2, hl2', hn2, hm2⟩ := HBA.out.rules
          clear hl hsl
          go_wp2_with fail
          clear hc2 hf2 hl2' hn2 hm2 hcell
          go_loopw [9] (fun t W => ∃ (k : Nat) (b0 : Int), k ≤ l.length ∧ t = .int .i64 k ∧ RowKit.Hid (RowOk p.parts.length p.frame 0 l ↔ RowOk p.parts.length p.frame b0 (l.drop k)) ∧ RowKit.Hid ((k = 0 ∧ b0 = 0) ∨ ∃ y, 0 < k ∧ l[k - 1]? = some y ∧ b0 = y.2.1 + y.2.2 ∧ WinOk p.parts.length p.frame y) ∧ Below wa.heap.size wa W) (fun t _ => l.length - (intOf t).toNat)
          case atStart => exact ⟨0, 0, Nat.zero_le _, rfl, Lib.hid Iff.rfl, Lib.hid (.inl ⟨rfl, rfl⟩), Below.refl _ _⟩
          case round => as_aux_lemma =>
            obtain ⟨k, b0, hk, rfl, HIF, HPV, hby⟩ := hrel
            have hws2 := hby.size
            have hbb := Box.below HBA.out hby HBA.out.lt
            obtain ⟨hc2, hf2, hl2', hn2, hm2⟩ := hbb.rules
            have HBB := Lib.hid hbb
            have hcell := (hby.cell (p := ⟨b, off + i, none⟩) hb).trans HCE.out
            have hbl := hb
            clear hbb
            by_cases hkl : k < l.length
            case pos => as_aux_lemma =>
              obtain ⟨⟨xp, xf, xl⟩, hx⟩ : ∃ x, l[k]? = some x := ⟨_, List.getElem?_eq_getElem hkl⟩
              obtain ⟨b2, off2, rfl, hb2, q0, q1, q2⟩ := Sl.wn (HSL.out.below hby) hx
              have HDR := Lib.hid (rowOk_drop (n := p.parts.length) (frame := p.frame) (b := b0) hx)
              have HXK := Lib.hid hx
              have hwk : IntKind.i64.wrap ((k : Int) + 1) = k + 1 := IntWalk.i64_in _ (by omega)
              have hne : ¬ b = wr.heap.size := by omega
              have hne2 : ¬ b2 = wr.heap.size := by omega
              clear hx
              dsimp only at q0 q1 q2
              by_cases x1 : xp < 0
              case pos => as_aux_lemma =>
                have HN := Lib.hid (show ¬ PlanOk p from fun h => by
                  have h' := (HDR.out.1 (HIF.out.1 (h.rows l (List.mem_of_getElem? HLI.out)))).1
                  unfold WinOk at h'
                  dsimp only at h'
                  omega)
                go_wp2_with fail
                go_ret
                exact ⟨⟨1, by simp, by constructor; (intro h; omega); (intro h; exact absurd h HN.out)⟩, (hX.trans (hby.mono hX.size)).alloc (hX.trans (hby.mono hX.size)).size _⟩
              have x1d : decide (xp < 0) = false := by simpa using x1
              by_cases x2 : (p.parts.length : Int) ≤ xp
              case pos => as_aux_lemma =>
                have HN := Lib.hid (show ¬ PlanOk p from fun h => by
                  have h' := (HDR.out.1 (HIF.out.1 (h.rows l (List.mem_of_getElem? HLI.out)))).1
                  unfold WinOk at h'
                  dsimp only at h'
                  omega)
                go_wp2_with fail
                go_ret
                exact ⟨⟨1, by simp, by constructor; (intro h; omega); (intro h; exact absurd h HN.out)⟩, (hX.trans (hby.mono hX.size)).alloc (hX.trans (hby.mono hX.size)).size _⟩
              have x2d : decide ((p.parts.length : Int) ≤ xp) = false := by simpa using x2
              by_cases x3 : xf < 0
              case pos => as_aux_lemma =>
                have HN := Lib.hid (show ¬ PlanOk p from fun h => by
                  have h' := (HDR.out.1 (HIF.out.1 (h.rows l (List.mem_of_getElem? HLI.out)))).1
                  unfold WinOk at h'
                  dsimp only at h'
                  omega)
                go_wp2_with fail
                go_ret
                exact ⟨⟨1, by simp, by constructor; (intro h; omega); (intro h; exact absurd h HN.out)⟩, (hX.trans (hby.mono hX.size)).alloc (hX.trans (hby.mono hX.size)).size _⟩
              have x3d : decide (xf < 0) = false := by simpa using x3
              by_cases x4 : p.frame < xf
              case pos => as_aux_lemma =>
                have HN := Lib.hid (show ¬ PlanOk p from fun h => by
                  have h' := (HDR.out.1 (HIF.out.1 (h.rows l (List.mem_of_getElem? HLI.out)))).1
                  unfold WinOk at h'
                  dsimp only at h'
                  omega)
                go_wp2_with fail
                go_ret
                exact ⟨⟨1, by simp, by constructor; (intro h; omega); (intro h; exact absurd h HN.out)⟩, (hX.trans (hby.mono hX.size)).alloc (hX.trans (hby.mono hX.size)).size _⟩
              have x4d : decide (p.frame < xf) = false := by simpa using x4
              by_cases x5 : xl < 3
              case pos => as_aux_lemma =>
                have HN := Lib.hid (show ¬ PlanOk p from fun h => by
                  have h' := (HDR.out.1 (HIF.out.1 (h.rows l (List.mem_of_getElem? HLI.out)))).1
                  unfold WinOk at h'
                  dsimp only at h'
                  omega)
                go_wp2_with fail
                go_ret
                exact ⟨⟨1, by simp, by constructor; (intro h; omega); (intro h; exact absurd h HN.out)⟩, (hX.trans (hby.mono hX.size)).alloc (hX.trans (hby.mono hX.size)).size _⟩
              have x5d : decide (xl < 3) = false := by simpa using x5
              have hfr := HF.out
              have hwf : IntKind.i64.wrap (p.frame - xf) = p.frame - xf := IntWalk.i64_in _ (by omega)
              by_cases x6 : p.frame - xf < xl
              case pos => as_aux_lemma =>
                have HN := Lib.hid (show ¬ PlanOk p from fun h => by
                  have h' := (HDR.out.1 (HIF.out.1 (h.rows l (List.mem_of_getElem? HLI.out)))).1
                  unfold WinOk at h'
                  dsimp only at h'
                  omega)
                go_wp2_with fail
                go_ret
                exact ⟨⟨1, by simp, by constructor; (intro h; omega); (intro h; exact absurd h HN.out)⟩, (hX.trans (hby.mono hX.size)).alloc (hX.trans (hby.mono hX.size)).size _⟩
              have x6d : decide (p.frame - xf < xl) = false := by simpa using x6
              have HOK := Lib.hid (show WinOk p.parts.length p.frame (xp, xf, xl) by unfold WinOk; dsimp only; omega)
              go_wp2_with fail
              have hbn := Box.new wr (#[.int .i64 xp, .int .i64 xf, .int .i64 xl] : Array Value) 48
              have hy4 : Below wa.heap.size wa (wr.alloc (.cells #[.int .i64 xp, .int .i64 xf, .int .i64 xl] 48)) := hby.alloc hws2 _
              have hb4 : Below wr.heap.size wr (wr.alloc (.cells #[.int .i64 xp, .int .i64 xf, .int .i64 xl] 48)) := (Below.refl _ _).alloc (Nat.le_refl _) _
              have hz4 : (wr.alloc (.cells #[.int .i64 xp, .int .i64 xf, .int .i64 xl] 48)).heap.size = wr.heap.size + 1 := by simp
              generalize hW4 : wr.alloc (.cells #[.int .i64 xp, .int .i64 xf, .int .i64 xl] 48) = w4 at *
              clear hW4
              have hbr : b < wr.heap.size := Nat.lt_of_lt_of_le hb hws2
              have hbr4 : b < w4.heap.size := by omega
              have g0 := Box.regrown hbn
              have g1 := Box.regrown (Box.below HBB.out hb4 HBB.out.lt)
              have g2 := cell_rg ((hb4.cell (p := ⟨b, off + i, none⟩) hbr).trans hcell) hbr4
              clear hc2 hf2 hl2' hn2 hm2 q0 q1 q2 hcell
              by_cases hk0 : k = 0
              · have hk0d : decide (0 < k) = false := by simp; omega
                have hk0i : decide ((0 : Int) < k) = false := by simp; omega
                ((refine wp_region_quiet_below (by kernel_rfl) (by kernel_rfl) ?_); (repeat (go_big_quiet_step (fail))); (refine wpQuiet_nil ?_); (intro _ hw'); (obtain ⟨⟨dq, osq⟩, hw''⟩ := hw'); (subst hw''); (have hb7 := below_regrown w4 dq osq); (generalize Go.Sort.grow (redrawn w4 dq) osq = w7 at *); (have hz7 := hb7.size))
                clear g0 g1 g2
                go_wp2_with fail
                go_roundw
                case rel =>
                  refine ⟨k + 1, xf + xl, by omega, by go_num, Lib.hid ?_, Lib.hid (.inr ⟨(xp, xf, xl), by omega, by simpa using HXK.out, rfl, HOK.out⟩), hy4.trans (hb7.mono (by omega))⟩
                  rw [HIF.out, HDR.out]
                  have hb00 : b0 = 0 := by
                    rcases HPV.out with h | ⟨y, h, _⟩
                    · exact h.2
                    · omega
                  exact ⟨fun h => h.2.2, fun h => ⟨HOK.out, by show b0 ≤ xf; omega, h⟩⟩
                case measure => simp [intOf]; omega
              · obtain ⟨j, rfl⟩ : ∃ j, k = j + 1 := ⟨k - 1, by omega⟩
                obtain ⟨⟨yp, yf, yl⟩, _, hyj, hb0, hyok⟩ : ∃ y : Wn, 0 < j + 1 ∧ l[j]? = some y ∧ b0 = y.2.1 + y.2.2 ∧ WinOk p.parts.length p.frame y := by
                  rcases HPV.out with h | ⟨y, h1, h2, h3⟩
                  · omega
                  · exact ⟨y, h1, by simpa using h2, h3⟩
                unfold WinOk at hyok
                dsimp only at hb0 hyok
                obtain ⟨_, _, he, _, r0, r1, r2⟩ := Sl.wn (HSL.out.below hy4) hyj
                simp only [Option.some.injEq, Addr.mk.injEq, and_true] at he
                obtain ⟨rfl, rfl⟩ := he
                have g3 := cell_rg r1 (by omega)
                have g4 := cell_rg r2 (by omega)
                have hk0d : decide (0 < j + 1) = true := by simp
                have hk0i : decide ((0 : Int) < (j : Int) + 1) = true := decide_eq_true (by omega)
                have hwj : IntKind.i64.wrap ((j : Int) + 1 - 1) = j := by rw [IntWalk.i64_in _ (by omega)]; omega
                have hwy : IntKind.i64.wrap (yf + yl) = yf + yl := IntWalk.i64_in _ (by omega)
                have HB0 := Lib.hid hb0
                clear r0 r1 r2 hyj hyok hb0
                by_cases hlt2 : xf < yf + yl
                · have hld : decide (xf < yf + yl) = true := by simpa using hlt2
                  have HN := Lib.hid (show ¬ PlanOk p from fun h => by
                    have h' := (HDR.out.1 (HIF.out.1 (h.rows l (List.mem_of_getElem? HLI.out)))).2.1
                    have := HB0.out
                    try dsimp only at h'
                    omega)
                  ((refine wp_region_quiet_below (by kernel_rfl) (by kernel_rfl) ?_); (repeat (go_big_quiet_step (fail))); (refine wpQuiet_nil ?_); (intro _ hw'); (obtain ⟨⟨dq, osq⟩, hw''⟩ := hw'); (subst hw''); (have hb7 := below_regrown w4 dq osq); (generalize Go.Sort.grow (redrawn w4 dq) osq = w7 at *); (have hz7 := hb7.size))
                  clear g0 g1 g2 g3 g4
                  go_wp2_with fail
                  go_ret
                  exact ⟨⟨9, by simp, by constructor; (intro h; omega); (intro h; exact absurd h HN.out)⟩, hX.trans ((hy4.trans (hb7.mono (by omega))).mono hX.size)⟩
                · have hld : decide (xf < yf + yl) = false := by simpa using hlt2
                  ((refine wp_region_quiet_below (by kernel_rfl) (by kernel_rfl) ?_); (repeat (go_big_quiet_step (fail))); (refine wpQuiet_nil ?_); (intro _ hw'); (obtain ⟨⟨dq, osq⟩, hw''⟩ := hw'); (subst hw''); (have hb7 := below_regrown w4 dq osq); (generalize Go.Sort.grow (redrawn w4 dq) osq = w7 at *); (have hz7 := hb7.size))
                  clear g0 g1 g2 g3 g4
                  go_wp2_with fail
                  go_roundw
                  case rel =>
                    refine ⟨j + 1 + 1, xf + xl, by omega, by go_num, Lib.hid ?_, Lib.hid (.inr ⟨(xp, xf, xl), by omega, by simpa using HXK.out, rfl, HOK.out⟩), hy4.trans (hb7.mono (by omega))⟩
                    rw [HIF.out, HDR.out]
                    have := HB0.out
                    exact ⟨fun h => h.2.2, fun h => ⟨HOK.out, by show b0 ≤ xf; omega, h⟩⟩
                  case measure => simp [intOf]; omega
            obtain rfl : k = l.length := by omega
            have HRO := Lib.hid (HIF.out.2 (by rw [List.drop_length]; trivial))
            go_wp2_with fail
            go_roundw
            case rel =>
              refine ⟨i + 1, by omega, by go_num, Lib.hid ?_, HBW.out.trans (hby.mono hws)⟩
              intro j m hj hm
              rcases Nat.lt_succ_iff_lt_or_eq.1 hj with hj | rfl
              · exact HR.out j m hj hm
              · rw [HLI.out] at hm; cases hm; exact HRO.out
            case measure => simp [intOf]; omega
        obtain rfl : i = p.wins.length := by omega
        have HRW := Lib.hid (show ∀ l ∈ p.wins, RowOk p.parts.length p.frame 0 l from fun l hl => by
          obtain ⟨j, hj, he⟩ := List.mem_iff_getElem.1 hl
          exact HR.out j l hj (by rw [List.getElem?_eq_getElem hj, he]))
        obtain ⟨hc2, hf2, hl2', hn2, hm2⟩ := HBA.out.rules
        go_wp2_with fail
        clear hc2 hf2 hl2' hn2 hm2
        go_loopw [11] (fun t W => ∃ i : Nat, i ≤ p.chans.length ∧ t = .int .i64 i ∧ RowKit.Hid (∀ j x, j < i → p.chans[j]? = some x → ChanOk p.parts.length x) ∧ Below wa.heap.size wa W) (fun t _ => p.chans.length - (intOf t).toNat)
        case atStart => exact ⟨0, Nat.zero_le _, rfl, Lib.hid (by intro j l h; omega), Below.refl _ _⟩
        case round => as_aux_lemma =>
          clear hi hlt
          obtain ⟨i, hi, rfl, HR3, hbc⟩ := hrel
          have hws3 := hbc.size
          have hbb := Box.below HBA.out hbc HBA.out.lt
          obtain ⟨hc2, hf2, hl2', hn2, hm2⟩ := hbb.rules
          clear hbb
          by_cases hlt : i < p.chans.length
          case pos => as_aux_lemma =>
            obtain ⟨⟨kd, f, t, s, d⟩, hx⟩ : ∃ x, p.chans[i]? = some x := ⟨_, List.getElem?_eq_getElem hlt⟩
            obtain ⟨b2, off2, rfl, hb2, q0, q1, q2, q3, q4⟩ := Sl.ch (HPA.out.chans.below hbc) hx
            have HXI := Lib.hid hx
            have hwi : IntKind.i64.wrap ((i : Int) + 1) = i + 1 := IntWalk.i64_in _ (by omega)
            have hne2 : ¬ b2 = wr.heap.size := by omega
            clear hx
            dsimp only at q0 q1 q2 q3 q4
            by_cases k1 : kd = 1
            · subst k1
              by_cases y1 : f < 0
              case pos => as_aux_lemma =>
                have HN := Lib.hid (show ¬ PlanOk p from fun h => by
                  have h' := h.chans _ (List.mem_of_getElem? HXI.out)
                  unfold ChanOk at h'
                  dsimp only at h'
                  omega)
                go_wp2_with fail
                go_ret
                exact ⟨⟨1, by simp, by constructor; (intro h; omega); (intro h; exact absurd h HN.out)⟩, (hX.trans (hbc.mono hX.size)).alloc (hX.trans (hbc.mono hX.size)).size _⟩
              have y1d : decide (f < 0) = false := by simpa using y1
              by_cases y2 : (p.parts.length : Int) ≤ f
              case pos => as_aux_lemma =>
                have HN := Lib.hid (show ¬ PlanOk p from fun h => by
                  have h' := h.chans _ (List.mem_of_getElem? HXI.out)
                  unfold ChanOk at h'
                  dsimp only at h'
                  omega)
                go_wp2_with fail
                go_ret
                exact ⟨⟨1, by simp, by constructor; (intro h; omega); (intro h; exact absurd h HN.out)⟩, (hX.trans (hbc.mono hX.size)).alloc (hX.trans (hbc.mono hX.size)).size _⟩
              have y2d : decide ((p.parts.length : Int) ≤ f) = false := by simpa using y2
              by_cases y3 : t < 0
              case pos => as_aux_lemma =>
                have HN := Lib.hid (show ¬ PlanOk p from fun h => by
                  have h' := h.chans _ (List.mem_of_getElem? HXI.out)
                  unfold ChanOk at h'
                  dsimp only at h'
                  omega)
                go_wp2_with fail
                go_ret
                exact ⟨⟨1, by simp, by constructor; (intro h; omega); (intro h; exact absurd h HN.out)⟩, (hX.trans (hbc.mono hX.size)).alloc (hX.trans (hbc.mono hX.size)).size _⟩
              have y3d : decide (t < 0) = false := by simpa using y3
              by_cases y4 : (p.parts.length : Int) ≤ t
              case pos => as_aux_lemma =>
                have HN := Lib.hid (show ¬ PlanOk p from fun h => by
                  have h' := h.chans _ (List.mem_of_getElem? HXI.out)
                  unfold ChanOk at h'
                  dsimp only at h'
                  omega)
                go_wp2_with fail
                go_ret
                exact ⟨⟨1, by simp, by constructor; (intro h; omega); (intro h; exact absurd h HN.out)⟩, (hX.trans (hbc.mono hX.size)).alloc (hX.trans (hbc.mono hX.size)).size _⟩
              have y4d : decide ((p.parts.length : Int) ≤ t) = false := by simpa using y4
              by_cases y5 : f = t
              case pos => as_aux_lemma =>
                have y5d : (f == t) = true := by simpa using y5
                have HN := Lib.hid (show ¬ PlanOk p from fun h => by
                  have h' := h.chans _ (List.mem_of_getElem? HXI.out)
                  unfold ChanOk at h'
                  dsimp only at h'
                  omega)
                go_wp2_with fail
                go_ret
                exact ⟨⟨1, by simp, by constructor; (intro h; omega); (intro h; exact absurd h HN.out)⟩, (hX.trans (hbc.mono hX.size)).alloc (hX.trans (hbc.mono hX.size)).size _⟩
              have y5d : (f == t) = false := by simpa using y5
              by_cases y6 : s < 1
              case pos => as_aux_lemma =>
                have HN := Lib.hid (show ¬ PlanOk p from fun h => by
                  have h' := h.chans _ (List.mem_of_getElem? HXI.out)
                  unfold ChanOk at h'
                  dsimp only at h'
                  omega)
                go_wp2_with fail
                go_ret
                exact ⟨⟨1, by simp, by constructor; (intro h; omega); (intro h; exact absurd h HN.out)⟩, (hX.trans (hbc.mono hX.size)).alloc (hX.trans (hbc.mono hX.size)).size _⟩
              have y6d : decide (s < 1) = false := by simpa using y6
              by_cases y7 : 32 < s
              case pos => as_aux_lemma =>
                have HN := Lib.hid (show ¬ PlanOk p from fun h => by
                  have h' := h.chans _ (List.mem_of_getElem? HXI.out)
                  unfold ChanOk at h'
                  dsimp only at h'
                  omega)
                go_wp2_with fail
                go_ret
                exact ⟨⟨1, by simp, by constructor; (intro h; omega); (intro h; exact absurd h HN.out)⟩, (hX.trans (hbc.mono hX.size)).alloc (hX.trans (hbc.mono hX.size)).size _⟩
              have y7d : decide (32 < s) = false := by simpa using y7
              by_cases y8 : d < 1
              case pos => as_aux_lemma =>
                have HN := Lib.hid (show ¬ PlanOk p from fun h => by
                  have h' := h.chans _ (List.mem_of_getElem? HXI.out)
                  unfold ChanOk at h'
                  dsimp only at h'
                  omega)
                go_wp2_with fail
                go_ret
                exact ⟨⟨1, by simp, by constructor; (intro h; omega); (intro h; exact absurd h HN.out)⟩, (hX.trans (hbc.mono hX.size)).alloc (hX.trans (hbc.mono hX.size)).size _⟩
              have y8d : decide (d < 1) = false := by simpa using y8
              by_cases y9 : 8 < d
              case pos => as_aux_lemma =>
                have HN := Lib.hid (show ¬ PlanOk p from fun h => by
                  have h' := h.chans _ (List.mem_of_getElem? HXI.out)
                  unfold ChanOk at h'
                  dsimp only at h'
                  omega)
                go_wp2_with fail
                go_ret
                exact ⟨⟨1, by simp, by constructor; (intro h; omega); (intro h; exact absurd h HN.out)⟩, (hX.trans (hbc.mono hX.size)).alloc (hX.trans (hbc.mono hX.size)).size _⟩
              have y9d : decide (8 < d) = false := by simpa using y9
              by_cases y10 : d = 1
              case neg => as_aux_lemma =>
                have y10d : (d != 1) = true := by simpa using y10
                have HN := Lib.hid (show ¬ PlanOk p from fun h => by
                  have h' := h.chans _ (List.mem_of_getElem? HXI.out)
                  unfold ChanOk at h'
                  dsimp only at h'
                  omega)
                go_wp2_with fail
                go_ret
                exact ⟨⟨1, by simp, by constructor; (intro h; omega); (intro h; exact absurd h HN.out)⟩, (hX.trans (hbc.mono hX.size)).alloc (hX.trans (hbc.mono hX.size)).size _⟩
              have y10d : (d != 1) = false := by simpa using y10
              have HOK := Lib.hid (show ChanOk p.parts.length (1, f, t, s, d) by unfold ChanOk; dsimp only; omega)
              go_wp2_with fail
              go_roundw
              case rel =>
                refine ⟨i + 1, by omega, by go_num, Lib.hid ?_, hbc.alloc hws3 _⟩
                intro j x hj hx
                rcases Nat.lt_succ_iff_lt_or_eq.1 hj with hj | rfl
                · exact HR3.out j x hj hx
                · rw [HXI.out] at hx; cases hx; exact HOK.out
              case measure => simp [intOf]; omega
            by_cases k2 : kd = 2
            · subst k2
              by_cases y1 : f < 0
              case pos => as_aux_lemma =>
                have HN := Lib.hid (show ¬ PlanOk p from fun h => by
                  have h' := h.chans _ (List.mem_of_getElem? HXI.out)
                  unfold ChanOk at h'
                  dsimp only at h'
                  omega)
                go_wp2_with fail
                go_ret
                exact ⟨⟨1, by simp, by constructor; (intro h; omega); (intro h; exact absurd h HN.out)⟩, (hX.trans (hbc.mono hX.size)).alloc (hX.trans (hbc.mono hX.size)).size _⟩
              have y1d : decide (f < 0) = false := by simpa using y1
              by_cases y2 : (p.parts.length : Int) ≤ f
              case pos => as_aux_lemma =>
                have HN := Lib.hid (show ¬ PlanOk p from fun h => by
                  have h' := h.chans _ (List.mem_of_getElem? HXI.out)
                  unfold ChanOk at h'
                  dsimp only at h'
                  omega)
                go_wp2_with fail
                go_ret
                exact ⟨⟨1, by simp, by constructor; (intro h; omega); (intro h; exact absurd h HN.out)⟩, (hX.trans (hbc.mono hX.size)).alloc (hX.trans (hbc.mono hX.size)).size _⟩
              have y2d : decide ((p.parts.length : Int) ≤ f) = false := by simpa using y2
              by_cases y3 : t < 0
              case pos => as_aux_lemma =>
                have HN := Lib.hid (show ¬ PlanOk p from fun h => by
                  have h' := h.chans _ (List.mem_of_getElem? HXI.out)
                  unfold ChanOk at h'
                  dsimp only at h'
                  omega)
                go_wp2_with fail
                go_ret
                exact ⟨⟨1, by simp, by constructor; (intro h; omega); (intro h; exact absurd h HN.out)⟩, (hX.trans (hbc.mono hX.size)).alloc (hX.trans (hbc.mono hX.size)).size _⟩
              have y3d : decide (t < 0) = false := by simpa using y3
              by_cases y4 : (p.parts.length : Int) ≤ t
              case pos => as_aux_lemma =>
                have HN := Lib.hid (show ¬ PlanOk p from fun h => by
                  have h' := h.chans _ (List.mem_of_getElem? HXI.out)
                  unfold ChanOk at h'
                  dsimp only at h'
                  omega)
                go_wp2_with fail
                go_ret
                exact ⟨⟨1, by simp, by constructor; (intro h; omega); (intro h; exact absurd h HN.out)⟩, (hX.trans (hbc.mono hX.size)).alloc (hX.trans (hbc.mono hX.size)).size _⟩
              have y4d : decide ((p.parts.length : Int) ≤ t) = false := by simpa using y4
              by_cases y5 : f = t
              case pos => as_aux_lemma =>
                have y5d : (f == t) = true := by simpa using y5
                have HN := Lib.hid (show ¬ PlanOk p from fun h => by
                  have h' := h.chans _ (List.mem_of_getElem? HXI.out)
                  unfold ChanOk at h'
                  dsimp only at h'
                  omega)
                go_wp2_with fail
                go_ret
                exact ⟨⟨1, by simp, by constructor; (intro h; omega); (intro h; exact absurd h HN.out)⟩, (hX.trans (hbc.mono hX.size)).alloc (hX.trans (hbc.mono hX.size)).size _⟩
              have y5d : (f == t) = false := by simpa using y5
              by_cases y6 : s < 1
              case pos => as_aux_lemma =>
                have HN := Lib.hid (show ¬ PlanOk p from fun h => by
                  have h' := h.chans _ (List.mem_of_getElem? HXI.out)
                  unfold ChanOk at h'
                  dsimp only at h'
                  omega)
                go_wp2_with fail
                go_ret
                exact ⟨⟨1, by simp, by constructor; (intro h; omega); (intro h; exact absurd h HN.out)⟩, (hX.trans (hbc.mono hX.size)).alloc (hX.trans (hbc.mono hX.size)).size _⟩
              have y6d : decide (s < 1) = false := by simpa using y6
              by_cases y7 : 32 < s
              case pos => as_aux_lemma =>
                have HN := Lib.hid (show ¬ PlanOk p from fun h => by
                  have h' := h.chans _ (List.mem_of_getElem? HXI.out)
                  unfold ChanOk at h'
                  dsimp only at h'
                  omega)
                go_wp2_with fail
                go_ret
                exact ⟨⟨1, by simp, by constructor; (intro h; omega); (intro h; exact absurd h HN.out)⟩, (hX.trans (hbc.mono hX.size)).alloc (hX.trans (hbc.mono hX.size)).size _⟩
              have y7d : decide (32 < s) = false := by simpa using y7
              by_cases y8 : d < 1
              case pos => as_aux_lemma =>
                have HN := Lib.hid (show ¬ PlanOk p from fun h => by
                  have h' := h.chans _ (List.mem_of_getElem? HXI.out)
                  unfold ChanOk at h'
                  dsimp only at h'
                  omega)
                go_wp2_with fail
                go_ret
                exact ⟨⟨1, by simp, by constructor; (intro h; omega); (intro h; exact absurd h HN.out)⟩, (hX.trans (hbc.mono hX.size)).alloc (hX.trans (hbc.mono hX.size)).size _⟩
              have y8d : decide (d < 1) = false := by simpa using y8
              by_cases y9 : 8 < d
              case pos => as_aux_lemma =>
                have HN := Lib.hid (show ¬ PlanOk p from fun h => by
                  have h' := h.chans _ (List.mem_of_getElem? HXI.out)
                  unfold ChanOk at h'
                  dsimp only at h'
                  omega)
                go_wp2_with fail
                go_ret
                exact ⟨⟨1, by simp, by constructor; (intro h; omega); (intro h; exact absurd h HN.out)⟩, (hX.trans (hbc.mono hX.size)).alloc (hX.trans (hbc.mono hX.size)).size _⟩
              have y9d : decide (8 < d) = false := by simpa using y9
              have HOK := Lib.hid (show ChanOk p.parts.length (2, f, t, s, d) by unfold ChanOk; dsimp only; omega)
              go_wp2_with fail
              go_roundw
              case rel =>
                refine ⟨i + 1, by omega, by go_num, Lib.hid ?_, hbc.alloc hws3 _⟩
                intro j x hj hx
                rcases Nat.lt_succ_iff_lt_or_eq.1 hj with hj | rfl
                · exact HR3.out j x hj hx
                · rw [HXI.out] at hx; cases hx; exact HOK.out
              case measure => simp [intOf]; omega
            have k1d : (kd != 1) = true := by simpa using k1
            have k2d : (kd != 2) = true := by simpa using k2
            have HN := Lib.hid (show ¬ PlanOk p from fun h => by
              have h' := h.chans _ (List.mem_of_getElem? HXI.out)
              unfold ChanOk at h'
              dsimp only at h'
              omega)
            go_wp2_with fail
            go_ret
            exact ⟨⟨1, by simp, by constructor; (intro h; omega); (intro h; exact absurd h HN.out)⟩, (hX.trans (hbc.mono hX.size)).alloc (hX.trans (hbc.mono hX.size)).size _⟩
          obtain rfl : i = p.chans.length := by omega
          have HOK := Lib.hid (show PlanOk p from ⟨h1, h2, h3, H4.out, h5, h6, H7.out, HF.out.1, HF.out.2, HRW.out, fun c hc => by
            obtain ⟨j, hj, he⟩ := List.mem_iff_getElem.1 hc
            exact HR3.out j c hj (by rw [List.getElem?_eq_getElem hj, he])⟩)
          go_wp2_with fail
          go_ret
          exact ⟨⟨0, by simp, fun _ => HOK.out, fun _ => rfl⟩, hX.trans (hbc.mono hX.size)⟩
end Go.Proofs.Ytinhnecgmokfkaa
