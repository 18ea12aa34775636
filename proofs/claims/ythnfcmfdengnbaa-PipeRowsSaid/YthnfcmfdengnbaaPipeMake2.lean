/- Rows of pipes: the reference's Make; Same on equal rows. Conditions: what came in is shaped. -/
import Derived.Test.YthnfcmfdengnbaaPipeMake
namespace Go.Proofs.Ythnfcmfdengnbaa
open Go Go.RowKit Go.Tm
set_option linter.unusedVariables false
set_option linter.unusedSimpArgs false

set_option maxHeartbeats 4000000 in
theorem refMake_any (v : Value) (xs : List Value) (w : World) (hsl : Sl w true 3 v xs) (hx : ∀ x ∈ xs, PipeV x) (hby : xs.length * 32 ≤ 140737488355328) :
    Calls Try.prog 21 #[v] w fun e w' => ∃ v', e = .returned (.tuple #[v', .int .i64 (makeS xs).2.1, .int .i64 (makeS xs).2.2]) ∧ Sl w' true 3 v' (makeS xs).1 ∧ Below w.heap.size w w' := by
  have hsl0 := Lib.hid hsl
  obtain ⟨hsz, a, cap, rfl, hl, hm, hform⟩ := hsl
  unfold maxLen at hm
  obtain ⟨i0, hi0, hq0, hq1, hq2⟩ := info_parts info_pipe
  have HI := Lib.hid (And.intro hi0 (And.intro hq0 (And.intro hq1 hq2)))
  clear hi0 hq0 hq1 hq2
  go_enter Try.func21, Try.ntmps21
  go_wp2_with fail
  go_loopw [5] (fun t W => ∃ i : Nat, i ≤ xs.length ∧ t = .int .i64 i ∧ Below w.heap.size w W ∧ ∀ j y, j < i → xs[j]? = some y → freeV y = false) (fun t _ => xs.length - (intOf t).toNat)
  case atStart => exact ⟨0, Nat.zero_le _, rfl, Below.refl _ _, by intro j y h; omega⟩
  case round =>
    obtain ⟨i, hi, rfl, hbw, hprev⟩ := hrel
    have HP := Lib.hid hprev
    clear hprev
    have hws := hbw.size
    by_cases hlt : i < xs.length
    · obtain ⟨x, hxi⟩ : ∃ x, xs[i]? = some x := ⟨_, List.getElem?_eq_getElem hlt⟩
      have hmem : x ∈ xs := List.mem_of_getElem? hxi
      obtain ⟨d, r, q, rfl, _⟩ := hx x hmem
      obtain ⟨b, off, rfl, hb, hcell⟩ : ∃ b off, a = some ⟨b, off, none⟩ ∧ b < w.heap.size ∧ Cells wr b (off + i * 3) (Value.agg #[.string d, .int .i64 r, .int .i64 q]).cells.toList := by
        rcases hform with h0 | ⟨b, off, ha, hb, hc⟩
        · subst h0; simp at hlt
        · exact ⟨b, off, ha, hb, (hc i _ hxi).below hbw hb⟩
      have c1 : wr.cell? ⟨b, off + i * 3 + 1, none⟩ = some (.int .i64 r) := hcell 1 _ rfl
      have c2 : wr.cell? ⟨b, off + i * 3 + 2, none⟩ = some (.int .i64 q) := hcell 2 _ rfl
      have HXI := Lib.hid hxi
      clear hcell hxi hmem hform hsz hx
      have hf : freeV (.agg #[.string d, .int .i64 r, .int .i64 q]) = (decide (r ≤ 0) && decide (q ≤ 0)) := rfl
      have HF := Lib.hid hf
      clear hf
      by_cases hfr : r < 1 ∧ q < 1
      · obtain ⟨hr, hq⟩ := hfr
        have hft : freeV (.agg #[.string d, .int .i64 r, .int .i64 q]) = true := by rw [HF.out]; simp; omega
        have hidx := idx_some HXI.out hft HP.out
        have hmk : makeS xs = (xs.set i newV, (i : Int) + 1, 0) := by unfold makeS; rw [hidx, if_neg (by omega)]; rfl
        have HMK := Lib.hid hmk
        clear hmk hidx hft
        have hne : xs ≠ [] := by rintro rfl; simp at hlt
        have hwr : IntKind.i64.wrap ((i : Int) + 1) = i + 1 := IntWalk.i64_in _ (by omega)
        have HSL := Lib.hid (hsl0.out.below hbw)
        go_wp2_with (first | (refine wpList_append_sl (v := .slice (some ⟨wr.heap.size, 0, none⟩) 0 0) (xs := []) (base := wr.heap.size) rfl _ _ 49 rfl ty_pipe i0 (.agg #[.string ⟨#[]⟩, .int .i64 0, .int .i64 0]) 32 Try.underlying49 HI.out.1 HI.out.2.1 HI.out.2.2.1 HI.out.2.2.2 rfl ?hs ?hown (.slice (some ⟨b, off, none⟩) xs.length cap) xs ?hx ?hsl ?c63 ?cby ?cba ?ck) | fail)
        case hs => simp [Act.eval]
        case hx => simp [Act.eval]
        case hown => exact Owned.made0 (Nat.le_refl _)
        case hsl => exact HSL.out.below (by (repeat (first | with_reducible exact Below.refl _ _ | with_reducible refine Below.setCell ?_ ?_ _ | with_reducible refine Below.alloc ?_ ?_ _ | with_reducible refine below_drewN' ?_ _ | with_reducible refine Below.drew ?_ | with_reducible refine Below.trans ?_ (Below.mono (by assumption) ?_) | omega | (dsimp only; omega) | (simp only [drew_heap', drewN_heap', World.size_alloc, World.size_setCell]; omega) | (solve | simp) | (solve | (simp; omega)))))
        case c63 => simp only [List.length_nil, maxLen]; omega
        case cby => simp only [List.length_nil]; omega
        case cba => simp only [World.size_alloc]; omega
        case ck =>
        intro v3 w3 ho3 hg3 g cap3 hv3
        subst hv3
        have hb3 : Below w.heap.size w w3 := (Owned.made0 (E := 26) (ag := true) (k := 3) (Nat.le_refl wr.heap.size)).below hg3 (by (repeat (first | with_reducible exact Below.refl _ _ | with_reducible refine Below.setCell ?_ ?_ _ | with_reducible refine Below.alloc ?_ ?_ _ | with_reducible refine below_drewN' ?_ _ | with_reducible refine Below.drew ?_ | with_reducible refine Below.trans ?_ (Below.mono (by assumption) ?_) | omega | (dsimp only; omega) | (simp only [drew_heap', drewN_heap', World.size_alloc, World.size_setCell]; omega) | (solve | simp) | (solve | (simp; omega))))) (by omega) (by simp only [World.size_alloc]; omega)
        have hz3 := hb3.size
        have HO3 := Lib.hid ho3
        clear ho3 hg3
        go_wp2_with (first | (refine wpList_store_own (base := wr.heap.size) rfl _ _ rfl ty_pipe g xs.length cap3 HO3.out i ?d1 ?d2 newV ?d3 newV_pipe.val ?d4) | fail)
        case d1 => exact hlt
        case d2 => simp [Act.eval]
        case d3 => simp [Act.eval, newV]
        case d4 =>
        intro w4 ho4 hg4
        have hb4 : Below w.heap.size w w4 := HO3.out.below hg4 hb3 (by omega) (by omega)
        have HO4 := Lib.hid ho4
        clear ho4 hg4
        go_wp2_with fail
        exact bodyPost_ret (v := .tuple #[.slice (some ⟨g, 0, none⟩) xs.length cap3, .int .i64 (i + 1), .int .i64 0]) (by simp [results, Try.results21, go_sem]) rfl ⟨_, by rw [HMK.out], by rw [HMK.out]; exact HO4.out.sl, hb4⟩
      · have hff : freeV (.agg #[.string d, .int .i64 r, .int .i64 q]) = false := by
          rw [HF.out]
          by_cases h1 : r ≤ 0 <;> by_cases h2 : q ≤ 0 <;> simp [h1, h2]
          omega
        have HFF := Lib.hid hff
        clear hff
        have hwr : IntKind.i64.wrap ((i : Int) + 1) = i + 1 := IntWalk.i64_in _ (by omega)
        have step : ∀ j y, j < i + 1 → xs[j]? = some y → freeV y = false := by
          intro j y hj hy
          rcases Nat.lt_succ_iff_lt_or_eq.1 hj with hj | rfl
          · exact HP.out j y hj hy
          · rw [HXI.out] at hy; cases hy; exact HFF.out
        have STEP := Lib.hid step
        clear step
        by_cases hr : r < 1
        · have hq : ¬ q < 1 := fun h => hfr ⟨hr, h⟩
          clear hfr
          go_wp2_with fail
          go_roundw
          case rel => exact ⟨i + 1, by omega, by go_num, hbw, STEP.out⟩
          case measure => simp [intOf]; omega
        · clear hfr
          go_wp2_with fail
          go_roundw
          case rel => exact ⟨i + 1, by omega, by go_num, hbw, STEP.out⟩
          case measure => simp [intOf]; omega
    · have hidx : idx freeV xs = -1 := by
        refine idx_none fun x hm => ?_
        obtain ⟨j, hj, hxj⟩ := List.getElem_of_mem hm
        exact HP.out j x (by omega) (by rw [← hxj]; exact List.getElem?_eq_getElem hj)
      have HID := Lib.hid hidx
      have HXS := Lib.hid hx
      clear hidx hx hform hsz
      have hlt' : ¬ (i : Int) < xs.length := by omega
      by_cases h4 : 4 ≤ xs.length
      · have hmk : makeS xs = (xs, 0, 5) := by unfold makeS; rw [HID.out, if_pos (by decide), if_pos h4]
        have HMK := Lib.hid hmk
        clear hmk
        have h4' : (4 : Int) ≤ xs.length := by omega
        go_wp2_with fail
        exact bodyPost_ret (v := .tuple #[.slice a xs.length cap, .int .i64 0, .int .i64 5]) (by simp [results, Try.results21, go_sem]) rfl ⟨_, by rw [HMK.out], by rw [HMK.out]; exact hsl0.out.below hbw, hbw⟩
      · have hmk : makeS xs = (xs ++ [newV], (xs.length : Int) + 1, 0) := by unfold makeS; rw [HID.out, if_pos (by decide), if_neg h4]
        have HMK := Lib.hid hmk
        clear hmk
        have h4' : ¬ (4 : Int) ≤ xs.length := by omega
        have HSL := Lib.hid (hsl0.out.below hbw)
        have hwr : IntKind.i64.wrap ((xs.length : Int) + 1) = xs.length + 1 := IntWalk.i64_in _ (by omega)
        go_wp2_with (first
          | (refine wpList_append_sl (v := .slice (some ⟨wr.heap.size, 0, none⟩) 0 0) (xs := []) (base := wr.heap.size) rfl _ _ 49 rfl ty_pipe i0 (.agg #[.string ⟨#[]⟩, .int .i64 0, .int .i64 0]) 32 Try.underlying49 HI.out.1 HI.out.2.1 HI.out.2.2.1 HI.out.2.2.2 rfl ?_ ?_ (.slice a xs.length cap) (xs) ?_ ?_ ?_ ?_ ?_ ?_; (focus (simp [Act.eval])); (focus (exact Owned.made0 (Nat.le_refl _))); (focus (simp [Act.eval])); (focus (exact (HSL.out.below (by (repeat (first | with_reducible exact Below.refl _ _ | with_reducible refine Below.setCell ?_ ?_ _ | with_reducible refine Below.alloc ?_ ?_ _ | with_reducible refine below_drewN' ?_ _ | with_reducible refine Below.drew ?_ | with_reducible refine Below.trans ?_ (Below.mono (by assumption) ?_) | omega | (dsimp only; omega) | (simp only [drew_heap', drewN_heap', World.size_alloc, World.size_setCell]; omega) | (solve | simp) | (solve | (simp; omega)))))))); (focus (simp [maxLen]; omega)); (focus (simp; omega)); (focus (simp only [World.size_alloc, World.size_setCell]; omega)); (intro v3 w3 ho3 hg3 hf3; (have hb3 : Below w.heap.size w w3 := (Owned.made0 (E := 26) (ag := true) (k := 3) (Nat.le_refl wr.heap.size)).below hg3 (by (repeat (first | with_reducible exact Below.refl _ _ | with_reducible refine Below.setCell ?_ ?_ _ | with_reducible refine Below.alloc ?_ ?_ _ | with_reducible refine below_drewN' ?_ _ | with_reducible refine Below.drew ?_ | with_reducible refine Below.trans ?_ (Below.mono (by assumption) ?_) | omega | (dsimp only; omega) | (simp only [drew_heap', drewN_heap', World.size_alloc, World.size_setCell]; omega) | (solve | simp) | (solve | (simp; omega))))) (by omega) (by simp only [World.size_alloc]; omega)); (have hw3 := hg3.size); (simp only [World.size_alloc] at hw3); (have HO3 := Lib.hid ho3); (clear ho3 hg3 hf3)))
          | (refine wpList_append_sl (v := v3) (xs := xs) (base := wr.heap.size) rfl _ _ 49 rfl ty_pipe i0 (.agg #[.string ⟨#[]⟩, .int .i64 0, .int .i64 0]) 32 Try.underlying49 HI.out.1 HI.out.2.1 HI.out.2.2.1 HI.out.2.2.2 rfl ?_ ?_ (.slice (some ⟨w3.heap.size, 0, none⟩) 1 1) ([newV]) ?_ ?_ ?_ ?_ ?_ ?_; (focus (simp [Act.eval])); (focus (exact (HO3.out.kept (by (repeat (first | with_reducible exact Below.refl _ _ | with_reducible refine Below.setCell ?_ ?_ _ | with_reducible refine Below.alloc ?_ ?_ _ | with_reducible refine below_drewN' ?_ _ | with_reducible refine Below.drew ?_ | with_reducible refine Below.trans ?_ (Below.mono (by assumption) ?_) | omega | (dsimp only; omega) | (simp only [drew_heap', drewN_heap', World.size_alloc, World.size_setCell]; omega) | (solve | simp) | (solve | (simp; omega)))))))); (focus (simp [Act.eval])); (focus (exact (Owned.made1 (base := w3.heap.size) newV_pipe.val (Nat.le_refl _)).sl)); (focus (simp [maxLen]; omega)); (focus (simp; omega)); (focus (simp only [World.size_alloc, World.size_setCell]; omega)); (intro v4 w4 ho4 hg4 hf4; (obtain ⟨g, cap4, hv4⟩ := hf4 (.inl (by simp))); clear hf4; subst hv4; (have hb4 : Below w.heap.size w w4 := (HO3.out.kept (by (repeat (first | with_reducible exact Below.refl _ _ | with_reducible refine Below.setCell ?_ ?_ _ | with_reducible refine Below.alloc ?_ ?_ _ | with_reducible refine below_drewN' ?_ _ | with_reducible refine Below.drew ?_ | with_reducible refine Below.trans ?_ (Below.mono (by assumption) ?_) | omega | (dsimp only; omega) | (simp only [drew_heap', drewN_heap', World.size_alloc, World.size_setCell]; omega) | (solve | simp) | (solve | (simp; omega)))))).below hg4 (by (repeat (first | with_reducible exact Below.refl _ _ | with_reducible refine Below.setCell ?_ ?_ _ | with_reducible refine Below.alloc ?_ ?_ _ | with_reducible refine below_drewN' ?_ _ | with_reducible refine Below.drew ?_ | with_reducible refine Below.trans ?_ (Below.mono (by assumption) ?_) | omega | (dsimp only; omega) | (simp only [drew_heap', drewN_heap', World.size_alloc, World.size_setCell]; omega) | (solve | simp) | (solve | (simp; omega))))) (by omega) (by simp only [World.size_alloc]; omega)); (have HO4 := Lib.hid ho4); (clear ho4 hg4)))
          | fail)
        exact bodyPost_ret (v := .tuple #[.slice (some ⟨g, 0, none⟩) (xs.length + 1) cap4, .int .i64 (xs.length + 1), .int .i64 0]) (by simp [results, Try.results21, go_sem]) rfl ⟨_, by rw [HMK.out], by rw [HMK.out]; exact HO4.out.sl, hb4⟩
end Go.Proofs.Ythnfcmfdengnbaa
