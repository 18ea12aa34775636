/- Rows of pipes: Same on equal rows, pipe.Count and the reference's Count. Conditions: what came in is shaped. -/
import Derived.Test.YthnfcmfdengnbaaPipeMake2
namespace Go.Proofs.Ythnfcmfdengnbaa
open Go Go.RowKit Go.Tm
set_option linter.unusedVariables false
set_option linter.unusedSimpArgs false

set_option maxHeartbeats 4000000 in
/-- Equal rows are the same. -/
theorem same_true (v u : Value) (xs : List Value) (w : World) (hv : Sl w true 3 v xs) (hu : Sl w true 3 u xs) (hx : ∀ x ∈ xs, PipeV x) :
    Calls Try.prog 19 #[v, u] w fun e w' => e = .returned (.bool true) ∧ Below w.heap.size w w' := by
  obtain ⟨hsz, a, cap, rfl, hl, hm, hform⟩ := hv
  obtain ⟨_, a2, cap2, rfl, hl2, hm2, hform2⟩ := hu
  unfold maxLen at hm
  go_enter Try.func19, Try.ntmps19
  go_wp2_with fail
  go_loopw [5] (fun t W => ∃ i : Nat, i ≤ xs.length ∧ t = .int .i64 i ∧ Below w.heap.size w W) (fun t _ => xs.length - (intOf t).toNat)
  case atStart => exact ⟨0, Nat.zero_le _, rfl, Below.refl _ _⟩
  case round =>
    obtain ⟨i, hi, rfl, hbw⟩ := hrel
    have hws := hbw.size
    by_cases hlt : i < xs.length
    · obtain ⟨x, hxi⟩ : ∃ x, xs[i]? = some x := ⟨_, List.getElem?_eq_getElem hlt⟩
      have hmem : x ∈ xs := List.mem_of_getElem? hxi
      obtain ⟨d, r, q, rfl, hd, hr, hq⟩ := hx x hmem
      obtain ⟨b, off, rfl, hb, hcell⟩ : ∃ b off, a = some ⟨b, off, none⟩ ∧ b < w.heap.size ∧ Cells wr b (off + i * 3) (Value.agg #[.string d, .int .i64 r, .int .i64 q]).cells.toList := by
        rcases hform with h0 | ⟨b, off, ha, hb, hc⟩
        · subst h0; simp at hlt
        · exact ⟨b, off, ha, hb, (hc i _ hxi).below hbw hb⟩
      obtain ⟨b2, off2, rfl, hb2, hcell2⟩ : ∃ b off, a2 = some ⟨b, off, none⟩ ∧ b < w.heap.size ∧ Cells wr b (off + i * 3) (Value.agg #[.string d, .int .i64 r, .int .i64 q]).cells.toList := by
        rcases hform2 with h0 | ⟨b, off, ha, hb, hc⟩
        · subst h0; simp at hlt
        · exact ⟨b, off, ha, hb, (hc i _ hxi).below hbw hb⟩
      have c0 : wr.cell? ⟨b, off + i * 3, none⟩ = some (.string d) := hcell 0 _ rfl
      have c1 : wr.cell? ⟨b, off + i * 3 + 1, none⟩ = some (.int .i64 r) := hcell 1 _ rfl
      have c2 : wr.cell? ⟨b, off + i * 3 + 2, none⟩ = some (.int .i64 q) := hcell 2 _ rfl
      have e0 : wr.cell? ⟨b2, off2 + i * 3, none⟩ = some (.string d) := hcell2 0 _ rfl
      have e1 : wr.cell? ⟨b2, off2 + i * 3 + 1, none⟩ = some (.int .i64 r) := hcell2 1 _ rfl
      have e2 : wr.cell? ⟨b2, off2 + i * 3 + 2, none⟩ = some (.int .i64 q) := hcell2 2 _ rfl
      have heq := eql_pipe d d r q r q (by unfold maxLen; omega) hr hq (by unfold maxLen; omega) hr hq true (by simp)
      have hwr : IntKind.i64.wrap ((i : Int) + 1) = i + 1 := IntWalk.i64_in _ (by omega)
      clear hcell hcell2 hxi hmem hform hform2 hsz hx hd hr hq
      go_wp2_with fail
      go_region
      go_wp2_with fail
      go_roundw
      case rel => exact ⟨i + 1, by omega, by go_num, by (repeat (first | with_reducible exact Below.refl _ _ | with_reducible refine Below.setCell ?_ ?_ _ | with_reducible refine Below.alloc ?_ ?_ _ | with_reducible refine below_drewN' ?_ _ | with_reducible refine Below.drew ?_ | with_reducible refine Below.trans ?_ (Below.mono (by assumption) ?_) | omega | (dsimp only; omega) | (simp only [drew_heap', drewN_heap', World.size_alloc, World.size_setCell]; omega) | (solve | simp) | (solve | (simp; omega))))⟩
      case measure => simp [intOf]; omega
    · clear hform hform2 hsz hx
      go_wp2_with fail
      go_ret
      exact ⟨rfl, hbw⟩

/-- An end of it more, or one less. -/
def countV (wr : Bool) (n : Int) : Value → Value
  | .agg a => (match a.toList with | [d, .int _ r, .int _ q] => (if wr = true then .agg #[d, .int .i64 r, .int .i64 (wrap64 (q + n))] else .agg #[d, .int .i64 (wrap64 (r + n)), .int .i64 q]) | _ => .agg a)
  | v => v
theorem countV_t (d : ByteArray) (r q n : Int) : countV true n (.agg #[.string d, .int .i64 r, .int .i64 q]) = .agg #[.string d, .int .i64 r, .int .i64 (wrap64 (q + n))] := rfl
theorem countV_f (d : ByteArray) (r q n : Int) : countV false n (.agg #[.string d, .int .i64 r, .int .i64 q]) = .agg #[.string d, .int .i64 (wrap64 (r + n)), .int .i64 q] := rfl
def countS (xs : List Value) (p : Int) (wr : Bool) (n : Int) : List Value := if p < 1 then xs else xs.modify (p - 1).toNat (countV wr n)
theorem countS_out {xs : List Value} {p : Int} {wr : Bool} {n : Int} (h : p < 1 ∨ (xs.length : Int) < p) : countS xs p wr n = xs := by
  unfold countS
  split
  · rfl
  · rw [List.modify_eq_self]; omega
theorem countS_in {xs : List Value} {i : Nat} {x : Value} {wr : Bool} {n : Int} (h : xs[i]? = some x) : countS xs (i + 1) wr n = xs.set i (countV wr n x) := by
  unfold countS
  rw [if_neg (by omega), show ((i : Int) + 1 - 1).toNat = i by omega]
  obtain ⟨hi, rfl⟩ := List.getElem?_eq_some_iff.1 h
  apply List.ext_getElem?
  intro j
  rw [List.getElem?_modify, List.getElem?_set]
  by_cases hj : i = j
  · subst hj; simp [hi]
  · simp [hj]

theorem countS_len (xs : List Value) (p : Int) (b : Bool) (n : Int) : (countS xs p b n).length = xs.length := by
  unfold countS; split <;> simp
theorem countS_get (xs : List Value) (p : Int) (b : Bool) (n : Int) {i : Nat} {x : Value} (h : xs[i]? = some x) : (countS xs p b n)[i]? = some (if (i : Int) + 1 = p then countV b n x else x) := by
  unfold countS
  split
  · rw [if_neg (by omega)]; exact h
  · rw [List.getElem?_modify, h]
    by_cases hp : (i : Int) + 1 = p
    · simp only [Option.map_eq_map, Option.map_some]; rw [if_pos (by omega), if_pos hp]
    · simp only [Option.map_eq_map, Option.map_some]; rw [if_neg (by omega), if_neg hp]

set_option maxHeartbeats 4000000 in
theorem count_any (v : Value) (xs : List Value) (p : Int) (wr : Bool) (n : Int) (w : World) (hsl : Sl w true 3 v xs) (hx : ∀ x ∈ xs, PipeV x) (hby : xs.length * 32 ≤ 140737488355328) (hp : (Lit.int .i64 p).wf = true) :
    Calls Try.prog 18 #[v, .agg #[.int .i64 p, .bool wr], .int .i64 n] w fun e w' => ∃ v', e = .returned v' ∧ Sl w' true 3 v' (countS xs p wr n) ∧ Below w.heap.size w w' := by
  have hCl := fun W h => clone_pipe v xs W h hby
  have hsl0 := Lib.hid hsl
  obtain ⟨hsz, a, cap, rfl, hl, hm, hform⟩ := hsl
  unfold maxLen at hm
  clear hsz hform
  by_cases h1 : p < 1
  · have HS := Lib.hid (countS_out (xs := xs) (wr := wr) (n := n) (.inl h1))
    go_enter Try.func18, Try.ntmps18
    go_wp2_with fail
    go_ret
    exact ⟨_, rfl, by rw [HS.out]; exact hsl0.out.below (by (repeat (first | with_reducible exact Below.refl _ _ | with_reducible refine Below.setCell ?_ ?_ _ | with_reducible refine Below.alloc ?_ ?_ _ | with_reducible refine below_drewN' ?_ _ | with_reducible refine Below.drew ?_ | with_reducible refine Below.trans ?_ (Below.mono (by assumption) ?_) | omega | (dsimp only; omega) | (simp only [drew_heap', drewN_heap', World.size_alloc, World.size_setCell]; omega) | (solve | simp) | (solve | (simp; omega))))), by (repeat (first | with_reducible exact Below.refl _ _ | with_reducible refine Below.setCell ?_ ?_ _ | with_reducible refine Below.alloc ?_ ?_ _ | with_reducible refine below_drewN' ?_ _ | with_reducible refine Below.drew ?_ | with_reducible refine Below.trans ?_ (Below.mono (by assumption) ?_) | omega | (dsimp only; omega) | (simp only [drew_heap', drewN_heap', World.size_alloc, World.size_setCell]; omega) | (solve | simp) | (solve | (simp; omega))))⟩
  by_cases h2 : (xs.length : Int) < p
  · have HS := Lib.hid (countS_out (xs := xs) (wr := wr) (n := n) (.inr h2))
    go_enter Try.func18, Try.ntmps18
    go_wp2_with fail
    go_ret
    exact ⟨_, rfl, by rw [HS.out]; exact hsl0.out.below (by (repeat (first | with_reducible exact Below.refl _ _ | with_reducible refine Below.setCell ?_ ?_ _ | with_reducible refine Below.alloc ?_ ?_ _ | with_reducible refine below_drewN' ?_ _ | with_reducible refine Below.drew ?_ | with_reducible refine Below.trans ?_ (Below.mono (by assumption) ?_) | omega | (dsimp only; omega) | (simp only [drew_heap', drewN_heap', World.size_alloc, World.size_setCell]; omega) | (solve | simp) | (solve | (simp; omega))))), by (repeat (first | with_reducible exact Below.refl _ _ | with_reducible refine Below.setCell ?_ ?_ _ | with_reducible refine Below.alloc ?_ ?_ _ | with_reducible refine below_drewN' ?_ _ | with_reducible refine Below.drew ?_ | with_reducible refine Below.trans ?_ (Below.mono (by assumption) ?_) | omega | (dsimp only; omega) | (simp only [drew_heap', drewN_heap', World.size_alloc, World.size_setCell]; omega) | (solve | simp) | (solve | (simp; omega))))⟩
  obtain ⟨i, rfl, hi⟩ : ∃ i : Nat, p = (i : Int) + 1 ∧ i < xs.length := ⟨(p - 1).toNat, by omega, by omega⟩
  obtain ⟨x, hxi⟩ : ∃ x, xs[i]? = some x := ⟨_, List.getElem?_eq_getElem hi⟩
  obtain ⟨d, r, q, rfl, hd, hr, hq⟩ := hx x (List.mem_of_getElem? hxi)
  have HS := Lib.hid (countS_in (wr := wr) (n := n) hxi)
  have HXI := Lib.hid hxi
  have hwr : IntKind.i64.wrap ((i : Int) + 1 - 1) = i := by rw [IntWalk.i64_in _ (by omega)]; omega
  clear hxi hx hd hr hq hp
  cases wr
  all_goals
    go_enter Try.func18, Try.ntmps18
    go_wp2_with fail
    with_reducible refine (hCl _ (hsl0.out.below (by (repeat (first | with_reducible exact Below.refl _ _ | with_reducible refine Below.setCell ?_ ?_ _ | with_reducible refine Below.alloc ?_ ?_ _ | with_reducible refine below_drewN' ?_ _ | with_reducible refine Below.drew ?_ | with_reducible refine Below.trans ?_ (Below.mono (by assumption) ?_) | omega | (dsimp only; omega) | (simp only [drew_heap', drewN_heap', World.size_alloc, World.size_setCell]; omega) | (solve | simp) | (solve | (simp; omega))))))).mono ?_
    rintro e w2 ⟨v2, rfl, ho2, hb2⟩
    have hz2 := hb2.size
    (have b1 : Box w2 w.heap.size #[.int .i64 (i + 1), .bool _] 44 := (by (try have k1 := (Lib.hid True.intro).out); ((apply Box.cast); (repeat (first | with_reducible assumption | ((with_reducible apply Box.new1); (first | with_reducible rfl | rfl | (solve | simp))) | with_reducible apply Box.drewN | with_reducible apply Box.drew | with_reducible apply Box.set | with_reducible apply Box.other | with_reducible apply Box.alloc | (with_reducible apply Box.below; rotate_left; with_reducible assumption; rotate_right) | with_reducible rfl | omega | (dsimp only; omega) | (simp only [drew_heap', drewN_heap', World.size_alloc, World.size_setCell]; omega) | rfl | (solve | simp) | (solve | (simp; omega))))))); (obtain ⟨hc1, hf1, hl1, hn1, hm1⟩ := b1.rules); (have K1 := Lib.hid b1); (clear b1)
    have HO := Lib.hid ho2
    obtain ⟨g, cap2, rfl, hl3, hm3, hbg, hgw, hfz, hc3⟩ := ho2.form (by omega)
    have c1 : w2.cell? ⟨g, i * 3 + 1, none⟩ = some (.int .i64 r) := hc3 i _ HXI.out 1 _ rfl
    have c2 : w2.cell? ⟨g, i * 3 + 2, none⟩ = some (.int .i64 q) := hc3 i _ HXI.out 2 _ rfl
    clear ho2 hc3
    simp only [World.size_alloc] at hbg
    have hne : ¬ w.heap.size = g := by omega
    go_wp2_with fail
    go_ret
    refine ⟨_, rfl, ?_, by (repeat (first | with_reducible exact Below.refl _ _ | with_reducible refine Below.setCell ?_ ?_ _ | with_reducible refine Below.alloc ?_ ?_ _ | with_reducible refine below_drewN' ?_ _ | with_reducible refine Below.drew ?_ | with_reducible refine Below.trans ?_ (Below.mono (by assumption) ?_) | omega | (dsimp only; omega) | (simp only [drew_heap', drewN_heap', World.size_alloc, World.size_setCell]; omega) | (solve | simp) | (solve | (simp; omega))))⟩
    rw [HS.out]
    first | exact (HO.out.cellSet (j := 1) (u := .int .i64 (wrap64 (r + n))) HXI.out (by decide) rfl).1.sl | exact (HO.out.cellSet (j := 2) (u := .int .i64 (wrap64 (q + n))) HXI.out (by decide) rfl).1.sl

theorem pipe_val (d : ByteArray) (r q : Int) : Val true 3 (.agg #[.string d, .int .i64 r, .int .i64 q]) :=
  ⟨_, rfl, rfl, by intro c hc; simp at hc; rcases hc with rfl | rfl | rfl <;> rfl⟩
set_option maxHeartbeats 4000000 in
theorem refCount_any (v : Value) (xs : List Value) (p : Int) (wb : Bool) (n : Int) (w : World) (hsl : Sl w true 3 v xs) (hx : ∀ x ∈ xs, PipeV x) (hby : xs.length * 32 ≤ 140737488355328) :
    Calls Try.prog 23 #[v, .agg #[.int .i64 p, .bool wb], .int .i64 n] w fun e w' => ∃ v', e = .returned v' ∧ Sl w' true 3 v' (countS xs p wb n) ∧ Below w.heap.size w w' := by
  obtain ⟨hsz, a, cap, rfl, hl, hm, hform⟩ := hsl
  unfold maxLen at hm
  obtain ⟨i0, hi0, hq0, hq1, hq2⟩ := info_parts info_pipe
  have HI := Lib.hid (And.intro hi0 (And.intro hq0 (And.intro hq1 hq2)))
  clear hi0 hq0 hq1 hq2
  have hlen : (countS xs p wb n).length = xs.length := by unfold countS; split <;> simp
  have HLEN := Lib.hid hlen
  clear hlen
  go_enter Try.func23, Try.ntmps23
  go_wp2_with fail
  go_loopw [7, 8] (fun u t W => ∃ (i : Nat) (tv : Value), i ≤ xs.length ∧ tv = u ∧ t = .int .i64 i ∧ Below w.heap.size w W ∧ Box W w.heap.size #[.int .i64 p, .bool wb] 44 ∧ Owned W (w.heap.size + 1) 26 true 3 u ((countS xs p wb n).take i)) (fun _ t _ => xs.length - (intOf t).toNat)
  case atStart => exact ⟨0, _, Nat.zero_le _, rfl, rfl, by (repeat (first | with_reducible exact Below.refl _ _ | with_reducible refine Below.setCell ?_ ?_ _ | with_reducible refine Below.alloc ?_ ?_ _ | with_reducible refine below_drewN' ?_ _ | with_reducible refine Below.drew ?_ | with_reducible refine Below.trans ?_ (Below.mono (by assumption) ?_) | omega | (dsimp only; omega) | (simp only [drew_heap', drewN_heap', World.size_alloc, World.size_setCell]; omega) | (solve | simp) | (solve | (simp; omega)))), Box.new _ _ _, by rw [List.take_zero]; exact Owned.nil⟩
  case round =>
    obtain ⟨i, tv, hi, rfl, rfl, hbw, hbox, hown⟩ := hrel
    have hws := hbw.size
    have HO := Lib.hid hown
    have K1 := Lib.hid hbox
    obtain ⟨hc1, hf1, hl1, hn1, hm1⟩ := hbox.rules
    clear hown hbox
    have hbase : w.heap.size + 1 ≤ wr.heap.size := by omega
    by_cases hlt : i < xs.length
    · obtain ⟨x, hxi⟩ : ∃ x, xs[i]? = some x := ⟨_, List.getElem?_eq_getElem hlt⟩
      have hmem : x ∈ xs := List.mem_of_getElem? hxi
      obtain ⟨d, r, q, rfl, hd, hr, hq⟩ := hx x hmem
      obtain ⟨b, off, rfl, hb, hcell⟩ : ∃ b off, a = some ⟨b, off, none⟩ ∧ b < w.heap.size ∧ Cells wr b (off + i * 3) (Value.agg #[.string d, .int .i64 r, .int .i64 q]).cells.toList := by
        rcases hform with h0 | ⟨b, off, ha, hb, hc⟩
        · subst h0; simp at hlt
        · exact ⟨b, off, ha, hb, (hc i _ hxi).below hbw hb⟩
      have c0 : wr.cell? ⟨b, off + i * 3, none⟩ = some (.string d) := hcell 0 _ rfl
      have c1 : wr.cell? ⟨b, off + i * 3 + 1, none⟩ = some (.int .i64 r) := hcell 1 _ rfl
      have c2 : wr.cell? ⟨b, off + i * 3 + 2, none⟩ = some (.int .i64 q) := hcell 2 _ rfl
      have hwr : IntKind.i64.wrap ((i : Int) + 1) = i + 1 := IntWalk.i64_in _ (by omega)
      have hcs := countS_get xs p wb n hxi
      clear hcell hxi hmem hform hsz hx hd hr hq
      have hnb : ¬ b = wr.heap.size := by omega
      by_cases hp : (i : Int) + 1 = p
      · rw [if_pos hp] at hcs
        subst hp
        cases wb
        · rw [countV_f] at hcs
          have HCS := Lib.hid hcs
          clear hcs
          go_wp2_with (first | (refine wpList_append_sl (v := tv) (xs := (countS xs (i + 1) false n).take i) (base := w.heap.size + 1) rfl _ _ 49 rfl ty_pipe i0 (.agg #[.string ⟨#[]⟩, .int .i64 0, .int .i64 0]) 32 Try.underlying49 HI.out.1 HI.out.2.1 HI.out.2.2.1 HI.out.2.2.2 rfl ?_ ?_ (.slice (some ⟨wr.heap.size + 1, 0, none⟩) 1 1) ([.agg #[.string d, .int .i64 (wrap64 (r + n)), .int .i64 q]]) ?_ ?_ ?_ ?_ ?_ ?_; (focus (simp [Act.eval])); (focus (exact (HO.out.kept (by (repeat (first | with_reducible exact Below.refl _ _ | with_reducible refine Below.setCell ?_ ?_ _ | with_reducible refine Below.alloc ?_ ?_ _ | with_reducible refine below_drewN' ?_ _ | with_reducible refine Below.drew ?_ | with_reducible refine Below.trans ?_ (Below.mono (by assumption) ?_) | omega | (dsimp only; omega) | (simp only [drew_heap', drewN_heap', World.size_alloc, World.size_setCell]; omega) | (solve | simp) | (solve | (simp; omega)))))))); (focus (simp [Act.eval])); (focus (exact (Sl.made1 (pipe_val _ _ _) (by simp only [World.size_alloc, World.size_setCell])))); (focus (simp [maxLen]; omega)); (focus (simp; omega)); (focus (simp only [World.size_alloc, World.size_setCell]; omega)); (intro v4 w4 ho4 hg4 hf4; (have hb4 : Below w.heap.size w w4 := (HO.out.kept (by (repeat (first | with_reducible exact Below.refl _ _ | with_reducible refine Below.setCell ?_ ?_ _ | with_reducible refine Below.alloc ?_ ?_ _ | with_reducible refine below_drewN' ?_ _ | with_reducible refine Below.drew ?_ | with_reducible refine Below.trans ?_ (Below.mono (by assumption) ?_) | omega | (dsimp only; omega) | (simp only [drew_heap', drewN_heap', World.size_alloc, World.size_setCell]; omega) | (solve | simp) | (solve | (simp; omega)))))).below hg4 (by (repeat (first | with_reducible exact Below.refl _ _ | with_reducible refine Below.setCell ?_ ?_ _ | with_reducible refine Below.alloc ?_ ?_ _ | with_reducible refine below_drewN' ?_ _ | with_reducible refine Below.drew ?_ | with_reducible refine Below.trans ?_ (Below.mono (by assumption) ?_) | omega | (dsimp only; omega) | (simp only [drew_heap', drewN_heap', World.size_alloc, World.size_setCell]; omega) | (solve | simp) | (solve | (simp; omega))))) (by omega) (by simp only [World.size_alloc, World.size_setCell]; omega)); (have bx4 : Box w4 w.heap.size #[.int .i64 (i + 1), .bool false] 44 := (by (have k1 := K1.out); (have hge := HO.out.own_ge); (refine Box.grown ?_ hg4 ?_); (focus ((apply Box.cast); (repeat (first | with_reducible assumption | ((with_reducible apply Box.new1); (first | with_reducible rfl | rfl | (solve | simp))) | with_reducible apply Box.drewN | with_reducible apply Box.drew | with_reducible apply Box.set | with_reducible apply Box.other | with_reducible apply Box.alloc | (with_reducible apply Box.below; rotate_left; with_reducible assumption; rotate_right) | with_reducible rfl | omega | (dsimp only; omega) | (simp only [drew_heap', drewN_heap', World.size_alloc, World.size_setCell]; omega) | rfl | (solve | simp) | (solve | (simp; omega)))))); (focus (intro e; have := hge _ e.symm; omega)))); (have HO4 := Lib.hid ho4); (have HB4 := Lib.hid bx4); (clear ho4 hg4 hf4 bx4))) | fail)
          go_roundw
          case rel => exact ⟨i + 1, _, by omega, rfl, by go_num, hb4, HB4.out, by rw [take_step HCS.out]; exact HO4.out⟩
          case measure => simp [intOf]; omega
        · rw [countV_t] at hcs
          have HCS := Lib.hid hcs
          clear hcs
          go_wp2_with (first | (refine wpList_append_sl (v := tv) (xs := (countS xs (i + 1) true n).take i) (base := w.heap.size + 1) rfl _ _ 49 rfl ty_pipe i0 (.agg #[.string ⟨#[]⟩, .int .i64 0, .int .i64 0]) 32 Try.underlying49 HI.out.1 HI.out.2.1 HI.out.2.2.1 HI.out.2.2.2 rfl ?_ ?_ (.slice (some ⟨wr.heap.size + 1, 0, none⟩) 1 1) ([.agg #[.string d, .int .i64 r, .int .i64 (wrap64 (q + n))]]) ?_ ?_ ?_ ?_ ?_ ?_; (focus (simp [Act.eval])); (focus (exact (HO.out.kept (by (repeat (first | with_reducible exact Below.refl _ _ | with_reducible refine Below.setCell ?_ ?_ _ | with_reducible refine Below.alloc ?_ ?_ _ | with_reducible refine below_drewN' ?_ _ | with_reducible refine Below.drew ?_ | with_reducible refine Below.trans ?_ (Below.mono (by assumption) ?_) | omega | (dsimp only; omega) | (simp only [drew_heap', drewN_heap', World.size_alloc, World.size_setCell]; omega) | (solve | simp) | (solve | (simp; omega)))))))); (focus (simp [Act.eval])); (focus (exact (Sl.made1 (pipe_val _ _ _) (by simp only [World.size_alloc, World.size_setCell])))); (focus (simp [maxLen]; omega)); (focus (simp; omega)); (focus (simp only [World.size_alloc, World.size_setCell]; omega)); (intro v4 w4 ho4 hg4 hf4; (have hb4 : Below w.heap.size w w4 := (HO.out.kept (by (repeat (first | with_reducible exact Below.refl _ _ | with_reducible refine Below.setCell ?_ ?_ _ | with_reducible refine Below.alloc ?_ ?_ _ | with_reducible refine below_drewN' ?_ _ | with_reducible refine Below.drew ?_ | with_reducible refine Below.trans ?_ (Below.mono (by assumption) ?_) | omega | (dsimp only; omega) | (simp only [drew_heap', drewN_heap', World.size_alloc, World.size_setCell]; omega) | (solve | simp) | (solve | (simp; omega)))))).below hg4 (by (repeat (first | with_reducible exact Below.refl _ _ | with_reducible refine Below.setCell ?_ ?_ _ | with_reducible refine Below.alloc ?_ ?_ _ | with_reducible refine below_drewN' ?_ _ | with_reducible refine Below.drew ?_ | with_reducible refine Below.trans ?_ (Below.mono (by assumption) ?_) | omega | (dsimp only; omega) | (simp only [drew_heap', drewN_heap', World.size_alloc, World.size_setCell]; omega) | (solve | simp) | (solve | (simp; omega))))) (by omega) (by simp only [World.size_alloc, World.size_setCell]; omega)); (have bx4 : Box w4 w.heap.size #[.int .i64 (i + 1), .bool true] 44 := (by (have k1 := K1.out); (have hge := HO.out.own_ge); (refine Box.grown ?_ hg4 ?_); (focus ((apply Box.cast); (repeat (first | with_reducible assumption | ((with_reducible apply Box.new1); (first | with_reducible rfl | rfl | (solve | simp))) | with_reducible apply Box.drewN | with_reducible apply Box.drew | with_reducible apply Box.set | with_reducible apply Box.other | with_reducible apply Box.alloc | (with_reducible apply Box.below; rotate_left; with_reducible assumption; rotate_right) | with_reducible rfl | omega | (dsimp only; omega) | (simp only [drew_heap', drewN_heap', World.size_alloc, World.size_setCell]; omega) | rfl | (solve | simp) | (solve | (simp; omega)))))); (focus (intro e; have := hge _ e.symm; omega)))); (have HO4 := Lib.hid ho4); (have HB4 := Lib.hid bx4); (clear ho4 hg4 hf4 bx4))) | fail)
          go_roundw
          case rel => exact ⟨i + 1, _, by omega, rfl, by go_num, hb4, HB4.out, by rw [take_step HCS.out]; exact HO4.out⟩
          case measure => simp [intOf]; omega
      · rw [if_neg hp] at hcs
        have HCS := Lib.hid hcs
        clear hcs
        go_wp2_with (first | (refine wpList_append_sl (v := tv) (xs := (countS xs p wb n).take i) (base := w.heap.size + 1) rfl _ _ 49 rfl ty_pipe i0 (.agg #[.string ⟨#[]⟩, .int .i64 0, .int .i64 0]) 32 Try.underlying49 HI.out.1 HI.out.2.1 HI.out.2.2.1 HI.out.2.2.2 rfl ?_ ?_ (.slice (some ⟨wr.heap.size + 1, 0, none⟩) 1 1) ([.agg #[.string d, .int .i64 r, .int .i64 q]]) ?_ ?_ ?_ ?_ ?_ ?_; (focus (simp [Act.eval])); (focus (exact (HO.out.kept (by (repeat (first | with_reducible exact Below.refl _ _ | with_reducible refine Below.setCell ?_ ?_ _ | with_reducible refine Below.alloc ?_ ?_ _ | with_reducible refine below_drewN' ?_ _ | with_reducible refine Below.drew ?_ | with_reducible refine Below.trans ?_ (Below.mono (by assumption) ?_) | omega | (dsimp only; omega) | (simp only [drew_heap', drewN_heap', World.size_alloc, World.size_setCell]; omega) | (solve | simp) | (solve | (simp; omega)))))))); (focus (simp [Act.eval])); (focus (exact (Sl.made1 (pipe_val _ _ _) (by simp only [World.size_alloc, World.size_setCell])))); (focus (simp [maxLen]; omega)); (focus (simp; omega)); (focus (simp only [World.size_alloc, World.size_setCell]; omega)); (intro v4 w4 ho4 hg4 hf4; (have hb4 : Below w.heap.size w w4 := (HO.out.kept (by (repeat (first | with_reducible exact Below.refl _ _ | with_reducible refine Below.setCell ?_ ?_ _ | with_reducible refine Below.alloc ?_ ?_ _ | with_reducible refine below_drewN' ?_ _ | with_reducible refine Below.drew ?_ | with_reducible refine Below.trans ?_ (Below.mono (by assumption) ?_) | omega | (dsimp only; omega) | (simp only [drew_heap', drewN_heap', World.size_alloc, World.size_setCell]; omega) | (solve | simp) | (solve | (simp; omega)))))).below hg4 (by (repeat (first | with_reducible exact Below.refl _ _ | with_reducible refine Below.setCell ?_ ?_ _ | with_reducible refine Below.alloc ?_ ?_ _ | with_reducible refine below_drewN' ?_ _ | with_reducible refine Below.drew ?_ | with_reducible refine Below.trans ?_ (Below.mono (by assumption) ?_) | omega | (dsimp only; omega) | (simp only [drew_heap', drewN_heap', World.size_alloc, World.size_setCell]; omega) | (solve | simp) | (solve | (simp; omega))))) (by omega) (by simp only [World.size_alloc, World.size_setCell]; omega)); (have bx4 : Box w4 w.heap.size #[.int .i64 p, .bool wb] 44 := (by (have k1 := K1.out); (have hge := HO.out.own_ge); (refine Box.grown ?_ hg4 ?_); (focus ((apply Box.cast); (repeat (first | with_reducible assumption | ((with_reducible apply Box.new1); (first | with_reducible rfl | rfl | (solve | simp))) | with_reducible apply Box.drewN | with_reducible apply Box.drew | with_reducible apply Box.set | with_reducible apply Box.other | with_reducible apply Box.alloc | (with_reducible apply Box.below; rotate_left; with_reducible assumption; rotate_right) | with_reducible rfl | omega | (dsimp only; omega) | (simp only [drew_heap', drewN_heap', World.size_alloc, World.size_setCell]; omega) | rfl | (solve | simp) | (solve | (simp; omega)))))); (focus (intro e; have := hge _ e.symm; omega)))); (have HO4 := Lib.hid ho4); (have HB4 := Lib.hid bx4); (clear ho4 hg4 hf4 bx4))) | fail)
        go_roundw
        case rel => exact ⟨i + 1, _, by omega, rfl, by go_num, hb4, HB4.out, by rw [take_step HCS.out]; exact HO4.out⟩
        case measure => simp [intOf]; omega
    · clear hform hsz hx
      go_wp2_with fail
      go_ret
      refine ⟨_, rfl, ?_, hbw⟩
      have := HO.out.sl
      rwa [List.take_of_length_le (by rw [HLEN.out]; omega)] at this
end Go.Proofs.Ythnfcmfdengnbaa
