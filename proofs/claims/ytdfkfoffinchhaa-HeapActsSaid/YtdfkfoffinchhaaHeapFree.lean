/- heap.Free: what it answers. Conditions: lengths within the reach. -/
import Derived.Test.YtdfkfoffinchhaaHeapDrop
import Derived.Test.YtdfkfoffinchhaaHeapDelete
namespace Go.Proofs.Ytdfkfoffinchhaa
open Go Go.RowKit Go.Tm
set_option linter.unusedVariables false
set_option linter.unusedSimpArgs false

def atP (a : Int) : Value → Bool := fun v => match v with | .agg cs => (match cs.toList with | [.int _ n, _, _] => decide (n = a) | _ => false) | _ => false
theorem atP_sp (a : Int) (x : Sp) : atP a (spV x) = decide (x.1 = a) := rfl
theorem free1_body : Body Try.prog 33 := body_of Try.func33 (by kernel_rfl) (by kernel_rfl)
theorem free1_any (x : Sp) (a : Int) (B : Nat) (w : World) (hB : B < w.heap.size) (hc0 : w.cell? ⟨B, 0, none⟩ = some (.int .i64 a)) :
    Calls Try.prog 33 #[spV x, .pointer (some ⟨B, 0, none⟩)] w fun e w' => e = .returned (.bool (atP a (spV x))) ∧ Below w.heap.size w w' := by
  rw [atP_sp]
  have hne : ¬ B = w.heap.size := by omega
  obtain ⟨p, n, u⟩ := x
  dsimp only
  by_cases h : p = a
  · have hb : (p == a) = true := by simpa using h
    go_enter Try.func33, Try.ntmps33
    go_wp2_with fail
    go_ret
    exact ⟨by simp [h], by (repeat (first | with_reducible assumption | with_reducible exact Below.refl _ _ | with_reducible refine Below.setCell ?_ ?_ _ | with_reducible refine Below.alloc ?_ ?_ _ | with_reducible refine below_drewN' ?_ _ | with_reducible refine Below.drew ?_ | with_reducible refine Below.trans ?_ (Below.mono (by assumption) ?_) | omega | (dsimp only; omega) | (simp only [drew_heap', drewN_heap', World.size_alloc, World.size_setCell]; omega) | (solve | simp) | (solve | (simp; omega))))⟩
  · have hb : (p == a) = false := by simpa using h
    go_enter Try.func33, Try.ntmps33
    go_wp2_with fail
    go_ret
    exact ⟨by simp [h], by (repeat (first | with_reducible assumption | with_reducible exact Below.refl _ _ | with_reducible refine Below.setCell ?_ ?_ _ | with_reducible refine Below.alloc ?_ ?_ _ | with_reducible refine below_drewN' ?_ _ | with_reducible refine Below.drew ?_ | with_reducible refine Below.trans ?_ (Below.mono (by assumption) ?_) | omega | (dsimp only; omega) | (simp only [drew_heap', drewN_heap', World.size_alloc, World.size_setCell]; omega) | (solve | simp) | (solve | (simp; omega))))⟩
/-- The row without the first one at a place; whether there is one. -/
def freeS (l : List Sp) (a : Int) : List Sp × Bool := match l.findIdx? (fun x => decide (x.1 = a)) with | some i => (l.eraseIdx i, true) | none => (l, false)
theorem free_cases (l : List Sp) (a : Int) : (idx (atP a) (sps l) = -1 ∧ (∀ x ∈ l, x.1 ≠ a) ∧ freeS l a = (l, false)) ∨ ∃ (i : Nat) (x : Sp), idx (atP a) (sps l) = i ∧ l[i]? = some x ∧ x.1 = a ∧ (∀ j y, j < i → l[j]? = some y → y.1 ≠ a) ∧ freeS l a = (l.eraseIdx i, true) := by
  rcases idx_cases (atP a) (sps l) with ⟨h1, h2⟩ | ⟨i, x, h1, h2, h3, h4⟩
  · have hno : ∀ x ∈ l, x.1 ≠ a := fun x hx => by
      have := h2 _ (List.mem_map_of_mem hx)
      rw [atP_sp] at this
      simpa using this
    refine .inl ⟨h1, hno, ?_⟩
    unfold freeS
    rw [List.findIdx?_eq_none_iff.2 (by intro x hx; simpa using hno x hx)]
  · obtain ⟨y, hy, rfl⟩ : ∃ y, l[i]? = some y ∧ spV y = x := by simpa using h2
    rw [atP_sp] at h3
    have hno : ∀ j z, j < i → l[j]? = some z → z.1 ≠ a := fun j z hj hz => by
      have := h4 j _ hj (sps_get hz)
      rw [atP_sp] at this
      simpa using this
    refine .inr ⟨i, y, h1, hy, by simpa using h3, hno, ?_⟩
    have hlt := (List.getElem?_eq_some_iff.1 hy).1
    have e : l.findIdx? (fun x => decide (x.1 = a)) = some i := by
      rw [List.findIdx?_eq_some_iff_getElem]
      refine ⟨hlt, ?_, ?_⟩
      · rw [List.getElem?_eq_getElem hlt] at hy
        rw [Option.some.inj hy]; exact h3
      · intro j hj
        have := hno j l[j] hj (List.getElem?_eq_getElem (by omega))
        simpa using this
    unfold freeS
    rw [e]

theorem sps_erase (l : List Sp) (i : Nat) : (sps l).eraseIdx i = sps (l.eraseIdx i) := by
  rw [List.eraseIdx_eq_take_drop_succ, List.eraseIdx_eq_take_drop_succ, sps, sps, ← List.map_take, ← List.map_drop, List.map_append]
set_option maxHeartbeats 1000000 in
theorem free_any (size : Int) (v : Value) (l : List Sp) (at' : Int) (w : World) (hv : Sl w true 3 v (sps l)) (hby : l.length * 24 ≤ 140737488355328) :
    Calls Try.prog 17 #[.agg #[.int .i64 size, v], .int .i64 at'] w fun e w' => ∃ v', e = .returned (.tuple #[.agg #[.int .i64 size, v'], .int .i64 (if (freeS l at').2 = true then 0 else 7)]) ∧ Sl w' true 3 v' (sps (freeS l at').1) ∧ Res w.heap.size v (sps l) v' (sps (freeS l at').1) ∧ Below w.heap.size w w' := by
  have HV := Lib.hid hv
  have HX := Lib.hid (fun W hs hB hc => indexFunc_span v (sps l) 33 #[.pointer (some ⟨w.heap.size + 1, 0, none⟩)] (atP at') W hs (pred_cell free1_body at' l (w.heap.size + 1) W hB hc none (by simp) (fun x w' => free1_any x at' (w.heap.size + 1) w')))
  obtain ⟨av, capv, rfl, _⟩ := hv.shape
  rw [sps_len] at HV HX ⊢
  clear hv
  rcases free_cases l at' with ⟨hi, hno, hf⟩ | ⟨i, x, hi, hx, hp, hno, hf⟩
  · rw [hi] at HX
    rw [hf]
    go_enter Try.func17, Try.ntmps17
    go_wp2_with fail
    with_reducible refine (HX.out _ (HV.out.below ?_) ?_ ?_).mono ?_
    focus (repeat (first | with_reducible assumption | with_reducible exact Below.refl _ _ | with_reducible refine Below.setCell ?_ ?_ _ | with_reducible refine Below.alloc ?_ ?_ _ | with_reducible refine below_drewN' ?_ _ | with_reducible refine Below.drew ?_ | with_reducible refine Below.trans ?_ (Below.mono (by assumption) ?_) | omega | (dsimp only; omega) | (simp only [drew_heap', drewN_heap', World.size_alloc, World.size_setCell]; omega) | (solve | simp) | (solve | (simp; omega))))
    focus (simp only [World.size_alloc]; omega)
    focus exact ((Box.new1 (w.alloc (.cells #[.int .i64 size, .slice av l.length capv] 24)) #[.int .i64 at'] 3 (n := w.heap.size + 1) (by simp)).alloc _).rules.1 0
    rintro e w4 ⟨rfl, hb4⟩
    have hz4 := hb4.size
    simp only [World.size_alloc] at hz4
    have bx1 : Box w4 w.heap.size #[.int .i64 size, .slice av l.length capv] 24 := (((Box.new _ _ _).alloc _).alloc _).below hb4 (by simp only [World.size_alloc]; omega)
    have bx3 : Box w4 (w.heap.size + 1 + 1) #[.int .i64 0, .slice none 0 0] 24 := Box.below (Box.new1 _ _ _ (by simp)) hb4 (by simp only [World.size_alloc]; omega)
    have hbw : Below w.heap.size w w4 := by (repeat (first | with_reducible assumption | with_reducible exact Below.refl _ _ | with_reducible refine Below.setCell ?_ ?_ _ | with_reducible refine Below.alloc ?_ ?_ _ | with_reducible refine below_drewN' ?_ _ | with_reducible refine Below.drew ?_ | with_reducible refine Below.trans ?_ (Below.mono (by assumption) ?_) | omega | (dsimp only; omega) | (simp only [drew_heap', drewN_heap', World.size_alloc, World.size_setCell]; omega) | (solve | simp) | (solve | (simp; omega))))
    clear hb4
    obtain ⟨c1, f1, l1, n1, m1⟩ := bx1.rules
    obtain ⟨c3, f3, l3, n3, m3⟩ := bx3.rules
    have HS4 := Lib.hid (HV.out.below hbw)
    have HOW := Lib.hid (HV.out)
    clear bx1 bx3
    go_wp2_with fail
    refine bodyPost_ret (v := .tuple #[.agg #[.int .i64 size, .slice av l.length capv], .int .i64 7]) (by simp [results, Try.results17, go_sem, c1, c3]) rfl ⟨_, rfl, ?_, Res.same, by (repeat (first | with_reducible assumption | with_reducible exact Below.refl _ _ | with_reducible refine Below.setCell ?_ ?_ _ | with_reducible refine Below.alloc ?_ ?_ _ | with_reducible refine below_drewN' ?_ _ | with_reducible refine Below.drew ?_ | with_reducible refine Below.trans ?_ (Below.mono (by assumption) ?_) | omega | (dsimp only; omega) | (simp only [drew_heap', drewN_heap', World.size_alloc, World.size_setCell]; omega) | (solve | simp) | (solve | (simp; omega))))⟩
    exact HV.out.below (by (repeat (first | with_reducible assumption | with_reducible exact Below.refl _ _ | with_reducible refine Below.setCell ?_ ?_ _ | with_reducible refine Below.alloc ?_ ?_ _ | with_reducible refine below_drewN' ?_ _ | with_reducible refine Below.drew ?_ | with_reducible refine Below.trans ?_ (Below.mono (by assumption) ?_) | omega | (dsimp only; omega) | (simp only [drew_heap', drewN_heap', World.size_alloc, World.size_setCell]; omega) | (solve | simp) | (solve | (simp; omega)))))
  · rw [hi] at HX
    rw [hf]
    have hil : i < (sps l).length := by rw [sps_len]; exact (List.getElem?_eq_some_iff.1 hx).1
    have hl63 : l.length ≤ 9223372036854775807 := by have := HV.out.len_le; rw [sps_len] at this; unfold maxLen at this; omega
    have hwi : IntKind.i64.wrap ((i : Int) + 1) = i + 1 := IntWalk.i64_in _ (by rw [sps_len] at hil; omega)
    have hn0 : ¬ (i : Int) < 0 := by omega
    have HER := Lib.hid (sps_erase l i)
    clear hi hno hf hx hp
    go_enter Try.func17, Try.ntmps17
    go_wp2_with fail
    with_reducible refine (HX.out _ (HV.out.below ?_) ?_ ?_).mono ?_
    focus (repeat (first | with_reducible assumption | with_reducible exact Below.refl _ _ | with_reducible refine Below.setCell ?_ ?_ _ | with_reducible refine Below.alloc ?_ ?_ _ | with_reducible refine below_drewN' ?_ _ | with_reducible refine Below.drew ?_ | with_reducible refine Below.trans ?_ (Below.mono (by assumption) ?_) | omega | (dsimp only; omega) | (simp only [drew_heap', drewN_heap', World.size_alloc, World.size_setCell]; omega) | (solve | simp) | (solve | (simp; omega))))
    focus (simp only [World.size_alloc]; omega)
    focus exact ((Box.new1 (w.alloc (.cells #[.int .i64 size, .slice av l.length capv] 24)) #[.int .i64 at'] 3 (n := w.heap.size + 1) (by simp)).alloc _).rules.1 0
    rintro e w4 ⟨rfl, hb4⟩
    have hz4 := hb4.size
    simp only [World.size_alloc] at hz4
    have bx1 : Box w4 w.heap.size #[.int .i64 size, .slice av l.length capv] 24 := (((Box.new _ _ _).alloc _).alloc _).below hb4 (by simp only [World.size_alloc]; omega)
    have bx3 : Box w4 (w.heap.size + 1 + 1) #[.int .i64 0, .slice none 0 0] 24 := Box.below (Box.new1 _ _ _ (by simp)) hb4 (by simp only [World.size_alloc]; omega)
    have hbw : Below w.heap.size w w4 := by (repeat (first | with_reducible assumption | with_reducible exact Below.refl _ _ | with_reducible refine Below.setCell ?_ ?_ _ | with_reducible refine Below.alloc ?_ ?_ _ | with_reducible refine below_drewN' ?_ _ | with_reducible refine Below.drew ?_ | with_reducible refine Below.trans ?_ (Below.mono (by assumption) ?_) | omega | (dsimp only; omega) | (simp only [drew_heap', drewN_heap', World.size_alloc, World.size_setCell]; omega) | (solve | simp) | (solve | (simp; omega))))
    clear hb4
    have HB1 := Lib.hid bx1
    have HB3 := Lib.hid bx3
    obtain ⟨c1, f1, l1, n1, m1⟩ := bx1.rules
    clear bx1 bx3
    go_wp2_with fail
    with_reducible refine (clone_span _ (sps l) _ (HV.out.below hbw) (by rw [sps_len]; exact hby)).mono ?_
    rintro e w5 ⟨v5, rfl, ho5, hb5⟩
    have hz5 := hb5.size
    have HD := Lib.hid (delete_span v5 (sps l) i w5 w4.heap.size ho5 hil)
    have HO5 := Lib.hid ho5
    clear ho5 c1 f1 l1 n1 m1
    go_wp2_with fail
    with_reducible refine HD.out.mono ?_
    rintro e w6 ⟨v6, rfl, hs6, hv6, hg6⟩
    have hb6 : Below w4.heap.size w4 w6 := HO5.out.below hg6 hb5 (Nat.le_refl _) (by omega)
    have hz6 := hb6.size
    have hge : ∀ b, v6.ownBlock = some b → w4.heap.size ≤ b := fun b hb => HO5.out.own_ge b (hv6 ▸ hb)
    have HGE := Lib.hid hge
    rw [HER.out] at hs6
    have HS6 := Lib.hid hs6
    have bx1 := HB1.out.below hb6 HB1.out.lt
    have bx3 := HB3.out.below hb6 HB3.out.lt
    obtain ⟨c1, f1, l1, n1, m1⟩ := bx1.rules
    obtain ⟨c3, f3, l3, n3, m3⟩ := bx3.rules
    have hbw6 : Below w.heap.size w w6 := hbw.trans (hb6.mono hbw.size)
    obtain ⟨a6, cap6, rfl, _⟩ := hs6.shape
    clear hs6 hge hv6 hg6 bx1 bx3 hb5 hb6
    go_wp2_with fail
    refine bodyPost_ret (v := .tuple #[.agg #[.int .i64 size, .slice a6 (sps (l.eraseIdx i)).length cap6], .int .i64 0]) (by simp [results, Try.results17, go_sem, c1, c3]) rfl ⟨_, rfl, ?_, .inr (fun b hb => by have := HGE.out b hb; omega), by (repeat (first | with_reducible assumption | with_reducible exact Below.refl _ _ | with_reducible refine Below.setCell ?_ ?_ _ | with_reducible refine Below.alloc ?_ ?_ _ | with_reducible refine below_drewN' ?_ _ | with_reducible refine Below.drew ?_ | with_reducible refine Below.trans ?_ (Below.mono (by assumption) ?_) | omega | (dsimp only; omega) | (simp only [drew_heap', drewN_heap', World.size_alloc, World.size_setCell]; omega) | (solve | simp) | (solve | (simp; omega))))⟩
    exact (((HS6.out.setOther (.inr fun b hb => by have := HGE.out b hb; omega) _ _).setOther (.inr fun b hb => by have := HGE.out b hb; omega) _ _).setOther (.inr fun b hb => by have := HGE.out b hb; omega) _ _)
end Go.Proofs.Ytdfkfoffinchhaa
