/- sleep.Add: what it answers. Conditions: lengths within the reach. -/
import Derived.Test.YtndmgbdgcemcmaaSleepFns
namespace Go.Proofs.Ytndmgbdgcemcmaa
open Go Go.RowKit Go.Tm
set_option linter.unusedVariables false
set_option linter.unusedSimpArgs false

def addS (l : List Al) (a : Al) : List Al := l.takeWhile (fun x => !behind x a) ++ a :: l.dropWhile (fun x => !behind x a)
theorem while_take {α : Type} (p : α → Bool) (l : List α) : l.take (l.takeWhile p).length = l.takeWhile p ∧ l.drop (l.takeWhile p).length = l.dropWhile p := by
  have h := List.takeWhile_append_dropWhile (p := p) (l := l)
  constructor
  · conv => lhs; rw [← h]
    rw [List.takeWhile_append_dropWhile]
    conv => lhs; arg 2; rw [← h]
    exact List.take_left' rfl
  · conv => lhs; arg 2; rw [← h]
    exact List.drop_left' rfl
theorem takeWhile_len_le {α : Type} (p : α → Bool) (l : List α) : (l.takeWhile p).length ≤ l.length := by
  have h := congrArg List.length (List.takeWhile_append_dropWhile (p := p) (l := l))
  simp only [List.length_append] at h
  omega
theorem addS_take (l : List Al) (a : Al) : (als l).take (l.takeWhile (fun x => !behind x a)).length ++ alV a :: (als l).drop (l.takeWhile (fun x => !behind x a)).length = als (addS l a) := by
  have h := while_take (fun x => !behind x a) l
  unfold addS
  rw [als, als, ← List.map_take, ← List.map_drop, h.1, h.2, List.map_append, List.map_cons]
/-- Where the first one stands that is behind a. -/
theorem idx_while (l : List Al) (a : Al) : (idx (behP a) (als l) = -1 ∧ (l.takeWhile (fun x => !behind x a)).length = l.length) ∨
    ((l.takeWhile (fun x => !behind x a)).length < l.length ∧ idx (behP a) (als l) = ((l.takeWhile (fun x => !behind x a)).length : Nat)) := by
  induction l with
  | nil => left; exact ⟨rfl, rfl⟩
  | cons x r ih =>
    by_cases hb : behind x a = true
    · right
      have h1 : (x :: r).takeWhile (fun x => !behind x a) = [] := by simp [hb]
      rw [h1]
      exact ⟨by simp, idx_some (i := 0) (x := alV x) rfl (by rw [behP_al]; exact hb) (by intro j y hj; omega)⟩
    · have hb' : behind x a = false := by simpa using hb
      have h1 : (x :: r).takeWhile (fun x => !behind x a) = x :: r.takeWhile (fun x => !behind x a) := by simp [hb']
      rw [h1]
      rcases ih with ⟨h2, h3⟩ | ⟨h2, h3⟩
      · left
        refine ⟨?_, by simp [h3]⟩
        rcases idx_cases (behP a) (als (x :: r)) with ⟨h, _⟩ | ⟨i, y, h, hy, hp, hprev⟩
        · exact h
        · exfalso
          cases i with
          | zero =>
            simp at hy
            subst hy
            rw [behP_al, hb'] at hp
            cases hp
          | succ i =>
            have hy' : (als r)[i]? = some y := by simpa using hy
            rcases idx_cases (behP a) (als r) with ⟨_, hall⟩ | ⟨j, z, hj, _⟩
            · rw [hall y (List.mem_of_getElem? hy')] at hp; cases hp
            · omega
      · right
        refine ⟨by simpa using h2, ?_⟩
        rcases idx_cases (behP a) (als r) with ⟨h, _⟩ | ⟨j, z, hj, hz, hp, hprev⟩
        · omega
        · have hje : j = (r.takeWhile (fun x => !behind x a)).length := by omega
          have := idx_some (p := behP a) (xs := als (x :: r)) (i := j + 1) (x := z) (by simpa using hz) hp (by
            intro k y hk hy
            cases k with
            | zero => simp at hy; subst hy; rw [behP_al]; exact hb'
            | succ k => exact hprev k y (by omega) (by simpa using hy))
          rw [this]
          simp [hje]

theorem al_cells (a : Al) : (alV a).cells = #[.int .u64 a.1, .int .i64 a.2] := rfl
def SA (w : World) (p : Nat) (a : Al) (W : World) : Prop :=
  W.cell? ⟨p, 0, none⟩ = some (.int .u64 a.1) ∧ W.cell? ⟨p, 1, none⟩ = some (.int .i64 a.2) ∧ Below w.heap.size w W
theorem cellKeep {W W' : World} {a : Addr} {v : Value} (hb : Below W.heap.size W W') (h : W.cell? a = some v) : W'.cell? a = some v := (Below.cell hb (block_lt_of_cell h)).trans h
theorem SA.keep {w : World} {p : Nat} {a : Al} {W W' : World} (h : SA w p a W) (hb : Below W.heap.size W W') : SA w p a W' := by
  obtain ⟨h0, h1, h4⟩ := h
  exact ⟨cellKeep hb h0, cellKeep hb h1, h4.trans (hb.mono h4.size)⟩

set_option maxHeartbeats 4000000 in
theorem add_any (v : Value) (l : List Al) (a : Al) (w : World) (hv : Sl w true 2 v (als l)) (hby : (l.length + 1) * 16 ≤ 140737488355328) :
    Calls Try.prog 15 #[v, alV a] w fun e w' => ∃ v', e = .returned v' ∧ Sl w' true 2 v' (als (addS l a)) ∧ Below w.heap.size w w' := by
  have HV := Lib.hid hv
  have HAS := Lib.hid (addS_take l a)
  have hI := fun W hs hB h0 h1 => indexFunc_alarm v (als l) 23 #[.pointer (some ⟨w.heap.size, 0, none⟩)] (behP a) W hs (add1_pred l a w.heap.size W hB h0 h1 none (by simp))
  have hil := takeWhile_len_le (fun x => !behind x a) l
  have hcl := fun W h => clone_alarm v (als l) W h (by rw [als_len]; omega)
  have hidx := idx_while l a
  generalize (l.takeWhile (fun x => !behind x a)).length = i at *
  have HI := Lib.hid hI
  have HCL := Lib.hid hcl
  obtain ⟨av, cap, rfl, hl⟩ := hv.shape
  rw [als_len] at hl HV HI HCL ⊢
  clear hv hI hcl
  have hax := al_val a
  rcases hidx with ⟨hi1, hi2⟩ | ⟨hi1, hi2⟩
  ·
    subst hi2
    rw [hi1] at HI
    clear hi1
    go_enter Try.func15, Try.ntmps15
    go_wp2_with fail
    with_reducible refine (HI.out _ (HV.out.below ?_) ?_ ?_ ?_).mono ?_
    focus (repeat (first | with_reducible assumption | with_reducible exact Below.refl _ _ | with_reducible refine Below.setCell ?_ ?_ _ | with_reducible refine Below.alloc ?_ ?_ _ | with_reducible refine below_drewN' ?_ _ | with_reducible refine Below.drew ?_ | with_reducible refine Below.trans ?_ (Below.mono (by assumption) ?_) | omega | (dsimp only; omega) | (simp only [drew_heap', drewN_heap', World.size_alloc, World.size_setCell]; omega) | (solve | simp) | (solve | (simp; omega))))
    focus (simp only [World.size_alloc]; omega)
    focus exact (Box.new _ _ _).rules.1 0
    focus exact (Box.new _ _ _).rules.1 1
    rintro e w1 ⟨rfl, hb1⟩
    have hz1 := hb1.size
    simp only [World.size_alloc] at hz1
    (have b1 : Box w1 w.heap.size #[.int .u64 a.1, .int .i64 a.2] 30 := (by (try have k1 := (Lib.hid True.intro).out); ((apply Box.cast); (repeat (first | with_reducible assumption | ((with_reducible apply Box.new1); (first | with_reducible rfl | rfl | (solve | simp))) | with_reducible apply Box.drewN | with_reducible apply Box.drew | with_reducible apply Box.set | with_reducible apply Box.other | with_reducible apply Box.alloc | (with_reducible apply Box.below; rotate_left; with_reducible assumption; rotate_right) | with_reducible rfl | omega | (dsimp only; omega) | (simp only [drew_heap', drewN_heap', World.size_alloc, World.size_setCell]; omega) | rfl | (solve | simp) | (solve | (simp; omega))))))); (obtain ⟨hc1, hf1, hl1, hn1, hm1⟩ := b1.rules); (have K1 := Lib.hid b1); (clear b1)
    have hbw : Below w.heap.size w w1 := by (repeat (first | with_reducible assumption | with_reducible exact Below.refl _ _ | with_reducible refine Below.setCell ?_ ?_ _ | with_reducible refine Below.alloc ?_ ?_ _ | with_reducible refine below_drewN' ?_ _ | with_reducible refine Below.drew ?_ | with_reducible refine Below.trans ?_ (Below.mono (by assumption) ?_) | omega | (dsimp only; omega) | (simp only [drew_heap', drewN_heap', World.size_alloc, World.size_setCell]; omega) | (solve | simp) | (solve | (simp; omega))))
    have HV1 := Lib.hid (HV.out.below hbw)
    have hP0 := hc1 0
    have hP1 := hc1 1
    have hS0 : SA w1 w.heap.size a w1 := ⟨hP0, hP1, Below.refl _ _⟩
    clear hc1 hf1 hl1 hn1 hm1 HI hb1
    go_wp2_with fail
    go_region_held3 (fun W => W.cell? ⟨w.heap.size, 0, none⟩ = some (.int .u64 a.1) ∧ W.cell? ⟨w.heap.size, 1, none⟩ = some (.int .i64 a.2) ∧ Below w1.heap.size w1 W) ((refine SA.keep hS0 ?_; (repeat (first | with_reducible assumption | with_reducible exact Below.refl _ _ | with_reducible refine Below.setCell ?_ ?_ _ | with_reducible refine Below.alloc ?_ ?_ _ | with_reducible refine below_drewN' ?_ _ | with_reducible refine Below.drew ?_ | with_reducible refine Below.trans ?_ (Below.mono (by assumption) ?_) | omega | (dsimp only; omega) | (simp only [drew_heap', drewN_heap', World.size_alloc, World.size_setCell]; omega) | (solve | simp) | (solve | (simp; omega))))))
      ((first
        | (go_at_call 26; with_reducible refine (HCL.out _ (HV1.out.below (by (repeat (first | with_reducible assumption | with_reducible exact Below.refl _ _ | with_reducible refine Below.setCell ?_ ?_ _ | with_reducible refine Below.alloc ?_ ?_ _ | with_reducible refine below_drewN' ?_ _ | with_reducible refine Below.drew ?_ | with_reducible refine Below.trans ?_ (Below.mono (by assumption) ?_) | omega | (dsimp only; omega) | (simp only [drew_heap', drewN_heap', World.size_alloc, World.size_setCell]; omega) | (solve | simp) | (solve | (simp; omega))))))).mono ?_; rintro en w3 ⟨v3, rfl, ho3, hb3⟩; (have hz3 := hb3.size); (try simp only [drew_heap', drewN_heap', World.size_alloc] at hz3); (have HO3 := Lib.hid ho3); clear ho3)
        | (go_at_call 25; with_reducible refine (insert_alarm v3 (als l) l.length (alV a) _ _ w1.heap.size ((HO3.out.le (base' := w1.heap.size) (by first | omega | (simp only [drew_heap', drewN_heap', World.size_alloc]; omega))).kept (by (repeat (first | with_reducible assumption | with_reducible exact Below.refl _ _ | with_reducible refine Below.setCell ?_ ?_ _ | with_reducible refine Below.alloc ?_ ?_ _ | with_reducible refine below_drewN' ?_ _ | with_reducible refine Below.drew ?_ | with_reducible refine Below.trans ?_ (Below.mono (by assumption) ?_) | omega | (dsimp only; omega) | (simp only [drew_heap', drewN_heap', World.size_alloc, World.size_setCell]; omega) | (solve | simp) | (solve | (simp; omega)))))) ?_ hax ?_ ?_ ?_ ?_).mono ?_; (focus (rw [als_len]; omega)); (focus (rw [al_cells]; ((apply Box.cast); (repeat (first | with_reducible assumption | ((with_reducible apply Box.new1); (first | with_reducible rfl | rfl | (solve | simp))) | with_reducible apply Box.drewN | with_reducible apply Box.drew | with_reducible apply Box.set | with_reducible apply Box.other | with_reducible apply Box.alloc | (with_reducible apply Box.below; rotate_left; with_reducible assumption; rotate_right) | with_reducible rfl | omega | (dsimp only; omega) | (simp only [drew_heap', drewN_heap', World.size_alloc, World.size_setCell]; omega) | rfl | (solve | simp) | (solve | (simp; omega))))))); (focus (intro b hb; (have h1 := HO3.out.own_ge b hb); (have h2 := (HO3.out.row.lt b hb).2); (try simp only [drew_heap', drewN_heap', World.size_alloc] at h1 h2 ⊢); omega)); (focus (first | omega | (simp only [drew_heap', drewN_heap', World.size_alloc]; omega))); (focus (rw [als_len]; exact hby)); rintro en w5 ⟨v5, rfl, ho5, hg5⟩; (have hb5 : Below w1.heap.size w1 w5 := (((HO3.out.le (base' := w1.heap.size) (by first | omega | (simp only [drew_heap', drewN_heap', World.size_alloc]; omega))).kept (by (repeat (first | with_reducible assumption | with_reducible exact Below.refl _ _ | with_reducible refine Below.setCell ?_ ?_ _ | with_reducible refine Below.alloc ?_ ?_ _ | with_reducible refine below_drewN' ?_ _ | with_reducible refine Below.drew ?_ | with_reducible refine Below.trans ?_ (Below.mono (by assumption) ?_) | omega | (dsimp only; omega) | (simp only [drew_heap', drewN_heap', World.size_alloc, World.size_setCell]; omega) | (solve | simp) | (solve | (simp; omega))))))).below hg5 (by (repeat (first | with_reducible assumption | with_reducible exact Below.refl _ _ | with_reducible refine Below.setCell ?_ ?_ _ | with_reducible refine Below.alloc ?_ ?_ _ | with_reducible refine below_drewN' ?_ _ | with_reducible refine Below.drew ?_ | with_reducible refine Below.trans ?_ (Below.mono (by assumption) ?_) | omega | (dsimp only; omega) | (simp only [drew_heap', drewN_heap', World.size_alloc, World.size_setCell]; omega) | (solve | simp) | (solve | (simp; omega))))) (Nat.le_refl _) (by first | omega | (simp only [drew_heap', drewN_heap', World.size_alloc]; omega))); (have HO5 := Lib.hid ho5); clear ho5 hg5)))
    all_goals
      go_wp2_with fail
      go_ret
      refine ⟨_, rfl, ?_, hbw.trans (hb5.mono hbw.size)⟩
      have h := HO5.out.sl
      rw [HAS.out] at h
      exact h
  ·
    rw [hi2] at HI
    clear hi2
    have hn1 : ¬ (i : Int) < 0 := by omega
    go_enter Try.func15, Try.ntmps15
    go_wp2_with fail
    with_reducible refine (HI.out _ (HV.out.below ?_) ?_ ?_ ?_).mono ?_
    focus (repeat (first | with_reducible assumption | with_reducible exact Below.refl _ _ | with_reducible refine Below.setCell ?_ ?_ _ | with_reducible refine Below.alloc ?_ ?_ _ | with_reducible refine below_drewN' ?_ _ | with_reducible refine Below.drew ?_ | with_reducible refine Below.trans ?_ (Below.mono (by assumption) ?_) | omega | (dsimp only; omega) | (simp only [drew_heap', drewN_heap', World.size_alloc, World.size_setCell]; omega) | (solve | simp) | (solve | (simp; omega))))
    focus (simp only [World.size_alloc]; omega)
    focus exact (Box.new _ _ _).rules.1 0
    focus exact (Box.new _ _ _).rules.1 1
    rintro e w1 ⟨rfl, hb1⟩
    have hz1 := hb1.size
    simp only [World.size_alloc] at hz1
    (have b1 : Box w1 w.heap.size #[.int .u64 a.1, .int .i64 a.2] 30 := (by (try have k1 := (Lib.hid True.intro).out); ((apply Box.cast); (repeat (first | with_reducible assumption | ((with_reducible apply Box.new1); (first | with_reducible rfl | rfl | (solve | simp))) | with_reducible apply Box.drewN | with_reducible apply Box.drew | with_reducible apply Box.set | with_reducible apply Box.other | with_reducible apply Box.alloc | (with_reducible apply Box.below; rotate_left; with_reducible assumption; rotate_right) | with_reducible rfl | omega | (dsimp only; omega) | (simp only [drew_heap', drewN_heap', World.size_alloc, World.size_setCell]; omega) | rfl | (solve | simp) | (solve | (simp; omega))))))); (obtain ⟨hc1, hf1, hl1, hn1, hm1⟩ := b1.rules); (have K1 := Lib.hid b1); (clear b1)
    have hbw : Below w.heap.size w w1 := by (repeat (first | with_reducible assumption | with_reducible exact Below.refl _ _ | with_reducible refine Below.setCell ?_ ?_ _ | with_reducible refine Below.alloc ?_ ?_ _ | with_reducible refine below_drewN' ?_ _ | with_reducible refine Below.drew ?_ | with_reducible refine Below.trans ?_ (Below.mono (by assumption) ?_) | omega | (dsimp only; omega) | (simp only [drew_heap', drewN_heap', World.size_alloc, World.size_setCell]; omega) | (solve | simp) | (solve | (simp; omega))))
    have HV1 := Lib.hid (HV.out.below hbw)
    have hP0 := hc1 0
    have hP1 := hc1 1
    have hS0 : SA w1 w.heap.size a w1 := ⟨hP0, hP1, Below.refl _ _⟩
    clear hc1 hf1 hl1 hn1 hm1 HI hb1
    go_wp2_with fail
    go_region_held3 (fun W => W.cell? ⟨w.heap.size, 0, none⟩ = some (.int .u64 a.1) ∧ W.cell? ⟨w.heap.size, 1, none⟩ = some (.int .i64 a.2) ∧ Below w1.heap.size w1 W) ((refine SA.keep hS0 ?_; (repeat (first | with_reducible assumption | with_reducible exact Below.refl _ _ | with_reducible refine Below.setCell ?_ ?_ _ | with_reducible refine Below.alloc ?_ ?_ _ | with_reducible refine below_drewN' ?_ _ | with_reducible refine Below.drew ?_ | with_reducible refine Below.trans ?_ (Below.mono (by assumption) ?_) | omega | (dsimp only; omega) | (simp only [drew_heap', drewN_heap', World.size_alloc, World.size_setCell]; omega) | (solve | simp) | (solve | (simp; omega))))))
      ((first
        | (go_at_call 26; with_reducible refine (HCL.out _ (HV1.out.below (by (repeat (first | with_reducible assumption | with_reducible exact Below.refl _ _ | with_reducible refine Below.setCell ?_ ?_ _ | with_reducible refine Below.alloc ?_ ?_ _ | with_reducible refine below_drewN' ?_ _ | with_reducible refine Below.drew ?_ | with_reducible refine Below.trans ?_ (Below.mono (by assumption) ?_) | omega | (dsimp only; omega) | (simp only [drew_heap', drewN_heap', World.size_alloc, World.size_setCell]; omega) | (solve | simp) | (solve | (simp; omega))))))).mono ?_; rintro en w3 ⟨v3, rfl, ho3, hb3⟩; (have hz3 := hb3.size); (try simp only [drew_heap', drewN_heap', World.size_alloc] at hz3); (have HO3 := Lib.hid ho3); clear ho3)
        | (go_at_call 25; with_reducible refine (insert_alarm v3 (als l) i (alV a) _ _ w1.heap.size ((HO3.out.le (base' := w1.heap.size) (by first | omega | (simp only [drew_heap', drewN_heap', World.size_alloc]; omega))).kept (by (repeat (first | with_reducible assumption | with_reducible exact Below.refl _ _ | with_reducible refine Below.setCell ?_ ?_ _ | with_reducible refine Below.alloc ?_ ?_ _ | with_reducible refine below_drewN' ?_ _ | with_reducible refine Below.drew ?_ | with_reducible refine Below.trans ?_ (Below.mono (by assumption) ?_) | omega | (dsimp only; omega) | (simp only [drew_heap', drewN_heap', World.size_alloc, World.size_setCell]; omega) | (solve | simp) | (solve | (simp; omega)))))) ?_ hax ?_ ?_ ?_ ?_).mono ?_; (focus (rw [als_len]; omega)); (focus (rw [al_cells]; ((apply Box.cast); (repeat (first | with_reducible assumption | ((with_reducible apply Box.new1); (first | with_reducible rfl | rfl | (solve | simp))) | with_reducible apply Box.drewN | with_reducible apply Box.drew | with_reducible apply Box.set | with_reducible apply Box.other | with_reducible apply Box.alloc | (with_reducible apply Box.below; rotate_left; with_reducible assumption; rotate_right) | with_reducible rfl | omega | (dsimp only; omega) | (simp only [drew_heap', drewN_heap', World.size_alloc, World.size_setCell]; omega) | rfl | (solve | simp) | (solve | (simp; omega))))))); (focus (intro b hb; (have h1 := HO3.out.own_ge b hb); (have h2 := (HO3.out.row.lt b hb).2); (try simp only [drew_heap', drewN_heap', World.size_alloc] at h1 h2 ⊢); omega)); (focus (first | omega | (simp only [drew_heap', drewN_heap', World.size_alloc]; omega))); (focus (rw [als_len]; exact hby)); rintro en w5 ⟨v5, rfl, ho5, hg5⟩; (have hb5 : Below w1.heap.size w1 w5 := (((HO3.out.le (base' := w1.heap.size) (by first | omega | (simp only [drew_heap', drewN_heap', World.size_alloc]; omega))).kept (by (repeat (first | with_reducible assumption | with_reducible exact Below.refl _ _ | with_reducible refine Below.setCell ?_ ?_ _ | with_reducible refine Below.alloc ?_ ?_ _ | with_reducible refine below_drewN' ?_ _ | with_reducible refine Below.drew ?_ | with_reducible refine Below.trans ?_ (Below.mono (by assumption) ?_) | omega | (dsimp only; omega) | (simp only [drew_heap', drewN_heap', World.size_alloc, World.size_setCell]; omega) | (solve | simp) | (solve | (simp; omega))))))).below hg5 (by (repeat (first | with_reducible assumption | with_reducible exact Below.refl _ _ | with_reducible refine Below.setCell ?_ ?_ _ | with_reducible refine Below.alloc ?_ ?_ _ | with_reducible refine below_drewN' ?_ _ | with_reducible refine Below.drew ?_ | with_reducible refine Below.trans ?_ (Below.mono (by assumption) ?_) | omega | (dsimp only; omega) | (simp only [drew_heap', drewN_heap', World.size_alloc, World.size_setCell]; omega) | (solve | simp) | (solve | (simp; omega))))) (Nat.le_refl _) (by first | omega | (simp only [drew_heap', drewN_heap', World.size_alloc]; omega))); (have HO5 := Lib.hid ho5); clear ho5 hg5)))
    all_goals
      go_wp2_with fail
      go_ret
      refine ⟨_, rfl, ?_, hbw.trans (hb5.mono hbw.size)⟩
      have h := HO5.out.sl
      rw [HAS.out] at h
      exact h
end Go.Proofs.Ytndmgbdgcemcmaa
