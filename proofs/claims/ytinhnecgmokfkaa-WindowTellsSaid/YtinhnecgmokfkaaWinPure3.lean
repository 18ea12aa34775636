/- Rows of windows: plain facts for WindowSums, WindowGrants. Conditions: none. -/
import Derived.Test.YtinhnecgmokfkaaWinPure2
namespace Go.Proofs.Ytinhnecgmokfkaa
open Go Go.RowKit Go.Tm
set_option linter.unusedVariables false
set_option linter.unusedSimpArgs false

theorem cyc_small {f t : Int} (h0 : 0 ≤ t) (h1 : t < frm f) : cyc f t = t := Int.emod_eq_of_lt h0 h1
theorem frameS_step {p : Pln} {sched part m : Int} (hm : 0 ≤ m) : frameS p sched part (m + 1) = frameS p sched part m + ind (atL (winsOf p sched) m) part := frameL_step (winsOf_row p sched) hm winsOf_wok
theorem sum_range {p : Pln} {sched : Int} (k : Nat) : ∀ m : Nat, 0 ≤ sumP (fun part => frameS p sched part m) k ∧ sumP (fun part => frameS p sched part m) k ≤ m := by
  intro m
  induction m with
  | zero =>
    have h0 : ∀ k, sumP (fun part => frameS p sched part ((0 : Nat) : Int)) k = 0 := by
      intro k
      induction k with
      | zero => rfl
      | succ k ih =>
        show sumP (fun part => frameS p sched part ((0 : Nat) : Int)) k + frameS p sched k ((0 : Nat) : Int) = 0
        rw [ih]
        have := frameL_zero (l := winsOf p sched) (part := k) winsOf_wok
        show 0 + frameL (winsOf p sched) k 0 = 0
        omega
    rw [h0]; simp
  | succ m ih =>
    have h1 : sumP (fun part => frameS p sched part ((m + 1 : Nat) : Int)) k = sumP (fun part => frameS p sched part m) k + sumP (ind (atL (winsOf p sched) m)) k := by
      rw [← sumP_add]
      apply sumP_congr
      intro part
      rw [show ((m + 1 : Nat) : Int) = (m : Int) + 1 by omega]
      exact frameS_step (by omega)
    rw [h1, sumP_ind]
    split <;> omega
/-- How many of the first m cycles are nobody's own. -/
def othS (l : List Wn) : Nat → Int | 0 => 0 | m + 1 => othS l m + if (atL l m).2 = 2 then 0 else 1
theorem othS_range (l : List Wn) : ∀ m, 0 ≤ othS l m ∧ othS l m ≤ m := by
  intro m
  induction m with
  | zero => simp [othS]
  | succ m ih =>
    have : othS l (m + 1) = othS l m + if (atL l m).2 = 2 then 0 else 1 := rfl
    rw [this]
    split <;> omega
theorem sum_other {p : Pln} {sched : Int} : ∀ m : Nat, sumP (fun part => frameS p sched part m) p.parts.length + othS (winsOf p sched) m = m := by
  intro m
  induction m with
  | zero => have := sum_range (p := p) (sched := sched) p.parts.length 0; show sumP _ _ + 0 = ((0 : Nat) : Int); omega
  | succ m ih =>
    have h1 : sumP (fun part => frameS p sched part ((m + 1 : Nat) : Int)) p.parts.length = sumP (fun part => frameS p sched part m) p.parts.length + sumP (ind (atL (winsOf p sched) m)) p.parts.length := by
      rw [← sumP_add]
      apply sumP_congr
      intro part
      rw [show ((m + 1 : Nat) : Int) = (m : Int) + 1 by omega]
      exact frameS_step (by omega)
    have h2 : othS (winsOf p sched) (m + 1) = othS (winsOf p sched) m + if (atL (winsOf p sched) m).2 = 2 then 0 else 1 := rfl
    have h3 : (atL (winsOf p sched) m) = (-1, 0) ∨ (0 ≤ (atL (winsOf p sched) m).1 ∧ (atL (winsOf p sched) m).1 < p.parts.length) := by
      rcases at_cases (m := (m : Int)) (n := p.parts.length) (frame := p.frame) (l := winsOf p sched) (fun x hx => (winsOf_ok x hx).2) with h | ⟨x, _, _, h, h1, h2⟩
      · exact .inl h
      · rw [h]; exact .inr ⟨h1, h2⟩
    rw [h1, h2, sumP_ind]
    generalize atL (winsOf p sched) m = ax at *
    obtain ⟨a, x⟩ := ax
    rcases h3 with h3 | h3
    · obtain ⟨rfl, rfl⟩ : a = -1 ∧ x = 0 := by simpa using h3
      rw [if_neg (by omega), if_neg (by simp)]
      omega
    · dsimp only at h3 ⊢
      by_cases h4 : x = 2
      · rw [if_pos ⟨h4, h3⟩, if_pos h4]; omega
      · rw [if_neg (fun h => h4 h.1), if_neg h4]; omega
theorem frameS_le_whole {p : Pln} {sched part : Int} {n : Nat} (h : (n : Int) ≤ p.frame) : frameS p sched part n ≤ frameS p sched part p.frame := by
  have := frameL_mono (part := part) (winsOf_row p sched) winsOf_wok (i := n) (j := p.frame.toNat) (by omega)
  rwa [show ((p.frame.toNat : Nat) : Int) = p.frame by omega] at this

/-! ### WindowGrants -/
theorem grant_win {p : Pln} {sched t : Int} {x : Wn} (ht : 0 ≤ t) (hp : 1 ≤ p.frame) (hx : x ∈ winsOf p sched) :
    ∀ (part : Int) (j : Nat), (j : Int) ≤ x.2.2 → grantS p sched part (t - t % p.frame + x.2.1 + j) = grantS p sched part (t - t % p.frame + x.2.1) + if part = x.1 then max 0 ((j : Int) - 2) else 0 := by
  have hfr : frm p.frame = p.frame := by unfold frm; rw [if_neg (by omega)]
  have hw := (winsOf_ok x hx).2
  unfold WinOk at hw
  have hm : 0 ≤ t % p.frame := Int.emod_nonneg t (by omega)
  have hT0 : 0 ≤ t - t % p.frame := by have := Int.mul_ediv_add_emod t p.frame; have := Int.mul_nonneg (show 0 ≤ p.frame by omega) (Int.ediv_nonneg ht (show 0 ≤ p.frame by omega)); omega
  have hc : ∀ j : Nat, (j : Int) < x.2.2 → cyc p.frame (t - t % p.frame + x.2.1 + j) = x.2.1 + j := by
    intro j hj
    have h1 : t - t % p.frame + x.2.1 + j = (x.2.1 + j) + p.frame * (t / p.frame) := by have := Int.mul_ediv_add_emod t p.frame; omega
    unfold cyc
    rw [hfr, h1, Int.add_mul_emod_self_left, Int.emod_eq_of_lt (by omega) (by omega)]
  intro part j
  induction j with
  | zero => intro _; rw [show max (0 : Int) (((0 : Nat) : Int) - 2) = 0 by omega]; simp
  | succ j ih =>
    intro hj
    have h1 := ih (by omega)
    have h2 := grant_step (p := p) (sched := sched) (part := part) (t := t - t % p.frame + x.2.1 + j) (by omega)
    rw [show t - t % p.frame + x.2.1 + ((j + 1 : Nat) : Int) = t - t % p.frame + x.2.1 + j + 1 by omega, h2, h1]
    have h3 : atS p sched (t - t % p.frame + x.2.1 + j) = (x.1, howB (x.2.1 + j) x) := by
      unfold atS
      rw [hc j (by omega)]
      exact hit_at (winsOf_row p sched) x hx (by unfold hitB; simp; omega)
    rw [h3]
    unfold ind howB
    by_cases h4 : part = x.1
    · by_cases h5 : x.2.1 + (j : Int) - x.2.1 < 2
      · rw [if_pos h4, if_pos h5, if_neg (by simp), if_pos h4]; omega
      · rw [if_pos h4, if_neg h5, if_pos (by rw [h4]), if_pos h4]; omega
    · rw [if_neg h4, if_neg (by simp; intro e; exact absurd e.symm h4), if_neg h4]; omega
theorem start_win {p : Pln} {sched t : Int} {x : Wn} (ht : 0 ≤ t) (hp : 1 ≤ p.frame) (hx : x ∈ winsOf p sched) : startS p sched (t - t % p.frame + x.2.1) = true := by
  have hfr : frm p.frame = p.frame := by unfold frm; rw [if_neg (by omega)]
  have hw := (winsOf_ok x hx).2
  unfold WinOk at hw
  unfold startS
  rw [List.any_eq_true]
  refine ⟨x, hx, ?_⟩
  have h1 : t - t % p.frame + x.2.1 = x.2.1 + p.frame * (t / p.frame) := by have := Int.mul_ediv_add_emod t p.frame; omega
  unfold begB cyc
  rw [hfr, h1, Int.add_mul_emod_self_left, Int.emod_eq_of_lt (by omega) (by omega)]
  simp
end Go.Proofs.Ytinhnecgmokfkaa
