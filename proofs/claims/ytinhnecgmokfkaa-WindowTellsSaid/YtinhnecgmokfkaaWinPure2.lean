/- Rows of windows: plain facts for the laws. Conditions: none. -/
import Derived.Test.YtinhnecgmokfkaaWinFns3
namespace Go.Proofs.Ytinhnecgmokfkaa
open Go Go.RowKit Go.Tm
set_option linter.unusedVariables false
set_option linter.unusedSimpArgs false

theorem hit_at {n : Nat} {frame m : Int} : ∀ {l : List Wn} {b : Int}, RowOk n frame b l → ∀ x ∈ l, hitB m x = true → atL l m = (x.1, howB m x) := by
  intro l
  induction l with
  | nil => intro b _ x hx; cases hx
  | cons y r ih =>
    intro b h x hx hh
    obtain ⟨h1, h2, h3⟩ := h
    by_cases hy : hitB m y = true
    · rcases List.mem_cons.1 hx with rfl | hx
      · unfold atL; rw [List.find?_cons, hh]
      · exfalso
        unfold hitB at hy hh
        simp only [decide_eq_true_eq] at hy hh
        have := row_behind h3 hy.2 x hx
        omega
    · have hy' : hitB m y = false := by simpa using hy
      rcases List.mem_cons.1 hx with rfl | hx
      · rw [hh] at hy; exact absurd rfl hy
      · unfold atL
        rw [List.find?_cons, hy']
        exact ih h3 x hx hh
theorem at_cases {n : Nat} {frame m : Int} {l : List Wn} (h : ∀ x ∈ l, WinOk n frame x) : (atL l m = (-1, 0)) ∨ ∃ x ∈ l, hitB m x = true ∧ atL l m = (x.1, howB m x) ∧ 0 ≤ x.1 ∧ x.1 < n := by
  unfold atL
  cases hf : l.find? (hitB m) with
  | none => exact .inl rfl
  | some x =>
    have h1 := List.mem_of_find?_eq_some hf
    have h2 := List.find?_some hf
    have h3 := h x h1
    unfold WinOk at h3
    exact .inr ⟨x, h1, h2, rfl, h3.1, h3.2.1⟩
theorem how_range (m : Int) (x : Wn) : howB m x = 1 ∨ howB m x = 2 := by unfold howB; split <;> simp

theorem cyc_add {f t k : Int} (ht : 0 ≤ t) (hk : 0 ≤ k) (h : cyc f t + k < frm f) : cyc f (t + k) = cyc f t + k ∧ (t + k) / frm f = t / frm f := by
  have h1 := frm_pos f
  have h2 : frm f * (t / frm f) + t % frm f = t := Int.mul_ediv_add_emod t (frm f)
  have h3 : 0 ≤ t % frm f := Int.emod_nonneg t (by omega)
  unfold cyc at *
  have h4 : t + k = (t % frm f + k) + frm f * (t / frm f) := by omega
  constructor
  · rw [h4, Int.add_mul_emod_self_left, Int.emod_eq_of_lt (by omega) h]
  · rw [h4, Int.add_mul_ediv_left _ _ (by omega), Int.ediv_eq_zero_of_lt (by omega) h]
    omega
theorem cyc_wrap {f t k : Int} (ht : 0 ≤ t) (hk : 0 ≤ k) (h : cyc f t + k = frm f) : cyc f (t + k) = 0 ∧ (t + k) / frm f = t / frm f + 1 := by
  have h1 := frm_pos f
  have h2 : frm f * (t / frm f) + t % frm f = t := Int.mul_ediv_add_emod t (frm f)
  unfold cyc at *
  have h4 : t + k = frm f * (t / frm f + 1) := by rw [Int.mul_add]; omega
  constructor
  · rw [h4, Int.mul_emod_right]
  · rw [h4, Int.mul_ediv_cancel_left _ (by omega)]
theorem cyc_lt (f t : Int) : cyc f t < frm f := Int.emod_lt_of_pos t (by have := frm_pos f; omega)
theorem wins_frame {p : Pln} {sched : Int} (h : winsOf p sched ≠ []) : PlanOk p ∧ 0 ≤ sched ∧ sched < p.wins.length ∧ frm p.frame = p.frame := by
  by_cases hh : PlanOk p ∧ 0 ≤ sched ∧ sched < p.wins.length
  · exact ⟨hh.1, hh.2.1, hh.2.2, by unfold frm; rw [if_neg (by have := hh.1.frame1; omega)]⟩
  · exact absurd (winsOf_none hh) h
def ind (who : Int × Int) (part : Int) : Int := if who = (part, 2) then 1 else 0
/-- With each cycle one more is granted, or none. -/
theorem grant_step {p : Pln} {sched part t : Int} (ht : 0 ≤ t) : grantS p sched part (t + 1) = grantS p sched part t + ind (atS p sched t) part := by
  unfold grantS atS ind
  simp only [frameS_eq]
  by_cases hl : winsOf p sched = []
  · rw [hl]
    simp [frameL, atL]
  · obtain ⟨hp, h0, h1, hfr⟩ := wins_frame hl
    have hc0 := cyc_nonneg (f := p.frame) (t := t)
    have hcl := cyc_lt p.frame t
    have hst := frameL_step (part := part) (winsOf_row p sched) hc0 winsOf_wok
    by_cases hlt : cyc p.frame t + 1 < frm p.frame
    · obtain ⟨e1, e2⟩ := cyc_add ht (by omega) hlt
      rw [e1, e2, hst]
      omega
    · obtain ⟨e1, e2⟩ := cyc_wrap ht (by omega) (show cyc p.frame t + 1 = frm p.frame by omega)
      have h2 : cyc p.frame t + 1 = p.frame := by omega
      rw [h2] at hst
      rw [e1, e2, frameL_zero winsOf_wok, Int.add_mul, Int.one_mul, Int.add_zero]
      omega
theorem grant_frame {p : Pln} {sched part t : Int} (hf : 1 ≤ p.frame) : grantS p sched part (t + p.frame) = grantS p sched part t + frameS p sched part p.frame ∧ atS p sched (t + p.frame) = atS p sched t := by
  have hfr : frm p.frame = p.frame := by unfold frm; rw [if_neg (by omega)]
  have h1 : cyc p.frame (t + p.frame) = cyc p.frame t := by unfold cyc; rw [hfr, Int.add_emod_right]
  have h2 : (t + p.frame) / frm p.frame = t / frm p.frame + 1 := by
    rw [hfr, Int.add_ediv_of_dvd_right (Int.dvd_refl _), Int.ediv_self (by omega)]
  unfold grantS atS
  rw [h1, h2, Int.add_mul, Int.one_mul]
  exact ⟨by omega, rfl⟩
theorem grant_zero {p : Pln} {sched part : Int} : grantS p sched part 0 = 0 := by
  have h1 : cyc p.frame 0 = 0 := Int.zero_emod _
  unfold grantS
  rw [h1, Int.zero_ediv, Int.zero_mul, frameS_eq, frameL_zero winsOf_wok]
  rfl
/-- Whose a cycle is, of a right plan. -/
theorem at_who {p : Pln} {sched t : Int} : atS p sched t = (-1, 0) ∨ (0 ≤ (atS p sched t).1 ∧ (atS p sched t).1 < p.parts.length ∧ ((atS p sched t).2 = 1 ∨ (atS p sched t).2 = 2)) := by
  unfold atS
  rcases at_cases (m := cyc p.frame t) (n := p.parts.length) (frame := p.frame) (l := winsOf p sched) (fun x hx => (winsOf_ok x hx).2) with h | ⟨x, _, _, h, h1, h2⟩
  · exact .inl h
  · rw [h]; exact .inr ⟨h1, h2, how_range _ _⟩
def sumP (g : Int → Int) : Nat → Int | 0 => 0 | k + 1 => sumP g k + g k
theorem sumP_ind (w : Int × Int) : ∀ k : Nat, sumP (ind w) k = if w.2 = 2 ∧ 0 ≤ w.1 ∧ w.1 < k then 1 else 0 := by
  intro k
  induction k with
  | zero => rw [if_neg (by omega)]; rfl
  | succ k ih =>
    show sumP (ind w) k + ind w k = _
    rw [ih]
    obtain ⟨a, b⟩ := w
    unfold ind
    simp only [Prod.mk.injEq]
    by_cases h1 : b = 2
    · by_cases h2 : a = k
      · rw [if_neg (by omega), if_pos ⟨h2, h1⟩, if_pos (by omega)]; rfl
      · by_cases h3 : 0 ≤ a ∧ a < k
        · rw [if_pos ⟨h1, h3⟩, if_neg (by omega), if_pos (by omega)]; rfl
        · rw [if_neg (by omega), if_neg (by omega), if_neg (by omega)]; rfl
    · rw [if_neg (by omega), if_neg (by omega), if_neg (by omega)]; rfl
theorem sumP_add (g h : Int → Int) : ∀ k, sumP (fun x => g x + h x) k = sumP g k + sumP h k := by
  intro k
  induction k with
  | zero => rfl
  | succ k ih =>
    show sumP (fun x => g x + h x) k + (g k + h k) = (sumP g k + g k) + (sumP h k + h k)
    omega
theorem sumP_congr {g h : Int → Int} (e : ∀ x, g x = h x) (k : Nat) : sumP g k = sumP h k := by rw [show g = h from funext e]
/-- A window's beginning. -/
theorem begins {p : Pln} {sched t : Int} (ht : 0 ≤ t) (h : startS p sched t = true) : ∃ a : Int, 0 ≤ a ∧ atS p sched t = (a, 1) ∧ atS p sched (t + 1) = (a, 1) ∧ atS p sched (t + 2) = (a, 2) := by
  unfold startS at h
  obtain ⟨x, hx, hb⟩ := List.any_eq_true.1 h
  unfold begB at hb
  have hb' : x.2.1 = cyc p.frame t := by simpa using hb
  have hne : winsOf p sched ≠ [] := fun e => by rw [e] at hx; cases hx
  obtain ⟨_, _, _, hfr⟩ := wins_frame hne
  have hw := (winsOf_ok x hx).2
  unfold WinOk at hw
  have e1 := (cyc_add (f := p.frame) (k := 1) ht (by omega) (by omega)).1
  have e2 := (cyc_add (f := p.frame) (k := 2) ht (by omega) (by omega)).1
  refine ⟨x.1, hw.1, ?_, ?_, ?_⟩
  · unfold atS
    rw [hit_at (winsOf_row p sched) x hx (by unfold hitB; simp; omega)]
    unfold howB; rw [if_pos (by omega)]
  · unfold atS
    rw [e1, hit_at (winsOf_row p sched) x hx (by unfold hitB; simp; omega)]
    unfold howB; rw [if_pos (by omega)]
  · unfold atS
    rw [e2, hit_at (winsOf_row p sched) x hx (by unfold hitB; simp; omega)]
    unfold howB; rw [if_neg (by omega)]
end Go.Proofs.Ytinhnecgmokfkaa
