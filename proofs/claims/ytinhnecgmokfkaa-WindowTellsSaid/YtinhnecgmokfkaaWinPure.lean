/- Rows of windows: whose a cycle is, how many cycles are granted: plain facts. Conditions: none. -/
import Derived.Test.YtinhnecgmokfkaaWinFns
namespace Go.Proofs.Ytinhnecgmokfkaa
open Go Go.RowKit Go.Tm
set_option linter.unusedVariables false
set_option linter.unusedSimpArgs false

def hitB (m : Int) (x : Wn) : Bool := decide (x.2.1 ≤ m ∧ m < x.2.1 + x.2.2)
def howB (m : Int) (x : Wn) : Int := if m - x.2.1 < 2 then 1 else 2
/-- Whose cycle m is, and how. -/
def atL (l : List Wn) (m : Int) : Int × Int := match l.find? (hitB m) with | none => (-1, 0) | some x => (x.1, howB m x)
def ownI (part m : Int) (x : Wn) : Int := if x.1 = part ∧ x.2.1 + 2 ≤ m ∧ m < x.2.1 + x.2.2 then 1 else 0
def frameL (l : List Wn) (part m : Int) : Int := (l.map (winN part m)).sum
theorem winN_succ {part m : Int} {x : Wn} (hm : 0 ≤ m) (h : WOk x) : winN part (m + 1) x = winN part m x + ownI part m x := by
  unfold WOk at h
  unfold winN ownI
  by_cases hp : x.1 = part
  · rw [if_pos hp, if_pos hp]
    split <;> omega
  · rw [if_neg hp, if_neg hp, if_neg (fun h => hp h.1)]
    rfl
theorem winN_zero {part : Int} {x : Wn} (h : WOk x) : winN part 0 x = 0 := by
  unfold WOk at h
  unfold winN
  split <;> omega
theorem frameL_succ {l : List Wn} {part m : Int} (hm : 0 ≤ m) (h : ∀ x ∈ l, WOk x) : frameL l part (m + 1) = frameL l part m + (l.map (ownI part m)).sum := by
  unfold frameL
  induction l with
  | nil => simp
  | cons x r ih =>
    have h1 := winN_succ (part := part) hm (h x (by simp))
    have h2 := ih fun y hy => h y (by simp [hy])
    simp only [List.map_cons, List.sum_cons]
    omega
theorem frameL_zero {l : List Wn} {part : Int} (h : ∀ x ∈ l, WOk x) : frameL l part 0 = 0 := by
  unfold frameL
  induction l with
  | nil => simp
  | cons x r ih =>
    have h1 := winN_zero (part := part) (h x (by simp))
    have h2 := ih fun y hy => h y (by simp [hy])
    simp only [List.map_cons, List.sum_cons]
    omega
theorem row_behind {n : Nat} {frame : Int} : ∀ {l : List Wn} {b m : Int}, RowOk n frame b l → m < b → ∀ x ∈ l, m < x.2.1 := by
  intro l
  induction l with
  | nil => intro b m _ _ x hx; cases hx
  | cons y r ih =>
    intro b m h hm x hx
    obtain ⟨h1, h2, h3⟩ := h
    rcases List.mem_cons.1 hx with rfl | hx
    · omega
    · refine ih h3 ?_ x hx
      unfold WinOk at h1
      omega
theorem own_none {l : List Wn} {part m : Int} (h : ∀ x ∈ l, m < x.2.1) : (l.map (ownI part m)).sum = 0 ∧ l.find? (hitB m) = none := by
  induction l with
  | nil => simp
  | cons x r ih =>
    have h1 := h x (by simp)
    have h2 := ih fun y hy => h y (by simp [hy])
    have h3 : ownI part m x = 0 := by unfold ownI; rw [if_neg (by omega)]
    have h4 : hitB m x = false := by unfold hitB; simp; omega
    simp only [List.map_cons, List.sum_cons, List.find?_cons, h4]
    exact ⟨by omega, h2.2⟩
/-- One window at most has the cycle. -/
theorem own_at {n : Nat} {frame part m : Int} : ∀ {l : List Wn} {b : Int}, RowOk n frame b l → (l.map (ownI part m)).sum = if atL l m = (part, 2) then 1 else 0 := by
  intro l
  induction l with
  | nil => intro b _; simp [atL]
  | cons x r ih =>
    intro b h
    obtain ⟨h1, h2, h3⟩ := h
    have h1' := h1
    unfold WinOk at h1'
    by_cases hh : x.2.1 ≤ m ∧ m < x.2.1 + x.2.2
    · have h4 : hitB m x = true := by unfold hitB; simpa using hh
      obtain ⟨h5, _⟩ := own_none (part := part) (row_behind h3 hh.2)
      have h6 : atL (x :: r) m = (x.1, howB m x) := by unfold atL; rw [List.find?_cons, h4]
      rw [h6, List.map_cons, List.sum_cons, h5]
      unfold ownI howB
      by_cases hp : x.1 = part
      · by_cases h7 : m - x.2.1 < 2
        · rw [if_neg (by omega), if_pos h7, if_neg (by simp)]; rfl
        · rw [if_pos (by omega), if_neg h7, if_pos (by rw [hp])]; rfl
      · rw [if_neg (fun h => hp h.1), if_neg (by simp [hp])]; rfl
    · have h4 : hitB m x = false := by unfold hitB; simpa using hh
      have h6 : atL (x :: r) m = atL r m := by unfold atL; rw [List.find?_cons, h4]
      rw [h6, List.map_cons, List.sum_cons, ih h3]
      have : ownI part m x = 0 := by unfold ownI; rw [if_neg (by omega)]
      omega
theorem frameL_step {n : Nat} {frame : Int} {l : List Wn} {b part m : Int} (hr : RowOk n frame b l) (hm : 0 ≤ m) (h : ∀ x ∈ l, WOk x) : frameL l part (m + 1) = frameL l part m + if atL l m = (part, 2) then 1 else 0 := by
  rw [frameL_succ hm h, own_at hr]
theorem frameL_range {n : Nat} {frame : Int} {l : List Wn} {b part : Int} (hr : RowOk n frame b l) (h : ∀ x ∈ l, WOk x) : ∀ m : Nat, 0 ≤ frameL l part m ∧ frameL l part m ≤ m := by
  intro m
  induction m with
  | zero => have := frameL_zero (part := part) h; simp only [Int.natCast_zero] at *; omega
  | succ m ih =>
    have := frameL_step (part := part) hr (show (0 : Int) ≤ m by omega) h
    rw [show ((m + 1 : Nat) : Int) = (m : Int) + 1 by omega, this]
    split <;> omega
theorem winN_neg {part n : Int} {x : Wn} (hn : n ≤ 0) (h : WOk x) : winN part n x = 0 := by
  unfold WOk at h
  unfold winN
  split <;> omega
theorem frameL_neg {l : List Wn} {part n : Int} (hn : n ≤ 0) (h : ∀ x ∈ l, WOk x) : frameL l part n = 0 := by
  unfold frameL
  induction l with
  | nil => simp
  | cons x r ih =>
    have h1 := winN_neg (part := part) hn (h x (by simp))
    have h2 := ih fun y hy => h y (by simp [hy])
    simp only [List.map_cons, List.sum_cons]
    omega
theorem frameL_big {k : Nat} {frame : Int} {l : List Wn} {part n : Int} (hn : frame ≤ n) (h : ∀ x ∈ l, WinOk k frame x) : frameL l part n = frameL l part frame := by
  unfold frameL
  congr 1
  apply List.map_congr_left
  intro x hx
  have := h x hx
  unfold WinOk at this
  unfold winN
  split <;> omega
theorem frameL_mono {n : Nat} {frame : Int} {l : List Wn} {b part : Int} (hr : RowOk n frame b l) (h : ∀ x ∈ l, WOk x) {i j : Nat} (hij : i ≤ j) : frameL l part i ≤ frameL l part j := by
  induction j with
  | zero => obtain rfl : i = 0 := by omega
            exact Int.le_refl _
  | succ j ih =>
    rcases Nat.lt_or_ge i (j + 1) with h' | h'
    · have := frameL_step (part := part) hr (show (0 : Int) ≤ j by omega) h
      have := ih (by omega)
      rw [show ((j + 1 : Nat) : Int) = (j : Int) + 1 by omega]
      split at * <;> omega
    · obtain rfl : i = j + 1 := by omega
      exact Int.le_refl _

/-! ### Of a plan -/
theorem winsOf_row (p : Pln) (sched : Int) : RowOk p.parts.length p.frame 0 (winsOf p sched) := by
  by_cases h : PlanOk p ∧ 0 ≤ sched ∧ sched < p.wins.length
  · have hl := List.getElem?_eq_getElem (l := p.wins) (show sched.toNat < p.wins.length by omega)
    rw [winsOf_at h.1 h.2.1 h.2.2 hl]
    exact h.1.rows _ (List.getElem_mem _)
  · rw [winsOf_none h]; trivial
noncomputable def atS (p : Pln) (sched t : Int) : Int × Int := atL (winsOf p sched) (cyc p.frame t)
theorem frameS_eq (p : Pln) (sched part n : Int) : frameS p sched part n = frameL (winsOf p sched) part n := rfl
theorem frameS_nonneg (p : Pln) (sched part n : Int) : 0 ≤ frameS p sched part n := by
  rw [frameS_eq]
  by_cases h : n ≤ 0
  · rw [frameL_neg h winsOf_wok]; omega
  · have := (frameL_range (part := part) (winsOf_row p sched) winsOf_wok n.toNat).1
    rwa [show ((n.toNat : Nat) : Int) = n by omega] at this
theorem frameS_le {p : Pln} {sched part n : Int} (h : 0 ≤ n) : frameS p sched part n ≤ n := by
  rw [frameS_eq]
  have := (frameL_range (part := part) (winsOf_row p sched) winsOf_wok n.toNat).2
  rwa [show ((n.toNat : Nat) : Int) = n by omega] at this
theorem frameS_whole (p : Pln) (sched part : Int) : frameS p sched part p.frame ≤ frm p.frame := by
  by_cases h : p.frame < 1
  · rw [frameS_eq, frameL_neg (by omega) winsOf_wok]; have := frm_pos p.frame; omega
  · have := frameS_le (p := p) (sched := sched) (part := part) (show 0 ≤ p.frame by omega)
    unfold frm; rw [if_neg h]; exact this
/-- How many cycles were granted ahead of t. -/
noncomputable def grantS (p : Pln) (sched part t : Int) : Int := (t / frm p.frame) * frameS p sched part p.frame + frameS p sched part (cyc p.frame t)
theorem cyc_nonneg {f t : Int} : 0 ≤ cyc f t := Int.emod_nonneg t (by have := frm_pos f; omega)
theorem grant_parts {p : Pln} {sched part t : Int} (ht : 0 ≤ t) :
    0 ≤ t / frm p.frame ∧ 0 ≤ (t / frm p.frame) * frameS p sched part p.frame ∧ (t / frm p.frame) * frameS p sched part p.frame + frameS p sched part (cyc p.frame t) ≤ t := by
  have h1 := frm_pos p.frame
  have h2 : 0 ≤ t / frm p.frame := Int.ediv_nonneg ht (by omega)
  have h3 := frameS_nonneg p sched part p.frame
  have h4 := frameS_whole p sched part
  have h5 := frameS_le (p := p) (sched := sched) (part := part) (cyc_nonneg (f := p.frame) (t := t))
  have h6 := Int.mul_le_mul_of_nonneg_left h4 h2
  have h7 := Int.mul_nonneg h2 h3
  have h8 : frm p.frame * (t / frm p.frame) + t % frm p.frame = t := Int.mul_ediv_add_emod t (frm p.frame)
  rw [Int.mul_comm] at h8
  unfold cyc at *
  refine ⟨h2, h7, ?_⟩
  omega
theorem grant_range {p : Pln} {sched part t : Int} (ht : 0 ≤ t) : 0 ≤ grantS p sched part t ∧ grantS p sched part t ≤ t := by
  obtain ⟨h1, h2, h3⟩ := grant_parts (p := p) (sched := sched) (part := part) ht
  have := frameS_nonneg p sched part (cyc p.frame t)
  unfold grantS
  omega
end Go.Proofs.Ytinhnecgmokfkaa
