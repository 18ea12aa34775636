/- What Take, Free, Drop answer: plain facts. Conditions: none. -/
import Derived.Test.YtdfkfoffinchhaaHeapHolesLaw
namespace Go.Proofs.Ytdfkfoffinchhaa
open Go Go.RowKit Go.Tm
set_option linter.unusedVariables false
set_option linter.unusedSimpArgs false

/-- What Take answers, case by case. -/
theorem take_cases (size : Int) (l : List Sp) (n who : Int) :
    ((n < 1 ∨ ¬ RightP size l) ∧ takeS size l n who = (l, 0, 1)) ∨ (1 ≤ n ∧ RightP size l ∧ (∀ x ∈ holesS size l, x.2.1 < n) ∧ takeS size l n who = (l, 0, 5)) ∨
    (1 ≤ n ∧ RightP size l ∧ ∃ l1 l2 p q u, l = l1 ++ l2 ∧ (p, q, u) ∈ holesS size l ∧ n ≤ q ∧ takeS size l n who = (l1 ++ (p, n, who) :: l2, p, 0) ∧ RightP size (l1 ++ (p, n, who) :: l2) ∧ 0 ≤ p ∧ p + q ≤ size ∧ (∀ s ∈ l1, s.1 < p) ∧ (∀ s ∈ l2, p < s.1) ∧
      (∀ s ∈ l, s.1 + s.2.1 ≤ p ∨ p + q ≤ s.1) ∧ ∃ i : Nat, (holesS size l)[i]? = some (p, q, u) ∧ ∀ (j : Nat) (x : Sp), j < i → (holesS size l)[j]? = some x → x.2.1 < n) := by
  by_cases h : n < 1 ∨ ¬ RightP size l
  · exact .inl ⟨h, takeS_arg h⟩
  simp only [not_or, Classical.not_not] at h
  obtain ⟨hn, hr⟩ := h
  cases hf : (holesS size l).find? (fitB n) with
  | none =>
    refine .inr (.inl ⟨by omega, hr, ?_, takeS_none hn hr hf⟩)
    intro x hx
    have := List.find?_eq_none.1 hf x hx
    simp [fitB] at this
    omega
  | some x =>
    have hx := List.mem_of_find?_eq_some hf
    have hq := List.find?_some hf
    simp only [fitB, decide_eq_true_eq] at hq
    obtain ⟨l1, l2, e, h1, h2, h3, h4, h5, h6, h7⟩ := ins_facts (who := who) hr hx (by omega) hq
    obtain ⟨p, q, u⟩ := x
    refine .inr (.inr ⟨by omega, hr, l1, l2, p, q, u, e, hx, hq, ?_, h2, h3, h4, h5, h6, h7, ?_⟩)
    · rw [takeS_some hn hr hf, h1]
    · obtain ⟨_, i, hi, he, hno⟩ := List.find?_eq_some_iff_getElem.1 hf
      refine ⟨i, by rw [List.getElem?_eq_getElem hi, he], fun j y hj hy => ?_⟩
      have := hno j hj
      have hlt := (List.getElem?_eq_some_iff.1 hy).1
      rw [List.getElem?_eq_getElem hlt] at hy
      rw [Option.some.inj hy] at this
      simp [fitB] at this
      omega
theorem free_right {size : Int} {l : List Sp} (h : RightP size l) (a : Int) : RightP size (freeS l a).1 := by
  rcases free_cases l a with ⟨_, _, e⟩ | ⟨i, x, _, _, _, _, e⟩
  · rw [e]; exact h
  · rw [e]; exact ⟨rightG_erase h.1 i, h.2⟩
theorem free_wf {l : List Sp} (h : ∀ x ∈ l, SpWf x) (a : Int) : ∀ x ∈ (freeS l a).1, SpWf x := by
  rcases free_cases l a with ⟨_, _, e⟩ | ⟨i, x, _, _, _, _, e⟩
  · rw [e]; exact h
  · rw [e]; exact fun x hx => h x (List.mem_of_mem_eraseIdx hx)
theorem free_le (l : List Sp) (a : Int) : (freeS l a).1.length ≤ l.length := by
  rcases free_cases l a with ⟨_, _, e⟩ | ⟨i, x, _, _, _, _, e⟩
  · rw [e]; exact Nat.le_refl _
  · rw [e]; exact List.length_eraseIdx_le l i
theorem drop_right {size : Int} {l : List Sp} (h : RightP size l) (who : Int) : RightP size (dropS l who) := ⟨rightG_filter h.1 _, h.2⟩
theorem drop_wf {l : List Sp} (h : ∀ x ∈ l, SpWf x) (who : Int) : ∀ x ∈ dropS l who, SpWf x := fun x hx => h x (List.mem_filter.1 hx).1
theorem wf_of {n : Int} (h : -9223372036854775808 ≤ n ∧ n ≤ 9223372036854775807) : (Lit.int .i64 n).wf = true := by
  simpa [Lit.wf, IntKind.min, IntKind.max, IntKind.bits, IntKind.signed] using h
theorem take_wf {size : Int} {l : List Sp} {n who : Int} (h : ∀ x ∈ l, SpWf x) (hs : (Lit.int .i64 size).wf = true) (hn : (Lit.int .i64 n).wf = true) (hu : (Lit.int .i64 who).wf = true) : ∀ x ∈ (takeS size l n who).1, SpWf x := by
  have hsz := size_range hs
  rcases take_cases size l n who with ⟨_, e⟩ | ⟨_, _, _, e⟩ | ⟨h1, h2, l1, l2, p, q, u, e1, h3, h4, e, h5, h6, h7, _⟩
  · rw [e]; exact h
  · rw [e]; exact h
  · rw [e]
    intro x hx
    rcases List.mem_append.1 hx with hx | hx
    · exact h x (by rw [e1]; exact List.mem_append_left _ hx)
    · rcases List.mem_cons.1 hx with rfl | hx
      · exact ⟨wf_of (by dsimp only; omega), hn, hu⟩
      · exact h x (by rw [e1]; exact List.mem_append_right _ hx)
theorem take_le (size : Int) (l : List Sp) (n who : Int) : (takeS size l n who).1.length ≤ l.length + 1 := by
  rcases take_cases size l n who with ⟨_, e⟩ | ⟨_, _, _, e⟩ | ⟨h1, h2, l1, l2, p, q, u, e1, h3, h4, e, h5, h6, h7, _⟩
  · rw [e]; simp
  · rw [e]; simp
  · rw [e, e1]; simp; omega
theorem take_right {size : Int} {l : List Sp} (h : RightP size l) (n who : Int) : RightP size (takeS size l n who).1 := by
  rcases take_cases size l n who with ⟨_, e⟩ | ⟨_, _, _, e⟩ | ⟨h1, h2, l1, l2, p, q, u, e1, h3, h4, e, h5, h6, h7, _⟩
  · rw [e]; exact h
  · rw [e]; exact h
  · rw [e]; exact h5
end Go.Proofs.Ytdfkfoffinchhaa
