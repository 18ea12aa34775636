/- Spans and holes of a room: plain facts. Conditions: none. -/
import Derived.Test.YtdfkfoffinchhaaLib0
namespace Go.Proofs.Ytdfkfoffinchhaa
set_option linter.unusedVariables false
set_option linter.unusedSimpArgs false
/-- A span: from where, how many, whose. -/
abbrev Sp := Int × Int × Int
/-- The spans of a room of so many bytes, from a place on, stand right. -/
def rightG (size : Int) : Int → List Sp → Prop
  | _, [] => True
  | a, s :: r => a ≤ s.1 ∧ 1 ≤ s.2.1 ∧ s.2.1 ≤ size ∧ s.1 ≤ size - s.2.1 ∧ rightG size (s.1 + s.2.1) r
/-- Where the last one ends. -/
def endG : Int → List Sp → Int
  | a, [] => a
  | _, s :: r => endG (s.1 + s.2.1) r
def hole (a : Int) (s : Sp) : List Sp := if a < s.1 then [(a, s.1 - a, 0)] else []
/-- The holes ahead of each. -/
def holesG : Int → List Sp → List Sp
  | _, [] => []
  | a, s :: r => hole a s ++ holesG (s.1 + s.2.1) r
def sumN (l : List Sp) : Int := (l.map fun s => s.2.1).sum
def RightP (size : Int) (l : List Sp) : Prop := rightG size 0 l ∧ 0 ≤ size
def holesS (size : Int) (l : List Sp) : List Sp := holesG 0 (l ++ [(size, 0, 0)])

theorem endG_snoc (a : Int) (l : List Sp) (s : Sp) : endG a (l ++ [s]) = s.1 + s.2.1 := by
  induction l generalizing a with
  | nil => rfl
  | cons x r ih => exact ih _
theorem holesG_snoc (a : Int) (l : List Sp) (s : Sp) : holesG a (l ++ [s]) = holesG a l ++ hole (endG a l) s := by
  induction l generalizing a with
  | nil => simp [holesG, endG]
  | cons x r ih => simp [holesG, endG, ih]
theorem holesG_append (a : Int) (l m : List Sp) : holesG a (l ++ m) = holesG a l ++ holesG (endG a l) m := by
  induction l generalizing a with
  | nil => rfl
  | cons x r ih => simp [holesG, endG, ih]
theorem endG_append (a : Int) (l m : List Sp) : endG a (l ++ m) = endG (endG a l) m := by
  induction l generalizing a with
  | nil => rfl
  | cons x r ih => simp [endG, ih]
theorem rightG_snoc {size a : Int} {l : List Sp} {s : Sp} : rightG size a (l ++ [s]) ↔ rightG size a l ∧ endG a l ≤ s.1 ∧ 1 ≤ s.2.1 ∧ s.2.1 ≤ size ∧ s.1 ≤ size - s.2.1 := by
  induction l generalizing a with
  | nil => simp [rightG, endG]
  | cons x r ih =>
    simp only [List.cons_append, rightG, ih, endG]
    constructor
    · rintro ⟨h1, h2, h3, h4, h5, h6⟩; exact ⟨⟨h1, h2, h3, h4, h5⟩, h6⟩
    · rintro ⟨⟨h1, h2, h3, h4, h5⟩, h6⟩; exact ⟨h1, h2, h3, h4, h5, h6⟩
theorem rightG_append {size a : Int} {l m : List Sp} : rightG size a (l ++ m) ↔ rightG size a l ∧ rightG size (endG a l) m := by
  induction l generalizing a with
  | nil => simp [rightG, endG]
  | cons x r ih =>
    simp only [List.cons_append, rightG, ih, endG]
    constructor
    · rintro ⟨h1, h2, h3, h4, h5, h6⟩; exact ⟨⟨h1, h2, h3, h4, h5⟩, h6⟩
    · rintro ⟨⟨h1, h2, h3, h4, h5⟩, h6⟩; exact ⟨h1, h2, h3, h4, h5, h6⟩
theorem rightG_take {size a : Int} {l : List Sp} (h : rightG size a l) (k : Nat) : rightG size a (l.take k) := by
  rw [← List.take_append_drop k l, rightG_append] at h; exact h.1
theorem rightG_end {size a : Int} {l : List Sp} (h : rightG size a l) (ha : a ≤ size) : a ≤ endG a l ∧ endG a l ≤ size := by
  induction l generalizing a with
  | nil => simp only [endG]; omega
  | cons x r ih =>
    obtain ⟨h1, h2, h3, h4, h5⟩ := h
    have := ih h5 (by omega)
    simp only [endG]; omega
theorem rightG_mem {size a : Int} {l : List Sp} (h : rightG size a l) {s : Sp} (hs : s ∈ l) : a ≤ s.1 ∧ 1 ≤ s.2.1 ∧ s.1 + s.2.1 ≤ endG a l := by
  induction l generalizing a with
  | nil => cases hs
  | cons x r ih =>
    obtain ⟨h1, h2, h3, h4, h5⟩ := h
    rcases List.mem_cons.1 hs with rfl | hs
    · refine ⟨h1, h2, ?_⟩
      exact (rightG_end h5 (by omega)).1
    · have := ih h5 hs
      simp only [endG]; omega
theorem rightG_le {size a b : Int} {l : List Sp} (h : rightG size a l) (hb : b ≤ a) : rightG size b l := by
  cases l with
  | nil => trivial
  | cons x r => obtain ⟨h1, h⟩ := h; exact ⟨by omega, h⟩
theorem rightG_filter {size a : Int} {l : List Sp} (h : rightG size a l) (q : Sp → Bool) : rightG size a (l.filter q) := by
  induction l generalizing a with
  | nil => trivial
  | cons x r ih =>
    obtain ⟨h1, h2, h3, h4, h5⟩ := h
    rw [List.filter_cons]
    split
    · exact ⟨h1, h2, h3, h4, ih h5⟩
    · exact rightG_le (ih h5) (by omega)
theorem rightG_erase {size a : Int} {l : List Sp} (h : rightG size a l) (i : Nat) : rightG size a (l.eraseIdx i) := by
  induction l generalizing a i with
  | nil => trivial
  | cons x r ih =>
    obtain ⟨h1, h2, h3, h4, h5⟩ := h
    cases i with
    | zero => exact rightG_le h5 (by omega)
    | succ i => exact ⟨h1, h2, h3, h4, ih h5 i⟩
theorem sumN_cons (s : Sp) (l : List Sp) : sumN (s :: l) = s.2.1 + sumN l := by simp [sumN]
theorem sumN_append (l m : List Sp) : sumN (l ++ m) = sumN l + sumN m := by simp [sumN, List.sum_append]
theorem sumN_nil : sumN [] = 0 := rfl
theorem sum_hole {a : Int} {s : Sp} (h : a ≤ s.1) : sumN (hole a s) = s.1 - a := by
  unfold hole
  split
  · simp [sumN]
  · rw [sumN_nil]; omega
/-- Holes and spans together are all up to the end. -/
theorem sum_holes {size a : Int} {l : List Sp} (h : rightG size a l) : sumN (holesG a l) + sumN l = endG a l - a := by
  induction l generalizing a with
  | nil => simp [holesG, endG, sumN]
  | cons x r ih =>
    obtain ⟨h1, h2, h3, h4, h5⟩ := h
    have := ih h5
    rw [holesG, sumN_append, sumN_cons, sum_hole h1, endG]
    omega
theorem sum_all {size : Int} {l : List Sp} (h : RightP size l) : sumN (holesS size l) = size - sumN l := by
  have h1 := sum_holes h.1
  have h2 := rightG_end h.1 h.2
  rw [holesS, holesG_snoc, sumN_append, sum_hole h2.2]
  omega
theorem sumN_nonneg {size a : Int} {l : List Sp} (h : rightG size a l) : 0 ≤ sumN l := by
  induction l generalizing a with
  | nil => simp [sumN]
  | cons x r ih =>
    obtain ⟨h1, h2, h3, h4, h5⟩ := h
    have := ih h5
    rw [sumN_cons]; omega
theorem sumN_le {size a : Int} {l : List Sp} (h : rightG size a l) : sumN l ≤ endG a l - a := by
  induction l generalizing a with
  | nil => simp [sumN, endG]
  | cons x r ih =>
    obtain ⟨h1, h2, h3, h4, h5⟩ := h
    have := ih h5
    rw [sumN_cons, endG]; omega
theorem hole_mem {a : Int} {s x : Sp} (h : x ∈ hole a s) : x.1 = a ∧ 1 ≤ x.2.1 ∧ x.1 + x.2.1 = s.1 ∧ x.2.2 = 0 := by
  unfold hole at h
  split at h
  · simp at h; subst h; simp; omega
  · cases h
/-- A hole lies from the place on, ahead of the end. -/
theorem holes_mem {size a : Int} {l : List Sp} (h : rightG size a l) (ha : a ≤ size) {x : Sp} (hx : x ∈ holesG a l) : a ≤ x.1 ∧ 1 ≤ x.2.1 ∧ x.1 + x.2.1 ≤ endG a l := by
  induction l generalizing a with
  | nil => cases hx
  | cons s r ih =>
    obtain ⟨h1, h2, h3, h4, h5⟩ := h
    have he := rightG_end h5 (by omega)
    rcases List.mem_append.1 hx with hx | hx
    · have := hole_mem hx
      simp only [endG]; omega
    · have := ih h5 (by omega) hx
      simp only [endG]; omega
/-- A hole overlaps no span. -/
theorem holes_apart {size a : Int} {l : List Sp} (h : rightG size a l) (ha : a ≤ size) {x s : Sp} (hx : x ∈ holesG a l) (hs : s ∈ l) : s.1 + s.2.1 ≤ x.1 ∨ x.1 + x.2.1 ≤ s.1 := by
  induction l generalizing a with
  | nil => cases hx
  | cons y r ih =>
    obtain ⟨h1, h2, h3, h4, h5⟩ := h
    rcases List.mem_append.1 hx with hx | hx
    · have := hole_mem hx
      rcases List.mem_cons.1 hs with rfl | hs
      · right; omega
      · right
        have := (rightG_mem h5 hs).1
        omega
    · rcases List.mem_cons.1 hs with rfl | hs
      · left
        exact (holes_mem h5 (by omega) hx).1
      · exact ih h5 (by omega) hx hs
/-- Each hole ends ahead of the next one. -/
theorem holes_gap {size a : Int} {l : List Sp} (h : rightG size a l) (ha : a ≤ size) {i : Nat} {x y : Sp} (hx : (holesG a l)[i]? = some x) (hy : (holesG a l)[i + 1]? = some y) : x.1 + x.2.1 < y.1 := by
  induction l generalizing a i with
  | nil => simp [holesG] at hx
  | cons s r ih =>
    obtain ⟨h1, h2, h3, h4, h5⟩ := h
    rw [holesG] at hx hy
    by_cases hc : a < s.1
    · have e : hole a s = [(a, s.1 - a, 0)] := by unfold hole; rw [if_pos hc]
      rw [e] at hx hy
      cases i with
      | zero =>
        simp at hx hy
        subst hx
        have := (holes_mem h5 (by omega) (List.mem_of_getElem? (i := 0) (by simpa using hy))).1
        simp; omega
      | succ i =>
        exact ih h5 (by omega) (i := i) (by simpa using hx) (by simpa using hy)
    · have e : hole a s = [] := by unfold hole; rw [if_neg hc]
      rw [e] at hx hy
      exact ih h5 (by omega) (by simpa using hx) (by simpa using hy)
theorem holes_len (a : Int) (l : List Sp) : (holesG a l).length ≤ l.length := by
  induction l generalizing a with
  | nil => simp [holesG]
  | cons s r ih =>
    have := ih (s.1 + s.2.1)
    rw [holesG, List.length_append, List.length_cons]
    have : (hole a s).length ≤ 1 := by unfold hole; split <;> simp
    omega
theorem rightG_nil (size a : Int) : rightG size a [] = True := rfl
/-- Where a hole stands between the spans. -/
theorem holes_split {size a : Int} {l : List Sp} (h : rightG size a l) (ha : a ≤ size) {x : Sp} (hx : x ∈ holesG a (l ++ [(size, 0, 0)])) :
    ∃ l1 l2, l = l1 ++ l2 ∧ x.1 = endG a l1 ∧ 1 ≤ x.2.1 ∧ x.1 + x.2.1 ≤ size ∧ rightG size (x.1 + x.2.1) l2 ∧ (∀ s ∈ l1, s.1 < x.1) ∧ (∀ s ∈ l2, x.1 < s.1) ∧ x.2.2 = 0 := by
  induction l generalizing a with
  | nil =>
    simp only [List.nil_append, holesG, List.append_nil] at hx
    have := hole_mem hx
    exact ⟨[], [], rfl, by simp only [endG]; omega, by omega, by simp only at this; omega, trivial, by simp, by simp, this.2.2.2⟩
  | cons s r ih =>
    obtain ⟨h1, h2, h3, h4, h5⟩ := h
    rw [List.cons_append, holesG] at hx
    rcases List.mem_append.1 hx with hx | hx
    · have hm := hole_mem hx
      refine ⟨[], s :: r, rfl, by simp only [endG]; omega, by omega, by omega, ⟨by omega, h2, h3, h4, h5⟩, by simp, ?_, hm.2.2.2⟩
      intro t ht
      rcases List.mem_cons.1 ht with rfl | ht
      · omega
      · have := (rightG_mem h5 ht).1
        omega
    · obtain ⟨l1, l2, e, g1, g2, g3, g4, g5, g6, g7⟩ := ih h5 (by omega) hx
      refine ⟨s :: l1, l2, by rw [e]; rfl, g1, g2, g3, g4, ?_, g6, g7⟩
      intro t ht
      rcases List.mem_cons.1 ht with rfl | ht
      · have : rightG size (t.1 + t.2.1) l1 := by rw [e, rightG_append] at h5; exact h5.1
        have := (rightG_end this (by omega)).1
        omega
      · exact g5 t ht

/-- A span is put in. -/
def ins (l : List Sp) (s : Sp) : List Sp := l.takeWhile (fun x => decide (x.1 < s.1)) ++ s :: l.dropWhile (fun x => decide (x.1 < s.1))
theorem tw_split {α : Type} {p : α → Bool} {l1 l2 : List α} (h1 : ∀ x ∈ l1, p x = true) (h2 : ∀ x ∈ l2, p x = false) : (l1 ++ l2).takeWhile p = l1 ∧ (l1 ++ l2).dropWhile p = l2 := by
  induction l1 with
  | nil =>
    cases l2 with
    | nil => simp
    | cons y r => simp [h2 y (by simp)]
  | cons x r ih =>
    have := ih (fun y hy => h1 y (by simp [hy]))
    simp only [List.cons_append]
    rw [List.takeWhile_cons, List.dropWhile_cons, if_pos (h1 x (by simp)), if_pos (h1 x (by simp)), this.1, this.2]
    exact ⟨rfl, rfl⟩
theorem ins_split {l1 l2 : List Sp} {s : Sp} (h1 : ∀ x ∈ l1, x.1 < s.1) (h2 : ∀ x ∈ l2, s.1 < x.1) : ins (l1 ++ l2) s = l1 ++ s :: l2 := by
  have := tw_split (p := fun x : Sp => decide (x.1 < s.1)) (l1 := l1) (l2 := l2) (fun x hx => by simpa using h1 x hx) (fun x hx => by have := h2 x hx; simp; omega)
  unfold ins
  rw [this.1, this.2]
/-- What is put into a hole leaves the heap right. -/
theorem ins_facts {size : Int} {l : List Sp} (h : RightP size l) {x : Sp} (hx : x ∈ holesS size l) {n who : Int} (hn : 1 ≤ n) (hnx : n ≤ x.2.1) :
    ∃ l1 l2, l = l1 ++ l2 ∧ ins l (x.1, n, who) = l1 ++ (x.1, n, who) :: l2 ∧ RightP size (l1 ++ (x.1, n, who) :: l2) ∧ 0 ≤ x.1 ∧ x.1 + x.2.1 ≤ size ∧ (∀ s ∈ l1, s.1 < x.1) ∧ (∀ s ∈ l2, x.1 < s.1) ∧ (∀ s ∈ l, s.1 + s.2.1 ≤ x.1 ∨ x.1 + x.2.1 ≤ s.1) := by
  obtain ⟨l1, l2, e, g1, g2, g3, g4, g5, g6, g7⟩ := holes_split h.1 h.2 hx
  have hl1 : rightG size 0 l1 := by have := h.1; rw [e, rightG_append] at this; exact this.1
  have he := rightG_end hl1 h.2
  refine ⟨l1, l2, e, by rw [e]; exact ins_split g5 g6, ⟨?_, h.2⟩, by omega, g3, g5, g6, ?_⟩
  · rw [rightG_append]
    refine ⟨hl1, by dsimp only; omega, hn, by dsimp only; omega, by dsimp only; omega, rightG_le g4 (by dsimp only; omega)⟩
  · intro s hs
    rw [e] at hs
    rcases List.mem_append.1 hs with hs | hs
    · left
      have := (rightG_mem hl1 hs).2.2
      omega
    · right
      exact (rightG_mem g4 hs).1
/-- Where the one that was put in stands. -/
theorem ins_erase {l1 l2 : List Sp} {s : Sp} : (l1 ++ s :: l2).eraseIdx l1.length = l1 ++ l2 := by
  rw [List.eraseIdx_append_of_length_le (Nat.le_refl _)]
  simp
end Go.Proofs.Ytdfkfoffinchhaa
