/- A slice that came in as an argument, as Lib2 reads slices. Conditions: none. -/
import Derived.Test.YtmcaeahjnhkbcaaLib1
import Derived.Test.YtmcaeahjnhkbcaaLib2
namespace Go.Tm
open Go Go.ChangeShapes Go.WideShapes Go.ChangeAt Go.RowKit
set_option linter.unusedVariables false
set_option linter.unusedSimpArgs false

section
variable {P : Program} {W : World} {t e : TypeId} {k : Nat} {ag : Bool} {v : Value}

theorem sl_of_shaped (T : Ty P e k ag) (hk : ag = false → k = 1) (hone : ∀ g es, Shaped P W g e es → ∀ c ∈ es, c.oneCell' = true) {f : Nat}
    (ht : P.underlying t = some (.slice e)) (h : Shaped P W f t [v]) :
    ∃ xs, Sl W ag k v xs ∧ (∀ x ∈ xs, ∃ g, Shaped P W g e x.cells.toList) ∧ xs.length * P.bytesOf e ≤ reachBytes := by
  classical
  obtain ⟨a, len, cap, hv, h2, h3, h4, h5⟩ := shaped_slice ht h
  obtain rfl : v = .slice a len cap := by simpa using hv
  have hlb : len * P.bytesOf e ≤ reachBytes := Nat.le_trans (Nat.mul_le_mul_right _ h2) h4
  rcases h5 with ⟨rfl, rfl, rfl⟩ | ⟨x, g, rfl, h5⟩
  · exact ⟨[], ⟨by simp, none, 0, rfl, Nat.le_refl _, by simp, .inl rfl⟩, by simp, by simp⟩
  rw [T.cells] at h5
  let F : Nat → List Value := fun i => if h : i < cap then Classical.choose (h5 i h) else []
  have hF : ∀ i, i < cap → W.cells? 0 (x.add (i * k)) k = some (F i) ∧ Shaped P W g e (F i) := fun i hi => by
    have := Classical.choose_spec (h5 i hi)
    simp only [F, dif_pos hi]
    exact this
  have hlen : ∀ i, i < cap → (F i).length = k := fun i hi => (World.cells?_some (hF i hi).1).2.1
  let X : Nat → Value := fun i => if ag = true then .agg (F i).toArray else (F i).headD undef
  have hX : ∀ i, i < cap → Val ag k (X i) ∧ (X i).cells.toList = F i := fun i hi => by
    have h1 := hone g _ (hF i hi).2
    have hl := hlen i hi
    cases ag with
    | true =>
      refine ⟨?_, rfl⟩
      unfold Val
      exact ⟨_, rfl, by simpa using hl, by simpa using h1⟩
    | false =>
      obtain rfl := hk rfl
      obtain ⟨c, hc⟩ := List.length_eq_one_iff.1 hl
      have hc1 : c.oneCell' = true := h1 c (by rw [hc]; simp)
      have hXc : X i = c := by simp [X, hc]
      rw [hXc, hc]
      refine ⟨⟨hc1, rfl⟩, ?_⟩
      have : c.cells = #[c] := by cases c <;> first | rfl | simp [Value.oneCell'] at hc1
      rw [this]
  refine ⟨(List.range len).map X, ⟨?_, ?_⟩, ?_, by simpa using hlb⟩
  · intro y hy
    obtain ⟨i, hi, rfl⟩ := List.mem_map.1 hy
    exact (hX i (by have := List.mem_range.1 hi; omega)).1
  · refine ⟨some x, cap, by simp, by simpa using h2, h3, ?_⟩
    by_cases hn : len = 0
    · subst hn; exact .inl (by simp)
    right
    have h0 := hF 0 (by omega)
    have hx0 : x.add (0 * k) = x := by simp [Addr.add]
    rw [hx0] at h0
    have hblk := World.cells?_block h0.1 T.pos
    have hspot : x.spot = none := by
      have hc := (World.cells?_some h0.1).2.2 0 T.pos
      have hx : x.add 0 = x := by simp [Addr.add]
      rw [hx] at hc
      have hl := hlen 0 (by omega)
      cases hs : x.spot with
      | none => rfl
      | some s =>
        exfalso
        have hne : (F 0)[0]? ≠ none := by
          have : 0 < (F 0).length := by rw [hl]; exact T.pos
          rw [List.getElem?_eq_getElem this]; simp
        apply hne
        rw [← hc]
        unfold World.cell?
        split
        · simp [hs]
        · rfl
    obtain ⟨b, off, sp⟩ := x
    obtain rfl : sp = none := hspot
    refine ⟨b, off, rfl, hblk, ?_⟩
    intro i y hy j u hu
    have hi : i < len := by
      rcases Nat.lt_or_ge i len with h | h
      · exact h
      · rw [List.getElem?_eq_none (by simpa using h)] at hy; cases hy
    have hyx : y = X i := by
      rw [List.getElem?_map, List.getElem?_range hi] at hy
      simpa using hy.symm
    subst hyx
    rw [(hX i (by omega)).2] at hu
    have hj : j < k := by
      have := hlen i (by omega)
      rcases Nat.lt_or_ge j k with h | h
      · exact h
      · rw [List.getElem?_eq_none (by omega)] at hu; cases hu
    have hc := (World.cells?_some (hF i (by omega)).1).2.2 j hj
    have ha : (Addr.add (Addr.add ⟨b, off, none⟩ (i * k)) j) = ⟨b, off + i * k + j, none⟩ := by
      unfold Addr.add
      split <;> split <;> simp_all <;> omega
    rw [ha] at hc
    rw [hc, hu]
  · intro y hy
    obtain ⟨i, hi, rfl⟩ := List.mem_map.1 hy
    have hi' := List.mem_range.1 hi
    rw [(hX i (by omega)).2]
    exact ⟨g, (hF i (by omega)).2⟩

theorem arg_sl (T : Ty P e k ag) (hk : ag = false → k = 1) (hone : ∀ g es, Shaped P W g e es → ∀ c ∈ es, c.oneCell' = true)
    (ht : P.underlying t = some (.slice e)) (h : ArgShaped P W t v) :
    ∃ xs, Sl W ag k v xs ∧ (∀ x ∈ xs, ∃ g, Shaped P W g e x.cells.toList) ∧ xs.length * P.bytesOf e ≤ reachBytes := by
  obtain ⟨f, hf⟩ := arg_slice ht h
  exact sl_of_shaped T hk hone ht hf
end
end Go.Tm
