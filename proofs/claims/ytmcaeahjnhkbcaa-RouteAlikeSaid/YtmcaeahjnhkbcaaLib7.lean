/- A slice of two elements that is made at once; s[:m:m]. Conditions: none. -/
import Derived.Test.YtmcaeahjnhkbcaaLib6
namespace Go.Tm
open Go Go.RowKit
set_option linter.unusedVariables false
set_option linter.unusedSimpArgs false
variable {P : Program} {E : TypeId} {ag : Bool} {k base : Nat} {w : World} {xs : List Value} {v : Value}

theorem wpList_build_two {ops : Array Oper} {rest : List Oper} {o : Oper} {a : Act} {Q : Exit → Act → World → Prop} (hgd : o.guard = none) (t : TypeId) (q r : Operand) (ho : o.op = .buildSlice t 2 #[(0, q), (1, r)])
    (T : Ty P E k ag) (hk : k ≤ 1048576) (i : TypeInfo) (z : Value) (ht : P.underlying t = some (.slice E)) (hi : P.info? E = some i) (hz : i.zero = some z) (hsize : i.size = k)
    (x y : Value) (hq : a.eval q = x) (hr : a.eval r = y) (hx : Val ag k x) (hy : Val ag k y)
    (h : wpList P ops Q rest (a.put o.dst (.slice (some ⟨w.heap.size, 0, none⟩) 2 2)) (w.alloc (.cells (flat [x, y]).toArray E))) : wpList P ops Q (o :: rest) a w := by
  refine wpList_plain hgd fun K hK => ?_
  have hp := T.pos
  refine wp_buildSlice t E 2 #[(0, q), (1, r)] ho (flat [x, y]).toArray i z ht hi hz (by rw [hsize]; omega) (by rw [hsize]; omega) ?_ (hK _ _ h)
  have hw := Great.fill_whole hp [x, y] ((Array.range (2 * k)).map (z.cells[· % z.cells.size]!)) (by intro u hu; simp at hu; rcases hu with rfl | rfl; exact hx.size; exact hy.size) (by simp)
  rw [hsize]
  simp only [List.map_toArray, List.map_cons, List.map_nil, hq, hr]
  simpa [flat] using hw
theorem Owned.made2 {x y : Value} (hx : Val ag k x) (hy : Val ag k y) (hb : base ≤ w.heap.size) : Owned (w.alloc (.cells (flat [x, y]).toArray E)) base E ag k (.slice (some ⟨w.heap.size, 0, none⟩) 2 2) [x, y] := by
  have hv : ∀ u ∈ [x, y], Val ag k u := by intro u hu; simp at hu; rcases hu with rfl | rfl; exact hx; exact hy
  have h := World.ownsRow_lit (base := base) (e := E) (size := k) w (flat [x, y]).toArray 2 hb (by decide) (by rw [List.size_toArray]; simpa using flat_len hv)
  exact ⟨by simpa using h, hv⟩

/-- s[:m:m] -/
theorem Sl.run_clip {t : TypeId} (T : Ty P E k ag) (ht : P.underlying t = some (.slice E)) (h : Sl w ag k v xs) (y : Int) (m : Nat) (hy : y = m) (hm : m ≤ xs.length) :
    ∃ v', (∀ W, (Instr.slice t v none (some (.int .i64 y)) (some (.int .i64 y))).run P W = .ok v' W) ∧ Sl w ag k v' (xs.take m) := by
  obtain ⟨i, hi, hs⟩ := ty_info T
  obtain ⟨hv, a, cap, rfl, h1, h2, h3⟩ := h
  subst hy
  have hmc : m ≤ cap := by omega
  have hml : (xs.take m).length = m := by rw [List.length_take]; omega
  refine ⟨.slice (if m = 0 then a else a.map (·.add (0 * k))) m m, fun W => ?_, fun x hx => hv x (List.mem_of_mem_take hx), _, m, by rw [hml], by rw [hml]; exact Nat.le_refl _, by omega, ?_⟩
  · simp [Instr.slice, run_underlying ht, Instr.sliceBounds, Instr.sliceBound, asIntOf, sizeOf, typeInfo, hi, hs, hm, hmc, h1]
  · rcases h3 with rfl | ⟨b, off, rfl, hb, hc⟩
    · left; simp
    · by_cases hcm : m = 0
      · left
        subst hcm; rfl
      · right
        refine ⟨b, off, by rw [if_neg hcm]; simp [addr_add], hb, fun j x hx => ?_⟩
        rw [List.getElem?_take] at hx
        split at hx
        · exact hc j x hx
        · cases hx

theorem tw_at {α : Type} {p : α → Bool} : ∀ {l : List α} {i : Nat} {x : α}, l[i]? = some x → i < (l.takeWhile p).length → p x = true := by
  intro l
  induction l with
  | nil => intro i x h; simp at h
  | cons y r ih =>
    intro i x h hi
    rw [List.takeWhile_cons] at hi
    split at hi
    · next hy =>
      cases i with
      | zero => simp at h; subst h; exact hy
      | succ i => exact ih (by simpa using h) (by simpa using hi)
    · simp at hi
theorem tw_stop {α : Type} {p : α → Bool} : ∀ {l : List α} {x : α}, l[(l.takeWhile p).length]? = some x → p x = false := by
  intro l
  induction l with
  | nil => intro x h; simp at h
  | cons y r ih =>
    intro x h
    rw [List.takeWhile_cons] at h
    split at h
    · next hy => exact ih (by simpa using h)
    · next hy => simp at h; subst h; simpa using hy
theorem tw_take {α : Type} (p : α → Bool) : ∀ (l : List α), l.take (l.takeWhile p).length = l.takeWhile p := by
  intro l
  induction l with
  | nil => rfl
  | cons y r ih =>
    rw [List.takeWhile_cons]
    split
    · simp [ih]
    · simp
theorem tw_le {α : Type} (p : α → Bool) (l : List α) : (l.takeWhile p).length ≤ l.length := by
  have := congrArg List.length (tw_take p l)
  simp at this; omega
theorem tw_eq {α : Type} {p : α → Bool} {l : List α} {i : Nat} (hi : i ≤ l.length) (h1 : ∀ j x, j < i → l[j]? = some x → p x = true) (h2 : ∀ x, l[i]? = some x → p x = false) : (l.takeWhile p).length = i := by
  have hle := tw_le p l
  rcases Nat.lt_trichotomy (l.takeWhile p).length i with h | h | h
  · have hx := List.getElem?_eq_getElem (l := l) (show (l.takeWhile p).length < l.length by omega)
    have a := tw_stop hx
    rw [h1 _ _ h hx] at a; cases a
  · exact h
  · have hx := List.getElem?_eq_getElem (l := l) (show i < l.length by omega)
    have a := tw_at hx h
    rw [h2 _ hx] at a; cases a
end Go.Tm
