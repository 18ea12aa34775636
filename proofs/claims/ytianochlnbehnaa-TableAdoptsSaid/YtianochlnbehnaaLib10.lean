/- Where the first one of which something holds stands in a row of typed elements. Conditions: none. -/
import Derived.Test.YtianochlnbehnaaLib8
namespace Go.Tm
open Go Go.RowKit
set_option linter.unusedVariables false

theorem idx_tw {α : Type} (f : α → Value) (q : Value → Bool) (b : α → Bool) (hq : ∀ x, q (f x) = b x) (l : List α) :
    (idx q (l.map f) = -1 ∧ (l.takeWhile fun x => !b x).length = l.length) ∨ ((l.takeWhile fun x => !b x).length < l.length ∧ idx q (l.map f) = ((l.takeWhile fun x => !b x).length : Nat)) := by
  rcases idx_cases q (l.map f) with ⟨h, hn⟩ | ⟨i, x, h, hx, hp, hn⟩
  · left
    refine ⟨h, tw_eq (Nat.le_refl _) (fun j x hj hx => ?_) (fun x hx => by simp at hx)⟩
    have := hn (f x) (List.mem_map_of_mem (List.mem_of_getElem? hx))
    rw [hq] at this
    simp [this]
  · right
    obtain ⟨y, hy, rfl⟩ : ∃ y, l[i]? = some y ∧ f y = x := by simpa using hx
    have hi := (List.getElem?_eq_some_iff.1 hy).1
    have e : (l.takeWhile fun x => !b x).length = i := tw_eq (by omega) (fun j z hj hz => by
      have := hn j (f z) hj (by simp [hz])
      rw [hq] at this
      simp [this]) (fun z hz => by
      rw [hy] at hz
      cases hz
      rw [hq] at hp
      simp [hp])
    exact ⟨by omega, by rw [e]; exact h⟩
theorem tw_drop {α : Type} (p : α → Bool) : ∀ (l : List α), l.drop (l.takeWhile p).length = l.dropWhile p := by
  intro l
  induction l with
  | nil => rfl
  | cons y r ih =>
    rw [List.takeWhile_cons, List.dropWhile_cons]
    split
    · simp [ih]
    · simp

section
variable {P : Program} {W : World} {ag : Bool} {k : Nat}
/-- The walk stands at a list of operations (and not within one): with_reducible. -/
theorem at_list {ops : Array Oper} {l : List Oper} {a : Act} {Q : Exit → Act → World → Prop} (h : wpList P ops Q l a W) : wpList P ops Q l a W := h
theorem at_ld (E : TypeId) {ops : Array Oper} {rest : List Oper} {a : Act} {Q : Exit → Act → World → Prop} {d p ty pos aft g} (h : wpList P ops Q (⟨d, .load E p, ty, pos, aft, g⟩ :: rest) a W) : wpList P ops Q (⟨d, .load E p, ty, pos, aft, g⟩ :: rest) a W := h
theorem at_st (E : TypeId) {ops : Array Oper} {rest : List Oper} {a : Act} {Q : Exit → Act → World → Prop} {d p q ty pos aft g} (h : wpList P ops Q (⟨d, .store E p q, ty, pos, aft, g⟩ :: rest) a W) : wpList P ops Q (⟨d, .store E p q, ty, pos, aft, g⟩ :: rest) a W := h
theorem at_bs (t : TypeId) {ops : Array Oper} {rest : List Oper} {a : Act} {Q : Exit → Act → World → Prop} {d n q ty pos aft g} (h : wpList P ops Q (⟨d, .buildSlice t n q, ty, pos, aft, g⟩ :: rest) a W) : wpList P ops Q (⟨d, .buildSlice t n q, ty, pos, aft, g⟩ :: rest) a W := h
theorem at_app {ops : Array Oper} {rest : List Oper} {a : Act} {Q : Exit → Act → World → Prop} {d s x t ty pos aft g} (h : wpList P ops Q (⟨d, .call { callee := .builtin .append, args := #[s, x], argTypes := #[t, t] }, ty, pos, aft, g⟩ :: rest) a W) : wpList P ops Q (⟨d, .call { callee := .builtin .append, args := #[s, x], argTypes := #[t, t] }, ty, pos, aft, g⟩ :: rest) a W := h
theorem at_dst (d : Option Nat) {ops : Array Oper} {rest : List Oper} {a : Act} {Q : Exit → Act → World → Prop} {o ty pos aft g} (h : wpList P ops Q (⟨d, o, ty, pos, aft, g⟩ :: rest) a W) : wpList P ops Q (⟨d, o, ty, pos, aft, g⟩ :: rest) a W := h
/-- A load of a whole struct behind a guard that holds. -/
theorem wpList_load_boxG {ops : Array Oper} {rest : List Oper} {o : Oper} {a : Act} {Q : Exit → Act → World → Prop} (E : TypeId) (p : Operand) (ho : o.op = .load E p)
    {b : Nat} {t : TypeId} (cs : Array Value) (ht : Ty P E k true) (hx : Val true k (.agg cs)) (hb : Box W b cs t) (hp : a.eval p = .pointer (some ⟨b, 0, none⟩)) (hw : Region.wanted o (yielded ops a.tmps) = true)
    (h : wpList P ops Q rest (a.put o.dst (.agg cs)) W) : wpList P ops Q (o :: rest) a W :=
  wpList_unguard hw (wpList_load_boxA rfl E p ho cs ht hx hb hp h)
theorem wpList_load_valG {ops : Array Oper} {rest : List Oper} {o : Oper} {a : Act} {Q : Exit → Act → World → Prop} (E : TypeId) (p : Operand) (ho : o.op = .load E p)
    (b off : Nat) (hp : a.eval p = .pointer (some ⟨b, off, none⟩)) (x : Value) (ht : Ty P E k ag) (hx : Val ag k x) (hc : Cells W b off x.cells.toList) (hw : Region.wanted o (yielded ops a.tmps) = true)
    (h : wpList P ops Q rest (a.put o.dst x) W) : wpList P ops Q (o :: rest) a W :=
  wpList_unguard hw (wpList_load_val rfl E p ho b off hp x ht hx hc h)
end
end Go.Tm
