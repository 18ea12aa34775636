/- Whole structs of many cells in boxes: stored at once, loaded at once. Conditions: none. -/
import Derived.Test.YtmcaeahjnhkbcaaLib7
namespace Go.Tm
open Go Go.RowKit
set_option linter.unusedVariables false

section
variable {P : Program} {W : World} {ag : Bool} {k : Nat} {E : TypeId}
theorem setRow_fresh {t : TypeId} {cur cs : Array Value} : (W.alloc (.cells cur t)).setRow W.heap.size cs = W.alloc (.cells cs t) := by
  unfold World.setRow
  simp only [World.alloc]
  congr 1
  refine Array.ext (by simp) (fun i h1 h2 => ?_)
  simp only [Array.size_modify, Array.size_push] at h1
  rw [Array.getElem_modify]
  by_cases hi : i = W.heap.size
  · subst hi; simp
  · rw [if_neg (Ne.symm hi), Array.getElem_push_lt (by omega), Array.getElem_push_lt (by omega)]
theorem Box.cells {b : Nat} {cs : Array Value} {t : TypeId} (h : Box W b cs t) : Cells W b 0 cs.toList := fun j v hv => by
  rw [Nat.zero_add, h.rules.1 j]; simpa using hv
/-- A load of all of a box. -/
theorem wpList_load_box {ops : Array Oper} {rest : List Oper} {o : Oper} {a : Act} {Q : Exit → Act → World → Prop} (hgd : o.guard = none) (E : TypeId) (p : Operand) (ho : o.op = .load E p)
    {b : Nat} {t : TypeId} (hp : a.eval p = .pointer (some ⟨b, 0, none⟩)) (x : Value) (ht : Ty P E k ag) (hx : Val ag k x) (hb : Box W b x.cells t)
    (h : wpList P ops Q rest (a.put o.dst x) W) : wpList P ops Q (o :: rest) a W :=
  wpList_load_val hgd E p ho b 0 hp x ht hx hb.cells h
/-- A store of all of a box that was just made. -/
theorem wpList_store_fresh {ops : Array Oper} {rest : List Oper} {o : Oper} {a : Act} {Q : Exit → Act → World → Prop} (hgd : o.guard = none) (E : TypeId) (p q : Operand) (ho : o.op = .store E p q)
    {t : TypeId} {cur : Array Value} (x : Value) (ht : Ty P E k ag) (hx : Val ag k x) (hc : cur.size = k) (hp : a.eval p = .pointer (some ⟨W.heap.size, 0, none⟩)) (hq : a.eval q = x)
    (h : wpList P ops Q rest (a.put o.dst undef) (W.alloc (.cells x.cells t))) : wpList P ops Q (o :: rest) a (W.alloc (.cells cur t)) := by
  refine wpList_store_val hgd E p q ho W.heap.size 0 hp x hq ht hx (Box.new W cur t) (by omega) ?_
  have e : (cur.toList.take 0 ++ x.cells.toList ++ cur.toList.drop (0 + k)).toArray = x.cells := by
    rw [List.take_zero, List.nil_append, Nat.zero_add, List.drop_of_length_le (by simp; omega), List.append_nil, Array.toArray_toList]
  rw [e]
  rw [setRow_fresh]
  exact h
/-- A store of all of a box that lies there. -/
theorem wpList_store_box {ops : Array Oper} {rest : List Oper} {o : Oper} {a : Act} {Q : Exit → Act → World → Prop} (hgd : o.guard = none) (E : TypeId) (p q : Operand) (ho : o.op = .store E p q)
    {b : Nat} {t : TypeId} {cur : Array Value} (hb : Box W b cur t) (x : Value) (ht : Ty P E k ag) (hx : Val ag k x) (hc : cur.size = k) (hp : a.eval p = .pointer (some ⟨b, 0, none⟩)) (hq : a.eval q = x)
    (h : ∀ W', Box W' b x.cells t → Below b W W' → W'.heap.size = W.heap.size → W.grownBy W' (some b) → wpList P ops Q rest (a.put o.dst undef) W') : wpList P ops Q (o :: rest) a W := by
  refine wpList_store_val hgd E p q ho b 0 hp x hq ht hx hb (by omega) (h _ ?_ ?_ ?_ ?_)
  · have e : (cur.toList.take 0 ++ x.cells.toList ++ cur.toList.drop (0 + k)).toArray = x.cells := by
      rw [List.take_zero, List.nil_append, Nat.zero_add, List.drop_of_length_le (by simp; omega), List.append_nil, Array.toArray_toList]
    rw [e]
    exact setRow_heap W b cur _ _ (0, 0) hb
  · exact ⟨rfl, rfl, rfl, by simp [World.setRow], fun c hc => setRow_other W b c _ (by omega)⟩
  · simp [World.setRow]
  · exact ⟨rfl, rfl, rfl, by simp [World.setRow], fun c hc hne => setRow_other W b c _ (by intro he; exact hne (by rw [he]))⟩
/-- The same for a struct, by its cells. -/
theorem wpList_load_boxA {ops : Array Oper} {rest : List Oper} {o : Oper} {a : Act} {Q : Exit → Act → World → Prop} (hgd : o.guard = none) (E : TypeId) (p : Operand) (ho : o.op = .load E p)
    {b : Nat} {t : TypeId} (cs : Array Value) (ht : Ty P E k true) (hx : Val true k (.agg cs)) (hb : Box W b cs t) (hp : a.eval p = .pointer (some ⟨b, 0, none⟩))
    (h : wpList P ops Q rest (a.put o.dst (.agg cs)) W) : wpList P ops Q (o :: rest) a W :=
  wpList_load_val hgd E p ho b 0 hp (.agg cs) ht hx hb.cells h
theorem wpList_store_freshA {ops : Array Oper} {rest : List Oper} {o : Oper} {a : Act} {Q : Exit → Act → World → Prop} (hgd : o.guard = none) (E : TypeId) (p q : Operand) (ho : o.op = .store E p q)
    {t : TypeId} {cur : Array Value} (cs : Array Value) (ht : Ty P E k true) (hx : Val true k (.agg cs)) (hc : cur.size = k) (hp : a.eval p = .pointer (some ⟨W.heap.size, 0, none⟩)) (hq : a.eval q = .agg cs)
    (h : wpList P ops Q rest (a.put o.dst undef) (W.alloc (.cells cs t))) : wpList P ops Q (o :: rest) a (W.alloc (.cells cur t)) :=
  wpList_store_fresh hgd E p q ho (.agg cs) ht hx hc hp hq h
theorem wpList_store_boxA {ops : Array Oper} {rest : List Oper} {o : Oper} {a : Act} {Q : Exit → Act → World → Prop} (hgd : o.guard = none) (E : TypeId) (p q : Operand) (ho : o.op = .store E p q)
    {b : Nat} {t : TypeId} {cur : Array Value} (hb : Box W b cur t) (cs : Array Value) (ht : Ty P E k true) (hx : Val true k (.agg cs)) (hc : cur.size = k) (hp : a.eval p = .pointer (some ⟨b, 0, none⟩)) (hq : a.eval q = .agg cs)
    (h : ∀ W', Box W' b cs t → Below b W W' → W'.heap.size = W.heap.size → W.grownBy W' (some b) → wpList P ops Q rest (a.put o.dst undef) W') : wpList P ops Q (o :: rest) a W :=
  wpList_store_box hgd E p q ho hb (.agg cs) ht hx hc hp hq h
end
end Go.Tm
