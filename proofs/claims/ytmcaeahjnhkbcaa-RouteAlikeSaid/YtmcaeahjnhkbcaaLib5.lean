/- More on slices that the call has made: a part of one (s[:m]), clear, append of zeros; rows of ints. Conditions: none. -/
import Derived.Test.YtmcaeahjnhkbcaaLib4
import Derived.Lib.AppendZeros
namespace Go.Tm
open Go Go.RowKit
set_option linter.unusedVariables false
set_option linter.unusedSimpArgs false

/-- Numbers as values. -/
abbrev ints (l : List Int) : List Value := l.map (Value.int .i64)
theorem ints_val (l : List Int) : ∀ x ∈ ints l, Val false 1 x := by
  intro x hx
  obtain ⟨n, _, rfl⟩ := List.mem_map.1 hx
  exact ⟨rfl, rfl⟩
theorem ints_get {l : List Int} {i : Nat} {n : Int} (h : l[i]? = some n) : (ints l)[i]? = some (.int .i64 n) := by simp [h]
theorem ints_len (l : List Int) : (ints l).length = l.length := by simp

theorem idx_cases (p : Value → Bool) (xs : List Value) : (idx p xs = -1 ∧ ∀ x ∈ xs, p x = false) ∨ ∃ (i : Nat) (x : Value), idx p xs = i ∧ xs[i]? = some x ∧ p x = true ∧ ∀ j y, j < i → xs[j]? = some y → p y = false := by
  unfold idx
  cases h : xs.findIdx? p with
  | none => rw [List.findIdx?_eq_none_iff] at h; exact .inl ⟨rfl, h⟩
  | some i =>
    rw [List.findIdx?_eq_some_iff_getElem] at h
    obtain ⟨hi, hp, hj⟩ := h
    refine .inr ⟨i, _, rfl, List.getElem?_eq_getElem hi, hp, fun j y hlt hy => ?_⟩
    have := hj j hlt
    rw [List.getElem?_eq_getElem (by omega)] at hy
    rw [← Option.some.inj hy]
    simpa using this

theorem flat_take {ag : Bool} {k : Nat} {xs : List Value} (h : ∀ x ∈ xs, Val ag k x) (m : Nat) : flat (xs.take m) = (flat xs).take (m * k) := by
  induction xs generalizing m with
  | nil => simp [flat]
  | cons x xs ih =>
    cases m with
    | zero => simp [flat]
    | succ m =>
      have hx := (h x (by simp)).len
      rw [List.take_succ_cons, flat_cons, flat_cons, ih (fun y hy => h y (by simp [hy])) m, List.take_append, hx, List.take_of_length_le (l := x.cells.toList) (by rw [hx, Nat.succ_mul]; omega)]
      congr 2
      rw [Nat.succ_mul]; omega

section
variable {P : Program} {w : World} {base : Nat} {E : TypeId} {ag : Bool} {k : Nat} {v : Value} {xs : List Value}

theorem Owned.take {g n cap : Nat} (h : Owned w base E ag k (.slice (some ⟨g, 0, none⟩) n cap) xs) {m : Nat} (hm : m ≤ xs.length) : Owned w base E ag k (.slice (some ⟨g, 0, none⟩) m cap) (xs.take m) := by
  have hn : n = xs.length := Owned.form' (g := g) h
  obtain ⟨⟨hlen, hr⟩, hv⟩ := h
  have hv' : ∀ x ∈ xs.take m, Val ag k x := fun x hx => hv x (List.mem_of_mem_take hx)
  refine ⟨⟨by rw [flat_len hv'], ?_⟩, hv'⟩
  rcases hr with ⟨h0, _⟩ | ⟨g', cap', cur, he, hb, hg, h1, h2, h3, h4⟩
  · simp at h0
  simp only [Value.slice.injEq, Option.some.injEq, Addr.mk.injEq, and_true, true_and] at he
  obtain ⟨rfl, _, rfl⟩ := he
  refine .inr ⟨g, cap, cur, ?_, hb, hg, ?_, h2, h3, ?_⟩
  · rw [List.length_take, Nat.min_eq_left hm]
  · rw [List.length_take, Nat.min_eq_left hm]; omega
  · rw [List.length_take, Nat.min_eq_left hm, flat_take hv, ← h4, List.take_take, Nat.min_eq_left (Nat.mul_le_mul_right _ hm)]

/-- clear(s[i:]): what stands ahead of i stays. -/
theorem run_clear_own {ty t : TypeId} {z : Value} (T : Ty P E k ag) (ht : P.underlying t = some (.slice E)) (hzv : ∀ w, (zeroValue E).run P w = .ok z w) (hz : Val ag k z) {g n cap c : Nat}
    (h : Owned w base E ag k (.slice (some ⟨g, 0, none⟩) n cap) xs) {i : Nat} (hi : i < xs.length) :
    ∃ w', (Builtin.clear_ #[t] ty #[.slice (some ⟨g, i * k, none⟩) (xs.length - i) c]).run P w = .ok (.tuple #[]) w' ∧ Owned w' base E ag k (.slice (some ⟨g, 0, none⟩) i cap) (xs.take i) ∧ w.grownBy w' (some g) := by
  have htk := h.take (Nat.le_of_lt hi)
  obtain ⟨⟨hlen, hr⟩, hv⟩ := h
  rcases hr with ⟨h0, _⟩ | ⟨g', cap', cur, he, hb, hg, h1, h2, h3, h4⟩
  · simp at h0
  simp only [Value.slice.injEq, Option.some.injEq, Addr.mk.injEq, and_true, true_and] at he
  obtain ⟨rfl, _, rfl⟩ := he
  have hzl : (Builtin.zeroCells z.cells (xs.length - i)).toList.length = (xs.length - i) * k := by rw [Array.length_toList, size_zeroCells, hz.size]
  have hik : i * k + (xs.length - i) * k = xs.length * k := by rw [← Nat.add_mul]; congr 1; omega
  have hck : xs.length * k ≤ cap * k := Nat.mul_le_mul_right _ h1
  have hone : ∀ u ∈ (Builtin.zeroCells z.cells (xs.length - i)).toList, u.oneCell' = true := by
    intro u hu
    unfold Builtin.zeroCells at hu
    simp only [Array.toList_map, List.mem_map] at hu
    obtain ⟨j, _, rfl⟩ := hu
    have hlt : j % z.cells.size < z.cells.size := Nat.mod_lt _ (by rw [hz.size]; exact T.pos)
    rw [getElem!_pos z.cells _ hlt]
    exact hz.one _ (by simp)
  have hst := run_storeCells_at P g (i * k) E (Builtin.zeroCells z.cells (xs.length - i)).toList 0 cur w hg (by rw [hzl, h3]; omega) hone
  simp only [Nat.add_zero, hzl] at hst
  refine ⟨w.setRow g (cur.toList.take (i * k) ++ (Builtin.zeroCells z.cells (xs.length - i)).toList ++ cur.toList.drop (i * k + (xs.length - i) * k)).toArray, ?_, ?_, ⟨rfl, rfl, rfl, by simp [World.setRow], fun b hb hne => setRow_other w g b _ (by intro he; exact hne (by rw [he]))⟩⟩
  · obtain ⟨m, hm⟩ : ∃ m, xs.length - i = m + 1 := ⟨xs.length - i - 1, by omega⟩
    rw [hm] at hst ⊢
    simp only [Builtin.clear_]
    simp [run_underlying ht, hzv, hst, Sem.run_bind, Sem.run_pure, Result.andThen_ok]
  · obtain ⟨⟨hlen', hr'⟩, hv'⟩ := htk
    refine ⟨⟨hlen', ?_⟩, hv'⟩
    refine .inr ⟨g, cap, _, ?_, hb, setRow_heap w g cur _ E (0, 0) hg, ?_, h2, ?_, ?_⟩
    · rw [List.length_take, Nat.min_eq_left (Nat.le_of_lt hi)]
    · rw [List.length_take, Nat.min_eq_left (Nat.le_of_lt hi)]; omega
    · simp only [List.size_toArray, List.length_append, List.length_take, List.length_drop, Array.length_toList, size_zeroCells, hz.size]
      rw [h3]; omega
    · rw [List.length_take, Nat.min_eq_left (Nat.le_of_lt hi), flat_take hv, ← h4, List.take_take, Nat.min_eq_left (by omega), List.append_assoc, List.take_append]
      have : (cur.toList.take (i * k)).length = i * k := by rw [List.length_take, Array.length_toList, h3]; omega
      rw [this, Nat.sub_self, List.take_zero, List.append_nil, List.take_take, Nat.min_self]

theorem wpList_clear_own {ops : Array Oper} {rest : List Oper} {o : Oper} {a : Act} {Q : Exit → Act → World → Prop} (hgd : o.guard = none) (x : Operand) (t : TypeId)
    (ho : o.op = .call { callee := .builtin .clear, args := #[x], argTypes := #[t] }) (T : Ty P E k ag) (ht : P.underlying t = some (.slice E)) {z : Value} (hzv : ∀ w, (zeroValue E).run P w = .ok z w) (hz : Val ag k z)
    (g n cap c : Nat) (h : Owned w base E ag k (.slice (some ⟨g, 0, none⟩) n cap) xs) (i : Nat) (hi : i < xs.length) (hx : a.eval x = .slice (some ⟨g, i * k, none⟩) (xs.length - i) c)
    (hK : ∀ w', Owned w' base E ag k (.slice (some ⟨g, 0, none⟩) i cap) (xs.take i) → w.grownBy w' (some g) → wpList P ops Q rest (a.put o.dst (.tuple #[])) w') : wpList P ops Q (o :: rest) a w :=
  wpList_plain hgd fun K hK' => by
    obtain ⟨w', hr, h1, h2⟩ := run_clear_own (ty := o.type) (c := c) T ht hzv hz h hi
    unfold Oper.wp execOp
    simp only [ho, hx, resolve, invoke, builtin, Sem.run_bind, Sem.run_pure, Result.andThen_ok, List.map_toArray, List.map_cons, List.map_nil, hr]
    exact hK' _ _ (hK w' h1 h2)

/-- append(nil, make([]T, n)...): a row of the call's own, room for n. -/
theorem wpList_append_zeros {ops : Array Oper} {rest : List Oper} {o : Oper} {a : Act} {Q : Exit → Act → World → Prop} (hgd : o.guard = none) (s x : Operand) (t tn : TypeId)
    (ho : o.op = .call { callee := .builtin .append, args := #[s, x], argTypes := #[t, tn] }) (T : Ty P E k ag) (i : TypeInfo) (z : Value) (kn : IntKind) (bytes : Nat)
    (ht : P.underlying t = some (.slice E)) (htn : P.underlying tn = some (.int kn)) (hi : P.info? E = some i) (hz : i.zero = some z) (hsize : i.size = k) (hby : i.bytes = bytes) (hzs : z.cells.size = k)
    (hs : a.eval s = .slice none 0 0) (n : Nat) (h0 : 0 < n) (hx : a.eval x = .int .i64 n) (h63 : n ≤ maxLen) (hbytes : n * bytes ≤ 140737488355328) (hbase : base ≤ w.heap.size)
    (h : ∀ cap w', n ≤ cap → Owned w' base E ag k (.slice (some ⟨w.heap.size, 0, none⟩) 0 cap) [] → w.grownBy w' none → wpList P ops Q rest (a.put o.dst (.slice (some ⟨w.heap.size, 0, none⟩) n cap)) w') : wpList P ops Q (o :: rest) a w := by
  subst hsize
  subst hby
  have hr := Lib.run_append_nil_zeros (P := P) w t tn o.type E i z .i64 kn ht htn hi hz n h0 T.pos (by unfold maxLen at h63; omega) (by omega)
  refine Lib.wpList_append_run w hgd s x t tn ho _ _ hs hx _ _ hr ?_
  have hge := grownCap_ge w n 0 E
  have hcm : grownCap w n 0 E ≤ maxLen := grownCap_le_maxLen w n 0 E h63
  refine h _ _ hge ⟨⟨by simp [flat], .inr ⟨w.heap.size, _, _, rfl, hbase, heap_alloc_new w.drew _, Nat.zero_le _, hcm, ?_, by simp [flat]⟩⟩, by simp⟩ ⟨rfl, rfl, rfl, by simp, fun b hk _ => Below.heap_alloc w.drew _ b hk⟩
  simp only [Array.size_append, size_zeroCells, hzs, ← Nat.add_mul]
  congr 1
  omega
end
end Go.Tm
namespace Go.Tm
open Go Go.RowKit
set_option linter.unusedVariables false
set_option linter.unusedSimpArgs false
section
variable {P : Program} {w : World} {E t : TypeId} {ag : Bool} {k : Nat} {v : Value} {xs : List Value}

/-- Another block's cell is written. -/
theorem Owned.setOther {base : Nat} (h : Owned w base E ag k v xs) {b : Nat} (hb : b < base) (o : Nat) (u : Value) : Owned (w.setCell ⟨b, o, none⟩ u) base E ag k v xs := by
  have hB : Below b w (w.setCell ⟨b, o, none⟩ u) := Below.setCell (p := ⟨b, o, none⟩) (Below.refl b w) (Nat.le_refl b) u
  refine ⟨h.row.kept (row := some b) ⟨hB.os, hB.tape, hB.output, hB.size, fun i hi hne => heap_setCell_other w ⟨b, o, none⟩ i u (by intro he; exact hne (by rw [he]))⟩ ?_, h.val⟩
  cases hv : v.ownBlock with
  | none => left; rfl
  | some g => right; intro he; have := h.own_ge g hv; simp at he; omega

/-- s[m:], as a value. -/
theorem Sl.run_drop (T : Ty P E k ag) (ht : P.underlying t = some (.slice E)) (h : Sl w ag k v xs) (y : Int) (m : Nat) (hy : y = m) (hm : m ≤ xs.length) :
    ∃ v', (∀ W, (Instr.slice t v (some (.int .i64 y)) none none).run P W = .ok v' W) ∧ Sl w ag k v' (xs.drop m) := by
  obtain ⟨i, hi, hs⟩ := ty_info T
  obtain ⟨hv, a, cap, rfl, h1, h2, h3⟩ := h
  subst hy
  refine ⟨.slice (if cap = m then a else a.map (·.add (m * k))) (xs.length - m) (cap - m), fun W => ?_, fun x hx => hv x (List.mem_of_mem_drop hx), _, _, by rw [List.length_drop], by rw [List.length_drop]; omega, by omega, ?_⟩
  · have hmc : m ≤ cap := by omega
    simp [Instr.slice, run_underlying ht, Instr.sliceBounds, Instr.sliceBound, asIntOf, sizeOf, typeInfo, hi, hs, hm, hmc, h1]
  · rcases h3 with rfl | ⟨b, off, rfl, hb, hc⟩
    · left; simp
    · by_cases hcm : cap = m
      · left
        exact List.drop_eq_nil_of_le (by omega)
      · right
        refine ⟨b, off + m * k, by rw [if_neg hcm]; simp [addr_add], hb, fun j x hx => ?_⟩
        rw [List.getElem?_drop] at hx
        have := hc (m + j) x hx
        rw [Nat.add_mul] at this
        rwa [Nat.add_assoc off]

/-- s[:m], as a value. -/
theorem Sl.run_take (T : Ty P E k ag) (ht : P.underlying t = some (.slice E)) (h : Sl w ag k v xs) (y : Int) (m : Nat) (hy : y = m) (hm : m ≤ xs.length) :
    ∃ v', (∀ W, (Instr.slice t v none (some (.int .i64 y)) none).run P W = .ok v' W) ∧ Sl w ag k v' (xs.take m) := by
  obtain ⟨i, hi, hs⟩ := ty_info T
  obtain ⟨hv, a, cap, rfl, h1, h2, h3⟩ := h
  subst hy
  have hmc : m ≤ cap := by omega
  have hml : (xs.take m).length = m := by rw [List.length_take]; omega
  refine ⟨.slice (if cap = 0 then a else a.map (·.add (0 * k))) m cap, fun W => ?_, fun x hx => hv x (List.mem_of_mem_take hx), _, cap, by rw [hml], by rw [hml]; exact hmc, h2, ?_⟩
  · simp [Instr.slice, run_underlying ht, Instr.sliceBounds, Instr.sliceBound, asIntOf, sizeOf, typeInfo, hi, hs, hm, hmc, h1]
  · rcases h3 with rfl | ⟨b, off, rfl, hb, hc⟩
    · left; simp
    · by_cases hcm : cap = 0
      · left
        have : m = 0 := by omega
        subst this; rfl
      · right
        refine ⟨b, off, by rw [if_neg hcm]; simp [addr_add], hb, fun j x hx => ?_⟩
        rw [List.getElem?_take] at hx
        split at hx
        · exact hc j x hx
        · cases hx

/-- Another block's cell is written. -/
theorem Sl.setOther (h : Sl w ag k v xs) {B : Nat} (hb : xs = [] ∨ ∀ b, v.ownBlock = some b → b ≠ B) (o : Nat) (u : Value) : Sl (w.setCell ⟨B, o, none⟩ u) ag k v xs := by
  obtain ⟨hv, a, cap, rfl, h1, h2, h3⟩ := h
  refine ⟨hv, a, cap, rfl, h1, h2, ?_⟩
  rcases h3 with rfl | ⟨b, off, rfl, hlt, hc⟩
  · exact .inl rfl
  · rcases hb with rfl | hb
    · exact .inl rfl
    · have hne := hb b rfl
      refine .inr ⟨b, off, rfl, by simpa using hlt, fun i x hx j u' hu => ?_⟩
      rw [World.cell?_of_block (w := w) (a := ⟨b, off + i * k + j, none⟩) (heap_setCell_other w ⟨B, o, none⟩ b u hne)]
      exact hc i x hx j u' hu

theorem Sl.alloc (h : Sl w ag k v xs) (o : Obj) : Sl (w.alloc o) ag k v xs := h.below ((Below.refl _ _).alloc (Nat.le_refl _) o)
/-- What a function gives back for the slice v: v itself, or one that lies beyond N. -/
def Res (N : Nat) (v : Value) (xs : List Value) (v' : Value) (xs' : List Value) : Prop := (v' = v ∧ xs' = xs) ∨ ∀ b, v'.ownBlock = some b → N ≤ b
theorem Res.same {N : Nat} : Res N v xs v xs := .inl ⟨rfl, rfl⟩
theorem Owned.res {base N : Nat} {v0 : Value} {ys zs : List Value} (h : Owned w base E ag k v xs) (hN : N ≤ base) : Res N v0 ys v zs := .inr fun b hb => Nat.le_trans hN (h.own_ge b hb)
theorem Res.le {N M : Nat} {v' : Value} {xs' : List Value} (h : Res M v xs v' xs') (hN : N ≤ M) : Res N v xs v' xs' := h.imp id fun h b hb => Nat.le_trans hN (h b hb)
theorem Res.trans {N : Nat} {v1 v2 : Value} {xs1 xs2 : List Value} (h : Res N v xs v1 xs1) (h' : Res N v1 xs1 v2 xs2) : Res N v xs v2 xs2 := by
  rcases h' with ⟨rfl, rfl⟩ | h'
  · exact h
  · exact .inr h'
/-- A slice does not lie in the block B. -/
def Apart (B : Nat) (v : Value) (xs : List Value) : Prop := xs = [] ∨ ∀ b, v.ownBlock = some b → b ≠ B
theorem Sl.apart (h : Sl w ag k v xs) {B : Nat} (hB : w.heap.size ≤ B) : Apart B v xs := by
  obtain ⟨_, a, cap, rfl, _, _, h3⟩ := h
  rcases h3 with h3 | ⟨b, off, rfl, hlt, _⟩
  · exact .inl h3
  · right
    intro b' hb'
    simp [Value.ownBlock] at hb'
    omega
theorem Res.apart {N B : Nat} {v' : Value} {xs' : List Value} (h : Res N v xs v' xs') (ha : Apart B v xs) (hN : B < N) : Apart B v' xs' := by
  rcases h with ⟨rfl, rfl⟩ | h
  · exact ha
  · right
    intro b hb
    have := h b hb
    omega
/-- A box that was made since v came in, ahead of the call, is written. -/
theorem Sl.setRes {w0 : World} {N B : Nat} {v' : Value} {xs' : List Value} (h0 : Sl w0 ag k v xs) (h : Sl w ag k v' xs') (hr : Res N v xs v' xs') (hB : w0.heap.size ≤ B) (hN : B < N) (o : Nat) (u : Value) :
    Sl (w.setCell ⟨B, o, none⟩ u) ag k v' xs' := by
  refine h.setOther ?_ o u
  rcases hr with ⟨rfl, rfl⟩ | hr
  · obtain ⟨_, a, cap, rfl, _, _, h3⟩ := h0
    rcases h3 with h3 | ⟨b, off, rfl, hlt, _⟩
    · exact .inl h3
    · right
      intro b' hb'
      simp [Value.ownBlock] at hb'
      omega
  · right
    intro b hb
    have := hr b hb
    omega
end
end Go.Tm
