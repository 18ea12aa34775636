/- append(s[:n:n], l...): a slice without spare room is appended to: a new row. Conditions: none. -/
import Derived.Test.YtmcaeahjnhkbcaaLib11
import Derived.ArgAppend
namespace Go.Tm
open Go Go.RowKit
set_option linter.unusedVariables false
set_option linter.unusedSimpArgs false

section
variable {P : Program} {w : World} {E : TypeId} {ag : Bool} {k : Nat}
theorem wpList_append_clip {ops : Array Oper} {rest : List Oper} {o : Oper} {a : Act} {Q : Exit → Act → World → Prop} (hgd : o.guard = none) (s x : Operand) (t : TypeId)
    (ho : o.op = .call { callee := .builtin .append, args := #[s, x], argTypes := #[t, t] })
    (T : Ty P E k ag) (i : TypeInfo) (z : Value) (bytes : Nat) (ht : P.underlying t = some (.slice E)) (hi : P.info? E = some i) (hz : i.zero = some z)
    (hsize : i.size = k) (hby : i.bytes = bytes) (hzs : z.cells.size = k)
    (ao : Option Addr) (xs : List Value) (hs : a.eval s = .slice ao xs.length xs.length) (hsl : Sl w ag k (.slice ao xs.length xs.length) xs)
    (ad : Addr) (c : Nat) (ys : List Value) (hx : a.eval x = .slice (some ad) ys.length c) (hsy : Sl w ag k (.slice (some ad) ys.length c) ys) (hne : 0 < ys.length)
    (h63 : xs.length + ys.length ≤ maxLen) (hbytes : (xs.length + ys.length) * bytes ≤ 140737488355328)
    (h : ∀ v' w', Owned w' w.heap.size E ag k v' (xs ++ ys) → w.grownBy w' none → (∃ g cap, v' = .slice (some ⟨g, 0, none⟩) (xs.length + ys.length) cap) → wpList P ops Q rest (a.put o.dst v') w') : wpList P ops Q (o :: rest) a w := by
  have hval : ∀ y ∈ xs ++ ys, Val ag k y := by
    intro y hy
    rcases List.mem_append.1 hy with hy | hy
    · exact hsl.val y hy
    · exact hsy.val y hy
  have hnone : ao = none → xs.length = 0 ∧ xs.length = 0 := by
    rintro rfl
    obtain ⟨_, a', c', he, _, _, hf⟩ := hsl
    simp only [Value.slice.injEq] at he
    obtain ⟨rfl, _⟩ := he
    rcases hf with rfl | ⟨b, off, hb, _⟩
    · exact ⟨rfl, rfl⟩
    · cases hb
  refine wpList_append_grows w hgd s x t ho E i z k bytes ht hi hz hsize hby hzs T.pos ao xs.length xs.length (flat xs) hs hnone (flat_len hsl.val) (fun b hb => by subst hb; exact hsl.news) ad ys.length c (flat ys) hx (flat_len hsy.val) hsy.news (flat_one hsy.val) (by omega) h63 hbytes ?_
  intro v' w' hrow hg
  have hown : Owned w' w.heap.size E ag k v' (xs ++ ys) := ⟨by rw [List.length_append, flat_append]; exact hrow, hval⟩
  obtain ⟨g, cap, he, _⟩ := hown.form (by rw [List.length_append]; omega)
  rw [List.length_append] at he
  exact h v' w' hown hg ⟨g, cap, he⟩
/-- The same as an equation of the run: for an operation of a region that draws. -/
theorem run_append_clip (t ty : TypeId) (T : Ty P E k ag) (i : TypeInfo) (z : Value) (bytes : Nat) (ht : P.underlying t = some (.slice E)) (hi : P.info? E = some i) (hz : i.zero = some z)
    (hsize : i.size = k) (hby : i.bytes = bytes) (hzs : z.cells.size = k)
    (ao : Option Addr) (xs : List Value) (hsl : Sl w ag k (.slice ao xs.length xs.length) xs)
    (ad : Addr) (c : Nat) (ys : List Value) (hsy : Sl w ag k (.slice (some ad) ys.length c) ys) (hne : 0 < ys.length)
    (h63 : xs.length + ys.length ≤ maxLen) (hbytes : (xs.length + ys.length) * bytes ≤ 140737488355328) :
    ∃ g cap w', (Builtin.append_ #[t, t] ty #[.slice ao xs.length xs.length, .slice (some ad) ys.length c]).run P w = .ok (.slice (some ⟨g, 0, none⟩) (xs.length + ys.length) cap) w' ∧
      Owned w' w.heap.size E ag k (.slice (some ⟨g, 0, none⟩) (xs.length + ys.length) cap) (xs ++ ys) ∧ w.grownBy w' none := by
  have hval : ∀ y ∈ xs ++ ys, Val ag k y := by
    intro y hy
    rcases List.mem_append.1 hy with hy | hy
    · exact hsl.val y hy
    · exact hsy.val y hy
  have key : ∃ v' w', (Builtin.append_ #[t, t] ty #[.slice ao xs.length xs.length, .slice (some ad) ys.length c]).run P w = .ok v' w' ∧ w'.ownsRow w.heap.size E k v' (xs.length + ys.length) (flat xs ++ flat ys) ∧ w.grownBy w' none := by
    cases ao with
    | some b => exact run_append_arg_grows (P := P) w t ty E i z k bytes ht hi hz hsize hby hzs T.pos b xs.length xs.length (flat xs) (flat_len hsl.val) hsl.news ad ys.length c (flat ys) (flat_len hsy.val) hsy.news (by omega) h63 hbytes
    | none =>
      obtain ⟨_, a', c', he, _, _, hf⟩ := hsl
      simp only [Value.slice.injEq] at he
      obtain ⟨rfl, _⟩ := he
      rcases hf with rfl | ⟨b, off, hb, _⟩
      · obtain ⟨v', w', hrun, r1, r2, _⟩ := run_append_own (P := P) w w.heap.size t ty E i z k bytes ht hi hz hsize hby hzs T.pos (.slice none 0 0) 0 [] (World.ownsRow_nil w _ E k) ad ys.length c (flat ys) (flat_len hsy.val) hsy.news (flat_one hsy.val) h63 hbytes (Nat.le_refl _)
        exact ⟨v', w', hrun, r1, r2⟩
      · cases hb
  obtain ⟨v', w', hr, hrow, hg⟩ := key
  have hown : Owned w' w.heap.size E ag k v' (xs ++ ys) := ⟨by rw [List.length_append, flat_append]; exact hrow, hval⟩
  obtain ⟨g, cap, he, _⟩ := hown.form (by rw [List.length_append]; omega)
  rw [List.length_append] at he
  subst he
  exact ⟨g, cap, w', hr, hown, hg⟩
theorem oper_append_run {o : Oper} {a : Act} {K : Act → World → Prop} {Q : Exit → Act → World → Prop} {s x : Operand} {t t' : TypeId} (ho : o.op = .call { callee := .builtin .append, args := #[s, x], argTypes := #[t, t'] })
    {v u : Value} (hs : a.eval s = v) (hx : a.eval x = u) {v' : Value} {w' : World} (hr : (Builtin.append_ #[t, t'] o.type #[v, u]).run P w = .ok v' w') (h : K (a.put o.dst v') w') : o.wp P a w K Q := by
  unfold Oper.wp
  simp [execOp, ho, resolve, invoke, builtin, hs, hx, hr, Result.andThen]
  exact h

/-- s[:m:m] -/
theorem Sl.run_clip' {xs : List Value} {v : Value} {t : TypeId} (T : Ty P E k ag) (ht : P.underlying t = some (.slice E)) (h : Sl w ag k v xs) (y : Int) (m : Nat) (hy : y = m) (hm : m ≤ xs.length) :
    ∃ ao, (∀ W, (Instr.slice t v none (some (.int .i64 y)) (some (.int .i64 y))).run P W = .ok (.slice ao m m) W) ∧ Sl w ag k (.slice ao m m) (xs.take m) := by
  obtain ⟨i, hi, hs⟩ := ty_info T
  obtain ⟨hv, a, cap, rfl, h1, h2, h3⟩ := h
  subst hy
  have hmc : m ≤ cap := by omega
  have hml : (xs.take m).length = m := by rw [List.length_take]; omega
  refine ⟨(if m = 0 then a else a.map (·.add (0 * k))), fun W => ?_, fun x hx => hv x (List.mem_of_mem_take hx), _, m, by rw [hml], by rw [hml]; exact Nat.le_refl _, by omega, ?_⟩
  · simp [Instr.slice, run_underlying ht, Instr.sliceBounds, Instr.sliceBound, asIntOf, sizeOf, typeInfo, hi, hs, hm, hmc, h1]
  · rcases h3 with rfl | ⟨b, off, rfl, hb, hc⟩
    · left; simp
    · by_cases hcm : m = 0
      · left
        subst hcm; rfl
      · right
        refine ⟨b, off, by rw [if_neg hcm]; simp [addr_add], hb, fun j x hx => ?_⟩
        rw [List.getElem?_take] at hx
        split at hx
        · exact hc j x hx
        · cases hx

end
end Go.Tm
