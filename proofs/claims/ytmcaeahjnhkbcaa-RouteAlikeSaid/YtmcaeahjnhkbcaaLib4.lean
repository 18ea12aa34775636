/- Slices that the call has made: a store of an element or of one cell of it; an append of a slice, of one element; a slice of one element. Conditions: none. -/
import Derived.Test.YtmcaeahjnhkbcaaLib2
import Derived.Great.BuildSlice
namespace Go.Tm
open Go Go.RowKit
set_option linter.unusedVariables false
set_option linter.unusedSimpArgs false

theorem flat_set {ag : Bool} {k : Nat} : ∀ {xs : List Value} (h : ∀ x ∈ xs, Val ag k x) {i : Nat} (hi : i < xs.length) (y : Value), flat (xs.set i y) = (flat xs).take (i * k) ++ y.cells.toList ++ (flat xs).drop (i * k + k)
  | [], _, i, hi, _ => by simp at hi
  | x :: xs, h, i, hi, y => by
    have hx := (h x (by simp)).len
    cases i with
    | zero =>
      simp only [List.set_cons_zero, flat_cons, Nat.zero_mul, List.take_zero, List.nil_append, Nat.zero_add]
      rw [List.drop_append_of_le_length (by omega), List.drop_of_length_le (by omega), List.nil_append]
    | succ i =>
      have ih := flat_set (fun z hz => h z (List.mem_cons_of_mem _ hz)) (i := i) (by simpa using hi) y
      have e1 : (i + 1) * k = k + i * k := by rw [Nat.succ_mul]; omega
      simp only [List.set_cons_succ, flat_cons, ih, e1]
      generalize i * k = m
      rw [List.take_append, List.drop_append, hx, List.take_of_length_le (l := x.cells.toList) (i := k + m) (by omega), List.drop_of_length_le (l := x.cells.toList) (i := k + m + k) (by omega),
        show k + m - k = m by omega, show k + m + k - k = m + k by omega]
      simp [List.append_assoc]

theorem set_self {α : Type} {xs : List α} {i : Nat} {x : α} (h : xs[i]? = some x) : xs.set i x = xs := by
  have hi := (List.getElem?_eq_some_iff.1 h).1
  apply List.ext_getElem?
  intro r
  rw [List.getElem?_set]
  split
  · rename_i hr
    subst hr
    first | rw [if_pos hi, h] | rw [h]
  · rfl

theorem take_step {α : Type} {xs : List α} {i : Nat} {x : α} (h : xs[i]? = some x) : xs.take (i + 1) = xs.take i ++ [x] := by
  rw [List.take_add_one, h]; rfl

section
variable {P : Program} {w : World} {base : Nat} {E : TypeId} {ag : Bool} {k : Nat} {v : Value} {xs : List Value}

/-- One element or more: the slice's own row. -/
theorem Owned.form (h : Owned w base E ag k v xs) (hne : 0 < xs.length) : ∃ g cap, v = .slice (some ⟨g, 0, none⟩) xs.length cap ∧ xs.length ≤ cap ∧ cap ≤ maxLen ∧ base ≤ g ∧ g < w.heap.size ∧ (∀ o, w.frozen? ⟨g, o, none⟩ = false) ∧
    (∀ (i : Nat) x, xs[i]? = some x → Cells w g (i * k) x.cells.toList) := by
  have hsl := h.sl
  obtain ⟨⟨hlen, hr⟩, hv⟩ := h
  rcases hr with ⟨rfl, h0⟩ | ⟨g, cap, cur, rfl, hb, hg, h1, h2, h3, h4⟩
  · omega
  · refine ⟨g, cap, rfl, h1, h2, hb, (Array.getElem?_eq_some_iff.1 hg).1, fun o => frozen_of_row w g o cur E hg, ?_⟩
    obtain ⟨_, a, cap', he, _, _, hf⟩ := hsl
    simp only [Value.slice.injEq, true_and] at he
    obtain ⟨rfl, _⟩ := he
    rcases hf with rfl | ⟨b, off, hb, _, hc⟩
    · simp at hne
    · simp only [Option.some.injEq, Addr.mk.injEq, and_true] at hb
      obtain ⟨rfl, rfl⟩ := hb
      intro i x hx
      have := hc i x hx
      rwa [Nat.zero_add] at this

/-- A cell of an element is written. -/
theorem Owned.cellSet {g n cap : Nat} (h : Owned w base E true k (.slice (some ⟨g, 0, none⟩) n cap) xs) {i : Nat} {cs : Array Value} (hx : xs[i]? = some (.agg cs)) {j : Nat} (hj : j < k) {u : Value} (hu : u.oneCell' = true) :
    Owned (w.setCell ⟨g, i * k + j, none⟩ u) base E true k (.slice (some ⟨g, 0, none⟩) n cap) (xs.set i (.agg (cs.setIfInBounds j u))) ∧ w.grownBy (w.setCell ⟨g, i * k + j, none⟩ u) (some g) := by
  have hn : n = xs.length := by
    obtain ⟨_, a, c, he, _⟩ := h.sl
    simp only [Value.slice.injEq] at he
    exact he.2.1
  subst hn
  have hi := (List.getElem?_eq_some_iff.1 hx).1
  have hmem : Value.agg cs ∈ xs := List.mem_of_getElem? hx
  obtain ⟨cs', he, hsz, hone⟩ : ∃ cs' : Array Value, Value.agg cs = .agg cs' ∧ cs'.size = k ∧ ∀ c ∈ cs'.toList, c.oneCell' = true := h.val _ hmem
  simp only [Value.agg.injEq] at he
  subst he
  have hst := h.row.stored (i * k + j) u
  refine ⟨⟨⟨?_, ?_⟩, ?_⟩, hst.2⟩
  · rw [flat_len (ag := true) (k := k), List.length_set]
    intro x hm
    rcases List.mem_or_eq_of_mem_set hm with hm | rfl
    · exact h.val x hm
    · exact ⟨_, rfl, by simpa using hsz, by
        intro c hc
        rw [Array.toList_setIfInBounds] at hc
        rcases List.mem_or_eq_of_mem_set hc with hc | rfl
        · exact hone c hc
        · exact hu⟩
  · have hf : (flat xs).set (i * k + j) u = flat (xs.set i (.agg (cs.setIfInBounds j u))) := by
      rw [flat_set h.val hi]
      have hfl : (flat xs) = (flat xs).take (i * k) ++ cs.toList ++ (flat xs).drop (i * k + k) := by
        have := flat_set h.val hi (.agg cs)
        rw [set_self hx] at this
        exact this
      have hl1 : ((flat xs).take (i * k)).length = i * k := by
        rw [List.length_take, flat_len h.val]
        exact Nat.min_eq_left (Nat.mul_le_mul_right _ (by omega))
      conv => lhs; rw [hfl]
      rw [List.append_assoc, List.set_append, if_neg (by omega), hl1, show i * k + j - i * k = j by omega, List.set_append, if_pos (by simp; omega)]
      simp [List.append_assoc, Value.cells]
    rw [← hf]
    have h2 := hst.1.2
    rw [List.length_set]
    exact h2
  · intro x hm
    rcases List.mem_or_eq_of_mem_set hm with hm | rfl
    · exact h.val x hm
    · exact ⟨_, rfl, by simpa using hsz, by
        intro c hc
        rw [Array.toList_setIfInBounds] at hc
        rcases List.mem_or_eq_of_mem_set hc with hc | rfl
        · exact hone c hc
        · exact hu⟩

/-- An element is written whole. -/
theorem Owned.storeVal (T : Ty P E k ag) {g n cap : Nat} (h : Owned w base E ag k (.slice (some ⟨g, 0, none⟩) n cap) xs) {i : Nat} (hi : i < xs.length) {x : Value} (hx : Val ag k x) :
    ∃ w', (storeVar E ⟨g, i * k, none⟩ x).run P w = .ok () w' ∧ Owned w' base E ag k (.slice (some ⟨g, 0, none⟩) n cap) (xs.set i x) ∧ w.grownBy w' (some g) := by
  obtain ⟨⟨hlen, hr⟩, hv⟩ := h
  rcases hr with ⟨h0, _⟩ | ⟨g', cap', cur, he, hb, hg, h1, h2, h3, h4⟩
  · simp at h0
  simp only [Value.slice.injEq, Option.some.injEq, Addr.mk.injEq, and_true, true_and] at he
  obtain ⟨rfl, hn, rfl⟩ := he
  have hik : i * k + k ≤ xs.length * k := by rw [← Nat.succ_mul]; exact Nat.mul_le_mul_right _ hi
  have hck : xs.length * k ≤ cap * k := Nat.mul_le_mul_right _ h1
  have hxl := hx.len
  have hfit : i * k + k ≤ cur.size := by rw [h3]; omega
  refine ⟨_, run_storeVar_val T hx hg hfit, ⟨⟨?_, ?_⟩, ?_⟩, ?_⟩
  · rw [flat_len (ag := ag) (k := k), List.length_set]
    intro y hm
    rcases List.mem_or_eq_of_mem_set hm with hm | rfl
    · exact hv y hm
    · exact hx
  · refine .inr ⟨g, cap, _, ?_, hb, setRow_heap w g cur _ E (0, 0) hg, ?_, h2, ?_, ?_⟩
    · rw [List.length_set, hn]
    · rw [List.length_set]; exact h1
    · simp only [List.size_toArray, List.length_append, List.length_take, List.length_drop, Array.length_toList, hxl]
      rw [h3] at hfit ⊢
      omega
    · rw [flat_set hv hi, List.length_set]
      have hf : flat xs = cur.toList.take (xs.length * k) := h4.symm
      rw [hf, List.take_take, Nat.min_eq_left (by omega), List.drop_take]
      apply List.ext_getElem?
      intro j
      simp only [List.getElem?_append, List.getElem?_take, List.getElem?_drop, List.length_append, List.length_take, List.length_drop, Array.length_toList, hxl]
      rw [h3]
      repeat' split
      all_goals first
        | rfl
        | (exfalso; omega)
        | (congr 1; omega)
        | (simp only [List.getElem?_eq_none_iff]; simp; omega)
        | (symm; simp only [List.getElem?_eq_none_iff]; simp; omega)
  · intro y hm
    rcases List.mem_or_eq_of_mem_set hm with hm | rfl
    · exact hv y hm
    · exact hx
  · exact ⟨rfl, rfl, rfl, by simp [World.setRow], fun b hb hne => setRow_other w g b _ (by intro he; exact hne (by rw [he]))⟩

theorem wpList_store_own {ops : Array Oper} {rest : List Oper} {o : Oper} {a : Act} {Q : Exit → Act → World → Prop} (hgd : o.guard = none) (p q : Operand) (ho : o.op = .store E p q)
    (T : Ty P E k ag) (g n cap : Nat) (h : Owned w base E ag k (.slice (some ⟨g, 0, none⟩) n cap) xs) (i : Nat) (hi : i < xs.length) (hp : a.eval p = .pointer (some ⟨g, i * k, none⟩))
    (x : Value) (hq : a.eval q = x) (hx : Val ag k x)
    (hK : ∀ w', Owned w' base E ag k (.slice (some ⟨g, 0, none⟩) n cap) (xs.set i x) → w.grownBy w' (some g) → wpList P ops Q rest (a.put o.dst undef) w') : wpList P ops Q (o :: rest) a w :=
  wpList_plain hgd fun K hK' => by
    obtain ⟨w', hr, h1, h2⟩ := h.storeVal T hi hx
    unfold Oper.wp execOp
    simp only [ho, hp, hq, Instr.storeAt, Instr.sureAddr, Sem.run_bind, Sem.run_pure, Result.andThen_ok, hr]
    exact hK' _ _ (hK w' h1 h2)

/-- append(s, l...): s is the call's own, l may be whose it will. -/
theorem wpList_append_sl {ops : Array Oper} {rest : List Oper} {o : Oper} {a : Act} {Q : Exit → Act → World → Prop} (hgd : o.guard = none) (s x : Operand) (t : TypeId)
    (ho : o.op = .call { callee := .builtin .append, args := #[s, x], argTypes := #[t, t] })
    (T : Ty P E k ag) (i : TypeInfo) (z : Value) (bytes : Nat) (ht : P.underlying t = some (.slice E)) (hi : P.info? E = some i) (hz : i.zero = some z)
    (hsize : i.size = k) (hby : i.bytes = bytes) (hzs : z.cells.size = k)
    (hs : a.eval s = v) (hown : Owned w base E ag k v xs) (u : Value) (ys : List Value) (hx : a.eval x = u) (hsl : Sl w ag k u ys)
    (h63 : xs.length + ys.length ≤ maxLen) (hbytes : (xs.length + ys.length) * bytes ≤ 140737488355328) (hbase : base ≤ w.heap.size)
    (h : ∀ v' w', Owned w' base E ag k v' (xs ++ ys) → w.grownBy w' v.ownBlock → (ys ≠ [] ∨ xs ≠ [] → ∃ g cap, v' = .slice (some ⟨g, 0, none⟩) (xs.length + ys.length) cap) → wpList P ops Q rest (a.put o.dst v') w') : wpList P ops Q (o :: rest) a w := by
  have hval : ∀ y ∈ xs ++ ys, Val ag k y := by
    intro y hy
    rcases List.mem_append.1 hy with hy | hy
    · exact hown.val y hy
    · exact hsl.val y hy
  have hform : ∀ {v' : Value} {w' : World}, Owned w' base E ag k v' (xs ++ ys) → (ys ≠ [] ∨ xs ≠ [] → ∃ g cap, v' = .slice (some ⟨g, 0, none⟩) (xs.length + ys.length) cap) := by
    intro v' w' h1 hne
    have hlen : 0 < (xs ++ ys).length := by
      rw [List.length_append]
      rcases hne with hne | hne
      · have := List.length_pos_iff.2 hne; omega
      · have := List.length_pos_iff.2 hne; omega
    obtain ⟨g, cap, he, _⟩ := h1.form hlen
    rw [List.length_append] at he
    exact ⟨g, cap, he⟩
  have hsl0 := hsl
  obtain ⟨hv, ad, c, rfl, hlc, hcm, hform2⟩ := hsl
  cases ad with
  | none =>
    have h0 : ys = [] := by
      rcases hform2 with h0 | ⟨b, off, hb, _⟩
      · exact h0
      · cases hb
    subst h0
    refine wpList_plain hgd fun K hK => ?_
    have h1 : Owned w base E ag k v (xs ++ []) := by rw [List.append_nil]; exact hown
    have hr : ∀ ty, (Builtin.append_ #[t, t] ty #[v, .slice none 0 c]).run P w = .ok v w := by
      intro ty
      rcases hown.row.2 with ⟨rfl, _⟩ | ⟨g, cap, cur, rfl, _, _, hnc, _⟩
      · simp [Builtin.append_, run_underlying ht, sizeOf, typeInfo, hi, Builtin.lenOf, Builtin.firstCells]
      · simp [Builtin.append_, run_underlying ht, sizeOf, typeInfo, hi, Builtin.lenOf, Builtin.firstCells, hnc, storeCells]
    unfold Oper.wp execOp
    simp only [ho, resolve, invoke, builtin, Sem.run_bind, Sem.run_pure, Result.andThen_ok, List.map_toArray, List.map_cons, List.map_nil, hs, hx, List.length_nil, hr]
    exact hK _ _ (h v w h1 (grown_refl w _) (hform h1))
  | some ad =>
    refine wpList_append_own w hgd s x t ho base E i z k bytes ht hi hz hsize hby hzs T.pos v xs.length (flat xs) hs hown.row ad ys.length c (flat ys) hx (flat_len hv) hsl0.news (flat_one hv) h63 hbytes hbase ?_
    intro v' w' h1 h2 _
    have h3 : Owned w' base E ag k v' (xs ++ ys) := ⟨by rw [List.length_append, flat_append]; exact h1, hval⟩
    exact h v' w' h3 h2 (hform h3)

theorem wpList_build_one {ops : Array Oper} {rest : List Oper} {o : Oper} {a : Act} {Q : Exit → Act → World → Prop} (hgd : o.guard = none) (t : TypeId) (q : Operand) (ho : o.op = .buildSlice t 1 #[(0, q)])
    (T : Ty P E k ag) (hk : k ≤ 16777216) (i : TypeInfo) (z : Value) (ht : P.underlying t = some (.slice E)) (hi : P.info? E = some i) (hz : i.zero = some z) (hsize : i.size = k)
    (x : Value) (hq : a.eval q = x) (hx : Val ag k x)
    (h : wpList P ops Q rest (a.put o.dst (.slice (some ⟨w.heap.size, 0, none⟩) 1 1)) (w.alloc (.cells x.cells E))) : wpList P ops Q (o :: rest) a w := by
  refine wpList_plain hgd fun K hK => ?_
  have hp := T.pos
  refine wp_buildSlice t E 1 #[(0, q)] ho x.cells i z ht hi hz (by rw [hsize]; omega) (by rw [hsize]; omega) ?_ (hK _ _ h)
  have hw := Great.fill_whole hp [x] ((Array.range (1 * k)).map (z.cells[· % z.cells.size]!)) (by simpa using hx.size) (by simp)
  rw [hsize]
  simp only [List.map_toArray, List.map_cons, List.map_nil, hq]
  simpa using hw
theorem Owned.made1 {x : Value} (hx : Val ag k x) (hb : base ≤ w.heap.size) : Owned (w.alloc (.cells x.cells E)) base E ag k (.slice (some ⟨w.heap.size, 0, none⟩) 1 1) [x] := by
  have h := World.ownsRow_lit (base := base) (e := E) (size := k) w x.cells 1 hb (by decide) (by rw [hx.size]; simp)
  exact ⟨by simpa [flat] using h, by simpa using hx⟩
/-- A slice of one element, made just now. -/
theorem Sl.made1 {x : Value} (hx : Val ag k x) {n : Nat} (hn : n = w.heap.size) : Sl (w.alloc (.cells x.cells E)) ag k (.slice (some ⟨n, 0, none⟩) 1 1) [x] := by
  subst hn
  exact (Owned.made1 (base := 0) hx (Nat.zero_le _)).sl
theorem Owned.made0 (hb : base ≤ w.heap.size) : Owned (w.alloc (.cells #[] E)) base E ag k (.slice (some ⟨w.heap.size, 0, none⟩) 0 0) [] := by
  have h := World.ownsRow_lit (base := base) (e := E) (size := k) w #[] 0 hb (by decide) (by simp)
  exact ⟨by simpa [flat] using h, by simp⟩
theorem Owned.nil : Owned w base E ag k (.slice none 0 0) [] := ⟨World.ownsRow_nil _ _ _ _, by simp⟩
theorem Owned.own_ge (h : Owned w base E ag k v xs) : ∀ b, v.ownBlock = some b → base ≤ b := by
  intro b hb
  rcases h.row.2 with ⟨rfl, _⟩ | ⟨g, cap, cur, rfl, hg, _⟩
  · simp [Value.ownBlock] at hb
  · simp [Value.ownBlock] at hb; subst hb; exact hg
/-- Behind a step that turned nothing old but the call's own row. -/
theorem Owned.below {w0 w' : World} {B : Nat} (h : Owned w base E ag k v xs) (hg : w.grownBy w' v.ownBlock) (h0 : Below B w0 w) (hB : B ≤ base) (hw : B ≤ w.heap.size) : Below B w0 w' :=
  h0.grown hg hw fun b hb => Nat.le_trans hB (h.own_ge b hb)
theorem Owned.form' {g n cap : Nat} {a : Option Addr} (h : Owned w base E ag k (.slice a n cap) xs) : n = xs.length := by
  obtain ⟨_, a, c, he, _⟩ := h.sl
  simp only [Value.slice.injEq] at he
  exact he.2.1
end
end Go.Tm
