/- slices.Insert's steps on rows that the call has made: append of zeros that grows, copy into a row, slices of slices as values. Conditions: none. -/
import Derived.Test.YtmcaeahjnhkbcaaLib5
import Derived.Lib.Overlaps
import Derived.Lib.AppendZeros
namespace Go.Tm
open Go Go.RowKit
set_option linter.unusedVariables false
set_option linter.unusedSimpArgs false

theorem flat_drop {ag : Bool} {k : Nat} {xs : List Value} (h : ∀ x ∈ xs, Val ag k x) (m : Nat) : flat (xs.drop m) = (flat xs).drop (m * k) := by
  induction xs generalizing m with
  | nil => simp [flat]
  | cons x xs ih =>
    cases m with
    | zero => simp
    | succ m =>
      have hx := (h x (by simp)).len
      rw [List.drop_succ_cons, flat_cons, ih (fun y hy => h y (by simp [hy])) m, List.drop_append, hx, List.drop_of_length_le (l := x.cells.toList) (by rw [hx, Nat.succ_mul]; omega), List.nil_append]
      congr 1
      rw [Nat.succ_mul]; omega
theorem flat_replicate {z : Value} (n : Nat) : flat (List.replicate n z) = (List.replicate n z.cells.toList).flatten := by
  induction n with
  | zero => simp [flat]
  | succ n ih => rw [List.replicate_succ, flat_cons, ih]; simp [List.replicate_succ]
theorem zeroCells_flat {k : Nat} {z : Value} (hz : z.cells.size = k) (hk : 0 < k) (n : Nat) : (Builtin.zeroCells z.cells n).toList = flat (List.replicate n z) := by
  induction n with
  | zero => simp [Builtin.zeroCells, flat]
  | succ n ih =>
    apply List.ext_getElem?
    intro j
    have hl : (Builtin.zeroCells z.cells n).toList.length = n * k := by rw [Array.length_toList, size_zeroCells, hz]
    have hl1 : (Builtin.zeroCells z.cells (n + 1)).toList.length = n * k + k := by rw [Array.length_toList, size_zeroCells, hz, Nat.succ_mul]
    have hzl : z.cells.toList.length = k := by simpa using hz
    rw [List.replicate_succ', flat_append, ← ih]
    have hf1 : flat [z] = z.cells.toList := by simp [flat]
    rw [hf1]
    by_cases h1 : j < n * k
    · rw [List.getElem?_append_left (by omega)]
      simp only [Builtin.zeroCells, Array.toList_map, List.getElem?_map, Array.toList_range, hz]
      rw [List.getElem?_range (by rw [Nat.succ_mul]; omega), List.getElem?_range h1]
    · by_cases h2 : j < n * k + k
      · rw [List.getElem?_append_right (by omega), hl]
        simp only [Builtin.zeroCells, Array.toList_map, List.getElem?_map, Array.toList_range, hz]
        rw [List.getElem?_range (by rw [Nat.succ_mul]; omega)]
        have hm : j % k = j - n * k := by
          have : j = (j - n * k) + k * n := by rw [Nat.mul_comm k n]; omega
          rw [this, Nat.add_mul_mod_self_left, Nat.mod_eq_of_lt (by omega)]
          rw [Nat.mul_comm k n]; omega
        simp only [Option.map_some, hm]
        have hlt : j - n * k < z.cells.size := by omega
        rw [getElem!_pos z.cells _ hlt, List.getElem?_eq_getElem (by simpa using hlt)]
        simp
      · rw [List.getElem?_eq_none (by omega), List.getElem?_eq_none (by simp only [List.length_append]; omega)]

section
variable {P : Program} {w : World} {base : Nat} {E : TypeId} {ag : Bool} {k : Nat} {v : Value} {xs : List Value}

/-- s[m:] where there is room behind m. -/
theorem run_from {t : TypeId} (T : Ty P E k ag) (ht : P.underlying t = some (.slice E)) (b off n cap : Nat) (y : Int) (m : Nat) (hy : y = m) (hm : m ≤ n) (hn : n ≤ cap) (hc : m < cap) (W : World) :
    (Instr.slice t (.slice (some ⟨b, off, none⟩) n cap) (some (.int .i64 y)) none none).run P W = .ok (.slice (some ⟨b, off + m * k, none⟩) (n - m) (cap - m)) W := by
  obtain ⟨i, hi, hs⟩ := ty_info T
  subst hy
  have h1 : ¬ cap = m := by omega
  simp [Instr.slice, run_underlying ht, Instr.sliceBounds, Instr.sliceBound, asIntOf, sizeOf, typeInfo, hi, hs, hm, h1, addr_add]
/-- s[:m]. -/
theorem run_upto {t : TypeId} (T : Ty P E k ag) (ht : P.underlying t = some (.slice E)) (b off n cap : Nat) (y : Int) (m : Nat) (hy : y = m) (hm : m ≤ cap) (W : World) :
    (Instr.slice t (.slice (some ⟨b, off, none⟩) n cap) none (some (.int .i64 y)) none).run P W = .ok (.slice (some ⟨b, off, none⟩) m cap) W := by
  obtain ⟨i, hi, hs⟩ := ty_info T
  subst hy
  simp [Instr.slice, run_underlying ht, Instr.sliceBounds, Instr.sliceBound, asIntOf, sizeOf, typeInfo, hi, hs, hm, addr_add]

/-- append(s[:i], make([]T, m)...) where that is more than there is room for. -/
theorem run_append_grow_zeros {t tn ty : TypeId} (T : Ty P E k ag) (i : TypeInfo) (z : Value) (kn : IntKind) (ht : P.underlying t = some (.slice E)) (htn : P.underlying tn = some (.int kn)) (hi : P.info? E = some i) (hz : i.zero = some z) (hsize : i.size = k)
    (b : Addr) (sLen sCap : Nat) (olds : List Value) (hlo : olds.length = sLen * k) (holds : ∀ j v, olds[j]? = some v → w.cell? (b.add j) = some v)
    (n : Nat) (h0 : 0 < n) (hg : sCap < sLen + n) (h63 : ((sLen + n : Nat) : Int) ≤ 9223372036854775807) (hb : (sLen + n) * i.bytes ≤ 140737488355328) :
    (Builtin.append_ #[t, tn] ty #[.slice (some b) sLen sCap, .int .i64 n]).run P w =
      .ok (.slice (some ⟨w.heap.size, 0, none⟩) (sLen + n) (grownCap w (sLen + n) sCap E))
        (w.drew.alloc (.cells (olds.toArray ++ Builtin.zeroCells z.cells n ++ Builtin.zeroCells z.cells (grownCap w (sLen + n) sCap E - (sLen + n))) E)) := by
  subst hsize
  have hfit := growslice_fits (need := sLen + n) (bytes := i.bytes) (by omega : sCap < sLen + n) hb
  have hn : ¬ (sLen + n ≤ sCap) := by omega
  have hn0 : n ≠ 0 := by omega
  have hw : IntKind.i64.wrap (n : Int) = n := by rw [IntKind.wrap_i64]; omega
  have h63' : ¬ (9223372036854775807 < ((sLen : Int) + (n : Int))) := by omega
  have h48' : ¬ (281474976710656 < Builtin.nextslicecap (sLen + n) sCap * i.bytes) := by omega
  have hnb : n * i.bytes ≤ (sLen + n) * i.bytes := Nat.mul_le_mul_right _ (by omega)
  have h48i : ¬ (281474976710656 < (n : Int) * (i.bytes : Int)) := by
    rw [← Int.natCast_mul]
    omega
  have hneg : ¬ ((n : Int) < 0) := by omega
  have hns : ¬ (n * i.size = 0) := Nat.mul_ne_zero hn0 (by have := T.pos; omega)
  have hf := run_firstCells_some (P := P) w.drew i.size sLen b sLen sCap olds hlo (by simpa using holds)
  simp [Builtin.append_, run_underlying ht, run_underlying htn, sizeOf, typeInfo, zeroValue, hi, hz, asInt, asIntOf, hw, hn, hneg, hns, h63', h48', h48i, Question.forced, hf, newRow, grownCap]

/-- copy(d, s): d a part of the row g, from the cell o on. -/
theorem copyRow_run {t ty : TypeId} (T : Ty P E k ag) (ht : P.underlying t = some (.slice E)) {g o m c : Nat} {cur : Array Value} (hg : w.heap[g]? = some (.cells cur E (0, 0))) {ad : Addr} {n cs : Nat} {news : List Value}
    (hl : news.length = min n m * k) (hnews : ∀ j u, news[j]? = some u → w.cell? (ad.add j) = some u) (h1 : ∀ u ∈ news, u.oneCell' = true) (hfit : o + news.length ≤ cur.size) :
    (Builtin.copy_ #[t, t] ty #[.slice (some ⟨g, o, none⟩) m c, .slice (some ad) n cs]).run P w = .ok (goInt (min n m)) (w.setRow g (cur.toList.take o ++ news ++ cur.toList.drop (o + news.length)).toArray) := by
  obtain ⟨i, hi, hs⟩ := ty_info T
  have hf := run_firstCells_some (P := P) w k (min n m) ad n cs news hl hnews
  have hst := run_storeCells_at P g o E news 0 cur w hg (by simpa using hfit) h1
  simp only [Nat.add_zero] at hst
  have hmn : Nat.min n m = min n m := rfl
  simp [Builtin.copy_, run_underlying ht, sizeOf, typeInfo, hi, hs, Builtin.lenOf, hmn, hf, hst]
  congr 1
  omega

theorem wpList_copy_run {ops : Array Oper} {rest : List Oper} {o : Oper} {a : Act} {Q : Exit → Act → World → Prop} (hgd : o.guard = none) (d s : Operand) (t t' : TypeId)
    (ho : o.op = .call { callee := .builtin .copy, args := #[d, s], argTypes := #[t, t'] }) (v u : Value) (hd : a.eval d = v) (hs : a.eval s = u) {v' : Value} {w' : World}
    (hr : (Builtin.copy_ #[t, t'] o.type #[v, u]).run P w = .ok v' w') (h : wpList P ops Q rest (a.put o.dst v') w') : wpList P ops Q (o :: rest) a w :=
  wpList_plain hgd fun K hK => by
    unfold Oper.wp execOp
    simp only [ho, resolve, invoke, builtin, Sem.run_bind, Sem.run_pure, Result.andThen_ok, List.map_toArray, List.map_cons, List.map_nil, hd, hs, hr]
    exact hK _ _ h

/-- copy(s[i:], u): s is the call's own; u fits. -/
theorem Owned.copyIn {t ty : TypeId} (T : Ty P E k ag) (ht : P.underlying t = some (.slice E)) {g n cap : Nat} {zs ys : List Value} (h : Owned w base E ag k (.slice (some ⟨g, 0, none⟩) n cap) zs) {i m c : Nat} {ad : Addr} {cs : Nat}
    (hu : Sl w ag k (.slice (some ad) ys.length cs) ys) (hm : ys.length ≤ m) (hi : i + ys.length ≤ zs.length) :
    ∃ w', (Builtin.copy_ #[t, t] ty #[.slice (some ⟨g, i * k, none⟩) m c, .slice (some ad) ys.length cs]).run P w = .ok (goInt ys.length) w' ∧
      Owned w' base E ag k (.slice (some ⟨g, 0, none⟩) n cap) (zs.take i ++ ys ++ zs.drop (i + ys.length)) ∧ w.grownBy w' (some g) := by
  have hn : n = zs.length := Owned.form' (g := g) h
  have hnews := hu.news
  have hyv := hu.val
  have hyl := flat_len hyv
  have hone := flat_one hyv
  obtain ⟨⟨hlen, hr⟩, hv⟩ := h
  rcases hr with ⟨h0, _⟩ | ⟨g', cap', cur, he, hb, hg, h1, h2, h3, h4⟩
  · simp at h0
  simp only [Value.slice.injEq, Option.some.injEq, Addr.mk.injEq, and_true, true_and] at he
  obtain ⟨rfl, _, rfl⟩ := he
  have e1 : i * k + ys.length * k = (i + ys.length) * k := (Nat.add_mul _ _ _).symm
  have e2 : (i + ys.length) * k ≤ zs.length * k := Nat.mul_le_mul_right _ hi
  have e3 : zs.length * k ≤ cap * k := Nat.mul_le_mul_right _ h1
  have hmin : min ys.length m = ys.length := by omega
  have hrun := copyRow_run (ty := ty) (c := c) (m := m) (o := i * k) (cs := cs) T ht hg (n := ys.length) (by rw [hmin]; exact hyl) hnews hone (by rw [hyl, h3]; omega)
  rw [show min (ys.length : Int) (m : Int) = ys.length by omega] at hrun
  have hv' : ∀ x ∈ zs.take i ++ ys ++ zs.drop (i + ys.length), Val ag k x := by
    intro x hx
    rcases List.mem_append.1 hx with hx | hx
    · rcases List.mem_append.1 hx with hx | hx
      · exact hv x (List.mem_of_mem_take hx)
      · exact hyv x hx
    · exact hv x (List.mem_of_mem_drop hx)
  have hlz : (zs.take i ++ ys ++ zs.drop (i + ys.length)).length = zs.length := by
    simp only [List.length_append, List.length_take, List.length_drop]; omega
  refine ⟨_, hrun, ⟨⟨by rw [flat_len hv'], ?_⟩, hv'⟩, ⟨rfl, rfl, rfl, by simp [World.setRow], fun b hb hne => setRow_other w g b _ (by intro he; exact hne (by rw [he]))⟩⟩
  refine .inr ⟨g, cap, _, by rw [hlz, hn], hb, setRow_heap w g cur _ E (0, 0) hg, by rw [hlz]; exact h1, h2, ?_, ?_⟩
  · simp only [List.size_toArray, List.length_append, List.length_take, List.length_drop, Array.length_toList, hyl]
    rw [h3]; omega
  · rw [hlz, flat_append, flat_append, flat_take hv, flat_drop hv, ← h4, List.take_take, Nat.min_eq_left (by omega), List.drop_take, hyl, e1, List.append_assoc, List.append_assoc, List.take_append, List.take_append]
    have l1 : (cur.toList.take (i * k)).length = i * k := by rw [List.length_take, Array.length_toList, h3]; omega
    rw [List.take_of_length_le (by omega), l1, List.take_of_length_le (l := flat ys) (by omega), hyl]
    congr 3
    omega

theorem wpList_copy_own {ops : Array Oper} {rest : List Oper} {o : Oper} {a : Act} {Q : Exit → Act → World → Prop} (hgd : o.guard = none) (d s : Operand) (t : TypeId)
    (ho : o.op = .call { callee := .builtin .copy, args := #[d, s], argTypes := #[t, t] }) (T : Ty P E k ag) (ht : P.underlying t = some (.slice E)) (g n cap : Nat) (zs ys : List Value) (h : Owned w base E ag k (.slice (some ⟨g, 0, none⟩) n cap) zs)
    (i m c : Nat) (ad : Addr) (cs : Nat) (hu : Sl w ag k (.slice (some ad) ys.length cs) ys) (hm : ys.length ≤ m) (hi : i + ys.length ≤ zs.length)
    (hd : a.eval d = .slice (some ⟨g, i * k, none⟩) m c) (hs : a.eval s = .slice (some ad) ys.length cs)
    (hK : ∀ w', Owned w' base E ag k (.slice (some ⟨g, 0, none⟩) n cap) (zs.take i ++ ys ++ zs.drop (i + ys.length)) → w.grownBy w' (some g) → wpList P ops Q rest (a.put o.dst (goInt ys.length)) w') : wpList P ops Q (o :: rest) a w := by
  obtain ⟨w', hr, h1, h2⟩ := h.copyIn (ty := o.type) (m := m) (c := c) T ht hu hm hi
  exact wpList_copy_run hgd d s t t ho _ _ hd hs hr (hK w' h1 h2)

/-- append(s[:i], make([]T, m)...) that outgrows the call's own row s. -/
theorem wpList_append_grow_own {ops : Array Oper} {rest : List Oper} {o : Oper} {a : Act} {Q : Exit → Act → World → Prop} (hgd : o.guard = none) (s x : Operand) (t tn : TypeId)
    (ho : o.op = .call { callee := .builtin .append, args := #[s, x], argTypes := #[t, tn] }) (T : Ty P E k ag) (i0 : TypeInfo) (z : Value) (kn : IntKind) (bytes : Nat)
    (ht : P.underlying t = some (.slice E)) (htn : P.underlying tn = some (.int kn)) (hi0 : P.info? E = some i0) (hz : i0.zero = some z) (hsize : i0.size = k) (hby : i0.bytes = bytes) (hzv : Val ag k z)
    (g n cap : Nat) (h : Owned w base E ag k (.slice (some ⟨g, 0, none⟩) n cap) xs) (i m : Nat) (hi : i ≤ xs.length) (hm : 0 < m) (hg : cap < i + m) (h63 : i + m ≤ maxLen) (hb : (i + m) * bytes ≤ 140737488355328) (hbase : base ≤ w.heap.size)
    (hs : a.eval s = .slice (some ⟨g, 0, none⟩) i cap) (hx : a.eval x = .int .i64 m)
    (hK : ∀ cap2 w', i + m ≤ cap2 → Owned w' base E ag k (.slice (some ⟨w.heap.size, 0, none⟩) (i + m) cap2) (xs.take i ++ List.replicate m z) → w.grownBy w' none → wpList P ops Q rest (a.put o.dst (.slice (some ⟨w.heap.size, 0, none⟩) (i + m) cap2)) w') : wpList P ops Q (o :: rest) a w := by
  subst hby
  have hsl := (h.take hi).sl
  have hil : (xs.take i).length = i := by rw [List.length_take]; omega
  have hr := run_append_grow_zeros (ty := o.type) (sCap := cap) T i0 z kn ht htn hi0 hz hsize ⟨g, 0, none⟩ i (flat (xs.take i)) (by rw [flat_len hsl.val, hil]) hsl.news m hm hg (by unfold maxLen at h63; omega) hb
  refine Lib.wpList_append_run w hgd s x t tn ho _ _ hs hx _ _ hr ?_
  have hge := grownCap_ge w (i + m) cap E
  have hcm : grownCap w (i + m) cap E ≤ maxLen := grownCap_le_maxLen w (i + m) cap E h63
  have hval : ∀ y ∈ xs.take i ++ List.replicate m z, Val ag k y := by
    intro y hy
    rcases List.mem_append.1 hy with hy | hy
    · exact hsl.val y hy
    · rw [List.eq_of_mem_replicate hy]; exact hzv
  have hlen : (xs.take i ++ List.replicate m z).length = i + m := by simp [hil]
  refine hK _ _ hge ⟨⟨by rw [flat_len hval], .inr ⟨w.heap.size, _, _, by rw [hlen], hbase, heap_alloc_new w.drew _, by rw [hlen]; exact hge, hcm, ?_, ?_⟩⟩, hval⟩ ⟨rfl, rfl, rfl, by simp, fun b hb _ => Below.heap_alloc w.drew _ b hb⟩
  · simp only [Array.size_append, size_zeroCells, hzv.size, List.size_toArray, flat_len hsl.val, hil, ← Nat.add_mul]
    congr 1
    omega
  · rw [hlen, flat_append, ← zeroCells_flat hzv.size T.pos]
    simp only [Array.toList_append]
    rw [List.take_append_of_le_length (by simp only [List.length_append, Array.length_toList, size_zeroCells, hzv.size, flat_len hsl.val, hil, ← Nat.add_mul]; exact Nat.le_refl _)]
    rw [List.take_of_length_le (by simp only [List.length_append, Array.length_toList, size_zeroCells, hzv.size, flat_len hsl.val, hil, ← Nat.add_mul]; exact Nat.le_refl _)]

/-- One element is put into a row in place: the cells behind it have been moved up first. -/
theorem row_insert (cur D X : List Value) (a b : Nat) (hX : X.length = b) (hl : a + b ≤ cur.length) :
    ((cur.take (a + b) ++ D ++ cur.drop (a + b + D.length)).take a ++ X ++ (cur.take (a + b) ++ D ++ cur.drop (a + b + D.length)).drop (a + X.length)) = cur.take a ++ X ++ D ++ cur.drop (a + b + D.length) := by
  subst hX
  have h1 : (cur.take (a + X.length)).length = a + X.length := by rw [List.length_take]; omega
  rw [List.append_assoc (cur.take (a + X.length)), List.take_append_of_le_length (by omega), List.take_take, Nat.min_eq_left (by omega), List.drop_left' h1]
  simp only [List.append_assoc]
/-- What such a row reads as. -/
theorem Owned.inserted {g cap : Nat} {cur : Array Value} {W : World} {i : Nat} {x : Value} (hv : ∀ y ∈ xs, Val ag k y) (hx : Val ag k x) (hb : base ≤ g) (hc : xs.length + 1 ≤ cap) (hcm : cap ≤ maxLen) (hs : cur.size = cap * k) (ht : cur.toList.take (xs.length * k) = flat xs) (hi : i ≤ xs.length)
    (hg : W.heap[g]? = some (.cells (cur.toList.take (i * k) ++ x.cells.toList ++ flat (xs.drop i) ++ cur.toList.drop (i * k + k + (flat (xs.drop i)).length)).toArray E (0, 0))) :
    Owned W base E ag k (.slice (some ⟨g, 0, none⟩) (xs.length + 1) cap) (xs.take i ++ x :: xs.drop i) := by
  have hv' : ∀ y ∈ xs.take i ++ x :: xs.drop i, Val ag k y := by
    intro y hy
    rcases List.mem_append.1 hy with hy | hy
    · exact hv y (List.mem_of_mem_take hy)
    · rcases List.mem_cons.1 hy with rfl | hy
      · exact hx
      · exact hv y (List.mem_of_mem_drop hy)
  have hlen : (xs.take i ++ x :: xs.drop i).length = xs.length + 1 := by
    simp only [List.length_append, List.length_cons, List.length_take, List.length_drop]; omega
  have hdl : (flat (xs.drop i)).length = (xs.length - i) * k := by
    rw [flat_len (fun y hy => hv y (List.mem_of_mem_drop hy)), List.length_drop]
  have hxl := hx.len
  have e1 : i * k + (xs.length - i) * k = xs.length * k := by rw [← Nat.add_mul]; congr 1; omega
  have e2 : (xs.length + 1) * k = xs.length * k + k := Nat.succ_mul _ _
  have e3 : (xs.length + 1) * k ≤ cap * k := Nat.mul_le_mul_right _ hc
  have hcl : cur.toList.length = cap * k := by simpa using hs
  refine ⟨⟨by rw [flat_len hv'], .inr ⟨g, cap, _, by rw [hlen], hb, hg, by rw [hlen]; exact hc, hcm, ?_, ?_⟩⟩, hv'⟩
  · simp only [List.size_toArray, List.length_append, List.length_take, List.length_drop, hcl, hxl, hdl]
    omega
  · have hf : flat (xs.take i ++ x :: xs.drop i) = cur.toList.take (i * k) ++ x.cells.toList ++ flat (xs.drop i) := by
      rw [flat_append, flat_cons, flat_take hv, ← ht, List.take_take, Nat.min_eq_left (by omega), List.append_assoc]
    rw [hlen, hf]
    refine List.take_left' ?_
    simp only [List.length_append, List.length_take, hcl, hxl, hdl]
    omega

theorem Sl.ofBox {x : Value} {U : Nat} {t : TypeId} (hx : Val ag k x) (hb : Box w U x.cells t) : Sl w ag k (.slice (some ⟨U, 0, none⟩) 1 1) [x] := by
  refine ⟨by simpa using hx, _, 1, rfl, Nat.le_refl _, by decide, .inr ⟨U, 0, rfl, hb.lt, fun i y hy j c hc => ?_⟩⟩
  have hi : i = 0 := by
    have := (List.getElem?_eq_some_iff.1 hy).1
    simpa using this
  subst hi
  simp at hy
  subst hy
  have := hb.rules.1 j
  rw [show 0 + 0 * k + j = j by omega, this]
  simpa using hc
theorem Sl.dropAt {b off n cap : Nat} (h : Sl w ag k (.slice (some ⟨b, off, none⟩) n cap) xs) {m : Nat} (hm : m ≤ xs.length) : Sl w ag k (.slice (some ⟨b, off + m * k, none⟩) (xs.drop m).length (cap - m)) (xs.drop m) := by
  obtain ⟨hv, a, cap', he, h1, h2, h3⟩ := h
  simp only [Value.slice.injEq] at he
  obtain ⟨rfl, _, rfl⟩ := he
  refine ⟨fun x hx => hv x (List.mem_of_mem_drop hx), _, _, rfl, by rw [List.length_drop]; omega, by omega, ?_⟩
  rcases h3 with rfl | ⟨b', off', he, hb, hc⟩
  · left; simp
  · simp only [Option.some.injEq, Addr.mk.injEq, and_true] at he
    obtain ⟨rfl, rfl⟩ := he
    refine .inr ⟨b, off + m * k, rfl, hb, fun j x hx => ?_⟩
    rw [List.getElem?_drop] at hx
    have := hc (m + j) x hx
    rw [Nat.add_mul] at this
    rwa [Nat.add_assoc off]
theorem Box.shape {U : Nat} {cs : Array Value} {t : TypeId} (h : Box w U cs t) : w.shape? U = some (t, cs.size) := by
  unfold Box at h
  simp [World.shape?, h]
theorem ins_list {xs : List Value} {i m : Nat} {x z : Value} (hi : i < xs.length) (hm : i + m = xs.length + 1) :
    (((xs.take i ++ List.replicate m z).take i ++ [x] ++ (xs.take i ++ List.replicate m z).drop (i + 1)).take (i + 1) ++ xs.drop i ++ ((xs.take i ++ List.replicate m z).take i ++ [x] ++ (xs.take i ++ List.replicate m z).drop (i + 1)).drop (i + 1 + (xs.drop i).length)) = xs.take i ++ x :: xs.drop i := by
  have hl : (xs.take i).length = i := by rw [List.length_take]; omega
  have h1 : (xs.take i ++ List.replicate m z).take i = xs.take i := List.take_left' hl
  have h2 : (xs.take i ++ [x]).length = i + 1 := by simp [hl]
  rw [h1, List.take_left' h2, List.drop_of_length_le (l := xs.take i ++ [x] ++ (xs.take i ++ List.replicate m z).drop (i + 1)) (by simp only [List.length_append, List.length_drop, List.length_replicate, List.length_singleton, hl]; omega)]
  simp

/-- An operation whose guard holds is as one without. -/
theorem wpList_unguard {ops : Array Oper} {rest : List Oper} {o : Oper} {a : Act} {Q : Exit → Act → World → Prop} (hw : Region.wanted o (yielded ops a.tmps) = true) (h : wpList P ops Q ({ o with guard := none } :: rest) a w) : wpList P ops Q (o :: rest) a w := by
  unfold wpList at h ⊢
  have h1 : Region.wanted { o with guard := none } (yielded ops a.tmps) = true := rfl
  rw [if_pos h1] at h
  rw [if_pos hw]
  exact h
end
end Go.Tm
