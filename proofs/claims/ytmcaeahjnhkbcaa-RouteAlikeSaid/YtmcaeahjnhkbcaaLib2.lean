/- Slices whose elements take k cells: one that is only read (Sl), one that the call has made (Owned); loads and stores of whole elements; predicates that only read. Conditions: none. -/
import Derived.Test.YtmcaeahjnhkbcaaLib0
import Derived.LoopTactic
import Derived.Carry
import Derived.Laws.OwnMore
import Derived.Lib.QuietBelow
namespace Go.Tm
open Go Go.RowKit
set_option linter.unusedVariables false
set_option linter.unusedSimpArgs false

/-- Is a type a struct or an array? -/
def aggT (P : Program) (t : TypeId) : Bool := match P.underlying t with | some (.struct _) | some (.array _ _) => true | _ => false

/-- What is fixed of an element type: its cells, whether it is a struct or an array. -/
structure Ty (P : Program) (E : TypeId) (k : Nat) (ag : Bool) : Prop where
  cells : P.cellsOf E = k
  agg : aggT P E = ag
  pos : 0 < k
  und : (P.underlying E).isSome = true

/-- A value of such a type. -/
def Val (ag : Bool) (k : Nat) (x : Value) : Prop :=
  if ag = true then ∃ cs : Array Value, x = .agg cs ∧ cs.size = k ∧ ∀ c ∈ cs.toList, c.oneCell' = true else x.oneCell' = true ∧ k = 1

theorem Val.size {ag : Bool} {k : Nat} {x : Value} (h : Val ag k x) : x.cells.size = k := by
  unfold Val at h
  split at h
  · obtain ⟨cs, rfl, hs, _⟩ := h; exact hs
  · obtain ⟨h1, rfl⟩ := h; cases x <;> first | rfl | simp [Value.oneCell'] at h1
theorem Val.len {ag : Bool} {k : Nat} {x : Value} (h : Val ag k x) : x.cells.toList.length = k := by simpa using h.size
theorem Val.one {ag : Bool} {k : Nat} {x : Value} (h : Val ag k x) : ∀ c ∈ x.cells.toList, c.oneCell' = true := by
  unfold Val at h
  split at h
  · obtain ⟨cs, rfl, _, h1⟩ := h; exact h1
  · obtain ⟨h1, _⟩ := h
    have hc : x.cells = #[x] := by cases x <;> first | rfl | simp [Value.oneCell'] at h1
    rw [hc]; intro c hc'; simp at hc'; subst hc'; exact h1

/-- From the place (b, off) on stand the cells cs. -/
def Cells (w : World) (b off : Nat) (cs : List Value) : Prop := ∀ j v, cs[j]? = some v → w.cell? ⟨b, off + j, none⟩ = some v

/-- A slice value that reads as the elements xs, each of k cells. -/
structure Sl (w : World) (ag : Bool) (k : Nat) (v : Value) (xs : List Value) : Prop where
  val : ∀ x ∈ xs, Val ag k x
  form : ∃ a cap, v = .slice a xs.length cap ∧ xs.length ≤ cap ∧ cap ≤ maxLen ∧
    (xs = [] ∨ ∃ b off, a = some ⟨b, off, none⟩ ∧ b < w.heap.size ∧ ∀ (i : Nat) x, xs[i]? = some x → Cells w b (off + i * k) x.cells.toList)

theorem Cells.below {w w' : World} {b off : Nat} {cs : List Value} (h : Cells w b off cs) {B : Nat} (hb : Below B w w') (hlt : b < B) : Cells w' b off cs :=
  fun j v hv => (hb.cell (p := ⟨b, off + j, none⟩) hlt).trans (h j v hv)

theorem Sl.below {w w' : World} {ag : Bool} {k : Nat} {v : Value} {xs : List Value} (h : Sl w ag k v xs) (hb : Below w.heap.size w w') : Sl w' ag k v xs := by
  obtain ⟨hs, a, cap, hv, h1, h2, h3⟩ := h
  refine ⟨hs, a, cap, hv, h1, h2, ?_⟩
  rcases h3 with h3 | ⟨b, off, ha, hlt, hc⟩
  · exact .inl h3
  · exact .inr ⟨b, off, ha, Nat.lt_of_lt_of_le hlt hb.size, fun i x hx => (hc i x hx).below hb hlt⟩

theorem Sl.len_le {w : World} {ag : Bool} {k : Nat} {v : Value} {xs : List Value} (h : Sl w ag k v xs) : xs.length ≤ maxLen := by
  obtain ⟨_, a, cap, _, h1, h2, _⟩ := h; omega

theorem Sl.shape {w : World} {ag : Bool} {k : Nat} {v : Value} {xs : List Value} (h : Sl w ag k v xs) : ∃ a cap, v = .slice a xs.length cap ∧ xs.length ≤ 9223372036854775807 := by
  obtain ⟨_, a, cap, hv, h1, h2, _⟩ := h
  unfold maxLen at h2
  exact ⟨a, cap, hv, by omega⟩
/-- Where the element i stands. -/
theorem Sl.at {w : World} {ag : Bool} {k : Nat} {a : Option Addr} {n cap : Nat} {xs : List Value} (h : Sl w ag k (.slice a n cap) xs) {i : Nat} {x : Value} (hx : xs[i]? = some x) :
    ∃ b off, a = some ⟨b, off, none⟩ ∧ b < w.heap.size ∧ Cells w b (off + i * k) x.cells.toList := by
  obtain ⟨_, a', cap', he, _, _, hf⟩ := h
  simp only [Value.slice.injEq] at he
  obtain ⟨rfl, _⟩ := he
  rcases hf with rfl | ⟨b, off, ha, hb, hc⟩
  · simp at hx
  · exact ⟨b, off, ha, hb, hc i x hx⟩
theorem Sl.nil (w : World) (ag : Bool) (k : Nat) : Sl w ag k (.slice none 0 0) [] := ⟨by simp, none, 0, rfl, Nat.le_refl _, Nat.zero_le _, .inl rfl⟩

/-- A function with a body of its own: a call enters it. -/
def Body (P : Program) (f : FuncId) : Prop := ∀ (args : Array Value) (w : World), (callFunc f args).run P w = .ok (.enter f args) w
theorem body_of {P : Program} {f : FuncId} {fn : Func} (hf : P.funcs[f]? = some fn) (h1 : (fn.name == "runtime.NumGoroutine") = false) (h2 : fn.body.isNone = false) : Body P f := by
  intro args w
  simp only [callFunc, Sem.run_bind, run_program, Result.andThen_ok, hf, h1, h2, Bool.false_eq_true, if_false, Sem.run_pure]

/-- A predicate as a function value, asked in any world in which what lies in w still lies (but for the row g): it answers p, and leaves what is there as it is. -/
structure Pred (P : Program) (w : World) (g : Option Nat) (f : FuncId) (caps : Array Value) (p : Value → Bool) (xs : List Value) : Prop where
  body : Body P f
  asks : ∀ w', w.grownBy w' g → ∀ x ∈ xs, Calls P f (#[x] ++ caps) w' fun e w'' => e = .returned (.bool (p x)) ∧ Below w'.heap.size w' w''

theorem grown_of_below {w w' : World} (h : Below w.heap.size w w') (g : Option Nat) : w.grownBy w' g := ⟨h.os, h.tape, h.output, h.size, fun k hk _ => h.block k hk⟩
theorem below_of_grown {w w' : World} (h : w.grownBy w' none) : Below w.heap.size w w' := ⟨h.os, h.tape, h.output, h.size, fun k hk => h.block k hk (by simp)⟩
theorem grown_trans {a b c : World} {g : Option Nat} (h : a.grownBy b g) (k : b.grownBy c g) : a.grownBy c g :=
  ⟨k.os.trans h.os, k.tape.trans h.tape, k.output.trans h.output, Nat.le_trans h.size k.size, fun i hi hne => (k.block i (Nat.lt_of_lt_of_le hi h.size) hne).trans (h.block i hi hne)⟩
theorem grown_refl (w : World) (g : Option Nat) : w.grownBy w g := ⟨rfl, rfl, rfl, Nat.le_refl _, fun _ _ _ => rfl⟩
/-- What was made since: 'below B' nothing has turned if the row lies beyond. -/
theorem below_of_grown_row {w0 w w' : World} {B : Nat} {g : Option Nat} (h0 : Below B w0 w) (h : w.grownBy w' g) (hB : B ≤ w.heap.size) (hg : ∀ k, g = some k → B ≤ k) : Below B w0 w' := h0.grown h hB hg

theorem addr_add (b off n : Nat) : (⟨b, off, none⟩ : Addr).add n = ⟨b, off + n, none⟩ := by
  unfold Addr.add; split
  · rename_i h; simp [h]
  · rfl

section
variable {P : Program}

theorem run_isAgg {w : World} {E : TypeId} {k : Nat} {ag : Bool} (h : Ty P E k ag) : (isAgg E).run P w = .ok ag w := by
  have ha := h.agg
  unfold aggT at ha
  unfold isAgg
  cases hu : P.underlying E with
  | none => have := h.und; rw [hu] at this; cases this
  | some d =>
    rw [Sem.run_bind, run_underlying hu w]
    rw [hu] at ha
    cases d <;> simp_all

theorem ty_info {E : TypeId} {k : Nat} {ag : Bool} (h : Ty P E k ag) : ∃ i, P.info? E = some i ∧ i.size = k := by
  have hc := h.cells
  unfold Program.cellsOf at hc
  cases hq : P.info? E with
  | none => have := h.pos; rw [hq] at hc; simp at hc; omega
  | some i => exact ⟨i, rfl, by rw [hq] at hc; simpa using hc⟩

theorem run_loadVar_val {w : World} {E : TypeId} {k : Nat} {ag : Bool} (ht : Ty P E k ag) {x : Value} (hx : Val ag k x) {b off : Nat} (h : Cells w b off x.cells.toList) :
    (loadVar E ⟨b, off, none⟩).run P w = .ok x w := by
  have ha := run_isAgg (w := w) ht
  obtain ⟨i, hi, hs⟩ := ty_info ht
  unfold Val at hx
  cases ag with
  | true =>
    simp only [if_true] at hx
    obtain ⟨cs, rfl, hsz, _⟩ := hx
    have hl : (loadCells ⟨b, off, none⟩ cs.toList.length).run P w = .ok cs.toList.toArray w :=
      run_loadCells_list (P := P) w ⟨b, off, none⟩ cs.toList (fun j v hv => by rw [addr_add]; exact h j v hv)
    simp only [Array.length_toList, Array.toArray_toList, hsz] at hl
    simp [loadVar, Sem.run_bind, ha, sizeOf, typeInfo, hi, hs, hl]
  | false =>
    simp only [Bool.false_eq_true, if_false] at hx
    have hc : x.cells = #[x] := by obtain ⟨h1, _⟩ := hx; cases x <;> first | rfl | simp [Value.oneCell'] at h1
    have h0 := h 0 x (by rw [hc]; rfl)
    simp only [Nat.add_zero] at h0
    simp [loadVar, Sem.run_bind, ha, h0]

theorem run_storeVar_val {w : World} {E : TypeId} {k : Nat} {ag : Bool} (ht : Ty P E k ag) {x : Value} (hx : Val ag k x) {g off : Nat} {t : TypeId} {cur : Array Value}
    (hg : w.heap[g]? = some (.cells cur t (0, 0))) (hfit : off + k ≤ cur.size) :
    (storeVar E ⟨g, off, none⟩ x).run P w = .ok () (w.setRow g (cur.toList.take off ++ x.cells.toList ++ cur.toList.drop (off + k)).toArray) := by
  obtain ⟨i, hi, hs⟩ := ty_info ht
  have hst := run_storeCells_at P g off t x.cells.toList 0 cur w hg (by simp only [hx.len]; omega) hx.one
  simp only [Nat.add_zero, hx.len] at hst
  simp [storeVar, sizeOf, typeInfo, hi, hs, hx.size, hst]

theorem wpList_load_val {ops : Array Oper} {rest : List Oper} {o : Oper} {a : Act} {w : World} {Q : Exit → Act → World → Prop} (hgd : o.guard = none) (E : TypeId) (p : Operand) (ho : o.op = .load E p)
    (b off : Nat) (hp : a.eval p = .pointer (some ⟨b, off, none⟩)) (x : Value) {k : Nat} {ag : Bool} (ht : Ty P E k ag) (hx : Val ag k x) (hc : Cells w b off x.cells.toList)
    (h : wpList P ops Q rest (a.put o.dst x) w) : wpList P ops Q (o :: rest) a w :=
  wpList_plain hgd fun K hK => by
    unfold Oper.wp execOp
    simp only [ho, hp, Instr.loadAt, Instr.sureAddr, Sem.run_bind, Sem.run_pure, Result.andThen_ok, run_loadVar_val ht hx hc]
    exact hK _ _ h

theorem wpList_store_val {ops : Array Oper} {rest : List Oper} {o : Oper} {a : Act} {w : World} {Q : Exit → Act → World → Prop} (hgd : o.guard = none) (E : TypeId) (p q : Operand) (ho : o.op = .store E p q)
    (g off : Nat) (hp : a.eval p = .pointer (some ⟨g, off, none⟩)) (x : Value) (hq : a.eval q = x) {k : Nat} {ag : Bool} (ht : Ty P E k ag) (hx : Val ag k x) {t : TypeId} {cur : Array Value}
    (hg : w.heap[g]? = some (.cells cur t (0, 0))) (hfit : off + k ≤ cur.size)
    (h : wpList P ops Q rest (a.put o.dst undef) (w.setRow g (cur.toList.take off ++ x.cells.toList ++ cur.toList.drop (off + k)).toArray)) : wpList P ops Q (o :: rest) a w :=
  wpList_plain hgd fun K hK => by
    unfold Oper.wp execOp
    simp only [ho, hp, hq, Instr.storeAt, Instr.sureAddr, Sem.run_bind, Sem.run_pure, Result.andThen_ok, run_storeVar_val ht hx hg hfit]
    exact hK _ _ h
end

theorem run_eql_slice_some (P : Program) {t e : TypeId} {a : Addr} {n c : Nat} (ht : P.underlying t = some (.slice e)) (w : World) :
    (binOp .eql t (.slice (some a) n c) (.slice none 0 0)).run P w = .ok (.bool false) w := by
  have h : ∀ d : Nat, (Op.equalIn (d + 1) t (.slice (some a) n c) (.slice none 0 0)).run P w = .ok false w := fun d => by
    simp [Op.equalIn, run_underlying ht]
  simp only [binOp]
  simp [Op.equal, Op.maxDepth, h 9999]
theorem run_eql_slice_none (P : Program) {t e : TypeId} {n c : Nat} (ht : P.underlying t = some (.slice e)) (w : World) :
    (binOp .eql t (.slice none n c) (.slice none 0 0)).run P w = .ok (.bool true) w := by
  have h : ∀ d : Nat, (Op.equalIn (d + 1) t (.slice none n c) (.slice none 0 0)).run P w = .ok true w := fun d => by
    simp [Op.equalIn, run_underlying ht]
  simp only [binOp]
  simp [Op.equal, Op.maxDepth, h 9999]

/-- A box, in every world in which a drawing region may stand. -/
theorem Box.regrown {W : World} {b : Nat} {cs : Array Value} {t : TypeId} (h : Box W b cs t) : ∀ o d os, (Go.Sort.grow (redrawn W d) os).cell? ⟨b, o, none⟩ = cs[o]? :=
  fun o d os => ((below_regrown W d os).cell (p := ⟨b, o, none⟩) h.lt).trans (h.rules.1 o)

theorem cell_rg {W : World} {b o : Nat} {v : Value} (h : W.cell? ⟨b, o, none⟩ = some v) (hb : b < W.heap.size) : ∀ d os, (Go.Sort.grow (redrawn W d) os).cell? ⟨b, o, none⟩ = some v :=
  fun d os => ((below_regrown W d os).cell (p := ⟨b, o, none⟩) hb).trans h

/-! ### The place of the first one of which p holds, as Go tells it: -1: there is none. -/
def idx (p : Value → Bool) (xs : List Value) : Int := match xs.findIdx? p with | some i => i | none => -1
theorem idx_none {p : Value → Bool} {xs : List Value} (h : ∀ x ∈ xs, p x = false) : idx p xs = -1 := by
  have : xs.findIdx? p = none := by rw [List.findIdx?_eq_none_iff]; exact h
  unfold idx; rw [this]
theorem idx_some {p : Value → Bool} {xs : List Value} {i : Nat} {x : Value} (hx : xs[i]? = some x) (hp : p x = true) (h : ∀ j y, j < i → xs[j]? = some y → p y = false) : idx p xs = i := by
  have hlt : i < xs.length := (List.getElem?_eq_some_iff.1 hx).1
  have : xs.findIdx? p = some i := by
    rw [List.findIdx?_eq_some_iff_getElem]
    refine ⟨hlt, ?_, ?_⟩
    · rw [List.getElem?_eq_getElem hlt] at hx
      rw [Option.some.inj hx]; exact hp
    · intro j hj
      have := h j xs[j] hj (List.getElem?_eq_getElem (by omega))
      simp [this]
  unfold idx; rw [this]

/-! ### Owned slices -/
/-- The cells of a list of values, one behind the other. -/
def flat (xs : List Value) : List Value := xs.flatMap fun x => x.cells.toList
theorem flat_len {ag : Bool} {k : Nat} {xs : List Value} (h : ∀ x ∈ xs, Val ag k x) : (flat xs).length = xs.length * k := by
  induction xs with
  | nil => simp [flat]
  | cons x xs ih =>
    have h1 := (h x (by simp)).len
    have h2 := ih (fun y hy => h y (by simp [hy]))
    unfold flat at h2 ⊢
    simp only [List.flatMap_cons, List.length_append, h1, h2, List.length_cons, Nat.succ_mul]
    omega
theorem flat_append (xs ys : List Value) : flat (xs ++ ys) = flat xs ++ flat ys := by simp [flat]
theorem flat_cons (x : Value) (xs : List Value) : flat (x :: xs) = x.cells.toList ++ flat xs := by simp [flat]
theorem flat_get {ag : Bool} {k : Nat} : ∀ {xs : List Value} (h : ∀ x ∈ xs, Val ag k x) {i : Nat} {x : Value}, xs[i]? = some x → ∀ j v, x.cells.toList[j]? = some v → (flat xs)[i * k + j]? = some v
  | [], _, i, x, hx, _, _, _ => by simp at hx
  | y :: ys, h, i, x, hx, j, v, hv => by
    have hy := (h y (by simp)).len
    rw [flat_cons]
    cases i with
    | zero =>
      simp only [List.getElem?_cons_zero, Option.some.injEq] at hx
      subst hx
      have hj := (List.getElem?_eq_some_iff.1 hv).1
      rw [List.getElem?_append_left (by omega)]
      simpa using hv
    | succ i =>
      simp only [List.getElem?_cons_succ] at hx
      rw [List.getElem?_append_right (by rw [hy, Nat.succ_mul]; omega), hy]
      have := flat_get (fun z hz => h z (by simp [hz])) hx j v hv
      rw [show (i + 1) * k + j - k = i * k + j by rw [Nat.succ_mul]; omega]
      exact this

theorem flat_split {ag : Bool} {k : Nat} : ∀ {xs : List Value} (h : ∀ x ∈ xs, Val ag k x) {j : Nat} {u : Value}, (flat xs)[j]? = some u → ∃ i x r, xs[i]? = some x ∧ x.cells.toList[r]? = some u ∧ j = i * k + r
  | [], _, j, u, hu => by simp [flat] at hu
  | y :: ys, h, j, u, hu => by
    have hy := (h y (by simp)).len
    rw [flat_cons] at hu
    by_cases hj : j < k
    · rw [List.getElem?_append_left (by omega)] at hu
      exact ⟨0, y, j, rfl, hu, by omega⟩
    · rw [List.getElem?_append_right (by omega), hy] at hu
      obtain ⟨i, x, r, h1, h2, h3⟩ := flat_split (fun z hz => h z (by simp [hz])) hu
      exact ⟨i + 1, x, r, by simpa using h1, h2, by rw [Nat.succ_mul]; omega⟩

theorem Sl.news {w : World} {ag : Bool} {k : Nat} {a : Addr} {n cap : Nat} {xs : List Value} (h : Sl w ag k (.slice (some a) n cap) xs) : ∀ j u, (flat xs)[j]? = some u → w.cell? (a.add j) = some u := by
  intro j u hu
  obtain ⟨hv, a', cap', he, _, _, hf⟩ := h
  simp only [Value.slice.injEq] at he
  obtain ⟨rfl, _, _⟩ := he
  rcases hf with rfl | ⟨b, off, hb, _, hc⟩
  · simp [flat] at hu
  · simp only [Option.some.injEq] at hb
    subst hb
    obtain ⟨i, x, r, h1, h2, rfl⟩ := flat_split hv hu
    rw [addr_add, ← Nat.add_assoc]
    exact hc i x h1 r u h2

theorem flat_one {ag : Bool} {k : Nat} {xs : List Value} (h : ∀ x ∈ xs, Val ag k x) : ∀ u ∈ flat xs, u.oneCell' = true := by
  intro u hu
  unfold flat at hu
  obtain ⟨x, hx, hm⟩ := List.mem_flatMap.1 hu
  exact (h x hx).one u hm

/-- A slice that the call has made: its row is its own, from block base on. -/
structure Owned (w : World) (base : Nat) (E : TypeId) (ag : Bool) (k : Nat) (v : Value) (xs : List Value) : Prop where
  row : w.ownsRow base E k v xs.length (flat xs)
  val : ∀ x ∈ xs, Val ag k x

theorem Owned.sl {w : World} {base : Nat} {E : TypeId} {ag : Bool} {k : Nat} {v : Value} {xs : List Value} (h : Owned w base E ag k v xs) : Sl w ag k v xs := by
  obtain ⟨⟨hlen, hr⟩, hv⟩ := h
  refine ⟨hv, ?_⟩
  rcases hr with ⟨rfl, h0⟩ | ⟨g, cap, cur, rfl, hb, hg, h1, h2, h3, h4⟩
  · have : xs = [] := List.eq_nil_of_length_eq_zero h0
    subst this
    exact ⟨none, 0, rfl, Nat.le_refl _, Nat.zero_le _, .inl rfl⟩
  · refine ⟨_, cap, rfl, h1, h2, .inr ⟨g, 0, rfl, (Array.getElem?_eq_some_iff.1 hg).1, ?_⟩⟩
    intro i x hx j c hc
    have hf := flat_get hv hx j c hc
    rw [Nat.zero_add]
    have hlt : i * k + j < xs.length * k := by
      have := (List.getElem?_eq_some_iff.1 hf).1
      rwa [hlen] at this
    rw [← h4, List.getElem?_take] at hf
    rw [if_pos hlt] at hf
    simpa [World.cell?, hg] using hf

theorem Owned.kept {w w' : World} {base : Nat} {E : TypeId} {ag : Bool} {k : Nat} {v : Value} {xs : List Value} (h : Owned w base E ag k v xs) (hb : Below w.heap.size w w') : Owned w' base E ag k v xs :=
  ⟨h.row.kept (grown_of_below hb none) (by cases v.ownBlock <;> simp), h.val⟩
theorem Owned.le {w : World} {base base' : Nat} {E : TypeId} {ag : Bool} {k : Nat} {v : Value} {xs : List Value} (h : Owned w base E ag k v xs) (hb : base' ≤ base) : Owned w base' E ag k v xs :=
  ⟨⟨h.row.1, h.row.2.elim Or.inl (fun ⟨g, cap, cur, hv, hg, r⟩ => Or.inr ⟨g, cap, cur, hv, Nat.le_trans hb hg, r⟩)⟩, h.val⟩
end Go.Tm
