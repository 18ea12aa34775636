/- The set of those whom one has reached, kept as a map. Conditions: none. -/
import Derived.Test.YtmcaeahjnhkbcaaRouteLib
import Derived.Maps.OwnSet
import Derived.Lib.SlKeysI
namespace Go.Proofs.Ytmcaeahjnhkbcaa
open Go Go.RowKit Go.Tm
set_option linter.unusedVariables false
set_option linter.unusedSimpArgs false

theorem law_int : Maps.Keyed Try.prog 3 := Maps.int_keyed Try.underlying3
theorem zero_bool (w : World) : (zeroValue 4).run Try.prog w = .ok (.bool false) w := by kernel_rfl
theorem bool_inv {H : Type} {v : Value} {z : DataW H × List MemPlace} (h : plainElem Try.prog 4 v = some z) : ∃ x, v = .bool x ∧ z = (.lit (.bool x), []) := by
  cases v <;> simp [plainElem, Try.underlying4] at h
  exact ⟨_, rfl, h.symm⟩
def addS (S : List Int) (x : Int) : List Int := if x ∈ S then S else S ++ [x]
theorem addS_mem {S : List Int} {x y : Int} : y ∈ addS S x ↔ y = x ∨ y ∈ S := by
  unfold addS
  split
  · rename_i h
    constructor
    · exact fun hy => .inr hy
    · rintro (rfl | hy); exact h; exact hy
  · simp [or_comm]
theorem own_tight {H : Type} {P : Program} {k : TypeId} {R : Value → Option (DataW H × List MemPlace)} {w : World} {b n : Nat} {D : DataW H} (h : w.ownsMap P k R b n D) : w.ownsMap P k R b (Maps.size D) D := by
  obtain ⟨es, clock, hb, F, _, rfl⟩ := h
  exact ⟨es, clock, hb, F, by simp [Maps.size, length_sorted], rfl⟩

/-- Block bm is a map whose keys are those of S, each with true. -/
def MapS (W : World) (bm : Nat) (S : List Int) : Prop := ∃ D : DataW Unit, W.ownsMap Try.prog 3 (plainElem Try.prog 4) bm S.length D ∧ (∀ x, Maps.has D (.int .i64 x) = decide (x ∈ S)) ∧ (∀ x, D.atKey (.int .i64 x) (.lit (.bool false)) = .lit (.bool (decide (x ∈ S))))
theorem MapS.new (w : World) : MapS (w.alloc (.map #[] 0)) w.heap.size [] := ⟨.map [], World.ownsMap_made _ _ _ _, fun x => by simp [Maps.has], fun x => by simp [DataW.atKey]⟩
theorem MapS.kept {W W' : World} {bm : Nat} {S : List Int} (h : MapS W bm S) (hb : Below W.heap.size W W') : MapS W' bm S := by
  obtain ⟨D, h1, h2⟩ := h
  exact ⟨D, h1.kept (grown_of_below hb none) (by simp), h2⟩
theorem MapS.alloc' {W : World} {bm : Nat} {S : List Int} (h : MapS W bm S) (o : Obj) : MapS (W.alloc o) bm S := h.kept ((Below.refl _ _).alloc (Nat.le_refl _) _)
theorem MapS.lt {W : World} {bm : Nat} {S : List Int} (h : MapS W bm S) : bm < W.heap.size := h.elim fun _ h => h.1.lt
theorem MapS.look {W : World} {bm : Nat} {S : List Int} (h : MapS W bm S) {x : Int} (hx : (Lit.int .i64 x).wf = true) :
    (Instr.lookup 48 (.map (some bm)) (.int .i64 x) false).run Try.prog W = .ok (.bool (decide (x ∈ S))) W := by
  obtain ⟨D, h1, h2, h3⟩ := h
  obtain ⟨v, ps, hrun, hv⟩ := h1.lookup law_int Try.underlying48 (zero_bool W) (plainElem_bool Try.underlying4 false) (Maps.keyOf_int_mk Try.underlying3 hx)
  obtain ⟨y, rfl, hy⟩ := bool_inv hv
  rw [h3 x] at hy
  simp only [Prod.mk.injEq, DataW.lit.injEq, Lit.bool.injEq] at hy
  rw [hrun, hy.1]
theorem MapS.put {W : World} {bm : Nat} {S : List Int} (h : MapS W bm S) {x : Int} (hx : (Lit.int .i64 x).wf = true) (hS : S.length < maxLen) :
    ∃ W', (Instr.mapUpdate 48 (.map (some bm)) (.int .i64 x) (.bool true)).run Try.prog W = .ok () W' ∧ MapS W' bm (addS S x) ∧ W.grownBy W' (some bm) := by
  obtain ⟨D, h1, h2, h3⟩ := h
  have hkey := Maps.keyOf_int_mk (P := Try.prog) (k := 3) Try.underlying3 hx
  obtain ⟨W', hrun, r1, r2⟩ := h1.update law_int Try.underlying48 hS hkey (plainElem_bool Try.underlying4 true)
  refine ⟨W', hrun, ⟨_, (own_tight r1).mono ?_, ?_, ?_⟩, r2⟩
  · rw [Maps.size_put (h1.tidy law_int), h2 x]
    have := h1.size_le
    unfold addS
    by_cases hm : x ∈ S
    · simp only [hm, decide_true, if_true]; exact this
    · simp only [hm, decide_false, if_false, List.length_append, List.length_cons, List.length_nil, Bool.false_eq_true]; omega
  · intro y
    by_cases hy : y = x
    · subst hy
      rw [Maps.has_put_same h1.isMap (law_int.key hkey)]
      simp [addS_mem]
    · rw [Maps.has_put_other (by simpa using hy), h2 y]
      simp [addS_mem, hy]
  · intro y
    by_cases hy : y = x
    · subst hy
      rw [Maps.atKey_put_same h1.isMap (law_int.key hkey)]
      simp [addS_mem]
    · rw [Maps.atKey_put_other (by simpa using hy), h3 y]
      simp [addS_mem, hy]
theorem wpList_setput {ops : Array Oper} {rest : List Oper} {o : Oper} {a : Act} {w : World} {Q : Exit → Act → World → Prop} (hg : o.guard = none) (m x v : Operand) (hop : o.op = Op.mapUpdate 48 m x v)
    (bm : Nat) (S : List Int) (h : MapS w bm S) (hS : S.length < maxLen) (n : Int) (hn : (Lit.int .i64 n).wf = true) (hm : a.eval m = .map (some bm)) (hx : a.eval x = .int .i64 n) (hv : a.eval v = .bool true)
    (hK : ∀ w', MapS w' bm (addS S n) → w.grownBy w' (some bm) → wpList Try.prog ops Q rest (a.put o.dst undef) w') : wpList Try.prog ops Q (o :: rest) a w := by
  refine wpList_plain hg fun K' hK' => ?_
  obtain ⟨w', hrun, r1, r2⟩ := h.put hn hS
  unfold Oper.wp
  simp [execOp, hop, hm, hx, hv, hrun, Result.andThen]
  exact hK' _ _ (hK w' r1 r2)
theorem MapS.perm {W : World} {bm : Nat} {S : List Int} (h : MapS W bm S) (hn : S.Nodup) : ∃ D : DataW Unit, W.ownsMap Try.prog 3 (plainElem Try.prog 4) bm S.length D ∧ S.Perm (intKeys D) ∧ Maps.size D ≤ S.length := by
  obtain ⟨D, h1, h2, h3⟩ := h
  refine ⟨D, h1, ?_, h1.size_le⟩
  obtain ⟨es, hD, hpw, _⟩ := h1.entries law_int
  obtain ⟨es', hD', hko⟩ := h1.keysOf
  obtain rfl : es = es' := by rw [hD] at hD'; simpa using hD'
  subst hD
  exact perm_intKeys hpw (fun p hp => by obtain ⟨v, hv⟩ := hko p hp; obtain ⟨x, _, hx, _⟩ := Maps.keyOf_i64 Try.underlying3 hv; exact ⟨x, hx⟩) hn (fun x => by rw [h2 x]; simp)
end Go.Proofs.Ytmcaeahjnhkbcaa
