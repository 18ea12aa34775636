/- A whole struct loaded in a region that draws its order. Conditions: none. -/
import Derived.Test.YtdfkfoffinchhaaLib8
import Derived.Deep.Quiet
import Derived.Laws.ResultCell
import Derived.OwnWalkIn
import Derived.TacticsInMore
namespace Go.Tm
open Go Go.RowKit
set_option linter.unusedVariables false

section
variable {P : Program} {W : World} {ag : Bool} {k : Nat}
theorem quiet_load_val {o : Oper} {a : Act} {K : Act → Prop} (E : TypeId) (p : Operand) (ho : o.op = .load E p) (b off : Nat) (hp : a.eval p = .pointer (some ⟨b, off, none⟩)) (x : Value) (ht : Ty P E k ag) (hx : Val ag k x)
    (hc : Cells W b off x.cells.toList) (hb : b < W.heap.size) (hk : K (a.put o.dst x)) : o.quiet P a (fun w' => ∃ p : Regrown, w' = Go.Sort.grow (redrawn W p.d) p.os) K := by
  refine ⟨x, ?_, hk⟩
  rintro w' ⟨q, rfl⟩
  have hc' : Cells (Go.Sort.grow (redrawn W q.d) q.os) b off x.cells.toList := fun j v hv => cell_rg (hc j v hv) hb _ _
  unfold Oper.quietAt execOp
  simp only [ho, hp, Instr.loadAt, Instr.sureAddr, Sem.run_bind, Sem.run_pure, Result.andThen_ok, run_loadVar_val ht hx hc']
  exact ⟨rfl, rfl⟩
theorem quiet_load_valA {o : Oper} {a : Act} {K : Act → Prop} (E : TypeId) (p : Operand) (ho : o.op = .load E p) (b off : Nat) (cs : Array Value) (ht : Ty P E k true) (hx : Val true k (.agg cs))
    (hc : Cells W b off cs.toList) (hb : b < W.heap.size) (hp : a.eval p = .pointer (some ⟨b, off, none⟩)) (hk : K (a.put o.dst (.agg cs))) : o.quiet P a (fun w' => ∃ p : Regrown, w' = Go.Sort.grow (redrawn W p.d) p.os) K :=
  quiet_load_val E p ho b off hp (.agg cs) ht hx hc hb hk
theorem results_cell_val {fn : Func} {p u : Tmp} {ty t : TypeId} (h : fn.results = #[.cell p ty, .tmp u]) (tmps : Array Value) {b : Nat} {cs : Array Value} (hp : tmps.getD p undef = .pointer (some ⟨b, 0, none⟩))
    (ht : Ty P ty k true) (hx : Val true k (.agg cs)) (hb : Box W b cs t) : (results fn tmps).run P W = .ok (.tuple #[.agg cs, tmps.getD u undef]) W := by
  rw [results_cell_tmp h, hp]
  have h1 : (asAddr (.pointer (some ⟨b, 0, none⟩))).run P W = .ok ⟨b, 0, none⟩ W := by simp [asAddr]
  rw [h1, Result.andThen_ok, run_loadVar_val ht hx hb.cells, Result.andThen_ok]
variable {F : Fence} {nF : Nat}
theorem wpListIn_load_valA {ops : Array Oper} {rest : List Oper} {o : Oper} {a : Act} {Q : Exit → Act → World → Prop} (hgd : o.guard = none) (E : TypeId) (p : Operand) (ho : o.op = .load E p)
    (b off : Nat) (cs : Array Value) (ht : Ty P E k true) (hx : Val true k (.agg cs)) (hc : Cells W b off cs.toList) (hp : a.eval p = .pointer (some ⟨b, off, none⟩))
    (h : wpListIn F nF P ops Q rest (a.put o.dst (.agg cs)) W) : wpListIn F nF P ops Q (o :: rest) a W := by
  refine wpListIn_plain hgd fun K hK => ?_
  unfold Oper.wpIn
  refine ⟨by simp [Oper.about, ho], ?_⟩
  rw [Oper.semAt_plain F _ _ (by rw [ho]; intro c hc'; cases hc')]
  simp only [execOp, ho, hp, Instr.loadAt, Instr.sureAddr, Sem.run_bind, Sem.run_pure, Result.andThen_ok, run_loadVar_val ht hx (show Cells W b off (Value.agg cs).cells.toList from hc)]
  exact hK _ _ h
theorem wpListIn_load_boxA {ops : Array Oper} {rest : List Oper} {o : Oper} {a : Act} {Q : Exit → Act → World → Prop} (hgd : o.guard = none) (E : TypeId) (p : Operand) (ho : o.op = .load E p)
    {b : Nat} {t : TypeId} (cs : Array Value) (ht : Ty P E k true) (hx : Val true k (.agg cs)) (hb : Box W b cs t) (hp : a.eval p = .pointer (some ⟨b, 0, none⟩))
    (h : wpListIn F nF P ops Q rest (a.put o.dst (.agg cs)) W) : wpListIn F nF P ops Q (o :: rest) a W :=
  wpListIn_load_valA hgd E p ho b 0 cs ht hx hb.cells hp h
theorem wpListIn_store_freshA {ops : Array Oper} {rest : List Oper} {o : Oper} {a : Act} {Q : Exit → Act → World → Prop} (hgd : o.guard = none) (E : TypeId) (p q : Operand) (ho : o.op = .store E p q)
    {t : TypeId} {cur : Array Value} (cs : Array Value) (ht : Ty P E k true) (hx : Val true k (.agg cs)) (hc : cur.size = k) (hp : a.eval p = .pointer (some ⟨W.heap.size, 0, none⟩)) (hq : a.eval q = .agg cs)
    (h : wpListIn F nF P ops Q rest (a.put o.dst undef) (W.alloc (.cells cs t))) : wpListIn F nF P ops Q (o :: rest) a (W.alloc (.cells cur t)) := by
  refine wpListIn_plain hgd fun K hK => ?_
  unfold Oper.wpIn
  refine ⟨by simp [Oper.about, ho], ?_⟩
  rw [Oper.semAt_plain F _ _ (by rw [ho]; intro c hc'; cases hc')]
  have hst := run_storeVar_val ht hx (Box.new W cur t) (off := 0) (by omega)
  have e : (cur.toList.take 0 ++ (Value.agg cs).cells.toList ++ cur.toList.drop (0 + k)).toArray = cs := by
    rw [List.take_zero, List.nil_append, Nat.zero_add, List.drop_of_length_le (by simp; omega), List.append_nil]; exact Array.toArray_toList
  rw [e, setRow_fresh] at hst
  simp only [execOp, ho, hp, hq, Instr.storeAt, Instr.sureAddr, Sem.run_bind, Sem.run_pure, Result.andThen_ok, hst]
  exact hK _ _ h
theorem wpListIn_unguard {ops : Array Oper} {rest : List Oper} {o : Oper} {a : Act} {Q : Exit → Act → World → Prop} (hw : Region.wanted o (yielded ops a.tmps) = true) (h : wpListIn F nF P ops Q ({ o with guard := none } :: rest) a W) : wpListIn F nF P ops Q (o :: rest) a W := by
  unfold wpListIn at h ⊢
  rw [if_pos hw]
  rw [if_pos (by simp [Region.wanted])] at h
  exact h
end
end Go.Tm
