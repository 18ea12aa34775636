/- A region that draws its order, step by step: a load of a whole struct out of a box that stays. Conditions: none. -/
import Derived.Test.YtmcaeahjnhkbcaaLib10
import Derived.Deep.RegionHeld3
namespace Go.Tm
open Go Go.RowKit
set_option linter.unusedVariables false

section
variable {P : Program} {ops : Array Oper} {S : World → Prop} {k : Nat}
theorem yieldsIf_load_box {o : Oper} {a : Act} (E : TypeId) (p : Operand) (ho : o.op = .load E p) {b : Nat} {t : TypeId} (cs : Array Value) (ht : Ty P E k true) (hx : Val true k (.agg cs))
    (hw : Region.wanted o (yielded ops a.tmps) = true) (hp : a.eval p = .pointer (some ⟨b, 0, none⟩)) (hS : ∀ w, S w → Box w b cs t) : YieldsIf P ops S o (.agg cs) a :=
  Or.inl ⟨hw, fun w hs => by
    unfold execOp
    simp only [ho, hp, Instr.loadAt, Instr.sureAddr, Sem.run_bind, Sem.run_pure, Result.andThen_ok, run_loadVar_val ht hx (show Cells w b 0 (Value.agg cs).cells.toList from (hS w hs).cells)]⟩
end
end Go.Tm
