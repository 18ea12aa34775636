/- Small laws of the model that the walks lean on: == on plain structs and arrays; a quiet callee that leaves the world alone; what stays behind a call. Conditions: none. -/
import Derived.WalkKit
import Derived.Laws.StructEq
import Derived.DeepKeys
import Derived.Deep.QuietTactic
import Derived.BigQuiet
import Derived.Below
import Derived.Lib.Hide
import Derived.WalkSmall
namespace Go.Tm
open Go Go.RowKit
set_option linter.unusedVariables false

/-- A row of cells that can be compared: a plain type, read as literals. -/
def Plain (P : Program) (t : TypeId) (cs : Array Value) (l : List Lit) : Prop := cs.size = P.cellsOf t ∧ ∃ D, P.keyLits D t cs.toList = some l

theorem formed_agg {P : Program} {t : TypeId} {cs : Array Value} (hw : (match P.underlying t with | some (.array _ _) | some (.struct _) => true | _ => false) = true) (h : cs.size = P.cellsOf t) :
    (Value.agg cs).formed P t = true := by
  unfold Value.formed
  split at hw <;> simp_all

section
variable {P : Program} {t : TypeId} {m : Nat} {xs ys : Array Value} {lx ly : List Lit}

/-- '==' on two plain structs or arrays: whether the literals are the same. -/
theorem run_eql_plain (hm : m ≤ 10000) (hk : P.keyTypeAt m t = true) (hw : (match P.underlying t with | some (.array _ _) | some (.struct _) => true | _ => false) = true)
    (hx : Plain P t xs lx) (hy : Plain P t ys ly) (b : Bool) (hb : b = true ↔ lx = ly) : ∀ w, (Op.equalIn 10000 t (.agg xs) (.agg ys)).run P w = .ok b w := by
  intro w
  obtain ⟨sx, D, hx⟩ := hx
  obtain ⟨sy, D', hy⟩ := hy
  obtain ⟨r, hr, hiff⟩ := run_equalIn_deep (10000 - m) m t hk w D D' (.agg xs) (.agg ys) lx ly (formed_agg hw sx) (formed_agg hw sy) hx hy
  rw [Nat.sub_add_cancel hm] at hr
  rw [hr]
  congr 1
  rw [Bool.eq_iff_iff, hiff, hb]
end

/-- A callee's contract that leaves the world alone, met in a region that draws its order. -/
theorem quiet_same {P : Program} {f : FuncId} {args : Array Value} {w : World} {n : Nat} {v : Value}
    (h : Calls P f args (w.drewN n) fun e w' => e = .returned v ∧ w.drewN n = w') : Calls P f args (w.drewN n) fun e w'' => e = .returned v ∧ ∃ m, w'' = w.drewN m :=
  h.mono fun _ _ ⟨he, hm⟩ => ⟨he, n, hm.symm⟩

/-- Behind a call that left all old blocks alone: each old cell, each old mark reads as before. -/
theorem bcell {W w1 : World} (hb : Below W.heap.size W w1) : (∀ b o, b < W.heap.size → w1.cell? ⟨b, o, none⟩ = W.cell? ⟨b, o, none⟩) ∧ (∀ b o, b < W.heap.size → w1.frozen? ⟨b, o, none⟩ = W.frozen? ⟨b, o, none⟩) :=
  ⟨fun b o h => hb.cell (p := ⟨b, o, none⟩) h, fun b o h => hb.frozen (p := ⟨b, o, none⟩) h⟩

theorem below_drewN' {B : Nat} {a w : World} (h : Below B a w) (n : Nat) : Below B a (w.drewN n) := ⟨h.os, h.tape, h.output, h.size, h.block⟩
end Go.Tm
