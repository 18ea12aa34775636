/- Small laws of the model that the walks lean on: == on plain structs and arrays; a quiet callee that leaves the world alone; what stays behind a call. Conditions: none. -/
import Derived.WalkKit
import Derived.Laws.StructEq
import Derived.DeepKeys
import Derived.Deep.QuietTactic
import Derived.BigQuiet
import Derived.Below
import Derived.Lib.Hide
import Derived.WalkSmall
namespace Go.Tm
open Go Go.RowKit
set_option linter.unusedVariables false

/-- A row of cells that can be compared: a plain type, read as literals. -/
def Plain (P : Program) (t : TypeId) (cs : Array Value) (l : List Lit) : Prop := cs.size = P.cellsOf t ∧ ∃ D, P.keyLits D t cs.toList = some l

theorem formed_agg {P : Program} {t : TypeId} {cs : Array Value} (hw : (match P.underlying t with | some (.array _ _) | some (.struct _) => true | _ => false) = true) (h : cs.size = P.cellsOf t) :
    (Value.agg cs).formed P t = true := by
  unfold Value.formed
  split at hw <;> simp_all

section
variable {P : Program} {t : TypeId} {m : Nat} {xs ys : Array Value} {lx ly : List Lit}

/-- '==' on two plain structs or arrays: whether the literals are the same. -/
theorem run_eql_plain (hm : m ≤ 10000) (hk : P.keyTypeAt m t = true) (hw : (match P.underlying t with | some (.array _ _) | some (.struct _) => true | _ => false) = true)
    (hx : Plain P t xs lx) (hy : Plain P t ys ly) (b : Bool) (hb : b = true ↔ lx = ly) : ∀ w, (Op.equalIn 10000 t (.agg xs) (.agg ys)).run P w = .ok b w := by
  intro w
  obtain ⟨sx, D, hx⟩ := hx
  obtain ⟨sy, D', hy⟩ := hy
  obtain ⟨r, hr, hiff⟩ := run_equalIn_deep (10000 - m) m t hk w D D' (.agg xs) (.agg ys) lx ly (formed_agg hw sx) (formed_agg hw sy) hx hy
  rw [Nat.sub_add_cancel hm] at hr
  rw [hr]
  congr 1
  rw [Bool.eq_iff_iff, hiff, hb]
end

/-- A callee's contract that leaves the world alone, met in a region that draws its order. -/
theorem quiet_same {P : Program} {f : FuncId} {args : Array Value} {w : World} {n : Nat} {v : Value}
    (h : Calls P f args (w.drewN n) fun e w' => e = .returned v ∧ w.drewN n = w') : Calls P f args (w.drewN n) fun e w'' => e = .returned v ∧ ∃ m, w'' = w.drewN m :=
  h.mono fun _ _ ⟨he, hm⟩ => ⟨he, n, hm.symm⟩

/-- Behind a call that left all old blocks alone: each old cell, each old mark reads as before. -/
theorem bcell {W w1 : World} (hb : Below W.heap.size W w1) : (∀ b o, b < W.heap.size → w1.cell? ⟨b, o, none⟩ = W.cell? ⟨b, o, none⟩) ∧ (∀ b o, b < W.heap.size → w1.frozen? ⟨b, o, none⟩ = W.frozen? ⟨b, o, none⟩) :=
  ⟨fun b o h => hb.cell (p := ⟨b, o, none⟩) h, fun b o h => hb.frozen (p := ⟨b, o, none⟩) h⟩

theorem run_slice_str {P : Program} {t : TypeId} (ht : P.underlying t = some .string) (s : ByteArray) (x y : Int) (a b : Nat) (hx : x = a) (hy : y = b) (h1 : a ≤ b) (h2 : b ≤ s.size) (W : World) :
    (Instr.slice t (.string s) (some (.int .i64 x)) (some (.int .i64 y)) none).run P W = .ok (.string (s.extract a b)) W := by
  subst hx; subst hy
  simp [Instr.slice, run_underlying ht, Instr.sliceBounds, Instr.sliceBound, asIntOf, h1, h2]

/-- A box that lay there, behind a call. -/
theorem after {W w1 : World} (hb : Below W.heap.size W w1) {b : Nat} {cs : Array Value} (hlt : b < W.heap.size) (hc : ∀ o, W.cell? ⟨b, o, none⟩ = cs[o]?) (hf : ∀ o, W.frozen? ⟨b, o, none⟩ = false) :
    (∀ o, w1.cell? ⟨b, o, none⟩ = cs[o]?) ∧ (∀ o, w1.frozen? ⟨b, o, none⟩ = false) ∧ b < w1.heap.size ∧ ¬ b = w1.heap.size ∧ ¬ w1.heap.size = b := by
  have hs := hb.size
  exact ⟨fun o => (hb.cell (p := ⟨b, o, none⟩) hlt).trans (hc o), fun o => (hb.frozen (p := ⟨b, o, none⟩) hlt).trans (hf o), by omega, by omega, by omega⟩

/-- A block of memory that is known whole, and may be written. -/
def Box (W : World) (b : Nat) (cs : Array Value) (t : TypeId) : Prop := W.heap[b]? = some (.cells cs t (0, 0))
section
variable {W : World} {b : Nat} {cs : Array Value} {t : TypeId}
theorem Box.lt (h : Box W b cs t) : b < W.heap.size := (Array.getElem?_eq_some_iff.1 h).1
theorem Box.rules (h : Box W b cs t) : (∀ o, W.cell? ⟨b, o, none⟩ = cs[o]?) ∧ (∀ o, W.frozen? ⟨b, o, none⟩ = false) ∧ b < W.heap.size ∧ ¬ b = W.heap.size ∧ ¬ W.heap.size = b := by
  have hl := h.lt
  unfold Box at h
  exact ⟨fun o => by simp [World.cell?, h], fun o => by simp [World.frozen?, h], hl, by omega, by omega⟩
theorem Box.new (w : World) (cs : Array Value) (t : TypeId) : Box (w.alloc (.cells cs t)) w.heap.size cs t := heap_alloc_new w _
theorem Box.new1 (w : World) (cs : Array Value) (t : TypeId) {n : Nat} (hn : n = w.heap.size) : Box (w.alloc (.cells cs t)) n cs t := by subst hn; exact heap_alloc_new w _
theorem Box.alloc (h : Box W b cs t) (o : Obj) : Box (W.alloc o) b cs t := (Below.heap_alloc W o b h.lt).trans h
theorem Box.set (h : Box W b cs t) (i : Nat) (v : Value) : Box (W.setCell ⟨b, i, none⟩ v) b (cs.setIfInBounds i v) t := heap_setCell_same W b i cs t v h
theorem Box.other (h : Box W b cs t) (a : Addr) (v : Value) (hne : ¬ b = a.block) : Box (W.setCell a v) b cs t := (heap_setCell_other W a b v hne).trans h
theorem Box.row (h : Box W b cs t) (g : Nat) (xs : Array Value) (hne : ¬ b = g) : Box (W.setRow g xs) b cs t := (setRow_other W g b xs hne).trans h
theorem Box.drewN (h : Box W b cs t) (n : Nat) : Box (W.drewN n) b cs t := h
theorem Box.drew (h : Box W b cs t) : Box W.drew b cs t := h
theorem Box.below (h : Box W b cs t) {W' : World} {B : Nat} (hb : Below B W W') (hl : b < B) : Box W' b cs t := (hb.block b hl).trans h
theorem Box.grown (h : Box W b cs t) {W' : World} {g : Option Nat} (hb : W.grownBy W' g) (hne : ¬ some b = g) : Box W' b cs t := (hb.block b h.lt hne).trans h
theorem Box.cast (h : Box W b cs t) {cs' : Array Value} (e : cs = cs') : Box W b cs' t := e ▸ h
end

theorem drew_heap' (w : World) : w.drew.heap = w.heap := rfl
theorem drewN_heap' (w : World) (n : Nat) : (w.drewN n).heap = w.heap := rfl
theorem below_drewN' {B : Nat} {a w : World} (h : Below B a w) (n : Nat) : Below B a (w.drewN n) := ⟨h.os, h.tape, h.output, h.size, h.block⟩
end Go.Tm
