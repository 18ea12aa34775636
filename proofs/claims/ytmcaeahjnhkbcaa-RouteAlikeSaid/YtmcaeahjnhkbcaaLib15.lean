/- A slice of three elements that is made at once; make([]T, n). Conditions: none. -/
import Derived.Test.YtmcaeahjnhkbcaaLib7
import Derived.Test.YtmcaeahjnhkbcaaLib10
import Derived.Laws.MakeOwn
namespace Go.Tm
open Go Go.RowKit
set_option linter.unusedVariables false
variable {P : Program} {E : TypeId} {ag : Bool} {k base : Nat} {w : World} {xs : List Value} {v : Value}

theorem wpList_build_three {ops : Array Oper} {rest : List Oper} {o : Oper} {a : Act} {Q : Exit → Act → World → Prop} (hgd : o.guard = none) (t : TypeId) (q r s : Operand) (ho : o.op = .buildSlice t 3 #[(0, q), (1, r), (2, s)])
    (T : Ty P E k ag) (hk : k ≤ 1048576) (i : TypeInfo) (z : Value) (ht : P.underlying t = some (.slice E)) (hi : P.info? E = some i) (hz : i.zero = some z) (hsize : i.size = k)
    (x y u : Value) (hq : a.eval q = x) (hr : a.eval r = y) (hs : a.eval s = u) (hx : Val ag k x) (hy : Val ag k y) (hu : Val ag k u)
    (h : wpList P ops Q rest (a.put o.dst (.slice (some ⟨w.heap.size, 0, none⟩) 3 3)) (w.alloc (.cells (flat [x, y, u]).toArray E))) : wpList P ops Q (o :: rest) a w := by
  refine wpList_plain hgd fun K hK => ?_
  have hp := T.pos
  refine wp_buildSlice t E 3 #[(0, q), (1, r), (2, s)] ho (flat [x, y, u]).toArray i z ht hi hz (by rw [hsize]; omega) (by rw [hsize]; omega) ?_ (hK _ _ h)
  have hw := Great.fill_whole hp [x, y, u] ((Array.range (3 * k)).map (z.cells[· % z.cells.size]!)) (by intro c hc; simp at hc; rcases hc with rfl | rfl | rfl; exact hx.size; exact hy.size; exact hu.size) (by simp)
  rw [hsize]
  simp only [List.map_toArray, List.map_cons, List.map_nil, hq, hr, hs]
  simpa [flat] using hw
theorem Owned.made3 {x y u : Value} (hx : Val ag k x) (hy : Val ag k y) (hu : Val ag k u) (hb : base ≤ w.heap.size) : Owned (w.alloc (.cells (flat [x, y, u]).toArray E)) base E ag k (.slice (some ⟨w.heap.size, 0, none⟩) 3 3) [x, y, u] := by
  have hv : ∀ c ∈ [x, y, u], Val ag k c := by intro c hc; simp at hc; rcases hc with rfl | rfl | rfl; exact hx; exact hy; exact hu
  have h := World.ownsRow_lit (base := base) (e := E) (size := k) w (flat [x, y, u]).toArray 3 hb (by decide) (by rw [List.size_toArray]; simpa using flat_len hv)
  exact ⟨by simpa using h, hv⟩
/-- make([]T, n): some cells. -/
theorem make_some (t : TypeId) (i : TypeInfo) (z : Value) (ht : P.underlying t = some (.slice E)) (hi : P.info? E = some i) (hz : i.zero = some z) (n : Nat) (h1 : n * i.size ≤ 16777216) (h2 : i.bytes * n ≤ 281474976710656) (h3 : n ≤ 9223372036854775807) :
    ∃ mc : Array Value, ∀ W : World, (Instr.makeSlice t (.int .i64 n) (.int .i64 n)).run P W = .ok (.slice (some ⟨W.heap.size, 0, none⟩) n n) (W.alloc (.cells mc E)) := by
  have h : ((i.bytes * n : Nat) : Int) ≤ 281474976710656 := by omega
  rw [Int.natCast_mul] at h
  exact ⟨_, fun W => run_makeSlice W t E i z ht hi hz .i64 .i64 n n (by omega) (Int.le_refl _) (by simpa using h1) h (by omega)⟩
theorem Sl.grown {w w' : World} {row : Option Nat} (h : Sl w ag k v xs) (hg : w.grownBy w' row) (hne : ∀ b, v.ownBlock = some b → some b ≠ row) : Sl w' ag k v xs := by
  obtain ⟨hv, a, cap, rfl, h1, h2, h3⟩ := h
  refine ⟨hv, a, cap, rfl, h1, h2, ?_⟩
  rcases h3 with rfl | ⟨b, off, rfl, hlt, hc⟩
  · exact .inl rfl
  · refine .inr ⟨b, off, rfl, Nat.lt_of_lt_of_le hlt hg.size, fun i x hx j u' hu => ?_⟩
    rw [World.cell?_of_block (w := w) (a := ⟨b, off + i * k + j, none⟩) (hg.block b hlt (hne b rfl))]
    exact hc i x hx j u' hu
theorem Sl.int {w : World} {a : Option Addr} {n cap : Nat} {l : List Int} (h : Sl w false 1 (.slice a n cap) (ints l)) {i : Nat} {x : Int} (hx : l[i]? = some x) :
    ∃ b off, a = some ⟨b, off, none⟩ ∧ b < w.heap.size ∧ w.cell? ⟨b, off + i, none⟩ = some (.int .i64 x) := by
  obtain ⟨b, off, ha, hb, hcell⟩ := h.at (ints_get hx)
  have := hcell 0 _ rfl
  exact ⟨b, off, ha, hb, by simpa using this⟩
end Go.Tm
