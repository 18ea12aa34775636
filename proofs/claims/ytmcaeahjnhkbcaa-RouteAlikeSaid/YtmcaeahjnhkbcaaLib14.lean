/- append(s, l...) onto the call's own slice, as an equation of the run: for an operation of a region that draws. Conditions: none. -/
import Derived.Test.YtmcaeahjnhkbcaaLib12
namespace Go.Tm
open Go Go.RowKit
set_option linter.unusedVariables false
set_option linter.unusedSimpArgs false

section
variable {P : Program} {w : World} {base : Nat} {E : TypeId} {ag : Bool} {k : Nat} {v u : Value} {xs ys : List Value}
theorem run_append_sl (t ty : TypeId) (T : Ty P E k ag) (i : TypeInfo) (z : Value) (bytes : Nat) (ht : P.underlying t = some (.slice E)) (hi : P.info? E = some i) (hz : i.zero = some z)
    (hsize : i.size = k) (hby : i.bytes = bytes) (hzs : z.cells.size = k) (hown : Owned w base E ag k v xs) (hsl : Sl w ag k u ys)
    (h63 : xs.length + ys.length ≤ maxLen) (hbytes : (xs.length + ys.length) * bytes ≤ 140737488355328) (hbase : base ≤ w.heap.size) :
    ∃ v' w', (Builtin.append_ #[t, t] ty #[v, u]).run P w = .ok v' w' ∧ Owned w' base E ag k v' (xs ++ ys) ∧ w.grownBy w' v.ownBlock := by
  have hval : ∀ y ∈ xs ++ ys, Val ag k y := by
    intro y hy
    rcases List.mem_append.1 hy with hy | hy
    · exact hown.val y hy
    · exact hsl.val y hy
  have hsl0 := hsl
  obtain ⟨hv, ad, c, rfl, hlc, hcm, hform2⟩ := hsl
  cases ad with
  | none =>
    have h0 : ys = [] := by
      rcases hform2 with h0 | ⟨b, off, hb, _⟩
      · exact h0
      · cases hb
    subst h0
    have h1 : Owned w base E ag k v (xs ++ []) := by rw [List.append_nil]; exact hown
    have hr : (Builtin.append_ #[t, t] ty #[v, .slice none 0 c]).run P w = .ok v w := by
      rcases hown.row.2 with ⟨rfl, _⟩ | ⟨g, cap, cur, rfl, _, _, hnc, _⟩
      · simp [Builtin.append_, run_underlying ht, sizeOf, typeInfo, hi, Builtin.lenOf, Builtin.firstCells]
      · simp [Builtin.append_, run_underlying ht, sizeOf, typeInfo, hi, Builtin.lenOf, Builtin.firstCells, hnc, storeCells]
    exact ⟨v, w, hr, h1, grown_refl w _⟩
  | some ad =>
    obtain ⟨v', w', hrun, r1, r2, _⟩ := run_append_own (P := P) w base t ty E i z k bytes ht hi hz hsize hby hzs T.pos v xs.length (flat xs) hown.row ad ys.length c (flat ys) (flat_len hv) hsl0.news (flat_one hv) h63 hbytes hbase
    exact ⟨v', w', hrun, ⟨by rw [List.length_append, flat_append]; exact r1, hval⟩, r2⟩
end
end Go.Tm
