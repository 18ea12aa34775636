/- append(s[:i], s[j:]...) in place on the call's own row. Conditions: none. -/
import Derived.Test.YtmcaeahjnhkbcaaLib12
namespace Go.Tm
open Go Go.RowKit
set_option linter.unusedVariables false
set_option linter.unusedSimpArgs false

section
variable {P : Program} {w : World} {base : Nat} {E : TypeId} {ag : Bool} {k : Nat} {xs : List Value}
/-- s[m:] at m = cap: the old address. -/
theorem run_from_end {t : TypeId} (T : Ty P E k ag) (ht : P.underlying t = some (.slice E)) (b off n : Nat) (y : Int) (m : Nat) (hy : y = m) (hm : m ≤ n) (hn : n ≤ m) (W : World) :
    (Instr.slice t (.slice (some ⟨b, off, none⟩) n m) (some (.int .i64 y)) none none).run P W = .ok (.slice (some ⟨b, off, none⟩) (n - m) 0) W := by
  obtain ⟨i, hi, hs⟩ := ty_info T
  subst hy
  simp [Instr.slice, run_underlying ht, Instr.sliceBounds, Instr.sliceBound, asIntOf, sizeOf, typeInfo, hi, hs, hm, hn]
theorem Owned.appendIn {t ty : TypeId} (T : Ty P E k ag) (ht : P.underlying t = some (.slice E)) {g cap : Nat} {zs ys : List Value} (h : Owned w base E ag k (.slice (some ⟨g, 0, none⟩) zs.length cap) zs) {i : Nat} {ad : Addr} {cs : Nat}
    (hu : Sl w ag k (.slice (some ad) ys.length cs) ys) (hi : i + ys.length ≤ zs.length) :
    ∃ w', (Builtin.append_ #[t, t] ty #[.slice (some ⟨g, 0, none⟩) i cap, .slice (some ad) ys.length cs]).run P w = .ok (.slice (some ⟨g, 0, none⟩) (i + ys.length) cap) w' ∧
      Owned w' base E ag k (.slice (some ⟨g, 0, none⟩) zs.length cap) (zs.take i ++ ys ++ zs.drop (i + ys.length)) ∧ w.grownBy w' (some g) := by
  obtain ⟨w', hr, h1, h2⟩ := h.copyIn (t := t) (ty := ty) (m := ys.length) (c := cap) T ht hu (Nat.le_refl _) hi
  refine ⟨w', ?_, h1, h2⟩
  obtain ⟨i1, hi1, hs1⟩ := ty_info T
  have hcap : i + ys.length ≤ cap := by
    obtain ⟨_, a', c', he, h3, _⟩ := h.sl
    simp only [Value.slice.injEq] at he
    obtain ⟨_, _, rfl⟩ := he
    omega
  have hf := run_firstCells_some (P := P) w k ys.length ad ys.length cs (flat ys) (flat_len hu.val) hu.news
  simp [Builtin.copy_, run_underlying ht, sizeOf, typeInfo, hi1, hs1, Builtin.lenOf, hf] at hr
  simp [Builtin.append_, run_underlying ht, sizeOf, typeInfo, hi1, hs1, Builtin.lenOf, hcap, hf, Addr.add_lit]
  cases hst : (storeCells ⟨g, i * k, none⟩ (flat ys)).run P w with
  | ok u W1 =>
    rw [hst] at hr
    simp only [Result.andThen_ok, Result.ok.injEq, true_and] at hr ⊢
    exact hr
  | halt x W1 =>
    rw [hst] at hr
    simp [Result.andThen] at hr
end
end Go.Tm
