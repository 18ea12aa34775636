/- Plans that came in as arguments. Conditions: none. -/
import Derived.Test.YtinhnecgmokfkaaPlanCheck
import Derived.Test.YtinhnecgmokfkaaLib1
import Derived.Test.YtinhnecgmokfkaaLib3
namespace Go.Proofs.Ytinhnecgmokfkaa
open Go Go.RowKit Go.Tm
set_option linter.unusedVariables false
set_option linter.unusedSimpArgs false

theorem wnc_cells {W : World} {fl : Nat} {cs : List Value} (h : Shaped Try.prog W fl 48 cs) :
    ∃ (a : Int) (b : Int) (c : Int), cs = [.int .i64 a, .int .i64 b, .int .i64 c] ∧ (Lit.int .i64 a).wf = true ∧ (Lit.int .i64 b).wf = true ∧ (Lit.int .i64 c).wf = true := by
  obtain ⟨g1, hl, hf⟩ := shaped_struct Try.underlying48 h
  have h3 : Try.prog.cellsOf 48 = 3 := by kernel_rfl
  rw [h3] at hl
  have f0 : Shaped Try.prog W g1 3 ((cs.drop 0).take (Try.prog.cellsOf 3)) := hf 0 _ rfl
  have f1 : Shaped Try.prog W g1 3 ((cs.drop 1).take (Try.prog.cellsOf 3)) := hf 1 _ rfl
  have f2 : Shaped Try.prog W g1 3 ((cs.drop 2).take (Try.prog.cellsOf 3)) := hf 2 _ rfl
  rw [show Try.prog.cellsOf 3 = 1 by kernel_rfl] at f0 f1 f2
  obtain ⟨a, c0, ha⟩ := shaped_wf Try.underlying3 f0
  obtain ⟨b, c1, hb⟩ := shaped_wf Try.underlying3 f1
  obtain ⟨c, c2, hc⟩ := shaped_wf Try.underlying3 f2
  exact ⟨a, b, c, list3 hl (chunk1 c0) (chunk1 c1) (chunk1 c2), ha, hb, hc⟩
theorem wnc_one {W : World} (g : Nat) (es : List Value) (h : Shaped Try.prog W g 48 es) : ∀ c ∈ es, c.oneCell' = true := by
  obtain ⟨a, b, c, rfl, _⟩ := wnc_cells h
  intro c hc
  simp only [List.mem_cons, List.not_mem_nil, or_false] at hc
  rcases hc with rfl | rfl | rfl <;> rfl
theorem wnc_el {W : World} {x : Value} (hv : Val true 3 x) (h : ∃ g, Shaped Try.prog W g 48 x.cells.toList) :
    ∃ (a : Int) (b : Int) (c : Int), x = .agg #[.int .i64 a, .int .i64 b, .int .i64 c] ∧ (Lit.int .i64 a).wf = true ∧ (Lit.int .i64 b).wf = true ∧ (Lit.int .i64 c).wf = true := by
  obtain ⟨g, h⟩ := h
  obtain ⟨cs, rfl, hs, _⟩ : ∃ cs : Array Value, x = .agg cs ∧ cs.size = 3 ∧ ∀ c ∈ cs.toList, c.oneCell' = true := hv
  obtain ⟨a, b, c, he, hf⟩ := wnc_cells h
  exact ⟨a, b, c, by rw [show cs = #[.int .i64 a, .int .i64 b, .int .i64 c] from Array.ext' he], hf⟩

theorem chc_cells {W : World} {fl : Nat} {cs : List Value} (h : Shaped Try.prog W fl 54 cs) :
    ∃ (a : Int) (b : Int) (c : Int) (d : Int) (e : Int), cs = [.int .i64 a, .int .i64 b, .int .i64 c, .int .i64 d, .int .i64 e] ∧ (Lit.int .i64 a).wf = true ∧ (Lit.int .i64 b).wf = true ∧ (Lit.int .i64 c).wf = true ∧ (Lit.int .i64 d).wf = true ∧ (Lit.int .i64 e).wf = true := by
  obtain ⟨g1, hl, hf⟩ := shaped_struct Try.underlying54 h
  have h3 : Try.prog.cellsOf 54 = 5 := by kernel_rfl
  rw [h3] at hl
  have f0 : Shaped Try.prog W g1 3 ((cs.drop 0).take (Try.prog.cellsOf 3)) := hf 0 _ rfl
  have f1 : Shaped Try.prog W g1 3 ((cs.drop 1).take (Try.prog.cellsOf 3)) := hf 1 _ rfl
  have f2 : Shaped Try.prog W g1 3 ((cs.drop 2).take (Try.prog.cellsOf 3)) := hf 2 _ rfl
  have f3 : Shaped Try.prog W g1 3 ((cs.drop 3).take (Try.prog.cellsOf 3)) := hf 3 _ rfl
  have f4 : Shaped Try.prog W g1 3 ((cs.drop 4).take (Try.prog.cellsOf 3)) := hf 4 _ rfl
  rw [show Try.prog.cellsOf 3 = 1 by kernel_rfl] at f0 f1 f2 f3 f4
  obtain ⟨a, c0, ha⟩ := shaped_wf Try.underlying3 f0
  obtain ⟨b, c1, hb⟩ := shaped_wf Try.underlying3 f1
  obtain ⟨c, c2, hc⟩ := shaped_wf Try.underlying3 f2
  obtain ⟨d, c3, hd⟩ := shaped_wf Try.underlying3 f3
  obtain ⟨e, c4, he⟩ := shaped_wf Try.underlying3 f4
  exact ⟨a, b, c, d, e, list5 hl (chunk1 c0) (chunk1 c1) (chunk1 c2) (chunk1 c3) (chunk1 c4), ha, hb, hc, hd, he⟩
theorem chc_one {W : World} (g : Nat) (es : List Value) (h : Shaped Try.prog W g 54 es) : ∀ c ∈ es, c.oneCell' = true := by
  obtain ⟨a, b, c, d, e, rfl, _⟩ := chc_cells h
  intro c hc
  simp only [List.mem_cons, List.not_mem_nil, or_false] at hc
  rcases hc with rfl | rfl | rfl | rfl | rfl <;> rfl
theorem chc_el {W : World} {x : Value} (hv : Val true 5 x) (h : ∃ g, Shaped Try.prog W g 54 x.cells.toList) :
    ∃ (a : Int) (b : Int) (c : Int) (d : Int) (e : Int), x = .agg #[.int .i64 a, .int .i64 b, .int .i64 c, .int .i64 d, .int .i64 e] ∧ (Lit.int .i64 a).wf = true ∧ (Lit.int .i64 b).wf = true ∧ (Lit.int .i64 c).wf = true ∧ (Lit.int .i64 d).wf = true ∧ (Lit.int .i64 e).wf = true := by
  obtain ⟨g, h⟩ := h
  obtain ⟨cs, rfl, hs, _⟩ : ∃ cs : Array Value, x = .agg cs ∧ cs.size = 5 ∧ ∀ c ∈ cs.toList, c.oneCell' = true := hv
  obtain ⟨a, b, c, d, e, he, hf⟩ := chc_cells h
  exact ⟨a, b, c, d, e, by rw [show cs = #[.int .i64 a, .int .i64 b, .int .i64 c, .int .i64 d, .int .i64 e] from Array.ext' he], hf⟩

theorem list3 {α : Type} {l : List α} (h : l.length = 3) : ∃ a b c, l = [a, b, c] := by
  match l, h with
  | [a, b, c], _ => exact ⟨a, b, c, rfl⟩
theorem ptc_cells {W : World} {fl : Nat} {cs : List Value} (h : Shaped Try.prog W fl 52 cs) :
    ∃ (m a b c : Int), cs = [.int .i64 m, .int .i64 a, .int .i64 b, .int .i64 c] := by
  obtain ⟨g1, hl, hf⟩ := shaped_struct Try.underlying52 h
  have h4 : Try.prog.cellsOf 52 = 4 := by kernel_rfl
  have h3 : Try.prog.cellsOf 50 = 3 := by kernel_rfl
  have h1 : Try.prog.cellsOf 3 = 1 := by kernel_rfl
  rw [h4] at hl
  have hM : Shaped Try.prog W g1 3 ((cs.drop 0).take (Try.prog.cellsOf 3)) := hf 0 _ rfl
  have hR : Shaped Try.prog W g1 50 ((cs.drop 1).take (Try.prog.cellsOf 50)) := hf 1 _ rfl
  simp only [h3, h1, List.drop_zero] at hR hM
  obtain ⟨l, ll, hls, hw⟩ := shaped_ints Try.underlying50 Try.underlying3 h1 h3 hR
  obtain ⟨m, hm, hwm⟩ := shaped_wf Try.underlying3 hM
  obtain ⟨a, b, c, rfl⟩ := list3 ll
  match cs, hl with
  | [x0, x1, x2, x3], _ =>
    simp at hm hls
    obtain ⟨rfl, rfl, rfl⟩ := hls
    subst hm
    exact ⟨m, a, b, c, rfl⟩
theorem ptc_one {W : World} (g : Nat) (es : List Value) (h : Shaped Try.prog W g 52 es) : ∀ c ∈ es, c.oneCell' = true := by
  obtain ⟨m, a, b, c, rfl⟩ := ptc_cells h
  intro c hc
  simp only [List.mem_cons, List.not_mem_nil, or_false] at hc
  rcases hc with rfl | rfl | rfl | rfl <;> rfl
theorem slc_one {W : World} (g : Nat) (es : List Value) (h : Shaped Try.prog W g 46 es) : ∀ c ∈ es, c.oneCell' = true := by
  obtain ⟨a, n, cap, rfl, _⟩ := shaped_slice Try.underlying46 h
  intro c hc
  simp only [List.mem_cons, List.not_mem_nil, or_false] at hc
  subst hc; rfl

theorem rows_of {α : Type} {enc : α → Value} {xs : List Value} (h : ∀ x ∈ xs, ∃ a : α, x = enc a) : ∃ l : List α, xs = l.map enc := by
  induction xs with
  | nil => exact ⟨[], rfl⟩
  | cons x xs ih =>
    obtain ⟨a, rfl⟩ := h x (by simp)
    obtain ⟨l, rfl⟩ := ih fun y hy => h y (by simp [hy])
    exact ⟨a :: l, rfl⟩
theorem pts_shaped {W : World} {fl : Nat} {v : Value} (h : Shaped Try.prog W fl 22 [v]) : ∃ l : List Pt, Sl W true 4 v (l.map ptV) := by
  obtain ⟨xs, hsl, hx, _⟩ := sl_of_shaped ty_part (by decide) ptc_one Try.underlying22 h
  obtain ⟨l, rfl⟩ := rows_of (enc := ptV) (xs := xs) fun x hm => by
    obtain ⟨g, hg⟩ := hx x hm
    obtain ⟨cs, rfl, hs, _⟩ : ∃ cs : Array Value, x = .agg cs ∧ cs.size = 4 ∧ ∀ c ∈ cs.toList, c.oneCell' = true := hsl.val x hm
    obtain ⟨m, a, b, c, he⟩ := ptc_cells hg
    exact ⟨(m, a, b, c), by rw [show cs = #[.int .i64 m, .int .i64 a, .int .i64 b, .int .i64 c] from Array.ext' he]⟩
  exact ⟨l, hsl⟩
theorem wns_shaped {W : World} {fl : Nat} {v : Value} (h : Shaped Try.prog W fl 46 [v]) : ∃ l : List Wn, Sl W true 3 v (l.map wnV) := by
  obtain ⟨xs, hsl, hx, _⟩ := sl_of_shaped ty_win (by decide) wnc_one Try.underlying46 h
  obtain ⟨l, rfl⟩ := rows_of (enc := wnV) (xs := xs) fun x hm => by
    obtain ⟨a, b, c, he, _⟩ := wnc_el (hsl.val x hm) (hx x hm)
    exact ⟨(a, b, c), he⟩
  exact ⟨l, hsl⟩
theorem chs_shaped {W : World} {fl : Nat} {v : Value} (h : Shaped Try.prog W fl 24 [v]) : ∃ l : List Ch, Sl W true 5 v (l.map chV) := by
  obtain ⟨xs, hsl, hx, _⟩ := sl_of_shaped ty_chan (by decide) chc_one Try.underlying24 h
  obtain ⟨l, rfl⟩ := rows_of (enc := chV) (xs := xs) fun x hm => by
    obtain ⟨a, b, c, d, e, he, _⟩ := chc_el (hsl.val x hm) (hx x hm)
    exact ⟨(a, b, c, d, e), he⟩
  exact ⟨l, hsl⟩
theorem wins_of {W : World} {xs : List Value} (h : ∀ x ∈ xs, ∃ l : List Wn, Sl W true 3 x (l.map wnV)) :
    ∃ ls : List (List Wn), xs.length = ls.length ∧ ∀ (i : Nat) (u : Value) (l : List Wn), xs[i]? = some u → ls[i]? = some l → Sl W true 3 u (l.map wnV) := by
  induction xs with
  | nil => exact ⟨[], rfl, by intro i u l hu; simp at hu⟩
  | cons x xs ih =>
    obtain ⟨l, hl⟩ := h x (by simp)
    obtain ⟨ls, h1, h2⟩ := ih fun y hy => h y (by simp [hy])
    refine ⟨l :: ls, by simp [h1], ?_⟩
    intro i u m hu hm
    cases i with
    | zero => simp at hu hm; subst hu hm; exact hl
    | succ i => exact h2 i u m (by simpa using hu) (by simpa using hm)
theorem winss_shaped {W : World} {fl : Nat} {v : Value} (h : Shaped Try.prog W fl 23 [v]) : ∃ ls : List (List Wn), WinsIs W v ls := by
  obtain ⟨xs, hsl, hx, _⟩ := sl_of_shaped ty_wins (by decide) slc_one Try.underlying23 h
  obtain ⟨ls, h1, h2⟩ := wins_of (W := W) (xs := xs) fun x hm => by
    obtain ⟨g, hg⟩ := hx x hm
    obtain ⟨a, n, cap, he, _⟩ := shaped_slice Try.underlying46 hg
    have hxe : x.cells.toList = [x] := by
      have : x.oneCell' = true ∧ (1 : Nat) = 1 := hsl.val x hm
      cases x with
      | agg cs => cases this.1
      | _ => rfl
    rw [hxe] at hg
    exact wns_shaped hg
  exact ⟨ls, ⟨xs, hsl, h1, h2⟩⟩
theorem plan_cells {W : World} {fl : Nat} {cs : List Value} (h : Shaped Try.prog W fl 26 cs) :
    ∃ (pv wv cv : Value) (p : Pln), cs = [pv, .int .i64 p.frame, wv, cv] ∧ PlanIs W pv wv cv p ∧ p.frame ≤ 9223372036854775807 := by
  obtain ⟨g1, hl, hf⟩ := shaped_struct Try.underlying26 h
  have h4 : Try.prog.cellsOf 26 = 4 := by kernel_rfl
  have k1 : Try.prog.cellsOf 22 = 1 := by kernel_rfl
  have k2 : Try.prog.cellsOf 3 = 1 := by kernel_rfl
  have k3 : Try.prog.cellsOf 23 = 1 := by kernel_rfl
  have k4 : Try.prog.cellsOf 24 = 1 := by kernel_rfl
  rw [h4] at hl
  have f0 : Shaped Try.prog W g1 22 ((cs.drop 0).take (Try.prog.cellsOf 22)) := hf 0 _ rfl
  have f1 : Shaped Try.prog W g1 3 ((cs.drop 1).take (Try.prog.cellsOf 3)) := hf 1 _ rfl
  have f2 : Shaped Try.prog W g1 23 ((cs.drop 2).take (Try.prog.cellsOf 23)) := hf 2 _ rfl
  have f3 : Shaped Try.prog W g1 24 ((cs.drop 3).take (Try.prog.cellsOf 24)) := hf 3 _ rfl
  rw [k1] at f0
  rw [k2] at f1
  rw [k3] at f2
  rw [k4] at f3
  match cs, hl with
  | [a0, a1, a2, a3], _ =>
    simp only [List.drop_zero, List.drop_succ_cons, List.take_succ_cons, List.take_zero] at f0 f1 f2 f3
    obtain ⟨l0, s0⟩ := pts_shaped f0
    obtain ⟨n, e1, w1⟩ := shaped_wf Try.underlying3 f1
    obtain ⟨l2, s2⟩ := winss_shaped f2
    obtain ⟨l3, s3⟩ := chs_shaped f3
    simp at e1
    subst e1
    refine ⟨a0, a2, a3, ⟨l0, n, l2, l3⟩, rfl, ⟨s0, s2, s3⟩, ?_⟩
    have : n ≤ 9223372036854775807 := by
      have := w1
      simp [Lit.wf, IntKind.min, IntKind.max, IntKind.bits, IntKind.signed] at this
      omega
    exact this
theorem u64_range {n : Int} (h : (Lit.int .u64 n).wf = true) : 0 ≤ n ∧ n ≤ 18446744073709551615 := by
  simpa [Lit.wf, IntKind.min, IntKind.max, IntKind.bits, IntKind.signed] using h
theorem i64_range {n : Int} (h : (Lit.int .i64 n).wf = true) : -9223372036854775808 ≤ n ∧ n ≤ 9223372036854775807 := by
  simpa [Lit.wf, IntKind.min, IntKind.max, IntKind.bits, IntKind.signed] using h
end Go.Proofs.Ytinhnecgmokfkaa
