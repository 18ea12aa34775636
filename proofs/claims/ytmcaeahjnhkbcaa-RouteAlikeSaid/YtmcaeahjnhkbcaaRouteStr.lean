/- Rows of strings, rows of those; images; slices.Equal of strings. Conditions: none. -/
import Derived.Test.YtmcaeahjnhkbcaaRouteReach
import Derived.Test.YtmcaeahjnhkbcaaLib15
namespace Go.Proofs.Ytmcaeahjnhkbcaa
open Go Go.RowKit Go.Tm
set_option linter.unusedVariables false
set_option linter.unusedSimpArgs false

theorem str_same (x : ByteArray) : (x == x) = true := (MapKept.bytes_beq x x).2 rfl
theorem str_ne {x y : ByteArray} (h : x ≠ y) : (x == y) = false := by
  cases e : (x == y)
  · rfl
  · exact absurd ((MapKept.bytes_beq x y).1 e) h
theorem str_ne2 {x y : ByteArray} (h : x ≠ y) : (x.toList == y.toList) = false := by
  rw [beq_eq_false_iff_ne]
  intro e
  simp only [ByteArray.toList_eq] at e
  obtain ⟨x⟩ := x
  obtain ⟨y⟩ := y
  exact h (by rw [show x = y from Array.toList_inj.1 e])
abbrev strs (l : List ByteArray) : List Value := l.map Value.string
theorem strs_len (l : List ByteArray) : (strs l).length = l.length := by simp
theorem strs_get {l : List ByteArray} {i : Nat} {x : ByteArray} (h : l[i]? = some x) : (strs l)[i]? = some (.string x) := by simp [h]
theorem Sl.str {w : World} {a : Option Addr} {n cap : Nat} {l : List ByteArray} (h : Sl w false 1 (.slice a n cap) (strs l)) {i : Nat} {x : ByteArray} (hx : l[i]? = some x) :
    ∃ b off, a = some ⟨b, off, none⟩ ∧ b < w.heap.size ∧ w.cell? ⟨b, off + i, none⟩ = some (.string x) := by
  obtain ⟨b, off, ha, hb, hcell⟩ := h.at (strs_get hx)
  have := hcell 0 _ rfl
  exact ⟨b, off, ha, hb, by simpa using this⟩
/-- A slice of slices of strings. -/
def RowsAt (W : World) (v : Value) (rows : List (List ByteArray)) : Prop := ∃ vs : List Value, Sl W false 1 v vs ∧ vs.length = rows.length ∧ ∀ (i : Nat) r x, vs[i]? = some r → rows[i]? = some x → Sl W false 1 r (strs x)
theorem RowsAt.below {W W' : World} {v : Value} {rows : List (List ByteArray)} (h : RowsAt W v rows) (hb : Below W.heap.size W W') : RowsAt W' v rows := by
  obtain ⟨vs, h1, h2, h3⟩ := h
  exact ⟨vs, h1.below hb, h2, fun i r x hr hx => (h3 i r x hr hx).below hb⟩
theorem RowsAt.shape {W : World} {v : Value} {rows : List (List ByteArray)} (h : RowsAt W v rows) : ∃ a cap, v = .slice a rows.length cap ∧ rows.length ≤ 9223372036854775807 := by
  obtain ⟨vs, h1, h2, h3⟩ := h
  obtain ⟨a, cap, e, hl⟩ := h1.shape
  exact ⟨a, cap, by rw [e, h2], by omega⟩
/-- A partition's images. -/
def imgS (rows : List (List ByteArray)) (n : Int) : List ByteArray := if 0 ≤ n then rows.getD n.toNat [] else []
theorem imgS_out {rows : List (List ByteArray)} {n : Int} (h : n < 0 ∨ (rows.length : Int) ≤ n) : imgS rows n = [] := by
  unfold imgS
  split
  · rw [List.getD_eq_getElem?_getD, List.getElem?_eq_none (by omega)]; rfl
  · rfl
theorem imgS_in {rows : List (List ByteArray)} {n : Nat} {x : List ByteArray} (h : rows[n]? = some x) : imgS rows n = x := by
  unfold imgS
  rw [if_pos (by omega), List.getD_eq_getElem?_getD, Int.toNat_natCast, h]; rfl

theorem images_any (v : Value) (rows : List (List ByteArray)) (n : Int) (w : World) (hv : RowsAt w v rows) :
    Calls Try.prog 23 #[v, .int .i64 n] w fun e w' => ∃ v', e = .returned v' ∧ Sl w' false 1 v' (strs (imgS rows n)) ∧ w = w' := by
  obtain ⟨a, cap, rfl, hl⟩ := hv.shape
  by_cases h0 : n < 0
  · have d0 : decide (n < 0) = true := decide_eq_true h0
    have HE := Lib.hid (imgS_out (rows := rows) (n := n) (.inl h0))
    clear hv
    go_enter Try.func23, Try.ntmps23
    go_wp2_with fail
    go_ret
    exact ⟨_, rfl, by rw [HE.out]; exact Sl.nil _ _ _, rfl⟩
  have d0 : decide (n < 0) = false := decide_eq_false h0
  by_cases h1 : (rows.length : Int) ≤ n
  · have d1 : decide ((rows.length : Int) ≤ n) = true := decide_eq_true h1
    have HE := Lib.hid (imgS_out (rows := rows) (n := n) (.inr h1))
    clear hv
    go_enter Try.func23, Try.ntmps23
    go_wp2_with fail
    go_ret
    exact ⟨_, rfl, by rw [HE.out]; exact Sl.nil _ _ _, rfl⟩
  obtain ⟨k, rfl⟩ : ∃ k : Nat, n = k := ⟨n.toNat, by omega⟩
  have hkl : k < rows.length := by omega
  have d1 : decide ((rows.length : Int) ≤ (k : Int)) = false := decide_eq_false h1
  have d2 : decide (rows.length ≤ k) = false := decide_eq_false (by omega)
  have d3 : decide ((k : Int) < 0) = false := decide_eq_false (by omega)
  obtain ⟨x, hx⟩ : ∃ x, rows[k]? = some x := ⟨_, List.getElem?_eq_getElem hkl⟩
  obtain ⟨vs, h2, h3, h4⟩ := hv
  obtain ⟨r, hr⟩ : ∃ r, vs[k]? = some r := ⟨_, List.getElem?_eq_getElem (by omega)⟩
  have HR := Lib.hid (h4 k r x hr hx)
  have HE := Lib.hid (imgS_in hx)
  obtain ⟨b, off, rfl, hb, hc⟩ := h2.at hr
  obtain ⟨ar, kr, rfl, _⟩ := HR.out.shape
  have e0 := hc 0 (.slice ar (strs x).length kr) rfl
  simp only [Nat.mul_one, Nat.add_zero] at e0
  rw [strs_len] at e0
  clear h2 h3 h4 hr hx hc h0 h1
  go_enter Try.func23, Try.ntmps23
  go_wp2_with fail
  go_ret
  exact ⟨_, rfl, by rw [HE.out]; rw [strs_len] at HR; exact HR.out, rfl⟩

set_option maxHeartbeats 1000000 in
theorem equal_any (v u : Value) (l m : List ByteArray) (w : World) (hv : Sl w false 1 v (strs l)) (hu : Sl w false 1 u (strs m)) :
    Calls Try.prog 22 #[v, u] w fun e w' => e = .returned (.bool (decide (l = m))) ∧ Below w.heap.size w w' := by
  have HV := Lib.hid hv
  have HU := Lib.hid hu
  obtain ⟨a, cap, rfl, hl63⟩ := hv.shape
  obtain ⟨a2, cap2, rfl, hm63⟩ := hu.shape
  rw [strs_len] at hl63 hm63 HV HU ⊢
  rw [strs_len]
  clear hv hu
  by_cases hlen : l.length = m.length
  · have HLEN := Lib.hid hlen
    rw [← hlen] at HU hm63 ⊢
    clear hlen
    go_enter Try.func22, Try.ntmps22
    go_wp2_with fail
    go_loopw [5, 13] (fun _ t W => ∃ i : Nat, i ≤ l.length ∧ t = .int .i64 i ∧ Below w.heap.size w W ∧ Hid (l.take i = m.take i)) (fun _ t _ => l.length - (intOf t).toNat)
    case atStart => exact ⟨0, Nat.zero_le _, rfl, Below.refl _ _, Lib.hid rfl⟩
    case round =>
      obtain ⟨i, hi, rfl, hbw, HT⟩ := hrel
      have hws := hbw.size
      by_cases hlt : i < l.length
      · obtain ⟨x, hx⟩ : ∃ x, l[i]? = some x := ⟨_, List.getElem?_eq_getElem hlt⟩
        obtain ⟨y, hy⟩ : ∃ y, m[i]? = some y := ⟨_, List.getElem?_eq_getElem (by rw [← HLEN.out]; exact hlt)⟩
        obtain ⟨b, off, rfl, hb, c0⟩ := Sl.str (HV.out.below hbw) hx
        obtain ⟨b2, off2, rfl, hb2, e0⟩ := Sl.str (HU.out.below hbw) hy
        have hwr : IntKind.i64.wrap ((i : Int) + 1) = i + 1 := IntWalk.i64_in _ (by omega)
        have HX := Lib.hid hx
        have HY := Lib.hid hy
        have g0 := cell_rg c0 hb
        have k0 := cell_rg e0 hb2
        by_cases hxy : x = y
        · subst hxy
          have hb0 : (x == x) = true := str_same x
          have hb1 : (x != x) = false := by unfold bne; rw [hb0]; rfl
          have HN := Lib.hid (show l.take (i + 1) = m.take (i + 1) by rw [take_step hx, take_step hy, HT.out])
          clear hx hy
          go_wp2_with fail
          ((refine wp_region_quiet_below (by kernel_rfl) (by kernel_rfl) ?_); (repeat (go_big_quiet_step (fail))); (refine wpQuiet_nil ?_); (intro _ hw'); (obtain ⟨⟨dq, osq⟩, hw''⟩ := hw'); (subst hw''); (have hb7 := below_regrown wr dq osq); (generalize Go.Sort.grow (redrawn wr dq) osq = w7 at *); (have hz7 := hb7.size))
          clear g0 k0
          go_wp2_with fail
          go_roundw
          case rel => exact ⟨i + 1, by omega, by go_num, hbw.trans (hb7.mono hws), HN⟩
          case measure => simp [intOf]; omega
        · have hb0 : (x.toList == y.toList) = false := str_ne2 hxy
          have hb1 : (x == y) = false := str_ne hxy
          have HN := Lib.hid (decide_eq_false (show ¬ l = m from fun e => by subst e; rw [hx] at hy; cases hy; exact hxy rfl))
          clear hxy hx hy
          go_wp2_with fail
          ((refine wp_region_quiet_below (by kernel_rfl) (by kernel_rfl) ?_); (repeat (go_big_quiet_step (fail))); (refine wpQuiet_nil ?_); (intro _ hw'); (obtain ⟨⟨dq, osq⟩, hw''⟩ := hw'); (subst hw''); (have hb7 := below_regrown wr dq osq); (generalize Go.Sort.grow (redrawn wr dq) osq = w7 at *); (have hz7 := hb7.size))
          clear g0 k0
          go_wp2_with fail
          go_ret
          exact ⟨by rw [HN.out]; rfl, hbw.trans (hb7.mono hws)⟩
      · obtain rfl : i = l.length := by omega
        have HE := Lib.hid (decide_eq_true (show l = m by have h := HT.out; rw [List.take_length] at h; rw [h, HLEN.out, List.take_length]))
        go_wp2_with fail
        go_ret
        exact ⟨by rw [HE.out]; rfl, hbw⟩
  · have HN := Lib.hid (decide_eq_false (show ¬ l = m from fun e => hlen (by rw [e])))
    have hne : ((l.length : Int) != (m.length : Int)) = true := by simp; omega
    clear hlen
    go_enter Try.func22, Try.ntmps22
    go_wp2_with fail
    go_ret
    exact ⟨by rw [HN.out]; rfl, Below.refl _ _⟩
end Go.Proofs.Ytmcaeahjnhkbcaa
