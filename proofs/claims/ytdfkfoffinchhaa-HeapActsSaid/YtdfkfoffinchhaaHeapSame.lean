/- The reference's Spans, Same: whether two rows, two heaps are one. Conditions: lengths within the reach, numbers within their kinds. -/
import Derived.Test.YtdfkfoffinchhaaHeapLib
namespace Go.Proofs.Ytdfkfoffinchhaa
open Go Go.RowKit Go.Tm
set_option linter.unusedVariables false
set_option linter.unusedSimpArgs false

theorem sp_plain (x : Sp) (h : SpWf x) : Plain Try.prog 31 #[.int .i64 x.1, .int .i64 x.2.1, .int .i64 x.2.2] [.int .i64 x.1, .int .i64 x.2.1, .int .i64 x.2.2] := by
  refine ⟨by kernel_rfl, 5, ?_⟩
  have h1 : Try.prog.cellsOf 31 = 3 := by kernel_rfl
  have h3 : Try.prog.cellsOf 3 = 1 := by kernel_rfl
  simp [Program.keyLits, Try.underlying31, Try.underlying3, h1, h3, h.1, h.2.1, h.2.2]
theorem eql_sp (x y : Sp) (hx : SpWf x) (hy : SpWf y) (b : Bool) (hb : b = true ↔ x = y) :
    ∀ w, (Op.equalIn 10000 31 (.agg #[.int .i64 x.1, .int .i64 x.2.1, .int .i64 x.2.2]) (.agg #[.int .i64 y.1, .int .i64 y.2.1, .int .i64 y.2.2])).run Try.prog w = .ok b w := by
  refine run_eql_plain (m := 5) (by omega) (by kernel_rfl) (by kernel_rfl) (sp_plain x hx) (sp_plain y hy) b ?_
  rw [hb]
  obtain ⟨t, p, u⟩ := x
  obtain ⟨s, q, r⟩ := y
  simp
theorem ne_len {α : Type} {l m : List α} (h : l.length ≠ m.length) : ¬ l = m := fun e => h (by rw [e])
theorem eq_of_takes {α : Type} {l m : List α} (h : l.length = m.length) (ht : l.take l.length = m.take l.length) : l = m := by
  rw [List.take_length] at ht
  rw [ht, h, List.take_length]
theorem takes_step {α : Type} {l m : List α} {i : Nat} {x : α} (h : l.take i = m.take i) (hx : l[i]? = some x) (hy : m[i]? = some x) : l.take (i + 1) = m.take (i + 1) := by
  rw [take_step hx, take_step hy, h]
theorem ne_at {α : Type} {l m : List α} {i : Nat} {x y : α} (hx : l[i]? = some x) (hy : m[i]? = some y) (h : x ≠ y) : ¬ l = m := fun e => by
  subst e; rw [hx] at hy; cases hy; exact h rfl

set_option maxHeartbeats 2000000 in
theorem spans_any (v u : Value) (l m : List Sp) (w : World) (hv : Sl w true 3 v (sps l)) (hu : Sl w true 3 u (sps m)) (hl : ∀ x ∈ l, SpWf x) (hm : ∀ x ∈ m, SpWf x) :
    Calls Try.prog 22 #[v, u] w fun e w' => e = .returned (.bool (decide (l = m))) ∧ Below w.heap.size w w' := by
  have HV := Lib.hid hv
  have HU := Lib.hid hu
  have HL := Lib.hid hl
  have HM := Lib.hid hm
  obtain ⟨a, cap, rfl, hl63⟩ := hv.shape
  obtain ⟨a2, cap2, rfl, hm63⟩ := hu.shape
  rw [sps_len] at hl63 hm63 HV HU ⊢
  rw [sps_len]
  clear hv hu hl hm
  by_cases hlen : l.length = m.length
  · have HLEN := Lib.hid hlen
    rw [← hlen] at HU hm63 ⊢
    clear hlen
    go_enter Try.func22, Try.ntmps22
    go_wp2_with fail
    go_loopw [5] (fun t W => ∃ i : Nat, i ≤ l.length ∧ t = .int .i64 i ∧ Below w.heap.size w W ∧ Hid (l.take i = m.take i)) (fun t _ => l.length - (intOf t).toNat)
    case atStart => exact ⟨0, Nat.zero_le _, rfl, Below.refl _ _, Lib.hid rfl⟩
    case round =>
      obtain ⟨i, hi, rfl, hbw, HT⟩ := hrel
      have hws := hbw.size
      by_cases hlt : i < l.length
      · obtain ⟨x, hx⟩ : ∃ x, l[i]? = some x := ⟨_, List.getElem?_eq_getElem hlt⟩
        obtain ⟨y, hy⟩ : ∃ y, m[i]? = some y := ⟨_, List.getElem?_eq_getElem (by rw [← HLEN.out]; exact hlt)⟩
        obtain ⟨b, off, rfl, hb, c0, c1, c2⟩ := Sl.sp (HV.out.below hbw) hx
        obtain ⟨b2, off2, rfl, hb2, e0, e1, e2⟩ := Sl.sp (HU.out.below hbw) hy
        have hwr : IntKind.i64.wrap ((i : Int) + 1) = i + 1 := IntWalk.i64_in _ (by omega)
        have HX := Lib.hid hx
        have HY := Lib.hid hy
        have g0 := cell_rg c0 hb
        have g1 := cell_rg c1 hb
        have g2 := cell_rg c2 hb
        have k0 := cell_rg e0 hb2
        have k1 := cell_rg e1 hb2
        have k2 := cell_rg e2 hb2
        by_cases hxy : x = y
        · have heq := eql_sp x y (HL.out x (List.mem_of_getElem? hx)) (HM.out y (List.mem_of_getElem? hy)) true (by simp [hxy])
          have HXY := Lib.hid hxy
          clear hxy hx hy
          go_wp2_with fail
          ((refine wp_region_quiet_below (by kernel_rfl) (by kernel_rfl) ?_); (repeat (go_big_quiet_step (fail))); (refine wpQuiet_nil ?_); (intro _ hw'); (obtain ⟨⟨dq, osq⟩, hw''⟩ := hw'); (subst hw''); (have hb7 := below_regrown wr dq osq); (generalize Go.Sort.grow (redrawn wr dq) osq = w7 at *); (have hz7 := hb7.size))
          clear g0 g1 g2 k0 k1 k2
          go_wp2_with fail
          go_roundw
          case rel => exact ⟨i + 1, by omega, by go_num, hbw.trans (hb7.mono hws), Lib.hid (takes_step HT.out HX.out (by rw [HXY.out]; exact HY.out))⟩
          case measure => simp [intOf]; omega
        · have heq := eql_sp x y (HL.out x (List.mem_of_getElem? hx)) (HM.out y (List.mem_of_getElem? hy)) false (by simp [hxy])
          have HN := Lib.hid (decide_eq_false (ne_at HX.out HY.out hxy))
          clear hxy hx hy
          go_wp2_with fail
          ((refine wp_region_quiet_below (by kernel_rfl) (by kernel_rfl) ?_); (repeat (go_big_quiet_step (fail))); (refine wpQuiet_nil ?_); (intro _ hw'); (obtain ⟨⟨dq, osq⟩, hw''⟩ := hw'); (subst hw''); (have hb7 := below_regrown wr dq osq); (generalize Go.Sort.grow (redrawn wr dq) osq = w7 at *); (have hz7 := hb7.size))
          clear g0 g1 g2 k0 k1 k2
          go_wp2_with fail
          go_ret
          exact ⟨by rw [HN.out]; rfl, hbw.trans (hb7.mono hws)⟩
      · obtain rfl : i = l.length := by omega
        have HE := Lib.hid (decide_eq_true (eq_of_takes HLEN.out HT.out))
        go_wp2_with fail
        go_ret
        exact ⟨by rw [HE.out]; rfl, hbw⟩
  · have HN := Lib.hid (decide_eq_false (ne_len hlen))
    have hne : ((l.length : Int) != (m.length : Int)) = true := by simp; omega
    clear hlen
    go_enter Try.func22, Try.ntmps22
    go_wp2_with fail
    go_ret
    exact ⟨by rw [HN.out]; rfl, Below.refl _ _⟩

set_option maxHeartbeats 1000000 in
theorem refSame_any (n k : Int) (v u : Value) (l m : List Sp) (w : World) (hv : Sl w true 3 v (sps l)) (hu : Sl w true 3 u (sps m)) (hl : ∀ x ∈ l, SpWf x) (hm : ∀ x ∈ m, SpWf x) :
    Calls Try.prog 19 #[.agg #[.int .i64 n, v], .agg #[.int .i64 k, u]] w fun e w' => e = .returned (.bool (decide (l = m) && decide (n = k))) ∧ Below w.heap.size w w' := by
  have HS := Lib.hid (fun W h1 h2 => spans_any v u l m W h1 h2 hl hm)
  have HV := Lib.hid hv
  have HU := Lib.hid hu
  clear hv hu hl hm
  generalize decide (l = m) = r at *
  have hnk : (n == k) = decide (n = k) := by rw [Bool.eq_iff_iff]; simp
  go_enter Try.func19, Try.ntmps19
  go_wp2_with fail
  with_reducible refine (HS.out _ (HV.out.below ?_) (HU.out.below ?_)).mono ?_
  focus (repeat (first | with_reducible assumption | with_reducible exact Below.refl _ _ | with_reducible refine Below.setCell ?_ ?_ _ | with_reducible refine Below.alloc ?_ ?_ _ | with_reducible refine below_drewN' ?_ _ | with_reducible refine Below.drew ?_ | with_reducible refine Below.trans ?_ (Below.mono (by assumption) ?_) | omega | (dsimp only; omega) | (simp only [drew_heap', drewN_heap', World.size_alloc, World.size_setCell]; omega) | (solve | simp) | (solve | (simp; omega))))
  focus (repeat (first | with_reducible assumption | with_reducible exact Below.refl _ _ | with_reducible refine Below.setCell ?_ ?_ _ | with_reducible refine Below.alloc ?_ ?_ _ | with_reducible refine below_drewN' ?_ _ | with_reducible refine Below.drew ?_ | with_reducible refine Below.trans ?_ (Below.mono (by assumption) ?_) | omega | (dsimp only; omega) | (simp only [drew_heap', drewN_heap', World.size_alloc, World.size_setCell]; omega) | (solve | simp) | (solve | (simp; omega))))
  rintro e w2 ⟨rfl, hb2⟩
  have bx1 : Box w2 w.heap.size #[.int .i64 n, v] 24 := ((Box.new _ _ _).alloc _).below hb2 (by simp only [World.size_alloc]; omega)
  have bx2 : Box w2 (w.heap.size + 1) #[.int .i64 k, u] 24 := Box.below (Box.new1 _ _ _ (by simp)) hb2 (by simp only [World.size_alloc]; omega)
  obtain ⟨c1, f1, l1, n1, m1⟩ := bx1.rules
  obtain ⟨c2, f2, l2, n2, m2⟩ := bx2.rules
  have hbw : Below w.heap.size w w2 := by (repeat (first | with_reducible assumption | with_reducible exact Below.refl _ _ | with_reducible refine Below.setCell ?_ ?_ _ | with_reducible refine Below.alloc ?_ ?_ _ | with_reducible refine below_drewN' ?_ _ | with_reducible refine Below.drew ?_ | with_reducible refine Below.trans ?_ (Below.mono (by assumption) ?_) | omega | (dsimp only; omega) | (simp only [drew_heap', drewN_heap', World.size_alloc, World.size_setCell]; omega) | (solve | simp) | (solve | (simp; omega))))
  clear hb2 bx1 bx2
  cases r
  · go_wp2_with fail
    go_ret
    exact ⟨by simp, hbw⟩
  · go_wp2_with fail
    go_ret
    exact ⟨by simp [hnk], hbw⟩
end Go.Proofs.Ytdfkfoffinchhaa
