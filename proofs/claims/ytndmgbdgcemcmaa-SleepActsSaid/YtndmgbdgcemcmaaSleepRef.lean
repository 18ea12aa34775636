/- The reference's Same, Ints on equal rows, its Right; sleep.Until; the document's example. Conditions: lengths within the reach, numbers within their kinds. -/
import Derived.Test.YtndmgbdgcemcmaaSleepDue
namespace Go.Proofs.Ytndmgbdgcemcmaa
open Go Go.RowKit Go.Tm
set_option linter.unusedVariables false
set_option linter.unusedSimpArgs false

def AlWf (x : Al) : Prop := (Lit.int .u64 x.1).wf = true ∧ (Lit.int .i64 x.2).wf = true
theorem al_plain (x : Al) (h : AlWf x) : Plain Try.prog 30 #[.int .u64 x.1, .int .i64 x.2] [.int .u64 x.1, .int .i64 x.2] := by
  refine ⟨by kernel_rfl, 5, ?_⟩
  have h1 : Try.prog.cellsOf 30 = 2 := by kernel_rfl
  have h2 : Try.prog.cellsOf 23 = 1 := by kernel_rfl
  have h3 : Try.prog.cellsOf 3 = 1 := by kernel_rfl
  simp [Program.keyLits, Try.underlying30, Try.underlying23, Try.underlying3, h1, h2, h3, h.1, h.2]
theorem eql_al (x y : Al) (hx : AlWf x) (hy : AlWf y) (b : Bool) (hb : b = true ↔ x = y) :
    ∀ w, (Op.equalIn 10000 30 (.agg #[.int .u64 x.1, .int .i64 x.2]) (.agg #[.int .u64 y.1, .int .i64 y.2])).run Try.prog w = .ok b w := by
  refine run_eql_plain (m := 5) (by omega) (by kernel_rfl) (by kernel_rfl) (al_plain x hx) (al_plain y hy) b ?_
  rw [hb]
  obtain ⟨t, p⟩ := x
  obtain ⟨s, q⟩ := y
  simp

set_option maxHeartbeats 4000000 in
/-- Equal rows are the same. -/
theorem same_true (v u : Value) (l : List Al) (w : World) (hv : Sl w true 2 v (als l)) (hu : Sl w true 2 u (als l)) (hw : ∀ x ∈ l, AlWf x) :
    Calls Try.prog 13 #[v, u] w fun e w' => e = .returned (.bool true) ∧ Below w.heap.size w w' := by
  have HV := Lib.hid hv
  have HU := Lib.hid hu
  have HW := Lib.hid hw
  obtain ⟨a, cap, rfl, hl⟩ := hv.shape
  obtain ⟨a2, cap2, rfl, _⟩ := hu.shape
  rw [als_len] at hl HV HU ⊢
  clear hv hu hw
  go_enter Try.func13, Try.ntmps13
  go_wp2_with fail
  go_loopw [5] (fun t W => ∃ i : Nat, i ≤ l.length ∧ t = .int .i64 i ∧ Below w.heap.size w W) (fun t _ => l.length - (intOf t).toNat)
  case atStart => exact ⟨0, Nat.zero_le _, rfl, Below.refl _ _⟩
  case round =>
    obtain ⟨i, hi, rfl, hbw⟩ := hrel
    have hws := hbw.size
    by_cases hlt : i < l.length
    · obtain ⟨x, hx⟩ : ∃ x, l[i]? = some x := ⟨_, List.getElem?_eq_getElem hlt⟩
      have heq := eql_al x x (HW.out x (List.mem_of_getElem? hx)) (HW.out x (List.mem_of_getElem? hx)) true (by simp)
      obtain ⟨b, off, rfl, hb, c0, c1⟩ := Sl.al (HV.out.below hbw) hx
      obtain ⟨b2, off2, rfl, hb2, e0, e1⟩ := Sl.al (HU.out.below hbw) hx
      have hwr : IntKind.i64.wrap ((i : Int) + 1) = i + 1 := IntWalk.i64_in _ (by omega)
      clear hx
      go_wp2_with fail
      go_region
      go_wp2_with fail
      go_roundw
      case rel => exact ⟨i + 1, by omega, by go_num, by (repeat (first | with_reducible assumption | with_reducible exact Below.refl _ _ | with_reducible refine Below.setCell ?_ ?_ _ | with_reducible refine Below.alloc ?_ ?_ _ | with_reducible refine below_drewN' ?_ _ | with_reducible refine Below.drew ?_ | with_reducible refine Below.trans ?_ (Below.mono (by assumption) ?_) | omega | (dsimp only; omega) | (simp only [drew_heap', drewN_heap', World.size_alloc, World.size_setCell]; omega) | (solve | simp) | (solve | (simp; omega))))⟩
      case measure => simp [intOf]; omega
    · go_wp2_with fail
      go_ret
      exact ⟨rfl, hbw⟩

set_option maxHeartbeats 4000000 in
theorem ints_true (v u : Value) (l : List Int) (w : World) (hv : Sl w false 1 v (ints l)) (hu : Sl w false 1 u (ints l)) :
    Calls Try.prog 12 #[v, u] w fun e w' => e = .returned (.bool true) ∧ Below w.heap.size w w' := by
  have HV := Lib.hid hv
  have HU := Lib.hid hu
  obtain ⟨a, cap, rfl, hl⟩ := hv.shape
  obtain ⟨a2, cap2, rfl, _⟩ := hu.shape
  rw [ints_len] at hl HV HU ⊢
  clear hv hu
  go_enter Try.func12, Try.ntmps12
  go_wp2_with fail
  go_loopw [5] (fun t W => ∃ i : Nat, i ≤ l.length ∧ t = .int .i64 i ∧ Below w.heap.size w W) (fun t _ => l.length - (intOf t).toNat)
  case atStart => exact ⟨0, Nat.zero_le _, rfl, Below.refl _ _⟩
  case round =>
    obtain ⟨i, hi, rfl, hbw⟩ := hrel
    have hws := hbw.size
    by_cases hlt : i < l.length
    · obtain ⟨x, hx⟩ : ∃ x, l[i]? = some x := ⟨_, List.getElem?_eq_getElem hlt⟩
      obtain ⟨b, off, rfl, hb, hcell⟩ := (HV.out.below hbw).at (ints_get hx)
      obtain ⟨b2, off2, rfl, hb2, hcell2⟩ := (HU.out.below hbw).at (ints_get hx)
      have c0 : wr.cell? ⟨b, off + i, none⟩ = some (.int .i64 x) := by have := hcell 0 _ rfl; simpa using this
      have e0 : wr.cell? ⟨b2, off2 + i, none⟩ = some (.int .i64 x) := by have := hcell2 0 _ rfl; simpa using this
      have hwr : IntKind.i64.wrap ((i : Int) + 1) = i + 1 := IntWalk.i64_in _ (by omega)
      clear hx hcell hcell2
      go_wp2_with fail
      go_region
      go_wp2_with fail
      go_roundw
      case rel => exact ⟨i + 1, by omega, by go_num, by (repeat (first | with_reducible assumption | with_reducible exact Below.refl _ _ | with_reducible refine Below.setCell ?_ ?_ _ | with_reducible refine Below.alloc ?_ ?_ _ | with_reducible refine below_drewN' ?_ _ | with_reducible refine Below.drew ?_ | with_reducible refine Below.trans ?_ (Below.mono (by assumption) ?_) | omega | (dsimp only; omega) | (simp only [drew_heap', drewN_heap', World.size_alloc, World.size_setCell]; omega) | (solve | simp) | (solve | (simp; omega))))⟩
      case measure => simp [intOf]; omega
    · go_wp2_with fail
      go_ret
      exact ⟨rfl, hbw⟩

/-- A right row: each one stands behind the one ahead of it. -/
def RightP (l : List Al) : Prop := ∀ (j : Nat) (a b : Al), l[j]? = some a → l[j + 1]? = some b → behind b a = true

open Classical in
noncomputable def rightB (l : List Al) : Bool := decide (RightP l)
theorem rightB_true {l : List Al} (h : RightP l) : rightB l = true := by unfold rightB; simp [h]
theorem rightB_false {l : List Al} (h : ¬ RightP l) : rightB l = false := by unfold rightB; simp [h]

set_option maxHeartbeats 4000000 in
theorem refRight_any (v : Value) (l : List Al) (w : World) (hv : Sl w true 2 v (als l)) :
    Calls Try.prog 10 #[v] w fun e w' => e = .returned (.bool (rightB l)) ∧ Below w.heap.size w w' := by
  have HV := Lib.hid hv
  obtain ⟨a, cap, rfl, hl⟩ := hv.shape
  rw [als_len] at hl HV ⊢
  clear hv
  go_enter Try.func10, Try.ntmps10
  go_wp2_with fail
  go_loopw [3] (fun t W => ∃ i : Nat, 1 ≤ i ∧ i ≤ l.length + 1 ∧ t = .int .i64 i ∧ Below w.heap.size w W ∧ ∀ (j : Nat) (a b : Al), j + 1 < i → l[j]? = some a → l[j + 1]? = some b → behind b a = true) (fun t _ => l.length + 1 - (intOf t).toNat)
  case atStart => exact ⟨1, Nat.le_refl _, by omega, rfl, Below.refl _ _, by intro j a b h; omega⟩
  case round =>
    obtain ⟨i, hi1, hi, rfl, hbw, hprev⟩ := hrel
    obtain ⟨k, rfl⟩ : ∃ k, i = k + 1 := ⟨i - 1, by omega⟩
    have HP := Lib.hid hprev
    have hws := hbw.size
    clear hprev
    by_cases hlt : k + 1 < l.length
    · obtain ⟨x, hx⟩ : ∃ x, l[k]? = some x := ⟨_, List.getElem?_eq_getElem (by omega)⟩
      obtain ⟨y, hy⟩ : ∃ y, l[k + 1]? = some y := ⟨_, List.getElem?_eq_getElem hlt⟩
      obtain ⟨b, off, rfl, hb, c0, c1⟩ := Sl.al (HV.out.below hbw) hx
      obtain ⟨_, _, he, hb2, e0, e1⟩ := Sl.al (HV.out.below hbw) hy
      simp only [Option.some.injEq, Addr.mk.injEq, and_true] at he
      obtain ⟨rfl, rfl⟩ := he
      have hwr : IntKind.i64.wrap ((k : Int) + 1 + 1) = k + 1 + 1 := IntWalk.i64_in _ (by omega)
      have hws1 : IntKind.i64.wrap ((k : Int) + 1 - 1) = k := by rw [IntWalk.i64_in _ (by omega)]; omega
      have hlt' : (k : Int) + 1 < l.length := by omega
      have hnb : ¬ b = wr.heap.size := by omega
      have hnb1 : ¬ b = wr.heap.size + 1 := by omega
      have HX := Lib.hid hx
      have HY := Lib.hid hy
      clear hx hy
      obtain ⟨t, p⟩ := x
      obtain ⟨s, q⟩ := y
      dsimp only at c0 c1 e0 e1
      have hcase : (s < t) ∨ (¬ s < t ∧ s = t ∧ q ≤ p) ∨ (¬ s < t ∧ s = t ∧ ¬ q ≤ p) ∨ (¬ s < t ∧ ¬ s = t) := by omega
      rcases hcase with h1 | ⟨h1, h2, h3⟩ | ⟨h1, h2, h3⟩ | ⟨h1, h2⟩
      · go_wp2_with fail
        go_ret
        refine ⟨?_, by (repeat (first | with_reducible assumption | with_reducible exact Below.refl _ _ | with_reducible refine Below.setCell ?_ ?_ _ | with_reducible refine Below.alloc ?_ ?_ _ | with_reducible refine below_drewN' ?_ _ | with_reducible refine Below.drew ?_ | with_reducible refine Below.trans ?_ (Below.mono (by assumption) ?_) | omega | (dsimp only; omega) | (simp only [drew_heap', drewN_heap', World.size_alloc, World.size_setCell]; omega) | (solve | simp) | (solve | (simp; omega))))⟩
        have hnr : ¬ RightP l := fun h => by
          have := h k _ _ HX.out HY.out
          simp [behind] at this
          omega
        rw [rightB_false hnr]
        rfl
      · subst h2
        go_wp2_with fail
        go_ret
        refine ⟨?_, by (repeat (first | with_reducible assumption | with_reducible exact Below.refl _ _ | with_reducible refine Below.setCell ?_ ?_ _ | with_reducible refine Below.alloc ?_ ?_ _ | with_reducible refine below_drewN' ?_ _ | with_reducible refine Below.drew ?_ | with_reducible refine Below.trans ?_ (Below.mono (by assumption) ?_) | omega | (dsimp only; omega) | (simp only [drew_heap', drewN_heap', World.size_alloc, World.size_setCell]; omega) | (solve | simp) | (solve | (simp; omega))))⟩
        have hnr : ¬ RightP l := fun h => by
          have := h k _ _ HX.out HY.out
          simp [behind] at this
          omega
        rw [rightB_false hnr]
        rfl
      · subst h2
        go_wp2_with fail
        go_roundw
        case rel =>
          refine ⟨k + 1 + 1, by omega, by omega, by go_num, by (repeat (first | with_reducible assumption | with_reducible exact Below.refl _ _ | with_reducible refine Below.setCell ?_ ?_ _ | with_reducible refine Below.alloc ?_ ?_ _ | with_reducible refine below_drewN' ?_ _ | with_reducible refine Below.drew ?_ | with_reducible refine Below.trans ?_ (Below.mono (by assumption) ?_) | omega | (dsimp only; omega) | (simp only [drew_heap', drewN_heap', World.size_alloc, World.size_setCell]; omega) | (solve | simp) | (solve | (simp; omega)))), ?_⟩
          intro j a b hj ha hb
          by_cases hjk : j = k
          · subst hjk
            rw [HX.out] at ha; rw [HY.out] at hb
            cases ha; cases hb
            simp [behind]; omega
          · exact HP.out j a b (by omega) ha hb
        case measure => simp [intOf]; omega
      · have h2' : (s == t) = false := by simpa using h2
        go_wp2_with fail
        go_roundw
        case rel =>
          refine ⟨k + 1 + 1, by omega, by omega, by go_num, by (repeat (first | with_reducible assumption | with_reducible exact Below.refl _ _ | with_reducible refine Below.setCell ?_ ?_ _ | with_reducible refine Below.alloc ?_ ?_ _ | with_reducible refine below_drewN' ?_ _ | with_reducible refine Below.drew ?_ | with_reducible refine Below.trans ?_ (Below.mono (by assumption) ?_) | omega | (dsimp only; omega) | (simp only [drew_heap', drewN_heap', World.size_alloc, World.size_setCell]; omega) | (solve | simp) | (solve | (simp; omega)))), ?_⟩
          intro j a b hj ha hb
          by_cases hjk : j = k
          · subst hjk
            rw [HX.out] at ha; rw [HY.out] at hb
            cases ha; cases hb
            simp [behind]; omega
          · exact HP.out j a b (by omega) ha hb
        case measure => simp [intOf]; omega
    · have hlt' : ¬ (k : Int) + 1 < l.length := by omega
      go_wp2_with fail
      go_ret
      refine ⟨?_, hbw⟩
      have hnr : RightP l := fun j a b ha hb => HP.out j a b (by have := (List.getElem?_eq_some_iff.1 hb).1; omega) ha hb
      rw [rightB_true hnr]
      rfl

theorem xor_ones (n : Nat) (h : n < 18446744073709551616) : 18446744073709551615 ^^^ n = 18446744073709551615 - n := by
  have h1 := BitVec.toNat_xor (BitVec.allOnes 64) (BitVec.ofNat 64 n)
  rw [BitVec.allOnes_xor, BitVec.toNat_not, BitVec.toNat_allOnes, BitVec.toNat_ofNat, Nat.mod_eq_of_lt (show n < 2 ^ 64 by omega)] at h1
  rw [show (2 : Nat) ^ 64 - 1 = 18446744073709551615 by decide] at h1
  exact h1.symm
theorem until_any (now n : Int) (w : World) (h1 : 0 ≤ now ∧ now ≤ 18446744073709551615) (h2 : 0 ≤ n ∧ n ≤ 4294967295) :
    Calls Try.prog 14 #[.int .u64 now, .int .u32 n] w fun e w' => e = .returned (.int .u64 (now + min n (18446744073709551615 - now))) ∧ Below w.heap.size w w' := by
  obtain ⟨N, rfl⟩ : ∃ N : Nat, now = N := ⟨now.toNat, by omega⟩
  have hx : bits .xor .u64 IntKind.u64.max (N : Int) = 18446744073709551615 - N := by
    have := bits_xor_u64_nat 18446744073709551615 N (by omega) (by omega)
    rw [xor_ones N (by omega)] at this
    have he : ((18446744073709551615 - N : Nat) : Int) = 18446744073709551615 - N := by omega
    rw [he] at this
    exact this
  have hw1 : IntKind.u64.wrap ((N : Int) + n) = if n ≤ 18446744073709551615 - N then (N : Int) + n else N + n - 18446744073709551616 := by
    rw [IntKind.wrap_u64]; split <;> omega
  have hw2 : IntKind.u64.wrap ((N : Int) + (18446744073709551615 - N)) = 18446744073709551615 := by
    rw [IntKind.wrap_u64]; omega
  have hsg : IntKind.u64.signed = false := rfl
  have hmx : IntKind.u64.max = 18446744073709551615 := rfl
  have hx' : bits .xor .u64 18446744073709551615 (N : Int) = 18446744073709551615 - N := hx
  by_cases hle : n ≤ 18446744073709551615 - (N : Int)
  · rw [if_pos hle] at hw1
    have hmin : min n (18446744073709551615 - (N : Int)) = n := by omega
    rw [hmin]
    go_enter Try.func14, Try.ntmps14
    go_wp2_with fail
    all_goals go_ret
    all_goals exact ⟨by first | (simp [hw1]; done) | (simp [hw2]; omega) | (simp [hw1, hw2]; omega), by (repeat (first | with_reducible assumption | with_reducible exact Below.refl _ _ | with_reducible refine Below.setCell ?_ ?_ _ | with_reducible refine Below.alloc ?_ ?_ _ | with_reducible refine below_drewN' ?_ _ | with_reducible refine Below.drew ?_ | with_reducible refine Below.trans ?_ (Below.mono (by assumption) ?_) | omega | (dsimp only; omega) | (simp only [drew_heap', drewN_heap', World.size_alloc, World.size_setCell]; omega) | (solve | simp) | (solve | (simp; omega))))⟩
  · rw [if_neg hle] at hw1
    have hmin : min n (18446744073709551615 - (N : Int)) = 18446744073709551615 - N := by omega
    rw [hmin]
    go_enter Try.func14, Try.ntmps14
    go_wp2_with fail
    all_goals go_ret
    all_goals exact ⟨by first | (simp [hw2]; done) | (simp [hw2]; omega) | (simp [hw1, hw2]; omega), by (repeat (first | with_reducible assumption | with_reducible exact Below.refl _ _ | with_reducible refine Below.setCell ?_ ?_ _ | with_reducible refine Below.alloc ?_ ?_ _ | with_reducible refine below_drewN' ?_ _ | with_reducible refine Below.drew ?_ | with_reducible refine Below.trans ?_ (Below.mono (by assumption) ?_) | omega | (dsimp only; omega) | (simp only [drew_heap', drewN_heap', World.size_alloc, World.size_setCell]; omega) | (solve | simp) | (solve | (simp; omega))))⟩
end Go.Proofs.Ytndmgbdgcemcmaa
