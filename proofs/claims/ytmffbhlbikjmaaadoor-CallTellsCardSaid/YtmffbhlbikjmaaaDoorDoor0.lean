/- The functions of package call and of its reference: what each returns; the table 'kinds' is a hypothesis. Conditions: arguments within their kinds. -/
import Derived.Test.YtmffbhlbikjmaaaDoorRows
import Derived.Test.YtmffbhlbikjmaaaDoorLib0
import Derived.Test.YtmffbhlbikjmaaaDoorLib1
import Derived.Test.YtmffbhlbikjmaaaDoorLib2
import Derived.Test.YtmffbhlbikjmaaaDoorQTail
import Derived.StillTail
import Derived.RegionTactic
import Derived.BigRegion
import Derived.WalkKit
namespace Go.Proofs.YtmffbhlbikjmaaaDoor
open Go Go.RowKit Go.Tm
set_option linter.unusedVariables false
set_option linter.unusedSimpArgs false

def kindT : List Int := [0, 1, 1, 1, 2, 1, 1, 1, 2, 1, 1, 1, 2, 2, 1, 1, 1, 1, 1, 1, 1]
/-- The package's table stands at block 0. -/
def Tabbed (w : World) : Prop := 0 < w.heap.size ∧ ∀ i, i < 21 → w.cell? ⟨0, i, none⟩ = some (.int .i64 (kindT.getD i 0))
theorem Tabbed.below {w w' : World} (h : Tabbed w) (hb : Below w.heap.size w w') : Tabbed w' :=
  ⟨Nat.lt_of_lt_of_le h.1 hb.size, fun i hi => (hb.cell (p := ⟨0, i, none⟩) h.1).trans (h.2 i hi)⟩

def kindV (n : Int) : Int := if n ≤ 20 then kindT.getD n.toNat 0 else 0
theorem kindV_at : ∀ n : Nat, n < 21 → (kindT.getD n 0 = 0 ↔ n = 0) ∧ (kindT.getD n 0 = 2 ↔ n = 4 ∨ n = 8 ∨ n = 12 ∨ n = 13) := by decide
theorem kindV_zero {n : Int} (h : 0 ≤ n) : kindV n = 0 ↔ ¬ (1 ≤ n ∧ n ≤ 20) := by
  unfold kindV
  split
  · have := (kindV_at n.toNat (by omega)).1
    omega
  · omega
theorem kindV_two {n : Int} (h : 0 ≤ n) : kindV n = 2 ↔ n = 4 ∨ n = 8 ∨ n = 12 ∨ n = 13 := by
  unfold kindV
  split
  · have := (kindV_at n.toNat (by omega)).2
    omega
  · omega

set_option maxHeartbeats 1000000 in
theorem kind_any (a b c d : Int) (w : World) (hT : Tabbed w) (h0 : 0 ≤ a) : Calls Tryd.prog 18 #[.agg #[.int .u32 a, .int .u32 b, .int .u32 c, .int .u32 d]] w fun e w' => e = .returned (.int .i64 (kindV a)) ∧ Below w.heap.size w w' := by
  have hpos := hT.1
  have hne : ¬ 0 = w.heap.size := by omega
  by_cases h : a ≤ 20
  · obtain ⟨n, rfl⟩ : ∃ n : Nat, a = n := ⟨a.toNat, by omega⟩
    have hc := hT.2 n (by omega)
    have hk : kindV (n : Int) = kindT.getD n 0 := by unfold kindV; rw [if_pos h]; rfl
    rw [hk]
    clear hk hT
    have hn : n < 21 := by omega
    generalize kindT.getD n 0 = k at *
    have hcA : ∀ o, (w.alloc o).cell? ⟨0, n, none⟩ = some (.int .i64 k) := fun o => (((Below.refl _ _).alloc (Nat.le_refl _) o).cell (p := ⟨0, n, none⟩) hpos).trans hc
    go_enter Tryd.func18, Tryd.ntmps18
    go_wp2_with fail
    go_ret
    exact ⟨rfl, by (repeat (first | with_reducible assumption | with_reducible exact Below.refl _ _ | with_reducible refine Below.setCell ?_ ?_ _ | with_reducible refine Below.alloc ?_ ?_ _ | with_reducible refine below_drewN' ?_ _ | with_reducible refine Below.drew ?_ | with_reducible refine Below.trans ?_ (Below.mono (by assumption) ?_) | omega | (dsimp only; omega) | (simp only [drew_heap', drewN_heap', World.size_alloc, World.size_setCell]; omega) | (solve | simp) | (solve | (simp; omega))))⟩
  · rw [show kindV a = 0 by unfold kindV; rw [if_neg h]]
    clear hT
    go_enter Tryd.func18, Tryd.ntmps18
    go_wp2_with fail
    go_ret
    exact ⟨rfl, by (repeat (first | with_reducible assumption | with_reducible exact Below.refl _ _ | with_reducible refine Below.setCell ?_ ?_ _ | with_reducible refine Below.alloc ?_ ?_ _ | with_reducible refine below_drewN' ?_ _ | with_reducible refine Below.drew ?_ | with_reducible refine Below.trans ?_ (Below.mono (by assumption) ?_) | omega | (dsimp only; omega) | (simp only [drew_heap', drewN_heap', World.size_alloc, World.size_setCell]; omega) | (solve | simp) | (solve | (simp; omega))))⟩

def blocksB (n : Int) : Bool := decide (n = 4 ∨ n = 8 ∨ n = 12 ∨ n = 13)
def knownB (n : Int) : Bool := decide (1 ≤ n ∧ n ≤ 20)
theorem blocks_known {n : Int} (h : blocksB n = true) : knownB n = true := by
  unfold blocksB at h
  unfold knownB
  simp only [decide_eq_true_eq] at h ⊢
  omega

set_option maxHeartbeats 1000000 in
theorem blocks_any (a b c d : Int) (w : World) (hT : Tabbed w) (h0 : 0 ≤ a) : Calls Tryd.prog 6 #[.agg #[.int .u32 a, .int .u32 b, .int .u32 c, .int .u32 d]] w fun e w' => e = .returned (.bool (blocksB a)) ∧ Below w.heap.size w w' := by
  have HK := Lib.hid (fun W (h : Tabbed W) => kind_any a b c d W h h0)
  have hb : (kindV a == 2) = blocksB a := by
    unfold blocksB
    rw [Bool.eq_iff_iff]
    simpa using kindV_two h0
  have HT := Lib.hid hT
  generalize kindV a = k at *
  generalize blocksB a = r at *
  clear hT
  go_enter Tryd.func6, Tryd.ntmps6
  go_wp2_with fail
  with_reducible refine (HK.out _ (HT.out.below (by (repeat (first | with_reducible assumption | with_reducible exact Below.refl _ _ | with_reducible refine Below.setCell ?_ ?_ _ | with_reducible refine Below.alloc ?_ ?_ _ | with_reducible refine below_drewN' ?_ _ | with_reducible refine Below.drew ?_ | with_reducible refine Below.trans ?_ (Below.mono (by assumption) ?_) | omega | (dsimp only; omega) | (simp only [drew_heap', drewN_heap', World.size_alloc, World.size_setCell]; omega) | (solve | simp) | (solve | (simp; omega))))))).mono ?_
  rintro e w1 ⟨rfl, hb1⟩
  have hbw : Below w.heap.size w w1 := by (repeat (first | with_reducible assumption | with_reducible exact Below.refl _ _ | with_reducible refine Below.setCell ?_ ?_ _ | with_reducible refine Below.alloc ?_ ?_ _ | with_reducible refine below_drewN' ?_ _ | with_reducible refine Below.drew ?_ | with_reducible refine Below.trans ?_ (Below.mono (by assumption) ?_) | omega | (dsimp only; omega) | (simp only [drew_heap', drewN_heap', World.size_alloc, World.size_setCell]; omega) | (solve | simp) | (solve | (simp; omega))))
  go_wp2_with fail
  go_ret
  exact ⟨rfl, hbw⟩

theorem call_plain (a b c d : Int) (ha : (Lit.int .u32 a).wf = true) (hb : (Lit.int .u32 b).wf = true) (hc : (Lit.int .u32 c).wf = true) (hd : (Lit.int .u32 d).wf = true) :
    Plain Tryd.prog 24 #[.int .u32 a, .int .u32 b, .int .u32 c, .int .u32 d] [.int .u32 a, .int .u32 b, .int .u32 c, .int .u32 d] := by
  refine ⟨by kernel_rfl, 5, ?_⟩
  have h1 : Tryd.prog.cellsOf 24 = 4 := by kernel_rfl
  have h3 : Tryd.prog.cellsOf 22 = 1 := by kernel_rfl
  simp [Program.keyLits, Tryd.underlying24, Tryd.underlying22, h1, h3, ha, hb, hc, hd]
theorem eql_call (a b c d a' b' c' d' : Int) (ha : (Lit.int .u32 a).wf = true) (hb : (Lit.int .u32 b).wf = true) (hc : (Lit.int .u32 c).wf = true) (hd : (Lit.int .u32 d).wf = true)
    (ha' : (Lit.int .u32 a').wf = true) (hb' : (Lit.int .u32 b').wf = true) (hc' : (Lit.int .u32 c').wf = true) (hd' : (Lit.int .u32 d').wf = true) (r : Bool) (hr : r = true ↔ a = a' ∧ b = b' ∧ c = c' ∧ d = d') :
    ∀ w, (Op.equalIn 10000 24 (.agg #[.int .u32 a, .int .u32 b, .int .u32 c, .int .u32 d]) (.agg #[.int .u32 a', .int .u32 b', .int .u32 c', .int .u32 d'])).run Tryd.prog w = .ok r w := by
  refine run_eql_plain (m := 5) (by omega) (by kernel_rfl) (by kernel_rfl) (call_plain a b c d ha hb hc hd) (call_plain a' b' c' d' ha' hb' hc' hd') r ?_
  rw [hr]
  simp

theorem u32_range {n : Int} (h : (Lit.int .u32 n).wf = true) : 0 ≤ n ∧ n ≤ 4294967295 := by
  simpa [Lit.wf, IntKind.min, IntKind.max, IntKind.bits, IntKind.signed] using h

set_option maxHeartbeats 1000000 in
theorem known_any (a b c d : Int) (w : World) (hT : Tabbed w) (ha : (Lit.int .u32 a).wf = true) (hb : (Lit.int .u32 b).wf = true) (hc : (Lit.int .u32 c).wf = true) (hd : (Lit.int .u32 d).wf = true) :
    Calls Tryd.prog 7 #[.agg #[.int .u32 a, .int .u32 b, .int .u32 c, .int .u32 d]] w fun e w' => e = .returned (.bool (knownB a)) ∧ Below w.heap.size w w' := by
  have h0 := (u32_range ha).1
  have HK := Lib.hid (fun W (h : Tabbed W) => kind_any a b c d W h h0)
  have HT := Lib.hid hT
  by_cases hz : a = 0 ∧ b = 0 ∧ c = 0 ∧ d = 0
  · have heq := eql_call a b c d 0 0 0 0 ha hb hc hd rfl rfl rfl rfl true (by simpa using hz)
    rw [show knownB a = false by unfold knownB; simp; omega]
    clear hT hz
    go_enter Tryd.func7, Tryd.ntmps7
    go_wp2_with fail
    go_ret
    exact ⟨rfl, by (repeat (first | with_reducible assumption | with_reducible exact Below.refl _ _ | with_reducible refine Below.setCell ?_ ?_ _ | with_reducible refine Below.alloc ?_ ?_ _ | with_reducible refine below_drewN' ?_ _ | with_reducible refine Below.drew ?_ | with_reducible refine Below.trans ?_ (Below.mono (by assumption) ?_) | omega | (dsimp only; omega) | (simp only [drew_heap', drewN_heap', World.size_alloc, World.size_setCell]; omega) | (solve | simp) | (solve | (simp; omega))))⟩
  · have heq := eql_call a b c d 0 0 0 0 ha hb hc hd rfl rfl rfl rfl false (by simpa using hz)
    have hk : (kindV a == 0) = !knownB a := by
      unfold knownB
      rw [Bool.eq_iff_iff]
      simp only [beq_iff_eq, Bool.not_eq_true', decide_eq_false_iff_not]
      exact kindV_zero h0
    generalize kindV a = k at *
    clear hT hz
    cases hr : knownB a
    · rw [hr] at hk
      replace hk : (k == 0) = true := hk
      go_enter Tryd.func7, Tryd.ntmps7
      go_wp2_with fail
      with_reducible refine (HK.out _ (HT.out.below (by (repeat (first | with_reducible assumption | with_reducible exact Below.refl _ _ | with_reducible refine Below.setCell ?_ ?_ _ | with_reducible refine Below.alloc ?_ ?_ _ | with_reducible refine below_drewN' ?_ _ | with_reducible refine Below.drew ?_ | with_reducible refine Below.trans ?_ (Below.mono (by assumption) ?_) | omega | (dsimp only; omega) | (simp only [drew_heap', drewN_heap', World.size_alloc, World.size_setCell]; omega) | (solve | simp) | (solve | (simp; omega))))))).mono ?_
      rintro e w1 ⟨rfl, hb1⟩
      have hbw : Below w.heap.size w w1 := by (repeat (first | with_reducible assumption | with_reducible exact Below.refl _ _ | with_reducible refine Below.setCell ?_ ?_ _ | with_reducible refine Below.alloc ?_ ?_ _ | with_reducible refine below_drewN' ?_ _ | with_reducible refine Below.drew ?_ | with_reducible refine Below.trans ?_ (Below.mono (by assumption) ?_) | omega | (dsimp only; omega) | (simp only [drew_heap', drewN_heap', World.size_alloc, World.size_setCell]; omega) | (solve | simp) | (solve | (simp; omega))))
      go_wp2_with fail
      go_ret
      exact ⟨rfl, hbw⟩
    · rw [hr] at hk
      replace hk : (k == 0) = false := hk
      go_enter Tryd.func7, Tryd.ntmps7
      go_wp2_with fail
      with_reducible refine (HK.out _ (HT.out.below (by (repeat (first | with_reducible assumption | with_reducible exact Below.refl _ _ | with_reducible refine Below.setCell ?_ ?_ _ | with_reducible refine Below.alloc ?_ ?_ _ | with_reducible refine below_drewN' ?_ _ | with_reducible refine Below.drew ?_ | with_reducible refine Below.trans ?_ (Below.mono (by assumption) ?_) | omega | (dsimp only; omega) | (simp only [drew_heap', drewN_heap', World.size_alloc, World.size_setCell]; omega) | (solve | simp) | (solve | (simp; omega))))))).mono ?_
      rintro e w1 ⟨rfl, hb1⟩
      have hbw : Below w.heap.size w w1 := by (repeat (first | with_reducible assumption | with_reducible exact Below.refl _ _ | with_reducible refine Below.setCell ?_ ?_ _ | with_reducible refine Below.alloc ?_ ?_ _ | with_reducible refine below_drewN' ?_ _ | with_reducible refine Below.drew ?_ | with_reducible refine Below.trans ?_ (Below.mono (by assumption) ?_) | omega | (dsimp only; omega) | (simp only [drew_heap', drewN_heap', World.size_alloc, World.size_setCell]; omega) | (solve | simp) | (solve | (simp; omega))))
      go_wp2_with fail
      go_ret
      exact ⟨rfl, hbw⟩

def valV (e v : Int) : Int := if e = 0 then v else -(e % 4294967296) % 4294967296
theorem value_eq (e v : Int) (w : World) : Calls Tryd.prog 14 #[.int .i64 e, .int .u32 v] w fun en w' => en = .returned (.int .u32 (valV e v)) ∧ w = w' := by
  by_cases h : e = 0
  · subst h
    go_enter Tryd.func14, Tryd.ntmps14
    go_wp2_with fail
    go_ret
    exact ⟨by simp [valV], rfl⟩
  · have h' : (e == 0) = false := by simpa using h
    go_enter Tryd.func14, Tryd.ntmps14
    go_wp2_with fail
    go_ret
    exact ⟨by simp [valV, h], rfl⟩
theorem refValue_eq (e v : Int) (w : World) : Calls Tryd.prog 15 #[.int .i64 e, .int .u32 v] w fun en w' => en = .returned (.int .u32 (valV e v)) ∧ w = w' := by
  by_cases h : e = 0
  · subst h
    go_enter Tryd.func15, Tryd.ntmps15
    go_wp2_with fail
    go_ret
    exact ⟨by simp [valV], rfl⟩
  · have h' : (e == 0) = false := by simpa using h
    go_enter Tryd.func15, Tryd.ntmps15
    go_wp2_with fail
    go_ret
    exact ⟨by simp [valV, h], rfl⟩

theorem value_any (e v : Int) (w : World) : Calls Tryd.prog 14 #[.int .i64 e, .int .u32 v] w fun en w' => en = .returned (.int .u32 (valV e v)) ∧ Below w.heap.size w w' :=
  (value_eq e v w).mono fun e w' h => ⟨h.1, h.2 ▸ Below.refl _ _⟩
theorem refValue_any (e v : Int) (w : World) : Calls Tryd.prog 15 #[.int .i64 e, .int .u32 v] w fun en w' => en = .returned (.int .u32 (valV e v)) ∧ Below w.heap.size w w' :=
  (refValue_eq e v w).mono fun e w' h => ⟨h.1, h.2 ▸ Below.refl _ _⟩

/-- What Failed answers. -/
def failV (r : Int) : Int := if 4294967282 ≤ r then 4294967296 - r else 0
theorem failed_any (r : Int) (w : World) (h0 : 0 ≤ r) (h1 : r < 4294967296) : Calls Tryd.prog 8 #[.int .u32 r] w fun e w' => e = .returned (.tuple #[.int .i64 (failV r), .bool (decide (4294967282 ≤ r))]) ∧ Below w.heap.size w w' := by
  by_cases h : 4294967282 ≤ r
  · have e1 : -r % 4294967296 = 4294967296 - r := by omega
    go_enter Tryd.func8, Tryd.ntmps8
    go_wp2
    go_ret2
    exact ⟨by simp [h, failV], by (repeat (first | with_reducible assumption | with_reducible exact Below.refl _ _ | with_reducible refine Below.setCell ?_ ?_ _ | with_reducible refine Below.alloc ?_ ?_ _ | with_reducible refine below_drewN' ?_ _ | with_reducible refine Below.drew ?_ | with_reducible refine Below.trans ?_ (Below.mono (by assumption) ?_) | omega | (dsimp only; omega) | (simp only [drew_heap', drewN_heap', World.size_alloc, World.size_setCell]; omega) | (solve | simp) | (solve | (simp; omega))))⟩
  · have HF := Lib.hid (show failV r = 0 by unfold failV; rw [if_neg h])
    have HD := Lib.hid (show decide (4294967282 ≤ r) = false from decide_eq_false h)
    go_enter Tryd.func8, Tryd.ntmps8
    go_wp2
    all_goals
      go_ret2
      exact ⟨by rw [HF.out, HD.out]; simp, by (repeat (first | with_reducible assumption | with_reducible exact Below.refl _ _ | with_reducible refine Below.setCell ?_ ?_ _ | with_reducible refine Below.alloc ?_ ?_ _ | with_reducible refine below_drewN' ?_ _ | with_reducible refine Below.drew ?_ | with_reducible refine Below.trans ?_ (Below.mono (by assumption) ?_) | omega | (dsimp only; omega) | (simp only [drew_heap', drewN_heap', World.size_alloc, World.size_setCell]; omega) | (solve | simp) | (solve | (simp; omega))))⟩

set_option maxRecDepth 100000 in
set_option maxHeartbeats 4000000 in
theorem refFailed_any (r : Int) (w : World) (h0 : 0 ≤ r) (h1 : r < 4294967296) : Calls Tryd.prog 9 #[.int .u32 r] w fun e w' => e = .returned (.tuple #[.int .i64 (failV r), .bool (decide (4294967282 ≤ r))]) ∧ Below w.heap.size w w' := by
  go_enter Tryd.func9, Tryd.ntmps9
  go_wp2_with fail
  go_loopw [4] (fun t W => ∃ i : Int, 1 ≤ i ∧ i ≤ 15 ∧ t = .int .u32 i ∧ r < 4294967297 - i ∧ Below w.heap.size w W) (fun t _ => 15 - (intOf t).toNat)
  case atStart => exact ⟨1, by omega, by omega, rfl, by omega, Below.refl _ _⟩
  case round =>
    obtain ⟨i, hi1, hi, rfl, hr, hbw⟩ := hrel
    have hwr : (i + 1) % 4294967296 = i + 1 := by omega
    obtain ⟨q, hwn⟩ : ∃ q, -i % 4294967296 = q := ⟨_, rfl⟩
    have HQ := Lib.hid (show q = 4294967296 - i by omega)
    have HR := Lib.hid hr
    clear hr
    by_cases hlt : i ≤ 14
    · cases hq : (q == r)
      · go_wp2_with fail
        go_roundw
        case rel =>
          have h1 := HQ.out
          have h2 := HR.out
          have h3 : q ≠ r := by simpa using hq
          exact ⟨i + 1, by omega, by omega, by go_num, by omega, hbw⟩
        case measure => simp [intOf]; omega
      · go_wp2_with fail
        go_ret2
        have h1 := HQ.out
        have h3 : q = r := by simpa using hq
        exact ⟨by simp [show 4294967282 ≤ r by omega, failV]; omega, hbw⟩
    · go_wp2_with fail
      go_ret2
      have h2 := HR.out
      exact ⟨by simp [show ¬ 4294967282 ≤ r by omega, failV], hbw⟩

theorem shown_any (w : World) : Calls Tryd.prog 5 #[] w fun e w' => e = .returned (.bool true) ∧ Below w.heap.size w w' := by
  have HV := Lib.hid (fun W => value_any 1 7 W)
  rw [show valV 1 7 = 4294967295 from by decide] at HV
  have HF := Lib.hid (fun W => failed_any 4294967295 W (by omega) (by omega))
  rw [show failV 4294967295 = 1 from by decide, show decide ((4294967282 : Int) ≤ 4294967295) = true from by decide] at HF
  go_enter Tryd.func5, Tryd.ntmps5
  ((go_wp2_with fail); (with_reducible refine (HV.out _).mono ?_); (rintro e w1 ⟨rfl, hb1⟩); (have hz1 := hb1.size); (try simp only [World.size_alloc, World.size_setCell] at hz1))
  ((go_wp2_with fail); (with_reducible refine (HF.out _).mono ?_); (rintro e w2 ⟨rfl, hb2⟩); (have hz2 := hb2.size); (try simp only [World.size_alloc, World.size_setCell] at hz2))
  go_wp2_with fail
  go_ret
  exact ⟨rfl, by (repeat (first | with_reducible assumption | with_reducible exact Below.refl _ _ | with_reducible refine Below.setCell ?_ ?_ _ | with_reducible refine Below.alloc ?_ ?_ _ | with_reducible refine below_drewN' ?_ _ | with_reducible refine Below.drew ?_ | with_reducible refine Below.trans ?_ (Below.mono (by assumption) ?_) | omega | (dsimp only; omega) | (simp only [drew_heap', drewN_heap', World.size_alloc, World.size_setCell]; omega) | (solve | simp) | (solve | (simp; omega))))⟩

theorem refKnown_any (a b c d : Int) (w : World) : Calls Tryd.prog 12 #[.agg #[.int .u32 a, .int .u32 b, .int .u32 c, .int .u32 d]] w fun e w' => e = .returned (.bool (knownB a)) ∧ Below w.heap.size w w' := by
  unfold knownB
  by_cases h1 : 1 ≤ a
  · go_enter Tryd.func12, Tryd.ntmps12
    go_wp2_with fail
    go_ret
    exact ⟨by simp [h1], by (repeat (first | with_reducible assumption | with_reducible exact Below.refl _ _ | with_reducible refine Below.setCell ?_ ?_ _ | with_reducible refine Below.alloc ?_ ?_ _ | with_reducible refine below_drewN' ?_ _ | with_reducible refine Below.drew ?_ | with_reducible refine Below.trans ?_ (Below.mono (by assumption) ?_) | omega | (dsimp only; omega) | (simp only [drew_heap', drewN_heap', World.size_alloc, World.size_setCell]; omega) | (solve | simp) | (solve | (simp; omega))))⟩
  · rw [show decide (1 ≤ a ∧ a ≤ 20) = false by simp; omega]
    go_enter Tryd.func12, Tryd.ntmps12
    go_wp2_with fail
    go_ret
    exact ⟨rfl, by (repeat (first | with_reducible assumption | with_reducible exact Below.refl _ _ | with_reducible refine Below.setCell ?_ ?_ _ | with_reducible refine Below.alloc ?_ ?_ _ | with_reducible refine below_drewN' ?_ _ | with_reducible refine Below.drew ?_ | with_reducible refine Below.trans ?_ (Below.mono (by assumption) ?_) | omega | (dsimp only; omega) | (simp only [drew_heap', drewN_heap', World.size_alloc, World.size_setCell]; omega) | (solve | simp) | (solve | (simp; omega))))⟩
set_option maxHeartbeats 1000000 in
theorem refBlocks_any (a b c d : Int) (w : World) : Calls Tryd.prog 13 #[.agg #[.int .u32 a, .int .u32 b, .int .u32 c, .int .u32 d]] w fun e w' => e = .returned (.bool (blocksB a)) ∧ Below w.heap.size w w' := by
  unfold blocksB
  by_cases h4 : a = 4
  · subst h4
    go_enter Tryd.func13, Tryd.ntmps13
    go_wp2_with fail
    go_ret
    exact ⟨by simp, by (repeat (first | with_reducible assumption | with_reducible exact Below.refl _ _ | with_reducible refine Below.setCell ?_ ?_ _ | with_reducible refine Below.alloc ?_ ?_ _ | with_reducible refine below_drewN' ?_ _ | with_reducible refine Below.drew ?_ | with_reducible refine Below.trans ?_ (Below.mono (by assumption) ?_) | omega | (dsimp only; omega) | (simp only [drew_heap', drewN_heap', World.size_alloc, World.size_setCell]; omega) | (solve | simp) | (solve | (simp; omega))))⟩
  by_cases h8 : a = 8
  · subst h8
    go_enter Tryd.func13, Tryd.ntmps13
    go_wp2_with fail
    go_ret
    exact ⟨by simp, by (repeat (first | with_reducible assumption | with_reducible exact Below.refl _ _ | with_reducible refine Below.setCell ?_ ?_ _ | with_reducible refine Below.alloc ?_ ?_ _ | with_reducible refine below_drewN' ?_ _ | with_reducible refine Below.drew ?_ | with_reducible refine Below.trans ?_ (Below.mono (by assumption) ?_) | omega | (dsimp only; omega) | (simp only [drew_heap', drewN_heap', World.size_alloc, World.size_setCell]; omega) | (solve | simp) | (solve | (simp; omega))))⟩
  by_cases h12 : a = 12
  · subst h12
    go_enter Tryd.func13, Tryd.ntmps13
    go_wp2_with fail
    go_ret
    exact ⟨by simp, by (repeat (first | with_reducible assumption | with_reducible exact Below.refl _ _ | with_reducible refine Below.setCell ?_ ?_ _ | with_reducible refine Below.alloc ?_ ?_ _ | with_reducible refine below_drewN' ?_ _ | with_reducible refine Below.drew ?_ | with_reducible refine Below.trans ?_ (Below.mono (by assumption) ?_) | omega | (dsimp only; omega) | (simp only [drew_heap', drewN_heap', World.size_alloc, World.size_setCell]; omega) | (solve | simp) | (solve | (simp; omega))))⟩
  have e4 : (a == 4) = false := by simpa using h4
  have e8 : (a == 8) = false := by simpa using h8
  have e12 : (a == 12) = false := by simpa using h12
  rw [show decide (a = 4 ∨ a = 8 ∨ a = 12 ∨ a = 13) = (a == 13) by rw [Bool.eq_iff_iff]; simp [h4, h8, h12]]
  go_enter Tryd.func13, Tryd.ntmps13
  go_wp2_with fail
  go_ret
  exact ⟨rfl, by (repeat (first | with_reducible assumption | with_reducible exact Below.refl _ _ | with_reducible refine Below.setCell ?_ ?_ _ | with_reducible refine Below.alloc ?_ ?_ _ | with_reducible refine below_drewN' ?_ _ | with_reducible refine Below.drew ?_ | with_reducible refine Below.trans ?_ (Below.mono (by assumption) ?_) | omega | (dsimp only; omega) | (simp only [drew_heap', drewN_heap', World.size_alloc, World.size_setCell]; omega) | (solve | simp) | (solve | (simp; omega))))⟩

abbrev cpuV (a b c d e f g h pc : Int) : Value := .agg #[.int .u32 a, .int .u32 b, .int .u32 c, .int .u32 d, .int .u32 e, .int .u32 f, .int .u32 g, .int .u32 h, .int .u32 pc]
set_option maxHeartbeats 1000000 in
theorem from_any (a b c d e f g h pc : Int) (w : World) : Calls Tryd.prog 10 #[cpuV a b c d e f g h pc] w fun en w' => en = .returned (.agg #[.int .u32 a, .int .u32 b, .int .u32 c, .int .u32 d]) ∧ Below w.heap.size w w' := by
  go_enter Tryd.func10, Tryd.ntmps10
  go_wp2_with fail
  exact bodyPost_ret (v := .agg #[.int .u32 a, .int .u32 b, .int .u32 c, .int .u32 d]) (by simp [results, Tryd.results10, go_sem]) rfl ⟨rfl, by (repeat (first | with_reducible assumption | with_reducible exact Below.refl _ _ | with_reducible refine Below.setCell ?_ ?_ _ | with_reducible refine Below.alloc ?_ ?_ _ | with_reducible refine below_drewN' ?_ _ | with_reducible refine Below.drew ?_ | with_reducible refine Below.trans ?_ (Below.mono (by assumption) ?_) | omega | (dsimp only; omega) | (simp only [drew_heap', drewN_heap', World.size_alloc, World.size_setCell]; omega) | (solve | simp) | (solve | (simp; omega))))⟩
set_option maxHeartbeats 2000000 in
theorem refFrom_any (a b c d e f g h pc : Int) (w : World) : Calls Tryd.prog 11 #[cpuV a b c d e f g h pc] w fun en w' => en = .returned (.agg #[.int .u32 a, .int .u32 b, .int .u32 c, .int .u32 d]) ∧ Below w.heap.size w w' := by
  go_enter Tryd.func11, Tryd.ntmps11
  go_wp2_with fail
  exact bodyPost_ret (v := .agg #[.int .u32 a, .int .u32 b, .int .u32 c, .int .u32 d]) (by simp [results, Tryd.results11, go_sem]) rfl ⟨rfl, by (repeat (first | with_reducible assumption | with_reducible exact Below.refl _ _ | with_reducible refine Below.setCell ?_ ?_ _ | with_reducible refine Below.alloc ?_ ?_ _ | with_reducible refine below_drewN' ?_ _ | with_reducible refine Below.drew ?_ | with_reducible refine Below.trans ?_ (Below.mono (by assumption) ?_) | omega | (dsimp only; omega) | (simp only [drew_heap', drewN_heap', World.size_alloc, World.size_setCell]; omega) | (solve | simp) | (solve | (simp; omega))))⟩
set_option maxHeartbeats 2000000 in
theorem back_any (a b c d e f g h pc k v : Int) (w : World) : Calls Tryd.prog 16 #[cpuV a b c d e f g h pc, .int .i64 k, .int .u32 v] w fun en w' => en = .returned (cpuV (valV k v) b c d e f g h pc) ∧ Below w.heap.size w w' := by
  have HV := Lib.hid (fun W => value_eq k v W)
  generalize valV k v = r at *
  go_enter Tryd.func16, Tryd.ntmps16
  go_wp2_with fail
  with_reducible refine (HV.out _).mono ?_
  rintro en w1 ⟨rfl, rfl⟩
  go_wp2_with fail
  exact bodyPost_ret (v := cpuV r b c d e f g h pc) (by simp [results, Tryd.results16, go_sem]) rfl ⟨rfl, by (repeat (first | with_reducible assumption | with_reducible exact Below.refl _ _ | with_reducible refine Below.setCell ?_ ?_ _ | with_reducible refine Below.alloc ?_ ?_ _ | with_reducible refine below_drewN' ?_ _ | with_reducible refine Below.drew ?_ | with_reducible refine Below.trans ?_ (Below.mono (by assumption) ?_) | omega | (dsimp only; omega) | (simp only [drew_heap', drewN_heap', World.size_alloc, World.size_setCell]; omega) | (solve | simp) | (solve | (simp; omega))))⟩
set_option maxHeartbeats 2000000 in
theorem refBack_any (a b c d e f g h pc k v : Int) (w : World) : Calls Tryd.prog 17 #[cpuV a b c d e f g h pc, .int .i64 k, .int .u32 v] w fun en w' => en = .returned (cpuV (valV k v) b c d e f g h pc) ∧ Below w.heap.size w w' := by
  have HV := Lib.hid (fun W => refValue_eq k v W)
  generalize valV k v = r at *
  go_enter Tryd.func17, Tryd.ntmps17
  go_wp2_with fail
  with_reducible refine (HV.out _).mono ?_
  rintro en w1 ⟨rfl, rfl⟩
  go_wp2_with fail
  exact bodyPost_ret (v := cpuV r b c d e f g h pc) (by simp [results, Tryd.results17, go_sem]) rfl ⟨rfl, by (repeat (first | with_reducible assumption | with_reducible exact Below.refl _ _ | with_reducible refine Below.setCell ?_ ?_ _ | with_reducible refine Below.alloc ?_ ?_ _ | with_reducible refine below_drewN' ?_ _ | with_reducible refine Below.drew ?_ | with_reducible refine Below.trans ?_ (Below.mono (by assumption) ?_) | omega | (dsimp only; omega) | (simp only [drew_heap', drewN_heap', World.size_alloc, World.size_setCell]; omega) | (solve | simp) | (solve | (simp; omega))))⟩
end Go.Proofs.YtmffbhlbikjmaaaDoor
