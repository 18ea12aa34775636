/- table.at, first, Find, Next, Right: what they answer. Conditions: lengths within the reach. -/
import Derived.Test.YtianochlnbehnaaTabLib2
import Derived.Test.YtianochlnbehnaaLib9
namespace Go.Proofs.Ytianochlnbehnaa
open Go Go.RowKit Go.Tm
set_option linter.unusedVariables false
set_option linter.unusedSimpArgs false

def pidP (pid : Int) : Value → Bool := fun v => match (v.cells)[0]? with | some (Value.int _ n) => decide (n = pid) | _ => false
def gtP (pid : Int) : Value → Bool := fun v => match (v.cells)[0]? with | some (Value.int _ n) => decide (pid < n) | _ => false
theorem prV_cells (x : Prc) : (prV x).cells = prC x := rfl
theorem pidP_pr (pid : Int) (x : Prc) : pidP pid (prV x) = decide (x.pid = pid) := by unfold pidP; rw [prV_cells, prC0]
theorem gtP_pr (pid : Int) (x : Prc) : gtP pid (prV x) = decide (pid < x.pid) := by unfold gtP; rw [prV_cells, prC0]
theorem at1_body : Body Try.prog 42 := body_of Try.func42 (by kernel_rfl) (by kernel_rfl)
theorem rem1_body : Body Try.prog 38 := body_of Try.func38 (by kernel_rfl) (by kernel_rfl)
theorem put1_body : Body Try.prog 34 := body_of Try.func34 (by kernel_rfl) (by kernel_rfl)
theorem at1_any (x : Prc) (pid : Int) (B : Nat) (w : World) (hB : B < w.heap.size) (hc0 : w.cell? ⟨B, 0, none⟩ = some (.int .i64 pid)) :
    Calls Try.prog 42 #[prV x, .pointer (some ⟨B, 0, none⟩)] w fun e w' => e = .returned (.bool (pidP pid (prV x))) ∧ Below w.heap.size w w' := by
  rw [pidP_pr]
  have hne : ¬ B = w.heap.size := by omega
  have q0 := prC0 x
  by_cases h : x.pid = pid
  · have hb : (x.pid == pid) = true := by simpa using h
    go_enter Try.func42, Try.ntmps42
    go_wp2_with fail
    go_ret
    exact ⟨by simp [h], by (repeat (first | with_reducible assumption | with_reducible exact Below.refl _ _ | with_reducible refine Below.setCell ?_ ?_ _ | with_reducible refine Below.alloc ?_ ?_ _ | with_reducible refine below_drewN' ?_ _ | with_reducible refine Below.drew ?_ | with_reducible refine Below.trans ?_ (Below.mono (by assumption) ?_) | omega | (dsimp only; omega) | (simp only [drew_heap', drewN_heap', World.size_alloc, World.size_setCell]; omega) | (solve | simp) | (solve | (simp; omega))))⟩
  · have hb : (x.pid == pid) = false := by simpa using h
    go_enter Try.func42, Try.ntmps42
    go_wp2_with fail
    go_ret
    exact ⟨by simp [h], by (repeat (first | with_reducible assumption | with_reducible exact Below.refl _ _ | with_reducible refine Below.setCell ?_ ?_ _ | with_reducible refine Below.alloc ?_ ?_ _ | with_reducible refine below_drewN' ?_ _ | with_reducible refine Below.drew ?_ | with_reducible refine Below.trans ?_ (Below.mono (by assumption) ?_) | omega | (dsimp only; omega) | (simp only [drew_heap', drewN_heap', World.size_alloc, World.size_setCell]; omega) | (solve | simp) | (solve | (simp; omega))))⟩
theorem rem1_any (x : Prc) (pid : Int) (B : Nat) (w : World) (hB : B < w.heap.size) (hc0 : w.cell? ⟨B, 0, none⟩ = some (.int .i64 pid)) :
    Calls Try.prog 38 #[prV x, .pointer (some ⟨B, 0, none⟩)] w fun e w' => e = .returned (.bool (pidP pid (prV x))) ∧ Below w.heap.size w w' := by
  rw [pidP_pr]
  have hne : ¬ B = w.heap.size := by omega
  have q0 := prC0 x
  by_cases h : x.pid = pid
  · have hb : (x.pid == pid) = true := by simpa using h
    go_enter Try.func38, Try.ntmps38
    go_wp2_with fail
    go_ret
    exact ⟨by simp [h], by (repeat (first | with_reducible assumption | with_reducible exact Below.refl _ _ | with_reducible refine Below.setCell ?_ ?_ _ | with_reducible refine Below.alloc ?_ ?_ _ | with_reducible refine below_drewN' ?_ _ | with_reducible refine Below.drew ?_ | with_reducible refine Below.trans ?_ (Below.mono (by assumption) ?_) | omega | (dsimp only; omega) | (simp only [drew_heap', drewN_heap', World.size_alloc, World.size_setCell]; omega) | (solve | simp) | (solve | (simp; omega))))⟩
  · have hb : (x.pid == pid) = false := by simpa using h
    go_enter Try.func38, Try.ntmps38
    go_wp2_with fail
    go_ret
    exact ⟨by simp [h], by (repeat (first | with_reducible assumption | with_reducible exact Below.refl _ _ | with_reducible refine Below.setCell ?_ ?_ _ | with_reducible refine Below.alloc ?_ ?_ _ | with_reducible refine below_drewN' ?_ _ | with_reducible refine Below.drew ?_ | with_reducible refine Below.trans ?_ (Below.mono (by assumption) ?_) | omega | (dsimp only; omega) | (simp only [drew_heap', drewN_heap', World.size_alloc, World.size_setCell]; omega) | (solve | simp) | (solve | (simp; omega))))⟩
theorem put1_any (x : Prc) (pid : Int) (B : Nat) (w : World) (hB : B < w.heap.size) (hc0 : w.cell? ⟨B, 0, none⟩ = some (.int .i64 pid)) :
    Calls Try.prog 34 #[prV x, .pointer (some ⟨B, 0, none⟩)] w fun e w' => e = .returned (.bool (gtP pid (prV x))) ∧ Below w.heap.size w w' := by
  rw [gtP_pr]
  have hne : ¬ B = w.heap.size := by omega
  have q0 := prC0 x
  by_cases h : pid < x.pid
  · go_enter Try.func34, Try.ntmps34
    go_wp2_with fail
    go_ret
    exact ⟨by simp [h], by (repeat (first | with_reducible assumption | with_reducible exact Below.refl _ _ | with_reducible refine Below.setCell ?_ ?_ _ | with_reducible refine Below.alloc ?_ ?_ _ | with_reducible refine below_drewN' ?_ _ | with_reducible refine Below.drew ?_ | with_reducible refine Below.trans ?_ (Below.mono (by assumption) ?_) | omega | (dsimp only; omega) | (simp only [drew_heap', drewN_heap', World.size_alloc, World.size_setCell]; omega) | (solve | simp) | (solve | (simp; omega))))⟩
  · go_enter Try.func34, Try.ntmps34
    go_wp2_with fail
    go_ret
    exact ⟨by simp [h], by (repeat (first | with_reducible assumption | with_reducible exact Below.refl _ _ | with_reducible refine Below.setCell ?_ ?_ _ | with_reducible refine Below.alloc ?_ ?_ _ | with_reducible refine below_drewN' ?_ _ | with_reducible refine Below.drew ?_ | with_reducible refine Below.trans ?_ (Below.mono (by assumption) ?_) | omega | (dsimp only; omega) | (simp only [drew_heap', drewN_heap', World.size_alloc, World.size_setCell]; omega) | (solve | simp) | (solve | (simp; omega))))⟩
theorem pred_cell {f : FuncId} {q : Value → Bool} (hbody : Body Try.prog f) (pid : Int) (l : List Prc) (B : Nat) (w : World) (hB : B < w.heap.size) (hc0 : w.cell? ⟨B, 0, none⟩ = some (.int .i64 pid)) (g : Option Nat) (hg : some B ≠ g)
    (h : ∀ (x : Prc) (w' : World), B < w'.heap.size → w'.cell? ⟨B, 0, none⟩ = some (.int .i64 pid) → Calls Try.prog f #[prV x, .pointer (some ⟨B, 0, none⟩)] w' fun e w'' => e = .returned (.bool (q (prV x))) ∧ Below w'.heap.size w' w'') :
    Pred Try.prog w g f #[.pointer (some ⟨B, 0, none⟩)] q (prs l) :=
  ⟨hbody, fun w' hw x hm => by
    obtain ⟨n, _, rfl⟩ := List.mem_map.1 hm
    exact h n w' (Nat.lt_of_lt_of_le hB hw.size) ((World.cell?_of_block (a := ⟨B, 0, none⟩) (hw.block B hB hg)).trans hc0)⟩

theorem first_any (v : Value) (xs : List Value) (fid : FuncId) (caps : Array Value) (p : Value → Bool) (w : World) (hsl : Sl w true 26 v xs) (hp : Pred Try.prog w none fid caps p xs) :
    Calls Try.prog 33 #[v, .func (.func fid) #[] caps] w fun e w' => e = .returned (.int .i64 (idx p xs)) ∧ Below w.heap.size w w' := by
  have HI := Lib.hid (indexFunc_proc v xs fid caps p w hsl hp)
  go_enter Try.func33, Try.ntmps33
  go_wp2_with fail
  with_reducible refine HI.out.mono ?_
  rintro e w1 ⟨rfl, hb1⟩
  go_wp2_with fail
  go_ret
  exact ⟨rfl, hb1⟩

/-- Where a process stands. -/
def atI (l : List Prc) (pid : Int) : Int := idx (pidP pid) (prs l)
theorem at_any (v : Value) (l : List Prc) (pid : Int) (w : World) (hv : Sl w true 26 v (prs l)) :
    Calls Try.prog 32 #[v, .int .i64 pid] w fun e w' => e = .returned (.int .i64 (atI l pid)) ∧ Below w.heap.size w w' := by
  have HV := Lib.hid hv
  have HF := Lib.hid (fun W h hB hc => first_any v (prs l) 42 #[.pointer (some ⟨w.heap.size, 0, none⟩)] (pidP pid) W h (pred_cell at1_body pid l w.heap.size W hB hc none (by simp) (fun x w' => at1_any x pid w.heap.size w')))
  unfold atI
  clear hv
  go_enter Try.func32, Try.ntmps32
  go_wp2_with fail
  with_reducible refine (HF.out _ (HV.out.below ?_) ?_ ?_).mono ?_
  focus (repeat (first | with_reducible assumption | with_reducible exact Below.refl _ _ | with_reducible refine Below.setCell ?_ ?_ _ | with_reducible refine Below.alloc ?_ ?_ _ | with_reducible refine below_drewN' ?_ _ | with_reducible refine Below.drew ?_ | with_reducible refine Below.trans ?_ (Below.mono (by assumption) ?_) | omega | (dsimp only; omega) | (simp only [drew_heap', drewN_heap', World.size_alloc, World.size_setCell]; omega) | (solve | simp) | (solve | (simp; omega))))
  focus (simp only [World.size_alloc]; omega)
  focus exact (Box.new _ _ _).rules.1 0
  rintro e w1 ⟨rfl, hb1⟩
  have hz1 := hb1.size
  simp only [World.size_alloc] at hz1
  have hbw : Below w.heap.size w w1 := by (repeat (first | with_reducible assumption | with_reducible exact Below.refl _ _ | with_reducible refine Below.setCell ?_ ?_ _ | with_reducible refine Below.alloc ?_ ?_ _ | with_reducible refine below_drewN' ?_ _ | with_reducible refine Below.drew ?_ | with_reducible refine Below.trans ?_ (Below.mono (by assumption) ?_) | omega | (dsimp only; omega) | (simp only [drew_heap', drewN_heap', World.size_alloc, World.size_setCell]; omega) | (solve | simp) | (solve | (simp; omega))))
  go_wp2_with fail
  go_ret
  exact ⟨rfl, hbw⟩
theorem at_cases (l : List Prc) (pid : Int) : (atI l pid = -1 ∧ ∀ x ∈ l, x.pid ≠ pid) ∨ ∃ (i : Nat) (x : Prc), atI l pid = i ∧ l[i]? = some x ∧ x.pid = pid ∧ ∀ j y, j < i → l[j]? = some y → y.pid ≠ pid := by
  rcases idx_cases (pidP pid) (prs l) with ⟨h1, h2⟩ | ⟨i, x, h1, h2, h3, h4⟩
  · refine .inl ⟨h1, fun x hx => ?_⟩
    have := h2 _ (List.mem_map_of_mem hx)
    rw [pidP_pr] at this
    simpa using this
  · obtain ⟨y, hy, rfl⟩ : ∃ y, l[i]? = some y ∧ prV y = x := by
      rw [List.getElem?_map] at h2
      cases hl : l[i]? with
      | none => rw [hl] at h2; cases h2
      | some y => rw [hl] at h2; exact ⟨y, rfl, by simpa using h2⟩
    rw [pidP_pr] at h3
    refine .inr ⟨i, y, h1, hy, by simpa using h3, fun j z hj hz => ?_⟩
    have := h4 j _ hj (prs_get hz)
    rw [pidP_pr] at this
    simpa using this

def findS (l : List Prc) (pid : Int) : Prc × Bool := match l.find? (fun x => decide (x.pid = pid)) with | some x => (x, true) | none => (oneP 0, false)
theorem findS_none {l : List Prc} {pid : Int} (h : ∀ x ∈ l, x.pid ≠ pid) : findS l pid = (oneP 0, false) := by
  unfold findS
  rw [List.find?_eq_none.2 (by intro x hx; simpa using h x hx)]
theorem findS_some {l : List Prc} {pid : Int} {i : Nat} {x : Prc} (h1 : l[i]? = some x) (h2 : x.pid = pid) (h3 : ∀ j y, j < i → l[j]? = some y → y.pid ≠ pid) : findS l pid = (x, true) := by
  unfold findS
  have : l.find? (fun x => decide (x.pid = pid)) = some x := by
    induction l generalizing i with
    | nil => simp at h1
    | cons y r ih =>
      cases i with
      | zero => simp at h1; subst h1; simp [h2]
      | succ i =>
        have hy : y.pid ≠ pid := h3 0 y (by omega) rfl
        rw [List.find?_cons_of_neg (by simpa using hy)]
        exact ih (by simpa using h1) (fun j z hj hz => h3 (j + 1) z (by omega) (by simpa using hz))
  rw [this]
set_option maxHeartbeats 1000000 in
theorem find_any (v : Value) (l : List Prc) (pid : Int) (w : World) (hv : Sl w true 26 v (prs l)) :
    Calls Try.prog 13 #[v, .int .i64 pid] w fun e w' => e = .returned (.tuple #[prV (findS l pid).1, .bool (findS l pid).2]) ∧ Below w.heap.size w w' := by
  have HV := Lib.hid hv
  have HA := Lib.hid (fun W h => at_any v l pid W h)
  obtain ⟨a, cap, rfl, hl⟩ := hv.shape
  rw [prs_len] at hl HV HA ⊢
  clear hv
  rcases at_cases l pid with ⟨hi, hno⟩ | ⟨i, x, hi, hx, hp, hno⟩
  · rw [hi] at HA
    rw [findS_none hno]
    clear hi hno
    go_enter Try.func13, Try.ntmps13
    go_wp2_with fail
    have hb0 := fun cs => Box.new w cs 33
    with_reducible refine (HA.out _ (HV.out.below ?_)).mono ?_
    focus (repeat (first | with_reducible assumption | with_reducible exact Below.refl _ _ | with_reducible refine Below.setCell ?_ ?_ _ | with_reducible refine Below.alloc ?_ ?_ _ | with_reducible refine below_drewN' ?_ _ | with_reducible refine Below.drew ?_ | with_reducible refine Below.trans ?_ (Below.mono (by assumption) ?_) | omega | (dsimp only; omega) | (simp only [drew_heap', drewN_heap', World.size_alloc, World.size_setCell]; omega) | (solve | simp) | (solve | (simp; omega))))
    rintro e w1 ⟨rfl, hb1⟩
    have hz1 := hb1.size
    simp only [World.size_alloc] at hz1
    have bx1 := (hb0 _).below hb1 (by simp only [World.size_alloc]; omega)
    have hbw : Below w.heap.size w w1 := by (repeat (first | with_reducible assumption | with_reducible exact Below.refl _ _ | with_reducible refine Below.setCell ?_ ?_ _ | with_reducible refine Below.alloc ?_ ?_ _ | with_reducible refine below_drewN' ?_ _ | with_reducible refine Below.drew ?_ | with_reducible refine Below.trans ?_ (Below.mono (by assumption) ?_) | omega | (dsimp only; omega) | (simp only [drew_heap', drewN_heap', World.size_alloc, World.size_setCell]; omega) | (solve | simp) | (solve | (simp; omega))))
    clear hb0 hb1
    have hv0 : Val true 26 (.agg (prC (oneP 0))) := pr_val _
    go_wp2_with (first | (refine wpList_store_boxA rfl 33 _ _ rfl bx1 (prC (oneP 0)) ty_proc hv0 (by rfl) (by simp [Act.eval]) (by simp [Act.eval, one_eq]) ?_; (intro w2 bx2 hb2 hz2 hg2); (have HB2 := Lib.hid bx2); (clear bx2)) | fail)
    exact bodyPost_ret (v := .tuple #[prV (oneP 0), .bool false]) ((results_cell_val Try.results13 _ rfl ty_proc hv0 HB2.out).trans rfl) rfl ⟨rfl, hbw.trans hb2⟩
  · rw [hi] at HA
    rw [findS_some hx hp hno]
    have hlt := (List.getElem?_eq_some_iff.1 hx).1
    have HX := Lib.hid hx
    clear hi hno hx
    go_enter Try.func13, Try.ntmps13
    go_wp2_with fail
    have hb0 := fun cs => Box.new w cs 33
    with_reducible refine (HA.out _ (HV.out.below ?_)).mono ?_
    focus (repeat (first | with_reducible assumption | with_reducible exact Below.refl _ _ | with_reducible refine Below.setCell ?_ ?_ _ | with_reducible refine Below.alloc ?_ ?_ _ | with_reducible refine below_drewN' ?_ _ | with_reducible refine Below.drew ?_ | with_reducible refine Below.trans ?_ (Below.mono (by assumption) ?_) | omega | (dsimp only; omega) | (simp only [drew_heap', drewN_heap', World.size_alloc, World.size_setCell]; omega) | (solve | simp) | (solve | (simp; omega))))
    rintro e w1 ⟨rfl, hb1⟩
    have hz1 := hb1.size
    simp only [World.size_alloc] at hz1
    have bx1 := (hb0 _).below hb1 (by simp only [World.size_alloc]; omega)
    have hbw : Below w.heap.size w w1 := by (repeat (first | with_reducible assumption | with_reducible exact Below.refl _ _ | with_reducible refine Below.setCell ?_ ?_ _ | with_reducible refine Below.alloc ?_ ?_ _ | with_reducible refine below_drewN' ?_ _ | with_reducible refine Below.drew ?_ | with_reducible refine Below.trans ?_ (Below.mono (by assumption) ?_) | omega | (dsimp only; omega) | (simp only [drew_heap', drewN_heap', World.size_alloc, World.size_setCell]; omega) | (solve | simp) | (solve | (simp; omega))))
    clear hb0 hb1
    obtain ⟨b, off, rfl, hb, hcells, -, -, -⟩ := Sl.pr (HV.out.below hbw) HX.out
    have hv0 : Val true 26 (.agg (prC x)) := pr_val _
    go_wp2_with (first | (refine wpList_load_val rfl 33 _ rfl b (off + i * 26) (by simp [Act.eval]) (prV x) ty_proc (pr_val x) hcells ?_) | (refine wpList_store_boxA rfl 33 _ _ rfl bx1 (prC x) ty_proc hv0 (by rfl) (by simp [Act.eval, Act.put]) (by simp [Act.eval, Act.put]) ?_; (intro w2 bx2 hb2 hz2 hg2); (have HB2 := Lib.hid bx2); (clear bx2)) | fail)
    exact bodyPost_ret (v := .tuple #[prV x, .bool true]) ((results_cell_val Try.results13 _ rfl ty_proc hv0 HB2.out).trans rfl) rfl ⟨rfl, hbw.trans hb2⟩
end Go.Proofs.Ytianochlnbehnaa
