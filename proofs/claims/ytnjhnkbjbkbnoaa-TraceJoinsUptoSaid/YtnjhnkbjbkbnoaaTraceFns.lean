/- trace.Of, Gap, Until, Rises; the document's example. Conditions: lengths within the reach. -/
import Derived.Test.YtnjhnkbjbkbnoaaTraceSeq
namespace Go.Proofs.Ytnjhnkbjbkbnoaa
open Go Go.RowKit Go.Tm
set_option linter.unusedVariables false
set_option linter.unusedSimpArgs false

def ofP (l : List Ev) (pid : Int) : List Ev := l.filter fun x => decide (x.1 = pid)
theorem is_body : Body Try.prog 25 := body_of Try.func25 (by kernel_rfl) (by kernel_rfl)
theorem is_any (x : Ev) (pid : Int) (w : World) : Calls Try.prog 25 #[.int .i64 pid, evV x] w fun e w' => e = .returned (.bool (decide (x.1 = pid))) ∧ Below w.heap.size w w' := by
  obtain ⟨p, n, r, t⟩ := x
  dsimp only
  by_cases h : p = pid
  · subst h
    go_enter Try.func25, Try.ntmps25
    go_wp2_with fail
    go_ret
    exact ⟨by simp, by (repeat (first | with_reducible assumption | with_reducible exact Below.refl _ _ | with_reducible refine Below.setCell ?_ ?_ _ | with_reducible refine Below.alloc ?_ ?_ _ | with_reducible refine below_drewN' ?_ _ | with_reducible refine Below.drew ?_ | with_reducible refine Below.trans ?_ (Below.mono (by assumption) ?_) | omega | (dsimp only; omega) | (simp only [drew_heap', drewN_heap', World.size_alloc, World.size_setCell]; omega) | (solve | simp) | (solve | (simp; omega))))⟩
  · have h' : (p == pid) = false := by simpa using h
    go_enter Try.func25, Try.ntmps25
    go_wp2_with fail
    go_ret
    exact ⟨by simp [h], by (repeat (first | with_reducible assumption | with_reducible exact Below.refl _ _ | with_reducible refine Below.setCell ?_ ?_ _ | with_reducible refine Below.alloc ?_ ?_ _ | with_reducible refine below_drewN' ?_ _ | with_reducible refine Below.drew ?_ | with_reducible refine Below.trans ?_ (Below.mono (by assumption) ?_) | omega | (dsimp only; omega) | (simp only [drew_heap', drewN_heap', World.size_alloc, World.size_setCell]; omega) | (solve | simp) | (solve | (simp; omega))))⟩
theorem is_pred (l : List Ev) (pid : Int) (w : World) : PredE Try.prog w 25 #[.int .i64 pid] #[] (fun x => decide (x.1 = pid)) l :=
  ⟨is_body, fun w' _ x _ => is_any x pid w'⟩

set_option maxHeartbeats 2000000 in
theorem traceOf_any (v : Value) (l : List Ev) (pid : Int) (w : World) (hv : Sl w true 4 v (evs l)) (hby : l.length * 24 ≤ 140737488355328) :
    Calls Try.prog 10 #[v, .int .i64 pid] w fun e w' => ∃ v', e = .returned v' ∧ Owned w' w.heap.size 29 true 4 v' (evs (ofP l pid)) ∧ Below w.heap.size w w' := by
  have HV := Lib.hid hv
  obtain ⟨a, cap, rfl, hl⟩ := hv.shape
  rw [evs_len] at hl HV ⊢
  clear hv
  go_enter Try.func10, Try.ntmps10
  go_wp2_with fail
  with_reducible refine (of_any _ _ _ _ _ _ _).mono ?_
  rintro e w1 ⟨rfl, hw1⟩
  have hb1 : Below w.heap.size w w1 := by subst hw1; (repeat (first | with_reducible assumption | with_reducible exact Below.refl _ _ | with_reducible refine Below.setCell ?_ ?_ _ | with_reducible refine Below.alloc ?_ ?_ _ | with_reducible refine below_drewN' ?_ _ | with_reducible refine Below.drew ?_ | with_reducible refine Below.trans ?_ (Below.mono (by assumption) ?_) | omega | (dsimp only; omega) | (simp only [drew_heap', drewN_heap', World.size_alloc, World.size_setCell]; omega) | (solve | simp) | (solve | (simp; omega))))
  have hz1 : w1.heap.size = w.heap.size + 1 + 1 := by subst hw1; simp
  have hx1 : Box w1 w.heap.size #[.slice a l.length cap] 22 := by subst hw1; exact (Box.new _ _ _).alloc _
  have hx2 : Box w1 (w.heap.size + 1) #[.func (.func 25) #[.int .i64 pid] #[]] 49 := by subst hw1; exact Box.new1 _ _ _ (by simp)
  have HC := Lib.hid (collect_any 34 _ (ofP l pid) _ l.length w1 hby (body_of Try.func34 (by kernel_rfl) (by kernel_rfl)) (fun n hn => of_stops n _ _ _ _ _ _ _ l w1 hn (HV.out.below hb1) (is_pred l pid w1) hx1 hx2))
  clear hw1 hx1 hx2
  go_wp2_with fail
  with_reducible refine HC.out.mono ?_
  rintro e w2 ⟨v2, rfl, ho2, hb2⟩
  have HO := Lib.hid (ho2.le (base' := w.heap.size) (by omega))
  have hbw : Below w.heap.size w w2 := hb1.trans (hb2.mono (by omega))
  clear ho2 hb2
  go_wp2_with fail
  go_ret
  exact ⟨_, rfl, HO.out, hbw⟩

/-- How far two neighbours are apart. -/
def diff (k : List Ev) (j : Nat) : Int := match k[j]?, k[j + 1]? with | some a, some b => IntKind.u64.wrap (b.2.2.2 - a.2.2.2) | _, _ => 0
def gapM (k : List Ev) : Nat → Int | 0 => 0 | j + 1 => max (gapM k j) (diff k j)
theorem diff_at {k : List Ev} {j : Nat} {a b : Ev} (h1 : k[j]? = some a) (h2 : k[j + 1]? = some b) : diff k j = IntKind.u64.wrap (b.2.2.2 - a.2.2.2) := by unfold diff; rw [h1, h2]

set_option maxHeartbeats 4000000 in
theorem gap_any (v : Value) (l : List Ev) (pid : Int) (w : World) (hv : Sl w true 4 v (evs l)) (hby : l.length * 24 ≤ 140737488355328) :
    Calls Try.prog 11 #[v, .int .i64 pid] w fun e w' => e = .returned (.int .u64 (gapM (ofP l pid) ((ofP l pid).length - 1))) ∧ Below w.heap.size w w' := by
  have HO := Lib.hid (traceOf_any v l pid w hv hby)
  have hkl : (ofP l pid).length ≤ l.length := List.length_filter_le _ _
  generalize ofP l pid = k at *
  clear hv
  go_enter Try.func11, Try.ntmps11
  go_wp2_with fail
  with_reducible refine HO.out.mono ?_
  rintro e w1 ⟨v1, rfl, ho1, hb1⟩
  have HK := Lib.hid ho1.sl
  obtain ⟨a, cap, rfl, hl⟩ := ho1.sl.shape
  rw [evs_len] at hl HK ⊢
  clear ho1
  go_wp2_with fail
  go_loopw [5, 7] (fun m t W => ∃ i : Nat, i ≤ k.length ∧ t = .int .i64 ((i : Int) + 1) ∧ m = .int .u64 (gapM k i) ∧ (0 < i → i < k.length) ∧ Below w1.heap.size w1 W) (fun _ t _ => k.length + 1 - (intOf t).toNat)
  case atStart => exact ⟨0, Nat.zero_le _, rfl, rfl, by omega, Below.refl _ _⟩
  case round =>
    obtain ⟨i, hi, rfl, rfl, hi2, hbx⟩ := hrel
    have hws := hbx.size
    by_cases hlt : i + 1 < k.length
    · obtain ⟨x, hx⟩ : ∃ x, k[i]? = some x := ⟨_, List.getElem?_eq_getElem (by omega)⟩
      obtain ⟨y, hy⟩ : ∃ y, k[i + 1]? = some y := ⟨_, List.getElem?_eq_getElem hlt⟩
      obtain ⟨b, off, rfl, hb, c0, c1, c2, c3⟩ := Sl.ev (HK.out.below hbx) hx
      obtain ⟨_, _, he, hb2, e0, e1, e2, e3⟩ := Sl.ev (HK.out.below hbx) hy
      simp only [Option.some.injEq, Addr.mk.injEq, and_true] at he
      obtain ⟨rfl, rfl⟩ := he
      have hwr : IntKind.i64.wrap ((i : Int) + 1 + 1) = i + 1 + 1 := IntWalk.i64_in _ (by omega)
      have hws1 : IntKind.i64.wrap ((i : Int) + 1 - 1) = i := by rw [IntWalk.i64_in _ (by omega)]; omega
      have hlt' : (i : Int) + 1 < k.length := by omega
      have hd := diff_at hx hy
      have hg : gapM k (i + 1) = max (gapM k i) (diff k i) := rfl
      have g0 := cell_rg c3 hb
      have g1 := cell_rg e3 hb2
      clear hx hy
      go_wp2_with fail
      ((refine wp_region_quiet_below (by kernel_rfl) (by kernel_rfl) ?_); (repeat (go_big_quiet_step (fail))); (refine wpQuiet_nil ?_); (intro _ hw'); (obtain ⟨⟨dq, osq⟩, hw''⟩ := hw'); (subst hw''); (have hb7 := below_regrown wr dq osq); (generalize Go.Sort.grow (redrawn wr dq) osq = w7 at *); (have hz7 := hb7.size))
      clear g0 g1
      go_wp2_with fail
      refine ⟨⟨i + 1, by omega, by go_num, ?_, by omega, hbx.trans (hb7.mono hws)⟩, by simp [intOf]; omega⟩
      rw [hg, hd]
      refine congrArg (Value.int .u64) ?_
      split <;> omega
    · have hlt' : ¬ (i : Int) + 1 < k.length := by omega
      have hki : k.length - 1 = i := by omega
      go_wp2_with fail
      go_ret
      exact ⟨by simp [hki], hb1.trans (hbx.mono hb1.size)⟩
end Go.Proofs.Ytnjhnkbjbkbnoaa
