/- trace.Until, Rises, Count, Errors; the document's example. Conditions: lengths within the reach. -/
import Derived.Test.YtnjhnkbjbkbnoaaTraceFns
import Derived.Test.YtnjhnkbjbkbnoaaLib7
namespace Go.Proofs.Ytnjhnkbjbkbnoaa
open Go Go.RowKit Go.Tm
set_option linter.unusedVariables false
set_option linter.unusedSimpArgs false


set_option maxHeartbeats 1000000 in
theorem indexFunc_event (v : Value) (xs : List Value) (fid : FuncId) (caps : Array Value) (p : Value → Bool) (w : World) (hsl : Sl w true 4 v xs) (hp : Pred Try.prog w none fid caps p xs) :
    Calls Try.prog 26 #[v, .func (.func fid) #[] caps] w fun e w' => e = .returned (.int .i64 (idx p xs)) ∧ Below w.heap.size w w' := by
  obtain ⟨hsz, a, cap, rfl, hl, hm, hform⟩ := hsl
  unfold maxLen at hm
  have hlen : xs.length ≤ 9223372036854775807 := by omega
  go_enter Try.func26, Try.ntmps26
  go_wp2_with fail
  go_loopw [8] (fun t wr => ∃ i : Nat, i ≤ xs.length ∧ t = .int .i64 i ∧ Below w.heap.size w wr ∧ ∀ j y, j < i → xs[j]? = some y → p y = false) (fun t _ => xs.length - (intOf t).toNat)
  case atStart => exact ⟨0, Nat.zero_le _, rfl, Below.refl _ _, by intro j y h; omega⟩
  case round =>
    obtain ⟨i, hi, rfl, hbw, hprev⟩ := hrel
    have HP := Lib.hid hprev
    clear hprev
    by_cases hlt : i < xs.length
    · obtain ⟨x, hx⟩ : ∃ x, xs[i]? = some x := ⟨_, List.getElem?_eq_getElem hlt⟩
      have hmem : x ∈ xs := List.mem_of_getElem? hx
      have HV := Lib.hid (hsz _ hmem)
      obtain ⟨b, off, rfl, hb, hcell⟩ : ∃ b off, a = some ⟨b, off, none⟩ ∧ b < w.heap.size ∧ Cells wr b (off + i * 4) x.cells.toList := by
        rcases hform with h0 | ⟨b, off, ha, hb, hc⟩
        · subst h0; simp at hlt
        · exact ⟨b, off, ha, hb, (hc i _ hx).below hbw hb⟩
      have HX := Lib.hid hx
      have HCE := Lib.hid hcell
      clear hx hcell hform hsz
      have hcall := hp.asks wr (grown_of_below hbw none) _ hmem
      have hbody := hp.body
      unfold Body at hbody
      have HC := Lib.hid hcall
      clear hcall hp
      cases hpx : p x
      · have HPX := Lib.hid hpx
        rw [hpx] at HC
        clear hpx
        go_wp2_with (first | (refine wpList_load_val rfl 29 _ rfl b (off + i * 4) (by simp [Act.eval]) x ty_event HV.out HCE.out ?_) | fail)
        refine HC.out.mono ?_
        rintro e w1 ⟨rfl, hb1⟩
        go_wp2_with fail
        go_roundw
        case rel =>
          refine ⟨i + 1, by omega, by go_num, hbw.trans (hb1.mono hbw.size), ?_⟩
          intro j y hj hy
          rcases Nat.lt_succ_iff_lt_or_eq.1 hj with hj | rfl
          · exact HP.out j y hj hy
          · rw [HX.out] at hy; cases hy; exact HPX.out
        case measure => simp [intOf]; omega
      · have HPX := Lib.hid hpx
        rw [hpx] at HC
        clear hpx
        go_wp2_with (first | (refine wpList_load_val rfl 29 _ rfl b (off + i * 4) (by simp [Act.eval]) x ty_event HV.out HCE.out ?_) | fail)
        refine HC.out.mono ?_
        rintro e w1 ⟨rfl, hb1⟩
        go_wp2_with fail
        go_ret
        exact ⟨by rw [idx_some HX.out HPX.out HP.out]; rfl, hbw.trans (hb1.mono hbw.size)⟩
    · go_wp2_with fail
      go_ret
      refine ⟨?_, hbw⟩
      rw [idx_none ?_]; · rfl
      intro x hx
      obtain ⟨j, hj, hxj⟩ := List.getElem_of_mem hx
      exact HP.out j x (by omega) (by rw [← hxj]; exact List.getElem?_eq_getElem hj)


def untilN (l : List Ev) (t : Int) : Nat := (l.takeWhile fun x => decide (x.2.2.2 < t)).length
theorem untilN_le (l : List Ev) (t : Int) : untilN l t ≤ l.length := tw_le _ _
def atP (t : Int) : Value → Bool := fun v => match v with | .agg cs => (match cs.toList with | [_, _, _, .int _ a] => decide (t ≤ a) | _ => false) | _ => false
theorem atP_ev (t : Int) (x : Ev) : atP t (evV x) = decide (t ≤ x.2.2.2) := rfl
theorem idx_at (l : List Ev) (t : Int) : idx (atP t) (evs l) = if untilN l t < l.length then (untilN l t : Int) else -1 := by
  have hle := untilN_le l t
  rcases idx_cases (atP t) (evs l) with ⟨h, hn⟩ | ⟨i, x, h, hx, hp, hn⟩
  · rw [h, if_neg]
    intro hlt
    have hy := List.getElem?_eq_getElem hlt
    have a := tw_stop hy
    have b := hn _ (List.mem_of_getElem? (evs_get hy))
    rw [atP_ev] at b
    simp at a b
    omega
  · obtain ⟨y, hy, rfl⟩ : ∃ y, l[i]? = some y ∧ evV y = x := by simpa [evs] using hx
    have hi : i < l.length := (List.getElem?_eq_some_iff.1 hy).1
    rw [atP_ev] at hp
    have he : untilN l t = i := tw_eq (Nat.le_of_lt hi) (fun j z hj hz => by
      have := hn j _ hj (evs_get hz)
      rw [atP_ev] at this
      simp at this ⊢; exact this) (fun z hz => by
      rw [hy] at hz; cases hz
      simp at hp ⊢; exact hp)
    rw [h, he, if_pos hi]

theorem cell_new (w : World) (v : Value) (t : TypeId) : (w.alloc (.cells #[v] t)).cell? ⟨w.heap.size, 0, none⟩ = some v := by

  simp
theorem until1_body : Body Try.prog 27 := body_of Try.func27 (by kernel_rfl) (by kernel_rfl)
theorem until1_any (x : Ev) (t : Int) (B : Nat) (w : World) (hB : B < w.heap.size) (hc0 : w.cell? ⟨B, 0, none⟩ = some (.int .u64 t)) :
    Calls Try.prog 27 #[evV x, .pointer (some ⟨B, 0, none⟩)] w fun e w' => e = .returned (.bool (atP t (evV x))) ∧ Below w.heap.size w w' := by
  rw [atP_ev]
  have hne : ¬ B = w.heap.size := by omega
  obtain ⟨p, n, r, u⟩ := x
  dsimp only
  go_enter Try.func27, Try.ntmps27
  go_wp2_with fail
  go_ret
  exact ⟨by simp, by (repeat (first | with_reducible assumption | with_reducible exact Below.refl _ _ | with_reducible refine Below.setCell ?_ ?_ _ | with_reducible refine Below.alloc ?_ ?_ _ | with_reducible refine below_drewN' ?_ _ | with_reducible refine Below.drew ?_ | with_reducible refine Below.trans ?_ (Below.mono (by assumption) ?_) | omega | (dsimp only; omega) | (simp only [drew_heap', drewN_heap', World.size_alloc, World.size_setCell]; omega) | (solve | simp) | (solve | (simp; omega))))⟩
theorem until1_pred (l : List Ev) (t : Int) (B : Nat) (w : World) (hB : B < w.heap.size) (hc0 : w.cell? ⟨B, 0, none⟩ = some (.int .u64 t)) :
    Pred Try.prog w none 27 #[.pointer (some ⟨B, 0, none⟩)] (atP t) (evs l) :=
  ⟨until1_body, fun w' hw x hm => by
    obtain ⟨n, _, rfl⟩ := List.mem_map.1 hm
    exact until1_any n t B w' (Nat.lt_of_lt_of_le hB hw.size) ((World.cell?_of_block (a := ⟨B, 0, none⟩) (hw.block B hB (by simp))).trans hc0)⟩

set_option maxHeartbeats 2000000 in
theorem until_any (v : Value) (l : List Ev) (t : Int) (w : World) (hv : Sl w true 4 v (evs l)) :
    Calls Try.prog 12 #[v, .int .u64 t] w fun e w' => ∃ v', e = .returned v' ∧ Sl w' true 4 v' (evs (l.take (untilN l t))) ∧ Below w.heap.size w w' := by
  have HV := Lib.hid hv
  have hle := untilN_le l t
  have hi0 := fun W B hs hB hc => indexFunc_event v (evs l) 27 #[.pointer (some ⟨B, 0, none⟩)] (atP t) W hs (until1_pred l t B W hB hc)
  rw [idx_at] at hi0
  have HI := Lib.hid hi0
  obtain ⟨u2, hrd, hsd⟩ := hv.run_clip (t := 22) ty_event Try.underlying22 (untilN l t) (untilN l t) rfl (by rw [evs_len]; exact hle)
  have HSD := Lib.hid (show Sl w true 4 u2 (evs (l.take (untilN l t))) by rw [evs, List.map_take]; exact hsd)
  have HRD := Lib.hid hrd
  obtain ⟨a, cap, rfl, hl⟩ := hv.shape
  rw [evs_len] at hl HV HRD HI ⊢
  clear hv hrd hsd hi0
  by_cases hlt : untilN l t < l.length
  · rw [if_pos hlt] at HI
    go_enter Try.func12, Try.ntmps12
    go_wp2_with fail
    with_reducible refine (HI.out _ w.heap.size (HV.out.below (by (repeat (first | with_reducible assumption | with_reducible exact Below.refl _ _ | with_reducible refine Below.setCell ?_ ?_ _ | with_reducible refine Below.alloc ?_ ?_ _ | with_reducible refine below_drewN' ?_ _ | with_reducible refine Below.drew ?_ | with_reducible refine Below.trans ?_ (Below.mono (by assumption) ?_) | omega | (dsimp only; omega) | (simp only [drew_heap', drewN_heap', World.size_alloc, World.size_setCell]; omega) | (solve | simp) | (solve | (simp; omega)))))) (by simp) (cell_new _ _ _)).mono ?_
    rintro e w2 ⟨rfl, hb2⟩
    have hbw : Below w.heap.size w w2 := by (repeat (first | with_reducible assumption | with_reducible exact Below.refl _ _ | with_reducible refine Below.setCell ?_ ?_ _ | with_reducible refine Below.alloc ?_ ?_ _ | with_reducible refine below_drewN' ?_ _ | with_reducible refine Below.drew ?_ | with_reducible refine Below.trans ?_ (Below.mono (by assumption) ?_) | omega | (dsimp only; omega) | (simp only [drew_heap', drewN_heap', World.size_alloc, World.size_setCell]; omega) | (solve | simp) | (solve | (simp; omega))))
    have hrd := HRD.out
    go_wp2_with fail
    go_ret
    exact ⟨_, rfl, HSD.out.below hbw, hbw⟩
  · rw [if_neg hlt] at HI
    have he : untilN l t = l.length := by omega
    go_enter Try.func12, Try.ntmps12
    go_wp2_with fail
    with_reducible refine (HI.out _ w.heap.size (HV.out.below (by (repeat (first | with_reducible assumption | with_reducible exact Below.refl _ _ | with_reducible refine Below.setCell ?_ ?_ _ | with_reducible refine Below.alloc ?_ ?_ _ | with_reducible refine below_drewN' ?_ _ | with_reducible refine Below.drew ?_ | with_reducible refine Below.trans ?_ (Below.mono (by assumption) ?_) | omega | (dsimp only; omega) | (simp only [drew_heap', drewN_heap', World.size_alloc, World.size_setCell]; omega) | (solve | simp) | (solve | (simp; omega)))))) (by simp) (cell_new _ _ _)).mono ?_
    rintro e w2 ⟨rfl, hb2⟩
    have hbw : Below w.heap.size w w2 := by (repeat (first | with_reducible assumption | with_reducible exact Below.refl _ _ | with_reducible refine Below.setCell ?_ ?_ _ | with_reducible refine Below.alloc ?_ ?_ _ | with_reducible refine below_drewN' ?_ _ | with_reducible refine Below.drew ?_ | with_reducible refine Below.trans ?_ (Below.mono (by assumption) ?_) | omega | (dsimp only; omega) | (simp only [drew_heap', drewN_heap', World.size_alloc, World.size_setCell]; omega) | (solve | simp) | (solve | (simp; omega))))
    go_wp2_with fail
    go_ret
    exact ⟨_, rfl, by rw [he, List.take_length]; exact HV.out.below hbw, hbw⟩

theorem count1_body : Body Try.prog 29 := body_of Try.func29 (by kernel_rfl) (by kernel_rfl)
theorem count1_any (x : Ev) (n : Int) (B : Nat) (w : World) (hB : B < w.heap.size) (hc0 : w.cell? ⟨B, 0, none⟩ = some (.int .u32 n)) :
    Calls Try.prog 29 #[evV x, .pointer (some ⟨B, 0, none⟩)] w fun e w' => e = .returned (.bool (decide (x.2.1 = n))) ∧ Below w.heap.size w w' := by
  have hne : ¬ B = w.heap.size := by omega
  obtain ⟨p, m, r, u⟩ := x
  dsimp only
  by_cases h : m = n
  · subst h
    go_enter Try.func29, Try.ntmps29
    go_wp2_with fail
    go_ret
    exact ⟨by simp, by (repeat (first | with_reducible assumption | with_reducible exact Below.refl _ _ | with_reducible refine Below.setCell ?_ ?_ _ | with_reducible refine Below.alloc ?_ ?_ _ | with_reducible refine below_drewN' ?_ _ | with_reducible refine Below.drew ?_ | with_reducible refine Below.trans ?_ (Below.mono (by assumption) ?_) | omega | (dsimp only; omega) | (simp only [drew_heap', drewN_heap', World.size_alloc, World.size_setCell]; omega) | (solve | simp) | (solve | (simp; omega))))⟩
  · have h' : (m == n) = false := by simpa using h
    go_enter Try.func29, Try.ntmps29
    go_wp2_with fail
    go_ret
    exact ⟨by simp [h], by (repeat (first | with_reducible assumption | with_reducible exact Below.refl _ _ | with_reducible refine Below.setCell ?_ ?_ _ | with_reducible refine Below.alloc ?_ ?_ _ | with_reducible refine below_drewN' ?_ _ | with_reducible refine Below.drew ?_ | with_reducible refine Below.trans ?_ (Below.mono (by assumption) ?_) | omega | (dsimp only; omega) | (simp only [drew_heap', drewN_heap', World.size_alloc, World.size_setCell]; omega) | (solve | simp) | (solve | (simp; omega))))⟩
theorem count1_pred (l : List Ev) (n : Int) (B : Nat) (w : World) (hB : B < w.heap.size) (hc0 : w.cell? ⟨B, 0, none⟩ = some (.int .u32 n)) :
    PredE Try.prog w 29 #[] #[.pointer (some ⟨B, 0, none⟩)] (fun x => decide (x.2.1 = n)) l :=
  ⟨count1_body, fun w' hw x _ => count1_any x n B w' (Nat.lt_of_lt_of_le hB hw.size) ((World.cell?_of_block (a := ⟨B, 0, none⟩) (hw.block B hB)).trans hc0)⟩

def isErr (x : Ev) : Bool := decide (4294967282 ≤ x.2.2.1)
def EvWf (x : Ev) : Prop := (Lit.int .i64 x.1).wf = true ∧ (Lit.int .u32 x.2.1).wf = true ∧ (Lit.int .u32 x.2.2.1).wf = true ∧ (Lit.int .u64 x.2.2.2).wf = true
theorem u64_range {n : Int} (h : (Lit.int .u64 n).wf = true) : 0 ≤ n ∧ n ≤ 18446744073709551615 := by
  simpa [Lit.wf, IntKind.min, IntKind.max, IntKind.bits, IntKind.signed] using h
theorem u32_range {n : Int} (h : (Lit.int .u32 n).wf = true) : 0 ≤ n ∧ n ≤ 4294967295 := by
  simpa [Lit.wf, IntKind.min, IntKind.max, IntKind.bits, IntKind.signed] using h
theorem failed_any (r : Int) (w : World) (h0 : 0 ≤ r) (h1 : r < 4294967296) : Calls Try.prog 31 #[.int .u32 r] w fun e w' => (∃ k, e = .returned (.tuple #[.int .i64 k, .bool (decide (4294967282 ≤ r))])) ∧ Below w.heap.size w w' := by
  by_cases h : 4294967282 ≤ r
  · have e1 : -r % 4294967296 = 4294967296 - r := by omega
    go_enter Try.func31, Try.ntmps31
    go_wp2
    go_ret2
    exact ⟨⟨_, by simp [h]; rfl⟩, by (repeat (first | with_reducible assumption | with_reducible exact Below.refl _ _ | with_reducible refine Below.setCell ?_ ?_ _ | with_reducible refine Below.alloc ?_ ?_ _ | with_reducible refine below_drewN' ?_ _ | with_reducible refine Below.drew ?_ | with_reducible refine Below.trans ?_ (Below.mono (by assumption) ?_) | omega | (dsimp only; omega) | (simp only [drew_heap', drewN_heap', World.size_alloc, World.size_setCell]; omega) | (solve | simp) | (solve | (simp; omega))))⟩
  · go_enter Try.func31, Try.ntmps31
    go_wp2
    all_goals
      go_ret2
      exact ⟨⟨_, by simp [h]; rfl⟩, by (repeat (first | with_reducible assumption | with_reducible exact Below.refl _ _ | with_reducible refine Below.setCell ?_ ?_ _ | with_reducible refine Below.alloc ?_ ?_ _ | with_reducible refine below_drewN' ?_ _ | with_reducible refine Below.drew ?_ | with_reducible refine Below.trans ?_ (Below.mono (by assumption) ?_) | omega | (dsimp only; omega) | (simp only [drew_heap', drewN_heap', World.size_alloc, World.size_setCell]; omega) | (solve | simp) | (solve | (simp; omega))))⟩
theorem errors1_body : Body Try.prog 30 := body_of Try.func30 (by kernel_rfl) (by kernel_rfl)
theorem errors1_any (x : Ev) (w : World) (hx : EvWf x) : Calls Try.prog 30 #[evV x] w fun e w' => e = .returned (.bool (isErr x)) ∧ Below w.heap.size w w' := by
  obtain ⟨h0, h1⟩ := u32_range hx.2.2.1
  replace h1 : x.2.2.1 < 4294967296 := by omega
  unfold isErr
  have HF := Lib.hid (fun W => failed_any x.2.2.1 W h0 h1)
  generalize decide (4294967282 ≤ x.2.2.1) = bb at *
  obtain ⟨p, m, r, u⟩ := x
  dsimp only at *
  go_enter Try.func30, Try.ntmps30
  go_wp2_with fail
  with_reducible refine (HF.out _).mono ?_
  rintro e w2 ⟨⟨k, rfl⟩, hb2⟩
  go_wp2_with fail
  go_ret
  exact ⟨rfl, by (repeat (first | with_reducible assumption | with_reducible exact Below.refl _ _ | with_reducible refine Below.setCell ?_ ?_ _ | with_reducible refine Below.alloc ?_ ?_ _ | with_reducible refine below_drewN' ?_ _ | with_reducible refine Below.drew ?_ | with_reducible refine Below.trans ?_ (Below.mono (by assumption) ?_) | omega | (dsimp only; omega) | (simp only [drew_heap', drewN_heap', World.size_alloc, World.size_setCell]; omega) | (solve | simp) | (solve | (simp; omega))))⟩
theorem errors1_pred (l : List Ev) (w : World) (hw : ∀ x ∈ l, EvWf x) : PredE Try.prog w 30 #[] #[] isErr l :=
  ⟨errors1_body, fun w' _ x hx => errors1_any x w' (hw x hx)⟩

def cntE (l : List Ev) (n : Int) : Nat := (l.filter fun x => decide (x.2.1 = n)).length
def errE (l : List Ev) : Nat := (l.filter isErr).length
set_option maxHeartbeats 2000000 in
theorem count_any (v : Value) (l : List Ev) (n : Int) (w : World) (hv : Sl w true 4 v (evs l)) :
    Calls Try.prog 14 #[v, .int .u32 n] w fun e w' => e = .returned (.int .i64 (cntE l n)) ∧ Below w.heap.size w w' := by
  have HV := Lib.hid hv
  obtain ⟨a, cap, rfl, hl⟩ := hv.shape
  rw [evs_len] at hl HV ⊢
  clear hv
  go_enter Try.func14, Try.ntmps14
  go_wp2_with fail
  have hc0 := cell_new w (.int .u32 n) 27
  generalize hW : w.alloc (.cells #[.int .u32 n] 27) = w0 at *
  have hb0 : Below w.heap.size w w0 := by subst hW; (repeat (first | with_reducible assumption | with_reducible exact Below.refl _ _ | with_reducible refine Below.setCell ?_ ?_ _ | with_reducible refine Below.alloc ?_ ?_ _ | with_reducible refine below_drewN' ?_ _ | with_reducible refine Below.drew ?_ | with_reducible refine Below.trans ?_ (Below.mono (by assumption) ?_) | omega | (dsimp only; omega) | (simp only [drew_heap', drewN_heap', World.size_alloc, World.size_setCell]; omega) | (solve | simp) | (solve | (simp; omega))))
  have hz0 : w0.heap.size = w.heap.size + 1 := by subst hW; simp
  with_reducible refine (of_any _ _ _ _ _ _ _).mono ?_
  rintro e w1 ⟨rfl, hw1⟩
  have hb1 : Below w0.heap.size w0 w1 := by subst hw1; (repeat (first | with_reducible assumption | with_reducible exact Below.refl _ _ | with_reducible refine Below.setCell ?_ ?_ _ | with_reducible refine Below.alloc ?_ ?_ _ | with_reducible refine below_drewN' ?_ _ | with_reducible refine Below.drew ?_ | with_reducible refine Below.trans ?_ (Below.mono (by assumption) ?_) | omega | (dsimp only; omega) | (simp only [drew_heap', drewN_heap', World.size_alloc, World.size_setCell]; omega) | (solve | simp) | (solve | (simp; omega))))
  have hz1 : w1.heap.size = w0.heap.size + 1 + 1 := by subst hw1; simp
  have hx1 : Box w1 w0.heap.size #[.slice a l.length cap] 22 := by subst hw1; exact (Box.new _ _ _).alloc _
  have hx2 : Box w1 (w0.heap.size + 1) #[.func (.func 29) #[] #[.pointer (some ⟨w.heap.size, 0, none⟩)]] 49 := by subst hw1; exact Box.new1 _ _ _ (by simp)
  have hcw := (World.cell?_of_block (a := ⟨w.heap.size, 0, none⟩) (hb1.block w.heap.size (by omega))).trans hc0
  have HC := Lib.hid (many_any 34 _ (l.filter fun x => decide (x.2.1 = n)) _ l.length w1 hl (body_of Try.func34 (by kernel_rfl) (by kernel_rfl)) (fun m hm => of_stops m _ _ _ _ _ _ _ l w1 hm (HV.out.below (hb0.trans (hb1.mono (by omega)))) (count1_pred l n w.heap.size w1 (by omega) hcw) hx1 hx2))
  clear hw1 hx1 hx2 hcw hc0 hW
  rw [hz0] at HC
  have hbw : Below w.heap.size w w1 := hb0.trans (hb1.mono (by omega))
  go_wp2_with fail
  with_reducible refine HC.out.mono ?_
  rintro e w2 ⟨rfl, hb2⟩
  go_wp2_with fail
  go_ret
  exact ⟨rfl, hbw.trans (hb2.mono (by omega))⟩
set_option maxHeartbeats 2000000 in
theorem errors_any (v : Value) (l : List Ev) (w : World) (hv : Sl w true 4 v (evs l)) (hw : ∀ x ∈ l, EvWf x) :
    Calls Try.prog 15 #[v] w fun e w' => e = .returned (.int .i64 (errE l)) ∧ Below w.heap.size w w' := by
  have HV := Lib.hid hv
  obtain ⟨a, cap, rfl, hl⟩ := hv.shape
  rw [evs_len] at hl HV ⊢
  clear hv
  go_enter Try.func15, Try.ntmps15
  go_wp2_with fail
  with_reducible refine (of_any _ _ _ _ _ _ _).mono ?_
  rintro e w1 ⟨rfl, hw1⟩
  have hb1 : Below w.heap.size w w1 := by subst hw1; (repeat (first | with_reducible assumption | with_reducible exact Below.refl _ _ | with_reducible refine Below.setCell ?_ ?_ _ | with_reducible refine Below.alloc ?_ ?_ _ | with_reducible refine below_drewN' ?_ _ | with_reducible refine Below.drew ?_ | with_reducible refine Below.trans ?_ (Below.mono (by assumption) ?_) | omega | (dsimp only; omega) | (simp only [drew_heap', drewN_heap', World.size_alloc, World.size_setCell]; omega) | (solve | simp) | (solve | (simp; omega))))
  have hz1 : w1.heap.size = w.heap.size + 1 + 1 := by subst hw1; simp
  have hx1 : Box w1 w.heap.size #[.slice a l.length cap] 22 := by subst hw1; exact (Box.new _ _ _).alloc _
  have hx2 : Box w1 (w.heap.size + 1) #[.func (.func 30) #[] #[]] 49 := by subst hw1; exact Box.new1 _ _ _ (by simp)
  have HC := Lib.hid (many_any 34 _ (l.filter isErr) _ l.length w1 hl (body_of Try.func34 (by kernel_rfl) (by kernel_rfl)) (fun m hm => of_stops m _ _ _ _ _ _ _ l w1 hm (HV.out.below hb1) (errors1_pred l w1 hw) hx1 hx2))
  clear hw1 hx1 hx2
  go_wp2_with fail
  with_reducible refine HC.out.mono ?_
  rintro e w2 ⟨rfl, hb2⟩
  go_wp2_with fail
  go_ret
  exact ⟨rfl, hb1.trans (hb2.mono (by omega))⟩

/-- No time is less than the one ahead of it. -/
def Rise (l : List Ev) : Prop := ∀ (j : Nat) (x y : Ev), l[j]? = some x → l[j + 1]? = some y → x.2.2.2 ≤ y.2.2.2
open Classical in
noncomputable def riseB (l : List Ev) : Bool := decide (Rise l)
theorem riseB_iff (l : List Ev) : riseB l = true ↔ Rise l := by simp [riseB]

set_option maxHeartbeats 2000000 in
theorem rises_any (v : Value) (l : List Ev) (w : World) (hv : Sl w true 4 v (evs l)) :
    Calls Try.prog 16 #[v] w fun e w' => e = .returned (.bool (riseB l)) ∧ Below w.heap.size w w' := by
  have HV := Lib.hid hv
  obtain ⟨a, cap, rfl, hl⟩ := hv.shape
  rw [evs_len] at hl HV ⊢
  clear hv
  go_enter Try.func16, Try.ntmps16
  go_wp2_with fail
  go_loopw [3] (fun t W => ∃ i : Nat, i ≤ l.length ∧ t = .int .i64 ((i : Int) + 1) ∧ (0 < i → i < l.length) ∧ Below w.heap.size w W ∧ ∀ (j : Nat) (x y : Ev), j < i → l[j]? = some x → l[j + 1]? = some y → x.2.2.2 ≤ y.2.2.2) (fun t _ => l.length + 1 - (intOf t).toNat)
  case atStart => exact ⟨0, Nat.zero_le _, rfl, by omega, Below.refl _ _, by omega⟩
  case round =>
    obtain ⟨i, hi, rfl, hi2, hbx, hprev⟩ := hrel
    have HPR := Lib.hid hprev
    clear hprev
    have hws := hbx.size
    by_cases hlt : i + 1 < l.length
    · obtain ⟨x, hx⟩ : ∃ x, l[i]? = some x := ⟨_, List.getElem?_eq_getElem (by omega)⟩
      obtain ⟨y, hy⟩ : ∃ y, l[i + 1]? = some y := ⟨_, List.getElem?_eq_getElem hlt⟩
      obtain ⟨b, off, rfl, hb, c0, c1, c2, c3⟩ := Sl.ev (HV.out.below hbx) hx
      obtain ⟨_, _, he, hb2, e0, e1, e2, e3⟩ := Sl.ev (HV.out.below hbx) hy
      simp only [Option.some.injEq, Addr.mk.injEq, and_true] at he
      obtain ⟨rfl, rfl⟩ := he
      have hwr : IntKind.i64.wrap ((i : Int) + 1 + 1) = i + 1 + 1 := IntWalk.i64_in _ (by omega)
      have hws1 : IntKind.i64.wrap ((i : Int) + 1 - 1) = i := by rw [IntWalk.i64_in _ (by omega)]; omega
      have hlt' : (i : Int) + 1 < l.length := by omega
      have g0 := cell_rg c3 hb
      have g1 := cell_rg e3 hb2
      have HX := Lib.hid (And.intro hx hy)
      clear hx hy
      by_cases hc : y.2.2.2 < x.2.2.2
      · have hcd : decide (y.2.2.2 < x.2.2.2) = true := by simpa using hc
        go_wp2_with fail
        ((refine wp_region_quiet_below (by kernel_rfl) (by kernel_rfl) ?_); (repeat (go_big_quiet_step (fail))); (refine wpQuiet_nil ?_); (intro _ hw'); (obtain ⟨⟨dq, osq⟩, hw''⟩ := hw'); (subst hw''); (have hb7 := below_regrown wr dq osq); (generalize Go.Sort.grow (redrawn wr dq) osq = w7 at *); (have hz7 := hb7.size))
        clear g0 g1
        go_wp2_with fail
        go_ret
        refine ⟨?_, hbx.trans (hb7.mono hws)⟩
        have : riseB l = false := by
          rw [Bool.eq_false_iff]
          intro h
          have := (riseB_iff l).1 h i x y HX.out.1 HX.out.2
          omega
        rw [this]; rfl
      · have hcd : decide (y.2.2.2 < x.2.2.2) = false := by simpa using hc
        go_wp2_with fail
        ((refine wp_region_quiet_below (by kernel_rfl) (by kernel_rfl) ?_); (repeat (go_big_quiet_step (fail))); (refine wpQuiet_nil ?_); (intro _ hw'); (obtain ⟨⟨dq, osq⟩, hw''⟩ := hw'); (subst hw''); (have hb7 := below_regrown wr dq osq); (generalize Go.Sort.grow (redrawn wr dq) osq = w7 at *); (have hz7 := hb7.size))
        clear g0 g1
        go_wp2_with fail
        refine ⟨⟨i + 1, by omega, by go_num, by omega, hbx.trans (hb7.mono hws), ?_⟩, by simp [intOf]; omega⟩
        intro j x' y' hj hx' hy'
        rcases Nat.lt_succ_iff_lt_or_eq.1 hj with hj | rfl
        · exact HPR.out j x' y' hj hx' hy'
        · rw [HX.out.1] at hx'; rw [HX.out.2] at hy'; cases hx'; cases hy'; omega
    · have hlt' : ¬ (i : Int) + 1 < l.length := by omega
      go_wp2_with fail
      go_ret
      refine ⟨?_, hbx⟩
      have : riseB l = true := by
        rw [riseB_iff]
        intro j x y hx hy
        have : j + 1 < l.length := (List.getElem?_eq_some_iff.1 hy).1
        exact HPR.out j x y (by omega) hx hy
      rw [this]; rfl

theorem ev_plain (x : Ev) (h : EvWf x) : Plain Try.prog 29 #[.int .i64 x.1, .int .u32 x.2.1, .int .u32 x.2.2.1, .int .u64 x.2.2.2] [.int .i64 x.1, .int .u32 x.2.1, .int .u32 x.2.2.1, .int .u64 x.2.2.2] := by
  refine ⟨by kernel_rfl, 5, ?_⟩
  have h1 : Try.prog.cellsOf 29 = 4 := by kernel_rfl
  have h2 : Try.prog.cellsOf 25 = 1 := by kernel_rfl
  have h3 : Try.prog.cellsOf 3 = 1 := by kernel_rfl
  have h4 : Try.prog.cellsOf 27 = 1 := by kernel_rfl
  simp [Program.keyLits, Try.underlying29, Try.underlying25, Try.underlying3, Try.underlying27, h1, h2, h3, h4, h.1, h.2.1, h.2.2.1, h.2.2.2]
theorem eql_ev (x y : Ev) (hx : EvWf x) (hy : EvWf y) (b : Bool) (hb : b = true ↔ x = y) :
    ∀ w, (Op.equalIn 10000 29 (.agg #[.int .i64 x.1, .int .u32 x.2.1, .int .u32 x.2.2.1, .int .u64 x.2.2.2]) (.agg #[.int .i64 y.1, .int .u32 y.2.1, .int .u32 y.2.2.1, .int .u64 y.2.2.2])).run Try.prog w = .ok b w := by
  refine run_eql_plain (m := 5) (by omega) (by kernel_rfl) (by kernel_rfl) (ev_plain x hx) (ev_plain y hy) b ?_
  rw [hb]
  obtain ⟨a1, a2, a3, a4⟩ := x
  obtain ⟨c1, c2, c3, c4⟩ := y
  simp
theorem two_new (w : World) (s t : Int) : Sl (w.alloc (.cells #[.int .i64 1, .int .u32 0, .int .u32 0, .int .u64 s, .int .i64 1, .int .u32 0, .int .u32 0, .int .u64 t] 29)) true 4 (.slice (some ⟨w.heap.size, 0, none⟩) 2 2) (evs [(1, 0, 0, s), (1, 0, 0, t)]) :=
  (Owned.made2 (base := 0) (ev_val (1, 0, 0, s)) (ev_val (1, 0, 0, t)) (Nat.zero_le _)).sl
set_option maxHeartbeats 2000000 in
theorem shown_any (w : World) : Calls Try.prog 9 #[] w fun e w' => e = .returned (.bool true) ∧ Below w.heap.size w w' := by
  have hG := fun v W h => gap_any v [(1, 0, 0, 3), (1, 0, 0, 8)] 1 W h (by decide)
  rw [show gapM (ofP [(1, 0, 0, 3), (1, 0, 0, 8)] 1) ((ofP [(1, 0, 0, 3), (1, 0, 0, 8)] 1).length - 1) = 5 from by decide] at hG
  have HG := Lib.hid hG
  clear hG
  go_enter Try.func9, Try.ntmps9
  go_wp2_with fail
  with_reducible refine (HG.out _ _ (two_new w 3 8)).mono ?_
  rintro e w2 ⟨rfl, hb2⟩
  have hbw : Below w.heap.size w w2 := by (repeat (first | with_reducible assumption | with_reducible exact Below.refl _ _ | with_reducible refine Below.setCell ?_ ?_ _ | with_reducible refine Below.alloc ?_ ?_ _ | with_reducible refine below_drewN' ?_ _ | with_reducible refine Below.drew ?_ | with_reducible refine Below.trans ?_ (Below.mono (by assumption) ?_) | omega | (dsimp only; omega) | (simp only [drew_heap', drewN_heap', World.size_alloc, World.size_setCell]; omega) | (solve | simp) | (solve | (simp; omega))))
  go_wp2_with fail
  go_ret
  exact ⟨rfl, hbw⟩
end Go.Proofs.Ytnjhnkbjbkbnoaa
