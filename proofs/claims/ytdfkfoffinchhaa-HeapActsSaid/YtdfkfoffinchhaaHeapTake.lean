/- heap.Holes, Left: what they answer. Conditions: lengths within the reach. -/
import Derived.Test.YtdfkfoffinchhaaHeapSeq
namespace Go.Proofs.Ytdfkfoffinchhaa
open Go Go.RowKit Go.Tm
set_option linter.unusedVariables false
set_option linter.unusedSimpArgs false
attribute [local go_sem] Oper.semAt_some

noncomputable def holesB (size : Int) (l : List Sp) : List Sp := if rightB size l = true then holesS size l else []
theorem holesB_true {size : Int} {l : List Sp} (h : RightP size l) : holesB size l = holesS size l := by unfold holesB; rw [if_pos (rightB_true h)]
theorem holesB_false {size : Int} {l : List Sp} (h : ¬ RightP size l) : holesB size l = [] := by unfold holesB; rw [if_neg (by rw [rightB_false h]; simp)]
theorem holesG_pos {a : Int} {m : List Sp} {x : Sp} (h : x ∈ holesG a m) : 1 ≤ x.2.1 := by
  induction m generalizing a with
  | nil => simp [holesG] at h
  | cons s r ih =>
    rcases List.mem_append.1 (show x ∈ hole a s ++ holesG (s.1 + s.2.1) r from h) with h | h
    · exact (hole_mem h).2.1
    · exact ih h
theorem holesB_len (size : Int) (l : List Sp) : (holesB size l).length ≤ l.length + 1 := by
  unfold holesB
  split
  · exact Nat.le_trans (holes_len _ _) (by simp)
  · simp
theorem sumN_pos {m : List Sp} (h : ∀ x ∈ m, 1 ≤ x.2.1) : 0 ≤ sumN m := by
  induction m with
  | nil => simp [sumN]
  | cons s r ih =>
    rw [sumN_cons]
    have := h s List.mem_cons_self
    have := ih (fun x hx => h x (List.mem_cons_of_mem _ hx))
    omega
theorem holesB_sum {size : Int} {l : List Sp} (i : Nat) (hs : (Lit.int .i64 size).wf = true) : 0 ≤ sumN ((holesB size l).take i) ∧ sumN ((holesB size l).take i) ≤ 9223372036854775807 := by
  have hsz : -9223372036854775808 ≤ size ∧ size ≤ 9223372036854775807 := by simpa [Lit.wf, IntKind.min, IntKind.max, IntKind.bits, IntKind.signed] using hs
  by_cases h : RightP size l
  · rw [holesB_true h]
    have hp : ∀ x ∈ holesS size l, 1 ≤ x.2.1 := fun x hx => holesG_pos hx
    have h1 := sumN_pos (m := (holesS size l).take i) (fun x hx => hp x (List.mem_of_mem_take hx))
    have h2 := sumN_pos (m := (holesS size l).drop i) (fun x hx => hp x (List.mem_of_mem_drop hx))
    have h3 := sumN_append ((holesS size l).take i) ((holesS size l).drop i)
    rw [List.take_append_drop, sum_all h] at h3
    have h4 := sumN_nonneg h.1
    exact ⟨h1, by omega⟩
  · rw [holesB_false h]
    simp [sumN]
theorem sumN_step {m : List Sp} {i : Nat} {x : Sp} (h : m[i]? = some x) : sumN (m.take (i + 1)) = sumN (m.take i) + x.2.1 := by
  rw [take_step h, sumN_append]; simp [sumN]
theorem holes1_body : Body Try.prog 37 := body_of Try.func37 (by kernel_rfl) (by kernel_rfl)

set_option maxHeartbeats 1000000 in
theorem holesC_any (size : Int) (v : Value) (l : List Sp) (w : World) (hv : Sl w true 3 v (sps l)) (hs : (Lit.int .i64 size).wf = true) (hw : ∀ x ∈ l, SpWf x) (hby : (l.length + 1) * 24 ≤ 140737488355328) :
    Calls Try.prog 15 #[.agg #[.int .i64 size, v]] w fun e w' => ∃ v', e = .returned v' ∧ Owned w' w.heap.size 31 true 3 v' (sps (holesB size l)) ∧ Below w.heap.size w w' := by
  have HV := Lib.hid hv
  have HR := Lib.hid (fun W h => right_any size v l W h hs hw)
  have HS := Lib.hid hs
  obtain ⟨a, cap, rfl, hl⟩ := hv.shape
  rw [sps_len] at hl HV HR ⊢
  clear hv hw hs
  go_enter Try.func15, Try.ntmps15
  go_wp2_with fail
  with_reducible refine (HR.out _ (HV.out.below (by (repeat (first | with_reducible assumption | with_reducible exact Below.refl _ _ | with_reducible refine Below.setCell ?_ ?_ _ | with_reducible refine Below.alloc ?_ ?_ _ | with_reducible refine below_drewN' ?_ _ | with_reducible refine Below.drew ?_ | with_reducible refine Below.trans ?_ (Below.mono (by assumption) ?_) | omega | (dsimp only; omega) | (simp only [drew_heap', drewN_heap', World.size_alloc, World.size_setCell]; omega) | (solve | simp) | (solve | (simp; omega))))))).mono ?_
  rintro e w1 ⟨rfl, hb1⟩
  have hz1 := hb1.size
  simp only [World.size_alloc] at hz1
  have hbx : Box w1 w.heap.size #[.int .i64 size, .slice a l.length cap] 24 := (Box.new _ _ _).below hb1 (by simp)
  have hbw1 : Below w.heap.size w w1 := by (repeat (first | with_reducible assumption | with_reducible exact Below.refl _ _ | with_reducible refine Below.setCell ?_ ?_ _ | with_reducible refine Below.alloc ?_ ?_ _ | with_reducible refine below_drewN' ?_ _ | with_reducible refine Below.drew ?_ | with_reducible refine Below.trans ?_ (Below.mono (by assumption) ?_) | omega | (dsimp only; omega) | (simp only [drew_heap', drewN_heap', World.size_alloc, World.size_setCell]; omega) | (solve | simp) | (solve | (simp; omega))))
  obtain ⟨c1, f1, l1, n1, m1⟩ := hbx.rules
  clear hb1 hbx
  by_cases hr : RightP size l
  · rw [rightB_true hr]
    have HQ := Lib.hid (holesB_true hr)
    have HRR := Lib.hid hr
    clear hr
    go_wp2_with fail
    with_reducible refine (holes_any _ _ _).mono ?_
    rintro e w2 ⟨rfl, hw2⟩
    have hb2 : Below w1.heap.size w1 w2 := by subst hw2; (repeat (first | with_reducible assumption | with_reducible exact Below.refl _ _ | with_reducible refine Below.setCell ?_ ?_ _ | with_reducible refine Below.alloc ?_ ?_ _ | with_reducible refine below_drewN' ?_ _ | with_reducible refine Below.drew ?_ | with_reducible refine Below.trans ?_ (Below.mono (by assumption) ?_) | omega | (dsimp only; omega) | (simp only [drew_heap', drewN_heap', World.size_alloc, World.size_setCell]; omega) | (solve | simp) | (solve | (simp; omega))))
    have hbx2 : Box w2 w1.heap.size #[.int .i64 size, .slice a l.length cap] 24 := by subst hw2; exact Box.new _ _ _
    have hz2 := hbx2.lt
    clear hw2
    have hbw2 : Below w.heap.size w w2 := hbw1.trans (hb2.mono hbw1.size)
    have HSEQ := Lib.hid (fun n (hn : 1 ≤ n) => holes_stops n w2.heap.size w1.heap.size (.slice a l.length cap) size l (w2.alloc (.cells #[.slice none 0 0] 22)) hn (by simp) (fun b h => Feet.lt (Box.new _ _ _) rfl rfl h) HRR.out HS.out hby (fun W h => HV.out.below ((hbw2.alloc hbw2.size _).trans (h.1.mono hbw2.size))) (fun W h => (hbx2.alloc _).below h.1 hz2))
    clear hbx2
    go_wp2_with fail
    with_reducible refine (collect_span _ _ _ _ _ w2 hby holes1_body HSEQ.out).mono ?_
    rintro e w3 ⟨v3, rfl, ho3, hb3⟩
    have HO := Lib.hid ho3
    clear ho3
    go_wp2_with fail
    go_ret
    exact ⟨_, rfl, by rw [HQ.out]; exact HO.out.le hbw2.size, hbw2.trans (hb3.mono hbw2.size)⟩
  · rw [rightB_false hr]
    have HQ := Lib.hid (holesB_false hr)
    clear hr
    go_wp2_with fail
    go_ret
    exact ⟨_, rfl, by rw [HQ.out]; exact Owned.nil, hbw1⟩

set_option maxHeartbeats 1000000 in
theorem left_any (size : Int) (v : Value) (l : List Sp) (w : World) (hv : Sl w true 3 v (sps l)) (hs : (Lit.int .i64 size).wf = true) (hw : ∀ x ∈ l, SpWf x) (hby : (l.length + 1) * 24 ≤ 140737488355328) :
    Calls Try.prog 20 #[.agg #[.int .i64 size, v]] w fun e w' => e = .returned (.int .i64 (sumN (holesB size l))) ∧ Below w.heap.size w w' := by
  have HV := Lib.hid hv
  have HC := Lib.hid (fun W h => holesC_any size v l W h hs hw hby)
  have HSUM := Lib.hid (fun i => holesB_sum (l := l) i hs)
  have hlen := holesB_len size l
  obtain ⟨a, cap, rfl, hl⟩ := hv.shape
  rw [sps_len] at hl HV HC ⊢
  clear hv hw hs
  generalize holesB size l = m at *
  go_enter Try.func20, Try.ntmps20
  go_wp2_with fail
  with_reducible refine (HC.out _ (HV.out.below (by (repeat (first | with_reducible assumption | with_reducible exact Below.refl _ _ | with_reducible refine Below.setCell ?_ ?_ _ | with_reducible refine Below.alloc ?_ ?_ _ | with_reducible refine below_drewN' ?_ _ | with_reducible refine Below.drew ?_ | with_reducible refine Below.trans ?_ (Below.mono (by assumption) ?_) | omega | (dsimp only; omega) | (simp only [drew_heap', drewN_heap', World.size_alloc, World.size_setCell]; omega) | (solve | simp) | (solve | (simp; omega))))))).mono ?_
  rintro e w1 ⟨v1, rfl, ho1, hb1⟩
  have hz1 := hb1.size
  simp only [World.size_alloc] at hz1
  have hbw1 : Below w.heap.size w w1 := by (repeat (first | with_reducible assumption | with_reducible exact Below.refl _ _ | with_reducible refine Below.setCell ?_ ?_ _ | with_reducible refine Below.alloc ?_ ?_ _ | with_reducible refine below_drewN' ?_ _ | with_reducible refine Below.drew ?_ | with_reducible refine Below.trans ?_ (Below.mono (by assumption) ?_) | omega | (dsimp only; omega) | (simp only [drew_heap', drewN_heap', World.size_alloc, World.size_setCell]; omega) | (solve | simp) | (solve | (simp; omega))))
  have HO := Lib.hid ho1.sl
  obtain ⟨a1, cap1, rfl, hl1⟩ := ho1.sl.shape
  rw [sps_len] at HO hl1 ⊢
  clear ho1 hb1
  go_wp2_with fail
  go_loopw [3, 9] (fun s t W => ∃ i : Nat, i ≤ m.length ∧ t = .int .i64 i ∧ s = .int .i64 (sumN (m.take i)) ∧ Below w1.heap.size w1 W) (fun _ t _ => m.length - (intOf t).toNat)
  case atStart => exact ⟨0, Nat.zero_le _, rfl, rfl, Below.refl _ _⟩
  case round =>
    obtain ⟨i, hi, rfl, rfl, hbw⟩ := hrel
    have hwz := hbw.size
    by_cases hlt : i < m.length
    · obtain ⟨x, hx⟩ : ∃ x, m[i]? = some x := ⟨_, List.getElem?_eq_getElem hlt⟩
      obtain ⟨b, off, rfl, hb, c0, c1, c2⟩ := Sl.sp (HO.out.below hbw) hx
      have HN := Lib.hid (sumN_step hx)
      have h1 := HSUM.out (i + 1)
      rw [HN.out] at h1
      have hwr : IntKind.i64.wrap ((i : Int) + 1) = i + 1 := IntWalk.i64_in _ (by omega)
      clear hx
      obtain ⟨p, q, u⟩ := x
      dsimp only at h1 c0 c1 c2
      have hws : IntKind.i64.wrap (sumN (m.take i) + q) = sumN (m.take i) + q := IntWalk.i64_in _ (by omega)
      go_wp2_with fail
      go_roundw
      case rel => exact ⟨i + 1, by omega, by go_num, by rw [HN.out], by (repeat (first | with_reducible assumption | with_reducible exact Below.refl _ _ | with_reducible refine Below.setCell ?_ ?_ _ | with_reducible refine Below.alloc ?_ ?_ _ | with_reducible refine below_drewN' ?_ _ | with_reducible refine Below.drew ?_ | with_reducible refine Below.trans ?_ (Below.mono (by assumption) ?_) | omega | (dsimp only; omega) | (simp only [drew_heap', drewN_heap', World.size_alloc, World.size_setCell]; omega) | (solve | simp) | (solve | (simp; omega))))⟩
      case measure => simp [intOf]; omega
    · obtain rfl : i = m.length := by omega
      go_wp2_with fail
      go_ret
      exact ⟨by first | rfl | simp, hbw1.trans (hbw.mono hbw1.size)⟩
end Go.Proofs.Ytdfkfoffinchhaa
