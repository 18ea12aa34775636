/- The functions of package turn: what they answer. Conditions: lengths within the reach. -/
import Derived.Test.YtbehjbiicopgpaaTurnLib2
import Derived.StillTail
import Derived.Test.YtbehjbiicopgpaaQTail
namespace Go.Proofs.Ytbehjbiicopgpaa
open Go Go.RowKit Go.Tm
set_option linter.unusedVariables false
set_option linter.unusedSimpArgs false

/-- What a row of the call's own or a caller's reads as, with what is left. -/
def yieldS (l : List Int) (n : Int) : List Int × Int := match l with | [] => ([], n) | x :: r => (r ++ [x], 5)
def spendS (l : List Int) (n : Int) : List Int × Int := if l = [] then (l, n) else if wrap64 (n - 1) ≤ 0 then yieldS l (wrap64 (n - 1)) else (l, wrap64 (n - 1))
def addS (l : List Int) (n pid : Int) : List Int × Int := if pid ∈ l then (l, n) else (l ++ [pid], if l = [] then 5 else n)
def dropS (l : List Int) (n pid : Int) : List Int × Int := if pid ∈ l then (l.filter (fun x => decide (x ≠ pid)), if l.head? = some pid then 5 else n) else (l, n)

theorem joined_any (v1 v2 : Value) (l1 l2 : List Int) (B : Nat) (w : World) (h1 : Sl w false 1 v1 (ints l1)) (h2 : Sl w false 1 v2 (ints l2)) (hB : B < w.heap.size)
    (c0 : w.cell? ⟨B, 0, none⟩ = some v1) (c1 : w.cell? ⟨B, 1, none⟩ = some v2) (hby : (l1.length + l2.length) * 8 ≤ 140737488355328) :
    Calls Try.prog 16 #[.slice (some ⟨B, 0, none⟩) 2 2] w fun e w' => ∃ v', e = .returned v' ∧ Owned w' w.heap.size 3 false 1 v' (ints (l1 ++ l2)) ∧ Below w.heap.size w w' := by
  have hC := concat_int v1 v2 l1 l2 B w h1 h2 hB c0 c1 hby
  clear h1 h2 c0 c1
  go_enter Try.func16, Try.ntmps16
  go_wp2_with fail
  with_reducible refine hC.mono ?_
  rintro e w1 ⟨v1, rfl, ho, hb1⟩
  have HO := Lib.hid ho
  clear ho
  go_wp2_with fail
  go_ret
  exact ⟨_, rfl, HO.out, hb1⟩

theorem first_any (v : Value) (l : List Int) (n : Int) (w : World) (hv : Sl w false 1 v (ints l)) :
    Calls Try.prog 11 #[.agg #[v, .int .i64 n]] w fun e w' => e = .returned (.tuple #[.int .i64 (l.headD 0), .bool (decide (l ≠ []))]) ∧ Below w.heap.size w w' := by
  have HV := Lib.hid hv
  obtain ⟨a, cap, rfl, hl⟩ := hv.shape
  rw [ints_len] at hl HV hv ⊢
  cases l with
  | nil =>
    clear hv
    go_enter Try.func11, Try.ntmps11
    go_wp2_with fail
    exact bodyPost_ret (v := .tuple #[.int .i64 0, .bool false]) (by simp [results, Try.results11, go_sem]) rfl ⟨rfl, by (repeat (first | with_reducible assumption | with_reducible exact Below.refl _ _ | with_reducible refine Below.setCell ?_ ?_ _ | with_reducible refine Below.alloc ?_ ?_ _ | with_reducible refine below_drewN' ?_ _ | with_reducible refine Below.drew ?_ | with_reducible refine Below.trans ?_ (Below.mono (by assumption) ?_) | omega | (dsimp only; omega) | (simp only [drew_heap', drewN_heap', World.size_alloc, World.size_setCell]; omega) | (solve | simp) | (solve | (simp; omega))))⟩
  | cons x r =>
    obtain ⟨b, off, rfl, hb, hcell⟩ := hv.at (i := 0) (x := .int .i64 x) rfl
    have c0 : w.cell? ⟨b, off, none⟩ = some (.int .i64 x) := by have := hcell 0 _ rfl; simpa using this
    clear hcell hv
    have hnb : ¬ b = w.heap.size := by omega
    go_enter Try.func11, Try.ntmps11
    go_wp2_with fail
    exact bodyPost_ret (v := .tuple #[.int .i64 x, .bool true]) (by simp [results, Try.results11, go_sem]) rfl ⟨by simp, by (repeat (first | with_reducible assumption | with_reducible exact Below.refl _ _ | with_reducible refine Below.setCell ?_ ?_ _ | with_reducible refine Below.alloc ?_ ?_ _ | with_reducible refine below_drewN' ?_ _ | with_reducible refine Below.drew ?_ | with_reducible refine Below.trans ?_ (Below.mono (by assumption) ?_) | omega | (dsimp only; omega) | (simp only [drew_heap', drewN_heap', World.size_alloc, World.size_setCell]; omega) | (solve | simp) | (solve | (simp; omega))))⟩

set_option maxHeartbeats 2000000 in
theorem yield_any (v : Value) (l : List Int) (n : Int) (w : World) (hv : Sl w false 1 v (ints l)) (hby : l.length * 8 ≤ 140737488351232) :
    Calls Try.prog 12 #[.agg #[v, .int .i64 n]] w fun e w' => ∃ v', e = .returned (.agg #[v', .int .i64 (yieldS l n).2]) ∧ Sl w' false 1 v' (ints (yieldS l n).1) ∧ Res w.heap.size v (ints l) v' (ints (yieldS l n).1) ∧ Below w.heap.size w w' := by
  have HV := Lib.hid hv
  cases l with
  | nil =>
    obtain ⟨a, cap, rfl, hl⟩ := hv.shape
    clear hv
    go_enter Try.func12, Try.ntmps12
    go_wp2_with fail
    exact bodyPost_ret (v := .agg #[.slice a 0 cap, .int .i64 n]) (by simp [results, Try.results12, go_sem]) rfl ⟨_, rfl, HV.out.below (by (repeat (first | with_reducible assumption | with_reducible exact Below.refl _ _ | with_reducible refine Below.setCell ?_ ?_ _ | with_reducible refine Below.alloc ?_ ?_ _ | with_reducible refine below_drewN' ?_ _ | with_reducible refine Below.drew ?_ | with_reducible refine Below.trans ?_ (Below.mono (by assumption) ?_) | omega | (dsimp only; omega) | (simp only [drew_heap', drewN_heap', World.size_alloc, World.size_setCell]; omega) | (solve | simp) | (solve | (simp; omega))))), Res.same, by (repeat (first | with_reducible assumption | with_reducible exact Below.refl _ _ | with_reducible refine Below.setCell ?_ ?_ _ | with_reducible refine Below.alloc ?_ ?_ _ | with_reducible refine below_drewN' ?_ _ | with_reducible refine Below.drew ?_ | with_reducible refine Below.trans ?_ (Below.mono (by assumption) ?_) | omega | (dsimp only; omega) | (simp only [drew_heap', drewN_heap', World.size_alloc, World.size_setCell]; omega) | (solve | simp) | (solve | (simp; omega))))⟩
  | cons x r =>
    obtain ⟨u1, hr1, hs1⟩ := hv.run_drop (t := 22) ty_int Try.underlying22 1 1 rfl (by simp)
    obtain ⟨u2, hr2, hs2⟩ := hv.run_take (t := 22) ty_int Try.underlying22 1 1 rfl (by simp)
    replace hs1 : Sl w false 1 u1 (ints r) := hs1
    replace hs2 : Sl w false 1 u2 (ints [x]) := hs2
    obtain ⟨a1, cap1, rfl, hl1⟩ := hs1.shape
    obtain ⟨a2, cap2, rfl, hl2⟩ := hs2.shape
    rw [ints_len] at hs1 hs2 hr1 hr2
    have HS1 := Lib.hid hs1
    have HS2 := Lib.hid hs2
    obtain ⟨a, cap, rfl, hl⟩ := hv.shape
    rw [ints_len] at hl HV hv hr1 hr2 ⊢
    simp only [List.length_cons, List.length_nil] at hr1 hr2 HS1 HS2 ⊢
    clear hv hs1 hs2
    go_enter Try.func12, Try.ntmps12
    go_wp2_with fail
    generalize hW2 : (w.alloc _).alloc _ = w2
    have hb2 : Below w.heap.size w w2 := by rw [← hW2]; (repeat (first | with_reducible assumption | with_reducible exact Below.refl _ _ | with_reducible refine Below.setCell ?_ ?_ _ | with_reducible refine Below.alloc ?_ ?_ _ | with_reducible refine below_drewN' ?_ _ | with_reducible refine Below.drew ?_ | with_reducible refine Below.trans ?_ (Below.mono (by assumption) ?_) | omega | (dsimp only; omega) | (simp only [drew_heap', drewN_heap', World.size_alloc, World.size_setCell]; omega) | (solve | simp) | (solve | (simp; omega))))
    have hz2 : w2.heap.size = w.heap.size + 1 + 1 := by rw [← hW2]; simp
    have k1 : Box w2 w.heap.size #[.slice a (r.length + 1) cap, .int .i64 n] 24 := by rw [← hW2]; ((apply Box.cast); (repeat (first | with_reducible assumption | ((with_reducible apply Box.new1); (first | with_reducible rfl | rfl | (solve | simp))) | with_reducible apply Box.drewN | with_reducible apply Box.drew | with_reducible apply Box.set | with_reducible apply Box.other | with_reducible apply Box.alloc | (with_reducible apply Box.below; rotate_left; with_reducible assumption; rotate_right) | with_reducible rfl | omega | (dsimp only; omega) | (simp only [drew_heap', drewN_heap', World.size_alloc, World.size_setCell]; omega) | rfl | (solve | simp) | (solve | (simp; omega)))))
    have k2 : Box w2 (w.heap.size + 1) #[.slice none 0 0, .int .i64 0] 24 := by rw [← hW2]; ((apply Box.cast); (repeat (first | with_reducible assumption | ((with_reducible apply Box.new1); (first | with_reducible rfl | rfl | (solve | simp))) | with_reducible apply Box.drewN | with_reducible apply Box.drew | with_reducible apply Box.set | with_reducible apply Box.other | with_reducible apply Box.alloc | (with_reducible apply Box.below; rotate_left; with_reducible assumption; rotate_right) | with_reducible rfl | omega | (dsimp only; omega) | (simp only [drew_heap', drewN_heap', World.size_alloc, World.size_setCell]; omega) | rfl | (solve | simp) | (solve | (simp; omega)))))
    have K2 := Lib.hid k2
    have kr := k1.regrown
    clear hW2 k1 k2
    ((refine wp_region_below_tail 6 (by kernel_rfl) (by kernel_rfl) ?_); (simp only [List.take_succ_cons, List.take_zero, List.drop_succ_cons, List.drop_zero]); (repeat (go_big_quiet_step (fail))); (refine wpQuiet_nil ?_); (intro _ hw'); (obtain ⟨⟨dq, osq⟩, hw''⟩ := hw'); (subst hw''); (have hq := below_regrown w2 dq osq); (generalize Go.Sort.grow (redrawn w2 dq) osq = w3 at *); (have hz3 := hq.size))
    (have b3 : Box w3 (w.heap.size + 1) #[.slice none 0 0, .int .i64 0] 24 := (by (try have k3 := K2.out); ((apply Box.cast); (repeat (first | with_reducible assumption | ((with_reducible apply Box.new1); (first | with_reducible rfl | rfl | (solve | simp))) | with_reducible apply Box.drewN | with_reducible apply Box.drew | with_reducible apply Box.set | with_reducible apply Box.other | with_reducible apply Box.alloc | (with_reducible apply Box.below; rotate_left; with_reducible assumption; rotate_right) | with_reducible rfl | omega | (dsimp only; omega) | (simp only [drew_heap', drewN_heap', World.size_alloc, World.size_setCell]; omega) | rfl | (solve | simp) | (solve | (simp; omega))))))); (obtain ⟨hc3, hf3, hl3, hn3, hm3⟩ := b3.rules); (have K3 := Lib.hid b3); (clear b3)
    clear kr
    go_wp2_with fail
    have hJ := fun W h1 h2 hB c0 c1 => joined_any (.slice a1 r.length cap1) (.slice a2 (0 + 1) cap2) r [x] w3.heap.size W h1 h2 hB c0 c1 (by simp; simp at hby; omega)
    with_reducible refine (hJ _ (HS1.out.below ?_) (HS2.out.below ?_) ?_ ?_ ?_).mono ?_
    focus (repeat (first | with_reducible assumption | with_reducible exact Below.refl _ _ | with_reducible refine Below.setCell ?_ ?_ _ | with_reducible refine Below.alloc ?_ ?_ _ | with_reducible refine below_drewN' ?_ _ | with_reducible refine Below.drew ?_ | with_reducible refine Below.trans ?_ (Below.mono (by assumption) ?_) | omega | (dsimp only; omega) | (simp only [drew_heap', drewN_heap', World.size_alloc, World.size_setCell]; omega) | (solve | simp) | (solve | (simp; omega))))
    focus (repeat (first | with_reducible assumption | with_reducible exact Below.refl _ _ | with_reducible refine Below.setCell ?_ ?_ _ | with_reducible refine Below.alloc ?_ ?_ _ | with_reducible refine below_drewN' ?_ _ | with_reducible refine Below.drew ?_ | with_reducible refine Below.trans ?_ (Below.mono (by assumption) ?_) | omega | (dsimp only; omega) | (simp only [drew_heap', drewN_heap', World.size_alloc, World.size_setCell]; omega) | (solve | simp) | (solve | (simp; omega))))
    focus simp
    focus simp
    focus simp
    rintro e w4 ⟨v4, rfl, ho4, hb4⟩
    have hz4 := hb4.size
    simp only [World.size_alloc] at hz4
    (have b4 : Box w4 (w.heap.size + 1) #[.slice none 0 0, .int .i64 0] 24 := (by (try have k4 := K3.out); ((apply Box.cast); (repeat (first | with_reducible assumption | ((with_reducible apply Box.new1); (first | with_reducible rfl | rfl | (solve | simp))) | with_reducible apply Box.drewN | with_reducible apply Box.drew | with_reducible apply Box.set | with_reducible apply Box.other | with_reducible apply Box.alloc | (with_reducible apply Box.below; rotate_left; with_reducible assumption; rotate_right) | with_reducible rfl | omega | (dsimp only; omega) | (simp only [drew_heap', drewN_heap', World.size_alloc, World.size_setCell]; omega) | rfl | (solve | simp) | (solve | (simp; omega))))))); (obtain ⟨hc4, hf4, hl4, hn4, hm4⟩ := b4.rules); (have K4 := Lib.hid b4); (clear b4)
    have HO4 := Lib.hid (ho4.le (base' := w3.heap.size) (by simp only [World.size_alloc]; omega))
    obtain ⟨g4, cap4, rfl, _⟩ := ho4.form (by simp)
    rw [show (ints (r ++ [x])).length = r.length + 1 by simp] at HO4 ⊢
    clear ho4 hJ
    go_wp2_with fail
    exact bodyPost_ret (v := .agg #[.slice (some ⟨g4, 0, none⟩) (r.length + 1) cap4, .int .i64 5]) (by simp [results, Try.results12, go_sem, hc4]) rfl
      ⟨_, rfl, ((HO4.out.setOther (b := w.heap.size + 1) (by omega) _ _).setOther (b := w.heap.size + 1) (by omega) _ _).sl, HO4.out.res (N := w.heap.size) (by omega), by (repeat (first | with_reducible assumption | with_reducible exact Below.refl _ _ | with_reducible refine Below.setCell ?_ ?_ _ | with_reducible refine Below.alloc ?_ ?_ _ | with_reducible refine below_drewN' ?_ _ | with_reducible refine Below.drew ?_ | with_reducible refine Below.trans ?_ (Below.mono (by assumption) ?_) | omega | (dsimp only; omega) | (simp only [drew_heap', drewN_heap', World.size_alloc, World.size_setCell]; omega) | (solve | simp) | (solve | (simp; omega))))⟩

set_option maxHeartbeats 2000000 in
theorem spend_any (v : Value) (l : List Int) (n : Int) (w : World) (hv : Sl w false 1 v (ints l)) (hby : l.length * 8 ≤ 140737488351232) :
    Calls Try.prog 10 #[.agg #[v, .int .i64 n]] w fun e w' => ∃ v', e = .returned (.agg #[v', .int .i64 (spendS l n).2]) ∧ Sl w' false 1 v' (ints (spendS l n).1) ∧ Res w.heap.size v (ints l) v' (ints (spendS l n).1) ∧ Below w.heap.size w w' := by
  have HV := Lib.hid hv
  have hY := fun W h => yield_any v l (wrap64 (n - 1)) W h hby
  unfold spendS
  obtain ⟨a, cap, rfl, hl⟩ := hv.shape
  clear hv
  rw [ints_len] at hl HV hY ⊢
  by_cases h0 : l = []
  · subst h0
    clear hY
    go_enter Try.func10, Try.ntmps10
    go_wp2_with fail
    exact bodyPost_ret (v := .agg #[.slice a 0 cap, .int .i64 n]) (by simp [results, Try.results10, go_sem]) rfl ⟨_, rfl, HV.out.below (by (repeat (first | with_reducible assumption | with_reducible exact Below.refl _ _ | with_reducible refine Below.setCell ?_ ?_ _ | with_reducible refine Below.alloc ?_ ?_ _ | with_reducible refine below_drewN' ?_ _ | with_reducible refine Below.drew ?_ | with_reducible refine Below.trans ?_ (Below.mono (by assumption) ?_) | omega | (dsimp only; omega) | (simp only [drew_heap', drewN_heap', World.size_alloc, World.size_setCell]; omega) | (solve | simp) | (solve | (simp; omega))))), Res.same, by (repeat (first | with_reducible assumption | with_reducible exact Below.refl _ _ | with_reducible refine Below.setCell ?_ ?_ _ | with_reducible refine Below.alloc ?_ ?_ _ | with_reducible refine below_drewN' ?_ _ | with_reducible refine Below.drew ?_ | with_reducible refine Below.trans ?_ (Below.mono (by assumption) ?_) | omega | (dsimp only; omega) | (simp only [drew_heap', drewN_heap', World.size_alloc, World.size_setCell]; omega) | (solve | simp) | (solve | (simp; omega))))⟩
  rw [if_neg h0]
  have hlp : 0 < l.length := List.length_pos_iff.2 h0
  have hne : ((l.length : Int) == 0) = false := by rw [beq_eq_false_iff_ne]; omega
  by_cases h1 : wrap64 (n - 1) ≤ 0
  · rw [if_pos h1]
    have HY := Lib.hid hY
    generalize yieldS l (wrap64 (n - 1)) = y at *
    clear hY
    go_enter Try.func10, Try.ntmps10
    go_wp2_with fail
    with_reducible refine (HY.out _ (HV.out.below (by (repeat (first | with_reducible assumption | with_reducible exact Below.refl _ _ | with_reducible refine Below.setCell ?_ ?_ _ | with_reducible refine Below.alloc ?_ ?_ _ | with_reducible refine below_drewN' ?_ _ | with_reducible refine Below.drew ?_ | with_reducible refine Below.trans ?_ (Below.mono (by assumption) ?_) | omega | (dsimp only; omega) | (simp only [drew_heap', drewN_heap', World.size_alloc, World.size_setCell]; omega) | (solve | simp) | (solve | (simp; omega))))))).mono ?_
    rintro e w1 ⟨v1, rfl, hs1, hr1, hb1⟩
    have hz1 := hb1.size
    simp only [World.size_alloc, World.size_setCell] at hz1 hr1
    (have b1 : Box w1 (w.heap.size + 1) #[.slice none 0 0, .int .i64 0] 24 := (by (try have k1 := (Lib.hid True.intro).out); ((apply Box.cast); (repeat (first | with_reducible assumption | ((with_reducible apply Box.new1); (first | with_reducible rfl | rfl | (solve | simp))) | with_reducible apply Box.drewN | with_reducible apply Box.drew | with_reducible apply Box.set | with_reducible apply Box.other | with_reducible apply Box.alloc | (with_reducible apply Box.below; rotate_left; with_reducible assumption; rotate_right) | with_reducible rfl | omega | (dsimp only; omega) | (simp only [drew_heap', drewN_heap', World.size_alloc, World.size_setCell]; omega) | rfl | (solve | simp) | (solve | (simp; omega))))))); (obtain ⟨hc1, hf1, hl1, hn1, hm1⟩ := b1.rules); (have K1 := Lib.hid b1); (clear b1)
    have HS1 := Lib.hid hs1
    have HR1 := Lib.hid hr1
    obtain ⟨a1, cap1, rfl, _⟩ := hs1.shape
    clear hs1 hr1
    go_wp2_with fail
    exact bodyPost_ret (v := .agg #[.slice a1 (ints y.1).length cap1, .int .i64 y.2]) (by simp [results, Try.results10, go_sem, hc1]) rfl
      ⟨_, rfl, HV.out.setRes (HV.out.setRes HS1.out HR1.out (by omega) (by omega) _ _) HR1.out (by omega) (by omega) _ _, HR1.out.le (by omega), by (repeat (first | with_reducible assumption | with_reducible exact Below.refl _ _ | with_reducible refine Below.setCell ?_ ?_ _ | with_reducible refine Below.alloc ?_ ?_ _ | with_reducible refine below_drewN' ?_ _ | with_reducible refine Below.drew ?_ | with_reducible refine Below.trans ?_ (Below.mono (by assumption) ?_) | omega | (dsimp only; omega) | (simp only [drew_heap', drewN_heap', World.size_alloc, World.size_setCell]; omega) | (solve | simp) | (solve | (simp; omega))))⟩
  · rw [if_neg h1]
    clear hY
    go_enter Try.func10, Try.ntmps10
    go_wp2_with fail
    exact bodyPost_ret (v := .agg #[.slice a l.length cap, .int .i64 (wrap64 (n - 1))]) (by simp [results, Try.results10, go_sem]) rfl ⟨_, rfl, HV.out.below (by (repeat (first | with_reducible assumption | with_reducible exact Below.refl _ _ | with_reducible refine Below.setCell ?_ ?_ _ | with_reducible refine Below.alloc ?_ ?_ _ | with_reducible refine below_drewN' ?_ _ | with_reducible refine Below.drew ?_ | with_reducible refine Below.trans ?_ (Below.mono (by assumption) ?_) | omega | (dsimp only; omega) | (simp only [drew_heap', drewN_heap', World.size_alloc, World.size_setCell]; omega) | (solve | simp) | (solve | (simp; omega))))), Res.same, by (repeat (first | with_reducible assumption | with_reducible exact Below.refl _ _ | with_reducible refine Below.setCell ?_ ?_ _ | with_reducible refine Below.alloc ?_ ?_ _ | with_reducible refine below_drewN' ?_ _ | with_reducible refine Below.drew ?_ | with_reducible refine Below.trans ?_ (Below.mono (by assumption) ?_) | omega | (dsimp only; omega) | (simp only [drew_heap', drewN_heap', World.size_alloc, World.size_setCell]; omega) | (solve | simp) | (solve | (simp; omega))))⟩

set_option maxHeartbeats 2000000 in
theorem same_any (v u : Value) (l m : List Int) (n k : Int) (w : World) (hv : Sl w false 1 v (ints l)) (hu : Sl w false 1 u (ints m)) :
    Calls Try.prog 13 #[.agg #[v, .int .i64 n], .agg #[u, .int .i64 k]] w fun e w' => e = .returned (.bool (decide (l = m) && decide (n = k))) ∧ Below w.heap.size w w' := by
  have HV := Lib.hid hv
  have HU := Lib.hid hu
  have hE := fun W h1 h2 => equal_int v u l m W h1 h2
  obtain ⟨a, cap, rfl, hl⟩ := hv.shape
  obtain ⟨a2, cap2, rfl, hl2⟩ := hu.shape
  clear hv hu
  rw [ints_len] at hl HV hE ⊢
  rw [ints_len] at hl2 HU hE ⊢
  by_cases hlm : l = m
  · by_cases hnk : n = k
    · subst hnk
      rw [show decide (l = m) = true by simpa using hlm] at hE ⊢
      have HE := Lib.hid hE
      clear hE hlm
      go_enter Try.func13, Try.ntmps13
      go_wp2_with fail
      with_reducible refine (HE.out _ (HV.out.below (by (repeat (first | with_reducible assumption | with_reducible exact Below.refl _ _ | with_reducible refine Below.setCell ?_ ?_ _ | with_reducible refine Below.alloc ?_ ?_ _ | with_reducible refine below_drewN' ?_ _ | with_reducible refine Below.drew ?_ | with_reducible refine Below.trans ?_ (Below.mono (by assumption) ?_) | omega | (dsimp only; omega) | (simp only [drew_heap', drewN_heap', World.size_alloc, World.size_setCell]; omega) | (solve | simp) | (solve | (simp; omega)))))) (HU.out.below (by (repeat (first | with_reducible assumption | with_reducible exact Below.refl _ _ | with_reducible refine Below.setCell ?_ ?_ _ | with_reducible refine Below.alloc ?_ ?_ _ | with_reducible refine below_drewN' ?_ _ | with_reducible refine Below.drew ?_ | with_reducible refine Below.trans ?_ (Below.mono (by assumption) ?_) | omega | (dsimp only; omega) | (simp only [drew_heap', drewN_heap', World.size_alloc, World.size_setCell]; omega) | (solve | simp) | (solve | (simp; omega))))))).mono ?_
      rintro e w1 ⟨rfl, hb1⟩
      have hz1 := hb1.size
      simp only [World.size_alloc] at hz1
      (have b1 : Box w1 w.heap.size #[.slice a l.length cap, .int .i64 n] 24 := (by (try have k1 := (Lib.hid True.intro).out); ((apply Box.cast); (repeat (first | with_reducible assumption | ((with_reducible apply Box.new1); (first | with_reducible rfl | rfl | (solve | simp))) | with_reducible apply Box.drewN | with_reducible apply Box.drew | with_reducible apply Box.set | with_reducible apply Box.other | with_reducible apply Box.alloc | (with_reducible apply Box.below; rotate_left; with_reducible assumption; rotate_right) | with_reducible rfl | omega | (dsimp only; omega) | (simp only [drew_heap', drewN_heap', World.size_alloc, World.size_setCell]; omega) | rfl | (solve | simp) | (solve | (simp; omega))))))); (obtain ⟨hc1, hf1, hl1, hn1, hm1⟩ := b1.rules); (have K1 := Lib.hid b1); (clear b1)
      (have b2 : Box w1 (w.heap.size + 1) #[.slice a2 m.length cap2, .int .i64 n] 24 := (by (try have k2 := (Lib.hid True.intro).out); ((apply Box.cast); (repeat (first | with_reducible assumption | ((with_reducible apply Box.new1); (first | with_reducible rfl | rfl | (solve | simp))) | with_reducible apply Box.drewN | with_reducible apply Box.drew | with_reducible apply Box.set | with_reducible apply Box.other | with_reducible apply Box.alloc | (with_reducible apply Box.below; rotate_left; with_reducible assumption; rotate_right) | with_reducible rfl | omega | (dsimp only; omega) | (simp only [drew_heap', drewN_heap', World.size_alloc, World.size_setCell]; omega) | rfl | (solve | simp) | (solve | (simp; omega))))))); (obtain ⟨hc2, hf2, hl2, hn2, hm2⟩ := b2.rules); (have K2 := Lib.hid b2); (clear b2)
      go_wp2_with fail
      go_ret
      exact ⟨by simp, by (repeat (first | with_reducible assumption | with_reducible exact Below.refl _ _ | with_reducible refine Below.setCell ?_ ?_ _ | with_reducible refine Below.alloc ?_ ?_ _ | with_reducible refine below_drewN' ?_ _ | with_reducible refine Below.drew ?_ | with_reducible refine Below.trans ?_ (Below.mono (by assumption) ?_) | omega | (dsimp only; omega) | (simp only [drew_heap', drewN_heap', World.size_alloc, World.size_setCell]; omega) | (solve | simp) | (solve | (simp; omega))))⟩
    · have hn1 : (n == k) = false := by simpa using hnk
      rw [show decide (l = m) = true by simpa using hlm] at hE ⊢
      have HE := Lib.hid hE
      clear hE hlm
      go_enter Try.func13, Try.ntmps13
      go_wp2_with fail
      with_reducible refine (HE.out _ (HV.out.below (by (repeat (first | with_reducible assumption | with_reducible exact Below.refl _ _ | with_reducible refine Below.setCell ?_ ?_ _ | with_reducible refine Below.alloc ?_ ?_ _ | with_reducible refine below_drewN' ?_ _ | with_reducible refine Below.drew ?_ | with_reducible refine Below.trans ?_ (Below.mono (by assumption) ?_) | omega | (dsimp only; omega) | (simp only [drew_heap', drewN_heap', World.size_alloc, World.size_setCell]; omega) | (solve | simp) | (solve | (simp; omega)))))) (HU.out.below (by (repeat (first | with_reducible assumption | with_reducible exact Below.refl _ _ | with_reducible refine Below.setCell ?_ ?_ _ | with_reducible refine Below.alloc ?_ ?_ _ | with_reducible refine below_drewN' ?_ _ | with_reducible refine Below.drew ?_ | with_reducible refine Below.trans ?_ (Below.mono (by assumption) ?_) | omega | (dsimp only; omega) | (simp only [drew_heap', drewN_heap', World.size_alloc, World.size_setCell]; omega) | (solve | simp) | (solve | (simp; omega))))))).mono ?_
      rintro e w1 ⟨rfl, hb1⟩
      have hz1 := hb1.size
      simp only [World.size_alloc] at hz1
      (have b1 : Box w1 w.heap.size #[.slice a l.length cap, .int .i64 n] 24 := (by (try have k1 := (Lib.hid True.intro).out); ((apply Box.cast); (repeat (first | with_reducible assumption | ((with_reducible apply Box.new1); (first | with_reducible rfl | rfl | (solve | simp))) | with_reducible apply Box.drewN | with_reducible apply Box.drew | with_reducible apply Box.set | with_reducible apply Box.other | with_reducible apply Box.alloc | (with_reducible apply Box.below; rotate_left; with_reducible assumption; rotate_right) | with_reducible rfl | omega | (dsimp only; omega) | (simp only [drew_heap', drewN_heap', World.size_alloc, World.size_setCell]; omega) | rfl | (solve | simp) | (solve | (simp; omega))))))); (obtain ⟨hc1, hf1, hl1, hn1, hm1⟩ := b1.rules); (have K1 := Lib.hid b1); (clear b1)
      (have b2 : Box w1 (w.heap.size + 1) #[.slice a2 m.length cap2, .int .i64 k] 24 := (by (try have k2 := (Lib.hid True.intro).out); ((apply Box.cast); (repeat (first | with_reducible assumption | ((with_reducible apply Box.new1); (first | with_reducible rfl | rfl | (solve | simp))) | with_reducible apply Box.drewN | with_reducible apply Box.drew | with_reducible apply Box.set | with_reducible apply Box.other | with_reducible apply Box.alloc | (with_reducible apply Box.below; rotate_left; with_reducible assumption; rotate_right) | with_reducible rfl | omega | (dsimp only; omega) | (simp only [drew_heap', drewN_heap', World.size_alloc, World.size_setCell]; omega) | rfl | (solve | simp) | (solve | (simp; omega))))))); (obtain ⟨hc2, hf2, hl2, hn2, hm2⟩ := b2.rules); (have K2 := Lib.hid b2); (clear b2)
      go_wp2_with fail
      go_ret
      exact ⟨by simp [hnk], by (repeat (first | with_reducible assumption | with_reducible exact Below.refl _ _ | with_reducible refine Below.setCell ?_ ?_ _ | with_reducible refine Below.alloc ?_ ?_ _ | with_reducible refine below_drewN' ?_ _ | with_reducible refine Below.drew ?_ | with_reducible refine Below.trans ?_ (Below.mono (by assumption) ?_) | omega | (dsimp only; omega) | (simp only [drew_heap', drewN_heap', World.size_alloc, World.size_setCell]; omega) | (solve | simp) | (solve | (simp; omega))))⟩
  · rw [show decide (l = m) = false by simpa using hlm] at hE ⊢
    have HE := Lib.hid hE
    clear hE hlm
    go_enter Try.func13, Try.ntmps13
    go_wp2_with fail
    with_reducible refine (HE.out _ (HV.out.below (by (repeat (first | with_reducible assumption | with_reducible exact Below.refl _ _ | with_reducible refine Below.setCell ?_ ?_ _ | with_reducible refine Below.alloc ?_ ?_ _ | with_reducible refine below_drewN' ?_ _ | with_reducible refine Below.drew ?_ | with_reducible refine Below.trans ?_ (Below.mono (by assumption) ?_) | omega | (dsimp only; omega) | (simp only [drew_heap', drewN_heap', World.size_alloc, World.size_setCell]; omega) | (solve | simp) | (solve | (simp; omega)))))) (HU.out.below (by (repeat (first | with_reducible assumption | with_reducible exact Below.refl _ _ | with_reducible refine Below.setCell ?_ ?_ _ | with_reducible refine Below.alloc ?_ ?_ _ | with_reducible refine below_drewN' ?_ _ | with_reducible refine Below.drew ?_ | with_reducible refine Below.trans ?_ (Below.mono (by assumption) ?_) | omega | (dsimp only; omega) | (simp only [drew_heap', drewN_heap', World.size_alloc, World.size_setCell]; omega) | (solve | simp) | (solve | (simp; omega))))))).mono ?_
    rintro e w1 ⟨rfl, hb1⟩
    have hz1 := hb1.size
    go_wp2_with fail
    go_ret
    exact ⟨by simp, by (repeat (first | with_reducible assumption | with_reducible exact Below.refl _ _ | with_reducible refine Below.setCell ?_ ?_ _ | with_reducible refine Below.alloc ?_ ?_ _ | with_reducible refine below_drewN' ?_ _ | with_reducible refine Below.drew ?_ | with_reducible refine Below.trans ?_ (Below.mono (by assumption) ?_) | omega | (dsimp only; omega) | (simp only [drew_heap', drewN_heap', World.size_alloc, World.size_setCell]; omega) | (solve | simp) | (solve | (simp; omega))))⟩

set_option maxHeartbeats 2000000 in
theorem add_any (v : Value) (l : List Int) (n pid : Int) (w : World) (hv : Sl w false 1 v (ints l)) (hby : l.length * 8 ≤ 140737488351232) :
    Calls Try.prog 14 #[.agg #[v, .int .i64 n], .int .i64 pid] w fun e w' => ∃ v', e = .returned (.agg #[v', .int .i64 (addS l n pid).2]) ∧ Sl w' false 1 v' (ints (addS l n pid).1) ∧ Res w.heap.size v (ints l) v' (ints (addS l n pid).1) ∧ Below w.heap.size w w' := by
  have HV := Lib.hid hv
  have hC := fun W h => contains_int v l pid W h
  unfold addS
  obtain ⟨a, cap, rfl, hl⟩ := hv.shape
  clear hv
  rw [ints_len] at hl HV hC ⊢
  by_cases hp : pid ∈ l
  · rw [if_pos hp]
    rw [show decide (pid ∈ l) = true by simpa using hp] at hC
    clear hp
    go_enter Try.func14, Try.ntmps14
    go_wp2_with fail
    with_reducible refine (hC _ (HV.out.below (by (repeat (first | with_reducible assumption | with_reducible exact Below.refl _ _ | with_reducible refine Below.setCell ?_ ?_ _ | with_reducible refine Below.alloc ?_ ?_ _ | with_reducible refine below_drewN' ?_ _ | with_reducible refine Below.drew ?_ | with_reducible refine Below.trans ?_ (Below.mono (by assumption) ?_) | omega | (dsimp only; omega) | (simp only [drew_heap', drewN_heap', World.size_alloc, World.size_setCell]; omega) | (solve | simp) | (solve | (simp; omega))))))).mono ?_
    rintro e w1 ⟨rfl, hb1⟩
    have hz1 := hb1.size
    simp only [World.size_alloc] at hz1
    (have b1 : Box w1 w.heap.size #[.slice a l.length cap, .int .i64 n] 24 := (by (try have k1 := (Lib.hid True.intro).out); ((apply Box.cast); (repeat (first | with_reducible assumption | ((with_reducible apply Box.new1); (first | with_reducible rfl | rfl | (solve | simp))) | with_reducible apply Box.drewN | with_reducible apply Box.drew | with_reducible apply Box.set | with_reducible apply Box.other | with_reducible apply Box.alloc | (with_reducible apply Box.below; rotate_left; with_reducible assumption; rotate_right) | with_reducible rfl | omega | (dsimp only; omega) | (simp only [drew_heap', drewN_heap', World.size_alloc, World.size_setCell]; omega) | rfl | (solve | simp) | (solve | (simp; omega))))))); (obtain ⟨hc1, hf1, hl1, hn1, hm1⟩ := b1.rules); (have K1 := Lib.hid b1); (clear b1)
    (have b2 : Box w1 (w.heap.size + 1) #[.slice none 0 0, .int .i64 0] 24 := (by (try have k2 := (Lib.hid True.intro).out); ((apply Box.cast); (repeat (first | with_reducible assumption | ((with_reducible apply Box.new1); (first | with_reducible rfl | rfl | (solve | simp))) | with_reducible apply Box.drewN | with_reducible apply Box.drew | with_reducible apply Box.set | with_reducible apply Box.other | with_reducible apply Box.alloc | (with_reducible apply Box.below; rotate_left; with_reducible assumption; rotate_right) | with_reducible rfl | omega | (dsimp only; omega) | (simp only [drew_heap', drewN_heap', World.size_alloc, World.size_setCell]; omega) | rfl | (solve | simp) | (solve | (simp; omega))))))); (obtain ⟨hc2, hf2, hl2, hn2, hm2⟩ := b2.rules); (have K2 := Lib.hid b2); (clear b2)
    have hbw : Below w.heap.size w w1 := by (repeat (first | with_reducible assumption | with_reducible exact Below.refl _ _ | with_reducible refine Below.setCell ?_ ?_ _ | with_reducible refine Below.alloc ?_ ?_ _ | with_reducible refine below_drewN' ?_ _ | with_reducible refine Below.drew ?_ | with_reducible refine Below.trans ?_ (Below.mono (by assumption) ?_) | omega | (dsimp only; omega) | (simp only [drew_heap', drewN_heap', World.size_alloc, World.size_setCell]; omega) | (solve | simp) | (solve | (simp; omega))))
    go_wp2_with fail
    exact bodyPost_ret (v := .agg #[.slice a l.length cap, .int .i64 n]) (by simp [results, Try.results14, go_sem, hc2]) rfl
      ⟨_, rfl, HV.out.setRes (HV.out.setRes (HV.out.below hbw) (N := w.heap.size + 1 + 1) Res.same (by omega) (by omega) _ _) (N := w.heap.size + 1 + 1) Res.same (by omega) (by omega) _ _, Res.same, by (repeat (first | with_reducible assumption | with_reducible exact Below.refl _ _ | with_reducible refine Below.setCell ?_ ?_ _ | with_reducible refine Below.alloc ?_ ?_ _ | with_reducible refine below_drewN' ?_ _ | with_reducible refine Below.drew ?_ | with_reducible refine Below.trans ?_ (Below.mono (by assumption) ?_) | omega | (dsimp only; omega) | (simp only [drew_heap', drewN_heap', World.size_alloc, World.size_setCell]; omega) | (solve | simp) | (solve | (simp; omega))))⟩
  · rw [if_neg hp]
    rw [show decide (pid ∈ l) = false by simpa using hp] at hC
    clear hp
    have hvx : Val false 1 (.int .i64 pid) := ⟨rfl, rfl⟩
    by_cases h0 : l = []
    · subst h0
      rw [if_pos rfl]
      simp only [List.length_nil] at HV hC hl ⊢
      go_enter Try.func14, Try.ntmps14
      go_wp2_with fail
      with_reducible refine (hC _ (HV.out.below (by (repeat (first | with_reducible assumption | with_reducible exact Below.refl _ _ | with_reducible refine Below.setCell ?_ ?_ _ | with_reducible refine Below.alloc ?_ ?_ _ | with_reducible refine below_drewN' ?_ _ | with_reducible refine Below.drew ?_ | with_reducible refine Below.trans ?_ (Below.mono (by assumption) ?_) | omega | (dsimp only; omega) | (simp only [drew_heap', drewN_heap', World.size_alloc, World.size_setCell]; omega) | (solve | simp) | (solve | (simp; omega))))))).mono ?_
      rintro e w1 ⟨rfl, hb1⟩
      have hz1 := hb1.size
      simp only [World.size_alloc] at hz1
      (have b1 : Box w1 w.heap.size #[.slice a 0 cap, .int .i64 n] 24 := (by (try have k1 := (Lib.hid True.intro).out); ((apply Box.cast); (repeat (first | with_reducible assumption | ((with_reducible apply Box.new1); (first | with_reducible rfl | rfl | (solve | simp))) | with_reducible apply Box.drewN | with_reducible apply Box.drew | with_reducible apply Box.set | with_reducible apply Box.other | with_reducible apply Box.alloc | (with_reducible apply Box.below; rotate_left; with_reducible assumption; rotate_right) | with_reducible rfl | omega | (dsimp only; omega) | (simp only [drew_heap', drewN_heap', World.size_alloc, World.size_setCell]; omega) | rfl | (solve | simp) | (solve | (simp; omega))))))); (obtain ⟨hc1, hf1, hl1, hn1, hm1⟩ := b1.rules); (have K1 := Lib.hid b1); (clear b1)
      (have b2 : Box w1 (w.heap.size + 1) #[.slice none 0 0, .int .i64 0] 24 := (by (try have k2 := (Lib.hid True.intro).out); ((apply Box.cast); (repeat (first | with_reducible assumption | ((with_reducible apply Box.new1); (first | with_reducible rfl | rfl | (solve | simp))) | with_reducible apply Box.drewN | with_reducible apply Box.drew | with_reducible apply Box.set | with_reducible apply Box.other | with_reducible apply Box.alloc | (with_reducible apply Box.below; rotate_left; with_reducible assumption; rotate_right) | with_reducible rfl | omega | (dsimp only; omega) | (simp only [drew_heap', drewN_heap', World.size_alloc, World.size_setCell]; omega) | rfl | (solve | simp) | (solve | (simp; omega))))))); (obtain ⟨hc2, hf2, hl2, hn2, hm2⟩ := b2.rules); (have K2 := Lib.hid b2); (clear b2)
      have hbw : Below w.heap.size w w1 := by (repeat (first | with_reducible assumption | with_reducible exact Below.refl _ _ | with_reducible refine Below.setCell ?_ ?_ _ | with_reducible refine Below.alloc ?_ ?_ _ | with_reducible refine below_drewN' ?_ _ | with_reducible refine Below.drew ?_ | with_reducible refine Below.trans ?_ (Below.mono (by assumption) ?_) | omega | (dsimp only; omega) | (simp only [drew_heap', drewN_heap', World.size_alloc, World.size_setCell]; omega) | (solve | simp) | (solve | (simp; omega))))
      have HV1 := Lib.hid (HV.out.setRes (HV.out.below hbw) (N := w.heap.size + 1) Res.same (Nat.le_refl _) (by omega) 1 (.int .i64 5))
      have HV2 := Lib.hid (HV.out.below hbw)
      go_wp2_with fail
      with_reducible refine (joined_any (.slice a 0 cap) (.slice (some ⟨w1.heap.size, 0, none⟩) 1 1) [] [pid] (w1.heap.size + 1) _ ?_ ?_ ?_ ?_ ?_ ?_).mono ?_
      focus exact HV1.out.below (by (repeat (first | with_reducible assumption | with_reducible exact Below.refl _ _ | with_reducible refine Below.setCell ?_ ?_ _ | with_reducible refine Below.alloc ?_ ?_ _ | with_reducible refine below_drewN' ?_ _ | with_reducible refine Below.drew ?_ | with_reducible refine Below.trans ?_ (Below.mono (by assumption) ?_) | omega | (dsimp only; omega) | (simp only [drew_heap', drewN_heap', World.size_alloc, World.size_setCell]; omega) | (solve | simp) | (solve | (simp; omega)))))
      focus (refine Sl.alloc (Sl.made1 (x := .int .i64 pid) hvx ?_) _; simp)
      focus (first | (solve | simp) | (simp; omega))
      focus exact (Box.new1 _ _ _ (by simp)).rules.1 0
      focus exact (Box.new1 _ _ _ (by simp)).rules.1 1
      focus (first | (solve | simp) | (simp; omega) | omega)
      rintro e w4 ⟨v4, rfl, ho4, hb4⟩
      have hz4 := hb4.size
      simp only [World.size_alloc, World.size_setCell] at hz4
      have HO4 := Lib.hid (ho4.le (base' := w1.heap.size) (by simp only [World.size_alloc, World.size_setCell]; omega))
      have k1 := K1.out
      have k2 := K2.out
      (have b3 : Box w4 w.heap.size #[.slice a 0 cap, .int .i64 5] 24 := (by (try have k3 := (Lib.hid True.intro).out); ((apply Box.cast); (repeat (first | with_reducible assumption | ((with_reducible apply Box.new1); (first | with_reducible rfl | rfl | (solve | simp))) | with_reducible apply Box.drewN | with_reducible apply Box.drew | with_reducible apply Box.set | with_reducible apply Box.other | with_reducible apply Box.alloc | (with_reducible apply Box.below; rotate_left; with_reducible assumption; rotate_right) | with_reducible rfl | omega | (dsimp only; omega) | (simp only [drew_heap', drewN_heap', World.size_alloc, World.size_setCell]; omega) | rfl | (solve | simp) | (solve | (simp; omega))))))); (obtain ⟨hc3, hf3, hl3, hn3, hm3⟩ := b3.rules); (have K3 := Lib.hid b3); (clear b3)
      (have b4 : Box w4 (w.heap.size + 1) #[.slice none 0 0, .int .i64 0] 24 := (by (try have k4 := (Lib.hid True.intro).out); ((apply Box.cast); (repeat (first | with_reducible assumption | ((with_reducible apply Box.new1); (first | with_reducible rfl | rfl | (solve | simp))) | with_reducible apply Box.drewN | with_reducible apply Box.drew | with_reducible apply Box.set | with_reducible apply Box.other | with_reducible apply Box.alloc | (with_reducible apply Box.below; rotate_left; with_reducible assumption; rotate_right) | with_reducible rfl | omega | (dsimp only; omega) | (simp only [drew_heap', drewN_heap', World.size_alloc, World.size_setCell]; omega) | rfl | (solve | simp) | (solve | (simp; omega))))))); (obtain ⟨hc4, hf4, hl4, hn4, hm4⟩ := b4.rules); (have K4 := Lib.hid b4); (clear b4)
      obtain ⟨g4, cap4, rfl, _⟩ := ho4.form (by simp)
      rw [show (ints ([] ++ [pid])).length = 1 by simp] at HO4 ⊢
      have hb4w : Below w.heap.size w w4 := by (repeat (first | with_reducible assumption | with_reducible exact Below.refl _ _ | with_reducible refine Below.setCell ?_ ?_ _ | with_reducible refine Below.alloc ?_ ?_ _ | with_reducible refine below_drewN' ?_ _ | with_reducible refine Below.drew ?_ | with_reducible refine Below.trans ?_ (Below.mono (by assumption) ?_) | omega | (dsimp only; omega) | (simp only [drew_heap', drewN_heap', World.size_alloc, World.size_setCell]; omega) | (solve | simp) | (solve | (simp; omega))))
      clear ho4 k1 k2 hc1 hf1 hl1 hn1 hm1 hc2 hf2 hl2 hn2 hm2
      go_wp2_with fail
      exact bodyPost_ret (v := .agg #[.slice (some ⟨g4, 0, none⟩) 1 cap4, .int .i64 5]) (by simp [results, Try.results14, go_sem, hc4]) rfl
        ⟨_, rfl, (((HO4.out.setOther (b := w.heap.size) (by omega) _ _).setOther (b := w.heap.size + 1) (by omega) _ _).setOther (b := w.heap.size + 1) (by omega) _ _).sl, HO4.out.res (N := w.heap.size) (by omega), by (repeat (first | with_reducible assumption | with_reducible exact Below.refl _ _ | with_reducible refine Below.setCell ?_ ?_ _ | with_reducible refine Below.alloc ?_ ?_ _ | with_reducible refine below_drewN' ?_ _ | with_reducible refine Below.drew ?_ | with_reducible refine Below.trans ?_ (Below.mono (by assumption) ?_) | omega | (dsimp only; omega) | (simp only [drew_heap', drewN_heap', World.size_alloc, World.size_setCell]; omega) | (solve | simp) | (solve | (simp; omega))))⟩
    · rw [if_neg h0]
      have hlp : 0 < l.length := List.length_pos_iff.2 h0
      have hne : ((l.length : Int) == 0) = false := by rw [beq_eq_false_iff_ne]; omega
      clear h0
      go_enter Try.func14, Try.ntmps14
      go_wp2_with fail
      with_reducible refine (hC _ (HV.out.below (by (repeat (first | with_reducible assumption | with_reducible exact Below.refl _ _ | with_reducible refine Below.setCell ?_ ?_ _ | with_reducible refine Below.alloc ?_ ?_ _ | with_reducible refine below_drewN' ?_ _ | with_reducible refine Below.drew ?_ | with_reducible refine Below.trans ?_ (Below.mono (by assumption) ?_) | omega | (dsimp only; omega) | (simp only [drew_heap', drewN_heap', World.size_alloc, World.size_setCell]; omega) | (solve | simp) | (solve | (simp; omega))))))).mono ?_
      rintro e w1 ⟨rfl, hb1⟩
      have hz1 := hb1.size
      simp only [World.size_alloc] at hz1
      (have b1 : Box w1 w.heap.size #[.slice a l.length cap, .int .i64 n] 24 := (by (try have k1 := (Lib.hid True.intro).out); ((apply Box.cast); (repeat (first | with_reducible assumption | ((with_reducible apply Box.new1); (first | with_reducible rfl | rfl | (solve | simp))) | with_reducible apply Box.drewN | with_reducible apply Box.drew | with_reducible apply Box.set | with_reducible apply Box.other | with_reducible apply Box.alloc | (with_reducible apply Box.below; rotate_left; with_reducible assumption; rotate_right) | with_reducible rfl | omega | (dsimp only; omega) | (simp only [drew_heap', drewN_heap', World.size_alloc, World.size_setCell]; omega) | rfl | (solve | simp) | (solve | (simp; omega))))))); (obtain ⟨hc1, hf1, hl1, hn1, hm1⟩ := b1.rules); (have K1 := Lib.hid b1); (clear b1)
      (have b2 : Box w1 (w.heap.size + 1) #[.slice none 0 0, .int .i64 0] 24 := (by (try have k2 := (Lib.hid True.intro).out); ((apply Box.cast); (repeat (first | with_reducible assumption | ((with_reducible apply Box.new1); (first | with_reducible rfl | rfl | (solve | simp))) | with_reducible apply Box.drewN | with_reducible apply Box.drew | with_reducible apply Box.set | with_reducible apply Box.other | with_reducible apply Box.alloc | (with_reducible apply Box.below; rotate_left; with_reducible assumption; rotate_right) | with_reducible rfl | omega | (dsimp only; omega) | (simp only [drew_heap', drewN_heap', World.size_alloc, World.size_setCell]; omega) | rfl | (solve | simp) | (solve | (simp; omega))))))); (obtain ⟨hc2, hf2, hl2, hn2, hm2⟩ := b2.rules); (have K2 := Lib.hid b2); (clear b2)
      have hbw : Below w.heap.size w w1 := by (repeat (first | with_reducible assumption | with_reducible exact Below.refl _ _ | with_reducible refine Below.setCell ?_ ?_ _ | with_reducible refine Below.alloc ?_ ?_ _ | with_reducible refine below_drewN' ?_ _ | with_reducible refine Below.drew ?_ | with_reducible refine Below.trans ?_ (Below.mono (by assumption) ?_) | omega | (dsimp only; omega) | (simp only [drew_heap', drewN_heap', World.size_alloc, World.size_setCell]; omega) | (solve | simp) | (solve | (simp; omega))))
      have HV1 := Lib.hid (HV.out.setRes (HV.out.below hbw) (N := w.heap.size + 1) Res.same (Nat.le_refl _) (by omega) 1 (.int .i64 5))
      have HV2 := Lib.hid (HV.out.below hbw)
      go_wp2_with fail
      with_reducible refine (joined_any (.slice a l.length cap) (.slice (some ⟨w1.heap.size, 0, none⟩) 1 1) l [pid] (w1.heap.size + 1) _ ?_ ?_ ?_ ?_ ?_ ?_).mono ?_
      focus exact HV2.out.below (by (repeat (first | with_reducible assumption | with_reducible exact Below.refl _ _ | with_reducible refine Below.setCell ?_ ?_ _ | with_reducible refine Below.alloc ?_ ?_ _ | with_reducible refine below_drewN' ?_ _ | with_reducible refine Below.drew ?_ | with_reducible refine Below.trans ?_ (Below.mono (by assumption) ?_) | omega | (dsimp only; omega) | (simp only [drew_heap', drewN_heap', World.size_alloc, World.size_setCell]; omega) | (solve | simp) | (solve | (simp; omega)))))
      focus (refine Sl.alloc (Sl.made1 (x := .int .i64 pid) hvx ?_) _; simp)
      focus (first | (solve | simp) | (simp; omega))
      focus exact (Box.new1 _ _ _ (by simp)).rules.1 0
      focus exact (Box.new1 _ _ _ (by simp)).rules.1 1
      focus (first | (solve | simp) | (simp; omega) | omega)
      rintro e w4 ⟨v4, rfl, ho4, hb4⟩
      have hz4 := hb4.size
      simp only [World.size_alloc, World.size_setCell] at hz4
      have HO4 := Lib.hid (ho4.le (base' := w1.heap.size) (by simp only [World.size_alloc, World.size_setCell]; omega))
      have k1 := K1.out
      have k2 := K2.out
      (have b3 : Box w4 w.heap.size #[.slice a l.length cap, .int .i64 n] 24 := (by (try have k3 := (Lib.hid True.intro).out); ((apply Box.cast); (repeat (first | with_reducible assumption | ((with_reducible apply Box.new1); (first | with_reducible rfl | rfl | (solve | simp))) | with_reducible apply Box.drewN | with_reducible apply Box.drew | with_reducible apply Box.set | with_reducible apply Box.other | with_reducible apply Box.alloc | (with_reducible apply Box.below; rotate_left; with_reducible assumption; rotate_right) | with_reducible rfl | omega | (dsimp only; omega) | (simp only [drew_heap', drewN_heap', World.size_alloc, World.size_setCell]; omega) | rfl | (solve | simp) | (solve | (simp; omega))))))); (obtain ⟨hc3, hf3, hl3, hn3, hm3⟩ := b3.rules); (have K3 := Lib.hid b3); (clear b3)
      (have b4 : Box w4 (w.heap.size + 1) #[.slice none 0 0, .int .i64 0] 24 := (by (try have k4 := (Lib.hid True.intro).out); ((apply Box.cast); (repeat (first | with_reducible assumption | ((with_reducible apply Box.new1); (first | with_reducible rfl | rfl | (solve | simp))) | with_reducible apply Box.drewN | with_reducible apply Box.drew | with_reducible apply Box.set | with_reducible apply Box.other | with_reducible apply Box.alloc | (with_reducible apply Box.below; rotate_left; with_reducible assumption; rotate_right) | with_reducible rfl | omega | (dsimp only; omega) | (simp only [drew_heap', drewN_heap', World.size_alloc, World.size_setCell]; omega) | rfl | (solve | simp) | (solve | (simp; omega))))))); (obtain ⟨hc4, hf4, hl4, hn4, hm4⟩ := b4.rules); (have K4 := Lib.hid b4); (clear b4)
      obtain ⟨g4, cap4, rfl, _⟩ := ho4.form (by simp)
      rw [show (ints (l ++ [pid])).length = (l.length + 1) by simp] at HO4 ⊢
      have hb4w : Below w.heap.size w w4 := by (repeat (first | with_reducible assumption | with_reducible exact Below.refl _ _ | with_reducible refine Below.setCell ?_ ?_ _ | with_reducible refine Below.alloc ?_ ?_ _ | with_reducible refine below_drewN' ?_ _ | with_reducible refine Below.drew ?_ | with_reducible refine Below.trans ?_ (Below.mono (by assumption) ?_) | omega | (dsimp only; omega) | (simp only [drew_heap', drewN_heap', World.size_alloc, World.size_setCell]; omega) | (solve | simp) | (solve | (simp; omega))))
      clear ho4 k1 k2 hc1 hf1 hl1 hn1 hm1 hc2 hf2 hl2 hn2 hm2
      go_wp2_with fail
      exact bodyPost_ret (v := .agg #[.slice (some ⟨g4, 0, none⟩) (l.length + 1) cap4, .int .i64 n]) (by simp [results, Try.results14, go_sem, hc4]) rfl
        ⟨_, rfl, (((HO4.out.setOther (b := w.heap.size) (by omega) _ _).setOther (b := w.heap.size + 1) (by omega) _ _).setOther (b := w.heap.size + 1) (by omega) _ _).sl, HO4.out.res (N := w.heap.size) (by omega), by (repeat (first | with_reducible assumption | with_reducible exact Below.refl _ _ | with_reducible refine Below.setCell ?_ ?_ _ | with_reducible refine Below.alloc ?_ ?_ _ | with_reducible refine below_drewN' ?_ _ | with_reducible refine Below.drew ?_ | with_reducible refine Below.trans ?_ (Below.mono (by assumption) ?_) | omega | (dsimp only; omega) | (simp only [drew_heap', drewN_heap', World.size_alloc, World.size_setCell]; omega) | (solve | simp) | (solve | (simp; omega))))⟩
end Go.Proofs.Ytbehjbiicopgpaa
