/- turn.Drop: what it answers. Conditions: lengths within the reach. -/
import Derived.Test.YtbehjbiicopgpaaTurnFns
namespace Go.Proofs.Ytbehjbiicopgpaa
open Go Go.RowKit Go.Tm
set_option linter.unusedVariables false
set_option linter.unusedSimpArgs false

def pidP (x : Int) : Value → Bool := fun v => match v with | .int _ n => decide (n = x) | _ => false
theorem placeI_pid (l : List Int) (x : Int) : placeI l x = idx (pidP x) (ints l) := rfl
theorem placeI_zero (l : List Int) (x : Int) : placeI l x = 0 ↔ l.head? = some x := by
  cases l with
  | nil => simp [placeI, idx]
  | cons y r =>
    constructor
    · intro h
      rw [placeI_pid] at h
      rcases idx_cases (pidP x) (ints (y :: r)) with ⟨h1, _⟩ | ⟨i, z, h1, h2, h3, _⟩
      · omega
      · have : i = 0 := by omega
        subst this
        simp at h2
        subst h2
        simp [pidP] at h3
        simp [h3]
    · intro h
      exact placeI_some (i := 0) (by simpa using h) (by intro j hj; omega)
theorem filter_pid (l : List Int) (x : Int) : (ints l).filter (fun v => !pidP x v) = ints (l.filter fun y => decide (y ≠ x)) := by
  rw [ints, ints, List.filter_map]
  congr 1
  apply List.filter_congr
  intro y _
  simp [pidP]

theorem drop1_body : Body Try.prog 20 := body_of Try.func20 (by kernel_rfl) (by kernel_rfl)
theorem drop2_body : Body Try.prog 23 := body_of Try.func23 (by kernel_rfl) (by kernel_rfl)
theorem drop1_any (x pid : Int) (B : Nat) (w : World) (hc : w.cell? ⟨B, 0, none⟩ = some (.int .i64 pid)) :
    Calls Try.prog 20 #[.int .i64 x, .pointer (some ⟨B, 0, none⟩)] w fun e w' => e = .returned (.bool (pidP pid (.int .i64 x))) ∧ Below w.heap.size w w' := by
  have hp : pidP pid (.int .i64 x) = decide (x = pid) := rfl
  rw [hp]
  clear hp
  by_cases h : x = pid
  · subst h
    go_enter Try.func20, Try.ntmps20
    go_wp2_with fail
    go_ret
    exact ⟨by simp, by (repeat (first | with_reducible assumption | with_reducible exact Below.refl _ _ | with_reducible refine Below.setCell ?_ ?_ _ | with_reducible refine Below.alloc ?_ ?_ _ | with_reducible refine below_drewN' ?_ _ | with_reducible refine Below.drew ?_ | with_reducible refine Below.trans ?_ (Below.mono (by assumption) ?_) | omega | (dsimp only; omega) | (simp only [drew_heap', drewN_heap', World.size_alloc, World.size_setCell]; omega) | (solve | simp) | (solve | (simp; omega))))⟩
  · have h1 : (x == pid) = false := by simpa using h
    go_enter Try.func20, Try.ntmps20
    go_wp2_with fail
    go_ret
    exact ⟨by simp [h], by (repeat (first | with_reducible assumption | with_reducible exact Below.refl _ _ | with_reducible refine Below.setCell ?_ ?_ _ | with_reducible refine Below.alloc ?_ ?_ _ | with_reducible refine below_drewN' ?_ _ | with_reducible refine Below.drew ?_ | with_reducible refine Below.trans ?_ (Below.mono (by assumption) ?_) | omega | (dsimp only; omega) | (simp only [drew_heap', drewN_heap', World.size_alloc, World.size_setCell]; omega) | (solve | simp) | (solve | (simp; omega))))⟩
theorem drop2_any (x pid : Int) (B : Nat) (w : World) (hc : w.cell? ⟨B, 0, none⟩ = some (.int .i64 pid)) :
    Calls Try.prog 23 #[.int .i64 x, .pointer (some ⟨B, 0, none⟩)] w fun e w' => e = .returned (.bool (pidP pid (.int .i64 x))) ∧ Below w.heap.size w w' := by
  have hp : pidP pid (.int .i64 x) = decide (x = pid) := rfl
  rw [hp]
  clear hp
  by_cases h : x = pid
  · subst h
    go_enter Try.func23, Try.ntmps23
    go_wp2_with fail
    go_ret
    exact ⟨by simp, by (repeat (first | with_reducible assumption | with_reducible exact Below.refl _ _ | with_reducible refine Below.setCell ?_ ?_ _ | with_reducible refine Below.alloc ?_ ?_ _ | with_reducible refine below_drewN' ?_ _ | with_reducible refine Below.drew ?_ | with_reducible refine Below.trans ?_ (Below.mono (by assumption) ?_) | omega | (dsimp only; omega) | (simp only [drew_heap', drewN_heap', World.size_alloc, World.size_setCell]; omega) | (solve | simp) | (solve | (simp; omega))))⟩
  · have h1 : (x == pid) = false := by simpa using h
    go_enter Try.func23, Try.ntmps23
    go_wp2_with fail
    go_ret
    exact ⟨by simp [h], by (repeat (first | with_reducible assumption | with_reducible exact Below.refl _ _ | with_reducible refine Below.setCell ?_ ?_ _ | with_reducible refine Below.alloc ?_ ?_ _ | with_reducible refine below_drewN' ?_ _ | with_reducible refine Below.drew ?_ | with_reducible refine Below.trans ?_ (Below.mono (by assumption) ?_) | omega | (dsimp only; omega) | (simp only [drew_heap', drewN_heap', World.size_alloc, World.size_setCell]; omega) | (solve | simp) | (solve | (simp; omega))))⟩
theorem drop1_pred (l : List Int) (pid : Int) (B : Nat) (w : World) (hB : B < w.heap.size) (hc : w.cell? ⟨B, 0, none⟩ = some (.int .i64 pid)) (g : Option Nat) (hg : some B ≠ g) :
    Pred Try.prog w g 20 #[.pointer (some ⟨B, 0, none⟩)] (pidP pid) (ints l) :=
  ⟨drop1_body, fun w' hw x hm => by
    obtain ⟨n, _, rfl⟩ := List.mem_map.1 hm
    exact drop1_any n pid B w' ((World.cell?_of_block (a := ⟨B, 0, none⟩) (hw.block B hB hg)).trans hc)⟩
theorem drop2_pred (l : List Int) (pid : Int) (B : Nat) (w : World) (hB : B < w.heap.size) (hc : w.cell? ⟨B, 0, none⟩ = some (.int .i64 pid)) (g : Option Nat) (hg : some B ≠ g) :
    Pred Try.prog w g 23 #[.pointer (some ⟨B, 0, none⟩)] (pidP pid) (ints l) :=
  ⟨drop2_body, fun w' hw x hm => by
    obtain ⟨n, _, rfl⟩ := List.mem_map.1 hm
    exact drop2_any n pid B w' ((World.cell?_of_block (a := ⟨B, 0, none⟩) (hw.block B hB hg)).trans hc)⟩

set_option maxHeartbeats 2000000 in
theorem drop_any (v : Value) (l : List Int) (n pid : Int) (w : World) (hv : Sl w false 1 v (ints l)) (hby : l.length * 8 ≤ 140737488351232) :
    Calls Try.prog 15 #[.agg #[v, .int .i64 n], .int .i64 pid] w fun e w' => ∃ v', e = .returned (.agg #[v', .int .i64 (dropS l n pid).2]) ∧ Sl w' false 1 v' (ints (dropS l n pid).1) ∧ Res w.heap.size v (ints l) v' (ints (dropS l n pid).1) ∧ Below w.heap.size w w' := by
  have HV := Lib.hid hv
  unfold dropS
  obtain ⟨a, cap, rfl, hl⟩ := hv.shape
  clear hv
  rw [ints_len] at hl HV ⊢
  have hI := fun W hs hB hc => indexFunc_int (.slice a l.length cap) (ints l) 20 #[.pointer (some ⟨w.heap.size + 1, 0, none⟩)] (pidP pid) W hs (drop1_pred l pid (w.heap.size + 1) W hB hc none (by simp))
  rw [← placeI_pid] at hI
  have hz := placeI_zero l pid
  rcases placeI_iff l pid with ⟨hp, hm⟩ | ⟨i, hp, hm, hil⟩
  · rw [if_neg hm]
    rw [hp] at hI
    clear hp hm hz
    go_enter Try.func15, Try.ntmps15
    go_wp2_with fail
    with_reducible refine (hI _ (HV.out.below ?_) ?_ ?_).mono ?_
    focus (repeat (first | with_reducible assumption | with_reducible exact Below.refl _ _ | with_reducible refine Below.setCell ?_ ?_ _ | with_reducible refine Below.alloc ?_ ?_ _ | with_reducible refine below_drewN' ?_ _ | with_reducible refine Below.drew ?_ | with_reducible refine Below.trans ?_ (Below.mono (by assumption) ?_) | omega | (dsimp only; omega) | (simp only [drew_heap', drewN_heap', World.size_alloc, World.size_setCell]; omega) | (solve | simp) | (solve | (simp; omega))))
    focus (simp only [World.size_alloc]; omega)
    focus exact (show Box _ (w.heap.size + 1) #[.int .i64 pid] 3 by ((apply Box.cast); (repeat (first | with_reducible assumption | ((with_reducible apply Box.new1); (first | with_reducible rfl | rfl | (solve | simp))) | with_reducible apply Box.drewN | with_reducible apply Box.drew | with_reducible apply Box.set | with_reducible apply Box.other | with_reducible apply Box.alloc | (with_reducible apply Box.below; rotate_left; with_reducible assumption; rotate_right) | with_reducible rfl | omega | (dsimp only; omega) | (simp only [drew_heap', drewN_heap', World.size_alloc, World.size_setCell]; omega) | rfl | (solve | simp) | (solve | (simp; omega)))))).rules.1 0
    rintro e w1 ⟨rfl, hb1⟩
    have hz1 := hb1.size
    simp only [World.size_alloc] at hz1
    (have b1 : Box w1 w.heap.size #[.slice a l.length cap, .int .i64 n] 24 := (by (try have k1 := (Lib.hid True.intro).out); ((apply Box.cast); (repeat (first | with_reducible assumption | ((with_reducible apply Box.new1); (first | with_reducible rfl | rfl | (solve | simp))) | with_reducible apply Box.drewN | with_reducible apply Box.drew | with_reducible apply Box.set | with_reducible apply Box.other | with_reducible apply Box.alloc | (with_reducible apply Box.below; rotate_left; with_reducible assumption; rotate_right) | with_reducible rfl | omega | (dsimp only; omega) | (simp only [drew_heap', drewN_heap', World.size_alloc, World.size_setCell]; omega) | rfl | (solve | simp) | (solve | (simp; omega))))))); (obtain ⟨hc1, hf1, hl1, hn1, hm1⟩ := b1.rules); (have K1 := Lib.hid b1); (clear b1)
    (have b2 : Box w1 (w.heap.size + 1 + 1) #[.slice none 0 0, .int .i64 0] 24 := (by (try have k2 := (Lib.hid True.intro).out); ((apply Box.cast); (repeat (first | with_reducible assumption | ((with_reducible apply Box.new1); (first | with_reducible rfl | rfl | (solve | simp))) | with_reducible apply Box.drewN | with_reducible apply Box.drew | with_reducible apply Box.set | with_reducible apply Box.other | with_reducible apply Box.alloc | (with_reducible apply Box.below; rotate_left; with_reducible assumption; rotate_right) | with_reducible rfl | omega | (dsimp only; omega) | (simp only [drew_heap', drewN_heap', World.size_alloc, World.size_setCell]; omega) | rfl | (solve | simp) | (solve | (simp; omega))))))); (obtain ⟨hc2, hf2, hl2, hn2, hm2⟩ := b2.rules); (have K2 := Lib.hid b2); (clear b2)
    have hbw : Below w.heap.size w w1 := by (repeat (first | with_reducible assumption | with_reducible exact Below.refl _ _ | with_reducible refine Below.setCell ?_ ?_ _ | with_reducible refine Below.alloc ?_ ?_ _ | with_reducible refine below_drewN' ?_ _ | with_reducible refine Below.drew ?_ | with_reducible refine Below.trans ?_ (Below.mono (by assumption) ?_) | omega | (dsimp only; omega) | (simp only [drew_heap', drewN_heap', World.size_alloc, World.size_setCell]; omega) | (solve | simp) | (solve | (simp; omega))))
    clear hI
    go_wp2_with fail
    exact bodyPost_ret (v := .agg #[.slice a l.length cap, .int .i64 n]) (by simp [results, Try.results15, go_sem, hc2]) rfl
      ⟨_, rfl, HV.out.setRes (HV.out.setRes (HV.out.below hbw) (N := w.heap.size + 1 + 1 + 1) Res.same (by omega) (by omega) _ _) (N := w.heap.size + 1 + 1 + 1) Res.same (by omega) (by omega) _ _, Res.same, by (repeat (first | with_reducible assumption | with_reducible exact Below.refl _ _ | with_reducible refine Below.setCell ?_ ?_ _ | with_reducible refine Below.alloc ?_ ?_ _ | with_reducible refine below_drewN' ?_ _ | with_reducible refine Below.drew ?_ | with_reducible refine Below.trans ?_ (Below.mono (by assumption) ?_) | omega | (dsimp only; omega) | (simp only [drew_heap', drewN_heap', World.size_alloc, World.size_setCell]; omega) | (solve | simp) | (solve | (simp; omega))))⟩
  · rw [if_pos hm]
    rw [hp] at hI hz
    have hn1 : ¬ (i : Int) < 0 := by omega
    by_cases h0 : i = 0
    · subst h0
      rw [if_pos (hz.1 rfl)]
      clear hp hm hz
      have hFE := filter_pid l pid
      have HFE := Lib.hid hFE
      clear hFE
      go_enter Try.func15, Try.ntmps15
      go_wp2_with fail
      with_reducible refine (hI _ (HV.out.below ?_) ?_ ?_).mono ?_
      focus (repeat (first | with_reducible assumption | with_reducible exact Below.refl _ _ | with_reducible refine Below.setCell ?_ ?_ _ | with_reducible refine Below.alloc ?_ ?_ _ | with_reducible refine below_drewN' ?_ _ | with_reducible refine Below.drew ?_ | with_reducible refine Below.trans ?_ (Below.mono (by assumption) ?_) | omega | (dsimp only; omega) | (simp only [drew_heap', drewN_heap', World.size_alloc, World.size_setCell]; omega) | (solve | simp) | (solve | (simp; omega))))
      focus (simp only [World.size_alloc]; omega)
      focus exact (show Box _ (w.heap.size + 1) #[.int .i64 pid] 3 by ((apply Box.cast); (repeat (first | with_reducible assumption | ((with_reducible apply Box.new1); (first | with_reducible rfl | rfl | (solve | simp))) | with_reducible apply Box.drewN | with_reducible apply Box.drew | with_reducible apply Box.set | with_reducible apply Box.other | with_reducible apply Box.alloc | (with_reducible apply Box.below; rotate_left; with_reducible assumption; rotate_right) | with_reducible rfl | omega | (dsimp only; omega) | (simp only [drew_heap', drewN_heap', World.size_alloc, World.size_setCell]; omega) | rfl | (solve | simp) | (solve | (simp; omega)))))).rules.1 0
      rintro e w1 ⟨rfl, hb1⟩
      have hz1 := hb1.size
      simp only [World.size_alloc] at hz1
      (have b1 : Box w1 w.heap.size #[.slice a l.length cap, .int .i64 n] 24 := (by (try have k1 := (Lib.hid True.intro).out); ((apply Box.cast); (repeat (first | with_reducible assumption | ((with_reducible apply Box.new1); (first | with_reducible rfl | rfl | (solve | simp))) | with_reducible apply Box.drewN | with_reducible apply Box.drew | with_reducible apply Box.set | with_reducible apply Box.other | with_reducible apply Box.alloc | (with_reducible apply Box.below; rotate_left; with_reducible assumption; rotate_right) | with_reducible rfl | omega | (dsimp only; omega) | (simp only [drew_heap', drewN_heap', World.size_alloc, World.size_setCell]; omega) | rfl | (solve | simp) | (solve | (simp; omega))))))); (obtain ⟨hc1, hf1, hl1, hn1, hm1⟩ := b1.rules); (have K1 := Lib.hid b1); (clear b1)
      (have b2 : Box w1 (w.heap.size + 1) #[.int .i64 pid] 3 := (by (try have k2 := (Lib.hid True.intro).out); ((apply Box.cast); (repeat (first | with_reducible assumption | ((with_reducible apply Box.new1); (first | with_reducible rfl | rfl | (solve | simp))) | with_reducible apply Box.drewN | with_reducible apply Box.drew | with_reducible apply Box.set | with_reducible apply Box.other | with_reducible apply Box.alloc | (with_reducible apply Box.below; rotate_left; with_reducible assumption; rotate_right) | with_reducible rfl | omega | (dsimp only; omega) | (simp only [drew_heap', drewN_heap', World.size_alloc, World.size_setCell]; omega) | rfl | (solve | simp) | (solve | (simp; omega))))))); (obtain ⟨hc2, hf2, hl2, hn2, hm2⟩ := b2.rules); (have K2 := Lib.hid b2); (clear b2)
      (have b3 : Box w1 (w.heap.size + 1 + 1) #[.slice none 0 0, .int .i64 0] 24 := (by (try have k3 := (Lib.hid True.intro).out); ((apply Box.cast); (repeat (first | with_reducible assumption | ((with_reducible apply Box.new1); (first | with_reducible rfl | rfl | (solve | simp))) | with_reducible apply Box.drewN | with_reducible apply Box.drew | with_reducible apply Box.set | with_reducible apply Box.other | with_reducible apply Box.alloc | (with_reducible apply Box.below; rotate_left; with_reducible assumption; rotate_right) | with_reducible rfl | omega | (dsimp only; omega) | (simp only [drew_heap', drewN_heap', World.size_alloc, World.size_setCell]; omega) | rfl | (solve | simp) | (solve | (simp; omega))))))); (obtain ⟨hc3, hf3, hl3, hn3, hm3⟩ := b3.rules); (have K3 := Lib.hid b3); (clear b3)
      have hbw : Below w.heap.size w w1 := by (repeat (first | with_reducible assumption | with_reducible exact Below.refl _ _ | with_reducible refine Below.setCell ?_ ?_ _ | with_reducible refine Below.alloc ?_ ?_ _ | with_reducible refine below_drewN' ?_ _ | with_reducible refine Below.drew ?_ | with_reducible refine Below.trans ?_ (Below.mono (by assumption) ?_) | omega | (dsimp only; omega) | (simp only [drew_heap', drewN_heap', World.size_alloc, World.size_setCell]; omega) | (solve | simp) | (solve | (simp; omega))))
      have HV1 := Lib.hid (HV.out.setRes (HV.out.below hbw) (N := w.heap.size + 1) Res.same (Nat.le_refl _) (by omega) 1 (.int .i64 5))
      clear hI
      go_wp2_with fail
      with_reducible refine (clone_int (.slice a l.length cap) (ints l) _ HV1.out (by rw [ints_len]; omega)).mono ?_
      rintro e w2 ⟨v2, rfl, ho2, hb2⟩
      have hz2 := hb2.size
      try simp only [World.size_alloc, World.size_setCell] at hz2
      have HO2 := Lib.hid (ho2.le (base' := w1.heap.size) (by first | omega | (simp only [World.size_setCell]; omega)))
      have k1 := K1.out
      have k2 := K2.out
      have k3 := K3.out
      (have b4 : Box w2 w.heap.size #[.slice a l.length cap, .int .i64 5] 24 := (by (try have k4 := (Lib.hid True.intro).out); ((apply Box.cast); (repeat (first | with_reducible assumption | ((with_reducible apply Box.new1); (first | with_reducible rfl | rfl | (solve | simp))) | with_reducible apply Box.drewN | with_reducible apply Box.drew | with_reducible apply Box.set | with_reducible apply Box.other | with_reducible apply Box.alloc | (with_reducible apply Box.below; rotate_left; with_reducible assumption; rotate_right) | with_reducible rfl | omega | (dsimp only; omega) | (simp only [drew_heap', drewN_heap', World.size_alloc, World.size_setCell]; omega) | rfl | (solve | simp) | (solve | (simp; omega))))))); (obtain ⟨hc4, hf4, hl4, hn4, hm4⟩ := b4.rules); (have K4 := Lib.hid b4); (clear b4)
      (have b5 : Box w2 (w.heap.size + 1) #[.int .i64 pid] 3 := (by (try have k5 := (Lib.hid True.intro).out); ((apply Box.cast); (repeat (first | with_reducible assumption | ((with_reducible apply Box.new1); (first | with_reducible rfl | rfl | (solve | simp))) | with_reducible apply Box.drewN | with_reducible apply Box.drew | with_reducible apply Box.set | with_reducible apply Box.other | with_reducible apply Box.alloc | (with_reducible apply Box.below; rotate_left; with_reducible assumption; rotate_right) | with_reducible rfl | omega | (dsimp only; omega) | (simp only [drew_heap', drewN_heap', World.size_alloc, World.size_setCell]; omega) | rfl | (solve | simp) | (solve | (simp; omega))))))); (obtain ⟨hc5, hf5, hl5, hn5, hm5⟩ := b5.rules); (have K5 := Lib.hid b5); (clear b5)
      (have b6 : Box w2 (w.heap.size + 1 + 1) #[.slice none 0 0, .int .i64 0] 24 := (by (try have k6 := (Lib.hid True.intro).out); ((apply Box.cast); (repeat (first | with_reducible assumption | ((with_reducible apply Box.new1); (first | with_reducible rfl | rfl | (solve | simp))) | with_reducible apply Box.drewN | with_reducible apply Box.drew | with_reducible apply Box.set | with_reducible apply Box.other | with_reducible apply Box.alloc | (with_reducible apply Box.below; rotate_left; with_reducible assumption; rotate_right) | with_reducible rfl | omega | (dsimp only; omega) | (simp only [drew_heap', drewN_heap', World.size_alloc, World.size_setCell]; omega) | rfl | (solve | simp) | (solve | (simp; omega))))))); (obtain ⟨hc6, hf6, hl6, hn6, hm6⟩ := b6.rules); (have K6 := Lib.hid b6); (clear b6)
      have hbw2 : Below w.heap.size w w2 := by (repeat (first | with_reducible assumption | with_reducible exact Below.refl _ _ | with_reducible refine Below.setCell ?_ ?_ _ | with_reducible refine Below.alloc ?_ ?_ _ | with_reducible refine below_drewN' ?_ _ | with_reducible refine Below.drew ?_ | with_reducible refine Below.trans ?_ (Below.mono (by assumption) ?_) | omega | (dsimp only; omega) | (simp only [drew_heap', drewN_heap', World.size_alloc, World.size_setCell]; omega) | (solve | simp) | (solve | (simp; omega))))
      have hB2 : ∀ b, b < w1.heap.size → some b ≠ v2.ownBlock := fun b hb h => by have := HO2.out.own_ge b h.symm; omega
      have hDel := deleteFunc_int v2 (ints l) 23 #[.pointer (some ⟨w.heap.size + 1, 0, none⟩)] (pidP pid) w2 w1.heap.size HO2.out (drop2_pred l pid (w.heap.size + 1) w2 (by omega) (K5.out.rules.1 0) v2.ownBlock (hB2 _ (by omega)))
      rw [HFE.out] at hDel
      have HDEL := Lib.hid hDel
      obtain ⟨_, a2, cap2, rfl, _⟩ := HO2.out.sl
      rw [ints_len] at HO2 HDEL hB2 ⊢
      clear ho2 k1 k2 k3 hc1 hf1 hl1 hn1 hm1 hc2 hf2 hl2 hn2 hm2 hc3 hf3 hl3 hn3 hm3 hDel
      go_wp2_with fail
      with_reducible refine HDEL.out.mono ?_
      rintro e w4 ⟨v4, rfl, hs4, hown4, hg4⟩
      have hz4 := hg4.size
      have bx4 : Box w4 w.heap.size #[.slice a l.length cap, .int .i64 5] 24 := K4.out.grown hg4 (hB2 _ (by omega))
      have by4 : Box w4 (w.heap.size + 1 + 1) #[.slice none 0 0, .int .i64 0] 24 := K6.out.grown hg4 (hB2 _ (by omega))
      have hbw4 : Below w.heap.size w w4 := HO2.out.below hg4 hbw2 (by omega) (by omega)
      have hR4 : Res w1.heap.size (.slice a l.length cap) (ints l) v4 (ints (l.filter fun y => decide (y ≠ pid))) := .inr fun b hb => HO2.out.own_ge b (by rw [← hown4]; exact hb)
      have HS4 := Lib.hid hs4
      have HR4 := Lib.hid hR4
      obtain ⟨hca, hfa, hla, hna, hma⟩ := bx4.rules
      obtain ⟨hcb, hfb, hlb, hnb, hmb⟩ := by4.rules
      obtain ⟨a4, cap4, rfl, _⟩ := hs4.shape
      rw [ints_len] at HS4 HR4 ⊢
      clear hs4 hown4 hg4 hB2 hR4 HDEL bx4 by4
      go_wp2_with fail
      exact bodyPost_ret (v := .agg #[.slice a4 (l.filter fun y => decide (y ≠ pid)).length cap4, .int .i64 5]) (by simp [results, Try.results15, go_sem, hcb]) rfl
        ⟨_, rfl, HV.out.setRes (HV.out.setRes (HV.out.setRes HS4.out HR4.out (Nat.le_refl _) (by omega) _ _) HR4.out (by omega) (by omega) _ _) HR4.out (by omega) (by omega) _ _, HR4.out.le (by omega), by (repeat (first | with_reducible assumption | with_reducible exact Below.refl _ _ | with_reducible refine Below.setCell ?_ ?_ _ | with_reducible refine Below.alloc ?_ ?_ _ | with_reducible refine below_drewN' ?_ _ | with_reducible refine Below.drew ?_ | with_reducible refine Below.trans ?_ (Below.mono (by assumption) ?_) | omega | (dsimp only; omega) | (simp only [drew_heap', drewN_heap', World.size_alloc, World.size_setCell]; omega) | (solve | simp) | (solve | (simp; omega))))⟩
    · rw [if_neg (fun h => h0 (by have := hz.2 h; omega))]
      have hi0 : ((i : Int) == 0) = false := by rw [beq_eq_false_iff_ne]; omega
      clear h0
      clear hp hm hz
      have hFE := filter_pid l pid
      have HFE := Lib.hid hFE
      clear hFE
      go_enter Try.func15, Try.ntmps15
      go_wp2_with fail
      with_reducible refine (hI _ (HV.out.below ?_) ?_ ?_).mono ?_
      focus (repeat (first | with_reducible assumption | with_reducible exact Below.refl _ _ | with_reducible refine Below.setCell ?_ ?_ _ | with_reducible refine Below.alloc ?_ ?_ _ | with_reducible refine below_drewN' ?_ _ | with_reducible refine Below.drew ?_ | with_reducible refine Below.trans ?_ (Below.mono (by assumption) ?_) | omega | (dsimp only; omega) | (simp only [drew_heap', drewN_heap', World.size_alloc, World.size_setCell]; omega) | (solve | simp) | (solve | (simp; omega))))
      focus (simp only [World.size_alloc]; omega)
      focus exact (show Box _ (w.heap.size + 1) #[.int .i64 pid] 3 by ((apply Box.cast); (repeat (first | with_reducible assumption | ((with_reducible apply Box.new1); (first | with_reducible rfl | rfl | (solve | simp))) | with_reducible apply Box.drewN | with_reducible apply Box.drew | with_reducible apply Box.set | with_reducible apply Box.other | with_reducible apply Box.alloc | (with_reducible apply Box.below; rotate_left; with_reducible assumption; rotate_right) | with_reducible rfl | omega | (dsimp only; omega) | (simp only [drew_heap', drewN_heap', World.size_alloc, World.size_setCell]; omega) | rfl | (solve | simp) | (solve | (simp; omega)))))).rules.1 0
      rintro e w1 ⟨rfl, hb1⟩
      have hz1 := hb1.size
      simp only [World.size_alloc] at hz1
      (have b1 : Box w1 w.heap.size #[.slice a l.length cap, .int .i64 n] 24 := (by (try have k1 := (Lib.hid True.intro).out); ((apply Box.cast); (repeat (first | with_reducible assumption | ((with_reducible apply Box.new1); (first | with_reducible rfl | rfl | (solve | simp))) | with_reducible apply Box.drewN | with_reducible apply Box.drew | with_reducible apply Box.set | with_reducible apply Box.other | with_reducible apply Box.alloc | (with_reducible apply Box.below; rotate_left; with_reducible assumption; rotate_right) | with_reducible rfl | omega | (dsimp only; omega) | (simp only [drew_heap', drewN_heap', World.size_alloc, World.size_setCell]; omega) | rfl | (solve | simp) | (solve | (simp; omega))))))); (obtain ⟨hc1, hf1, hl1, hn1, hm1⟩ := b1.rules); (have K1 := Lib.hid b1); (clear b1)
      (have b2 : Box w1 (w.heap.size + 1) #[.int .i64 pid] 3 := (by (try have k2 := (Lib.hid True.intro).out); ((apply Box.cast); (repeat (first | with_reducible assumption | ((with_reducible apply Box.new1); (first | with_reducible rfl | rfl | (solve | simp))) | with_reducible apply Box.drewN | with_reducible apply Box.drew | with_reducible apply Box.set | with_reducible apply Box.other | with_reducible apply Box.alloc | (with_reducible apply Box.below; rotate_left; with_reducible assumption; rotate_right) | with_reducible rfl | omega | (dsimp only; omega) | (simp only [drew_heap', drewN_heap', World.size_alloc, World.size_setCell]; omega) | rfl | (solve | simp) | (solve | (simp; omega))))))); (obtain ⟨hc2, hf2, hl2, hn2, hm2⟩ := b2.rules); (have K2 := Lib.hid b2); (clear b2)
      (have b3 : Box w1 (w.heap.size + 1 + 1) #[.slice none 0 0, .int .i64 0] 24 := (by (try have k3 := (Lib.hid True.intro).out); ((apply Box.cast); (repeat (first | with_reducible assumption | ((with_reducible apply Box.new1); (first | with_reducible rfl | rfl | (solve | simp))) | with_reducible apply Box.drewN | with_reducible apply Box.drew | with_reducible apply Box.set | with_reducible apply Box.other | with_reducible apply Box.alloc | (with_reducible apply Box.below; rotate_left; with_reducible assumption; rotate_right) | with_reducible rfl | omega | (dsimp only; omega) | (simp only [drew_heap', drewN_heap', World.size_alloc, World.size_setCell]; omega) | rfl | (solve | simp) | (solve | (simp; omega))))))); (obtain ⟨hc3, hf3, hl3, hn3, hm3⟩ := b3.rules); (have K3 := Lib.hid b3); (clear b3)
      have hbw : Below w.heap.size w w1 := by (repeat (first | with_reducible assumption | with_reducible exact Below.refl _ _ | with_reducible refine Below.setCell ?_ ?_ _ | with_reducible refine Below.alloc ?_ ?_ _ | with_reducible refine below_drewN' ?_ _ | with_reducible refine Below.drew ?_ | with_reducible refine Below.trans ?_ (Below.mono (by assumption) ?_) | omega | (dsimp only; omega) | (simp only [drew_heap', drewN_heap', World.size_alloc, World.size_setCell]; omega) | (solve | simp) | (solve | (simp; omega))))
      have HV1 := Lib.hid (HV.out.below hbw)
      clear hI
      go_wp2_with fail
      with_reducible refine (clone_int (.slice a l.length cap) (ints l) _ HV1.out (by rw [ints_len]; omega)).mono ?_
      rintro e w2 ⟨v2, rfl, ho2, hb2⟩
      have hz2 := hb2.size
      try simp only [World.size_alloc, World.size_setCell] at hz2
      have HO2 := Lib.hid (ho2.le (base' := w1.heap.size) (by first | omega | (simp only [World.size_setCell]; omega)))
      have k1 := K1.out
      have k2 := K2.out
      have k3 := K3.out
      (have b4 : Box w2 w.heap.size #[.slice a l.length cap, .int .i64 n] 24 := (by (try have k4 := (Lib.hid True.intro).out); ((apply Box.cast); (repeat (first | with_reducible assumption | ((with_reducible apply Box.new1); (first | with_reducible rfl | rfl | (solve | simp))) | with_reducible apply Box.drewN | with_reducible apply Box.drew | with_reducible apply Box.set | with_reducible apply Box.other | with_reducible apply Box.alloc | (with_reducible apply Box.below; rotate_left; with_reducible assumption; rotate_right) | with_reducible rfl | omega | (dsimp only; omega) | (simp only [drew_heap', drewN_heap', World.size_alloc, World.size_setCell]; omega) | rfl | (solve | simp) | (solve | (simp; omega))))))); (obtain ⟨hc4, hf4, hl4, hn4, hm4⟩ := b4.rules); (have K4 := Lib.hid b4); (clear b4)
      (have b5 : Box w2 (w.heap.size + 1) #[.int .i64 pid] 3 := (by (try have k5 := (Lib.hid True.intro).out); ((apply Box.cast); (repeat (first | with_reducible assumption | ((with_reducible apply Box.new1); (first | with_reducible rfl | rfl | (solve | simp))) | with_reducible apply Box.drewN | with_reducible apply Box.drew | with_reducible apply Box.set | with_reducible apply Box.other | with_reducible apply Box.alloc | (with_reducible apply Box.below; rotate_left; with_reducible assumption; rotate_right) | with_reducible rfl | omega | (dsimp only; omega) | (simp only [drew_heap', drewN_heap', World.size_alloc, World.size_setCell]; omega) | rfl | (solve | simp) | (solve | (simp; omega))))))); (obtain ⟨hc5, hf5, hl5, hn5, hm5⟩ := b5.rules); (have K5 := Lib.hid b5); (clear b5)
      (have b6 : Box w2 (w.heap.size + 1 + 1) #[.slice none 0 0, .int .i64 0] 24 := (by (try have k6 := (Lib.hid True.intro).out); ((apply Box.cast); (repeat (first | with_reducible assumption | ((with_reducible apply Box.new1); (first | with_reducible rfl | rfl | (solve | simp))) | with_reducible apply Box.drewN | with_reducible apply Box.drew | with_reducible apply Box.set | with_reducible apply Box.other | with_reducible apply Box.alloc | (with_reducible apply Box.below; rotate_left; with_reducible assumption; rotate_right) | with_reducible rfl | omega | (dsimp only; omega) | (simp only [drew_heap', drewN_heap', World.size_alloc, World.size_setCell]; omega) | rfl | (solve | simp) | (solve | (simp; omega))))))); (obtain ⟨hc6, hf6, hl6, hn6, hm6⟩ := b6.rules); (have K6 := Lib.hid b6); (clear b6)
      have hbw2 : Below w.heap.size w w2 := by (repeat (first | with_reducible assumption | with_reducible exact Below.refl _ _ | with_reducible refine Below.setCell ?_ ?_ _ | with_reducible refine Below.alloc ?_ ?_ _ | with_reducible refine below_drewN' ?_ _ | with_reducible refine Below.drew ?_ | with_reducible refine Below.trans ?_ (Below.mono (by assumption) ?_) | omega | (dsimp only; omega) | (simp only [drew_heap', drewN_heap', World.size_alloc, World.size_setCell]; omega) | (solve | simp) | (solve | (simp; omega))))
      have hB2 : ∀ b, b < w1.heap.size → some b ≠ v2.ownBlock := fun b hb h => by have := HO2.out.own_ge b h.symm; omega
      have hDel := deleteFunc_int v2 (ints l) 23 #[.pointer (some ⟨w.heap.size + 1, 0, none⟩)] (pidP pid) w2 w1.heap.size HO2.out (drop2_pred l pid (w.heap.size + 1) w2 (by omega) (K5.out.rules.1 0) v2.ownBlock (hB2 _ (by omega)))
      rw [HFE.out] at hDel
      have HDEL := Lib.hid hDel
      obtain ⟨_, a2, cap2, rfl, _⟩ := HO2.out.sl
      rw [ints_len] at HO2 HDEL hB2 ⊢
      clear ho2 k1 k2 k3 hc1 hf1 hl1 hn1 hm1 hc2 hf2 hl2 hn2 hm2 hc3 hf3 hl3 hn3 hm3 hDel
      go_wp2_with fail
      with_reducible refine HDEL.out.mono ?_
      rintro e w4 ⟨v4, rfl, hs4, hown4, hg4⟩
      have hz4 := hg4.size
      have bx4 : Box w4 w.heap.size #[.slice a l.length cap, .int .i64 n] 24 := K4.out.grown hg4 (hB2 _ (by omega))
      have by4 : Box w4 (w.heap.size + 1 + 1) #[.slice none 0 0, .int .i64 0] 24 := K6.out.grown hg4 (hB2 _ (by omega))
      have hbw4 : Below w.heap.size w w4 := HO2.out.below hg4 hbw2 (by omega) (by omega)
      have hR4 : Res w1.heap.size (.slice a l.length cap) (ints l) v4 (ints (l.filter fun y => decide (y ≠ pid))) := .inr fun b hb => HO2.out.own_ge b (by rw [← hown4]; exact hb)
      have HS4 := Lib.hid hs4
      have HR4 := Lib.hid hR4
      obtain ⟨hca, hfa, hla, hna, hma⟩ := bx4.rules
      obtain ⟨hcb, hfb, hlb, hnb, hmb⟩ := by4.rules
      obtain ⟨a4, cap4, rfl, _⟩ := hs4.shape
      rw [ints_len] at HS4 HR4 ⊢
      clear hs4 hown4 hg4 hB2 hR4 HDEL bx4 by4
      go_wp2_with fail
      exact bodyPost_ret (v := .agg #[.slice a4 (l.filter fun y => decide (y ≠ pid)).length cap4, .int .i64 n]) (by simp [results, Try.results15, go_sem, hcb]) rfl
        ⟨_, rfl, HV.out.setRes (HV.out.setRes (HV.out.setRes HS4.out HR4.out (Nat.le_refl _) (by omega) _ _) HR4.out (by omega) (by omega) _ _) HR4.out (by omega) (by omega) _ _, HR4.out.le (by omega), by (repeat (first | with_reducible assumption | with_reducible exact Below.refl _ _ | with_reducible refine Below.setCell ?_ ?_ _ | with_reducible refine Below.alloc ?_ ?_ _ | with_reducible refine below_drewN' ?_ _ | with_reducible refine Below.drew ?_ | with_reducible refine Below.trans ?_ (Below.mono (by assumption) ?_) | omega | (dsimp only; omega) | (simp only [drew_heap', drewN_heap', World.size_alloc, World.size_setCell]; omega) | (solve | simp) | (solve | (simp; omega))))⟩
end Go.Proofs.Ytbehjbiicopgpaa
