/- heap.New, Drop: what they answer. Conditions: lengths within the reach. -/
import Derived.Test.YtdfkfoffinchhaaHeapRight
namespace Go.Proofs.Ytdfkfoffinchhaa
open Go Go.RowKit Go.Tm
set_option linter.unusedVariables false
set_option linter.unusedSimpArgs false

set_option maxHeartbeats 1000000 in
theorem new_any (size : Int) (w : World) : Calls Try.prog 21 #[.int .i64 size] w fun e w' =>
    e = .returned (.tuple #[.agg #[.int .i64 (if size < 0 then 0 else size), .slice none 0 0], .int .i64 (if size < 0 then 1 else 0)]) ∧ Below w.heap.size w w' := by
  by_cases h : size < 0
  · rw [if_pos h, if_pos h]
    go_enter Try.func21, Try.ntmps21
    go_wp2_with fail
    exact bodyPost_ret (v := .tuple #[.agg #[.int .i64 0, .slice none 0 0], .int .i64 1]) (by simp [results, Try.results21, go_sem]) rfl ⟨rfl, by (repeat (first | with_reducible assumption | with_reducible exact Below.refl _ _ | with_reducible refine Below.setCell ?_ ?_ _ | with_reducible refine Below.alloc ?_ ?_ _ | with_reducible refine below_drewN' ?_ _ | with_reducible refine Below.drew ?_ | with_reducible refine Below.trans ?_ (Below.mono (by assumption) ?_) | omega | (dsimp only; omega) | (simp only [drew_heap', drewN_heap', World.size_alloc, World.size_setCell]; omega) | (solve | simp) | (solve | (simp; omega))))⟩
  · rw [if_neg h, if_neg h]
    go_enter Try.func21, Try.ntmps21
    go_wp2_with fail
    exact bodyPost_ret (v := .tuple #[.agg #[.int .i64 size, .slice none 0 0], .int .i64 0]) (by simp [results, Try.results21, go_sem]) rfl ⟨rfl, by (repeat (first | with_reducible assumption | with_reducible exact Below.refl _ _ | with_reducible refine Below.setCell ?_ ?_ _ | with_reducible refine Below.alloc ?_ ?_ _ | with_reducible refine below_drewN' ?_ _ | with_reducible refine Below.drew ?_ | with_reducible refine Below.trans ?_ (Below.mono (by assumption) ?_) | omega | (dsimp only; omega) | (simp only [drew_heap', drewN_heap', World.size_alloc, World.size_setCell]; omega) | (solve | simp) | (solve | (simp; omega))))⟩
theorem refNew_any (size : Int) (w : World) : Calls Try.prog 25 #[.int .i64 size] w fun e w' =>
    e = .returned (.tuple #[.agg #[.int .i64 (if size < 0 then 0 else size), .slice none 0 0], .int .i64 (if size < 0 then 1 else 0)]) ∧ Below w.heap.size w w' := by
  by_cases h : size < 0
  · rw [if_pos h, if_pos h]
    go_enter Try.func25, Try.ntmps25
    go_wp2_with fail
    exact bodyPost_ret (v := .tuple #[.agg #[.int .i64 0, .slice none 0 0], .int .i64 1]) (by simp [results, Try.results25, go_sem]) rfl ⟨rfl, by (repeat (first | with_reducible assumption | with_reducible exact Below.refl _ _ | with_reducible refine Below.setCell ?_ ?_ _ | with_reducible refine Below.alloc ?_ ?_ _ | with_reducible refine below_drewN' ?_ _ | with_reducible refine Below.drew ?_ | with_reducible refine Below.trans ?_ (Below.mono (by assumption) ?_) | omega | (dsimp only; omega) | (simp only [drew_heap', drewN_heap', World.size_alloc, World.size_setCell]; omega) | (solve | simp) | (solve | (simp; omega))))⟩
  · rw [if_neg h, if_neg h]
    go_enter Try.func25, Try.ntmps25
    go_wp2_with fail
    exact bodyPost_ret (v := .tuple #[.agg #[.int .i64 size, .slice none 0 0], .int .i64 0]) (by simp [results, Try.results25, go_sem]) rfl ⟨rfl, by (repeat (first | with_reducible assumption | with_reducible exact Below.refl _ _ | with_reducible refine Below.setCell ?_ ?_ _ | with_reducible refine Below.alloc ?_ ?_ _ | with_reducible refine below_drewN' ?_ _ | with_reducible refine Below.drew ?_ | with_reducible refine Below.trans ?_ (Below.mono (by assumption) ?_) | omega | (dsimp only; omega) | (simp only [drew_heap', drewN_heap', World.size_alloc, World.size_setCell]; omega) | (solve | simp) | (solve | (simp; omega))))⟩

def whoP (who : Int) : Value → Bool := fun v => match v with | .agg cs => (match cs.toList with | [_, _, .int _ n] => decide (n = who) | _ => false) | _ => false
theorem whoP_sp (who : Int) (x : Sp) : whoP who (spV x) = decide (x.2.2 = who) := rfl
theorem drop1_body : Body Try.prog 36 := body_of Try.func36 (by kernel_rfl) (by kernel_rfl)
theorem drop1_any (x : Sp) (who : Int) (B : Nat) (w : World) (hB : B < w.heap.size) (hc0 : w.cell? ⟨B, 0, none⟩ = some (.int .i64 who)) :
    Calls Try.prog 36 #[spV x, .pointer (some ⟨B, 0, none⟩)] w fun e w' => e = .returned (.bool (whoP who (spV x))) ∧ Below w.heap.size w w' := by
  rw [whoP_sp]
  have hne : ¬ B = w.heap.size := by omega
  obtain ⟨p, n, u⟩ := x
  dsimp only
  by_cases h : u = who
  · have hb : (u == who) = true := by simpa using h
    go_enter Try.func36, Try.ntmps36
    go_wp2_with fail
    go_ret
    exact ⟨by simp [h], by (repeat (first | with_reducible assumption | with_reducible exact Below.refl _ _ | with_reducible refine Below.setCell ?_ ?_ _ | with_reducible refine Below.alloc ?_ ?_ _ | with_reducible refine below_drewN' ?_ _ | with_reducible refine Below.drew ?_ | with_reducible refine Below.trans ?_ (Below.mono (by assumption) ?_) | omega | (dsimp only; omega) | (simp only [drew_heap', drewN_heap', World.size_alloc, World.size_setCell]; omega) | (solve | simp) | (solve | (simp; omega))))⟩
  · have hb : (u == who) = false := by simpa using h
    go_enter Try.func36, Try.ntmps36
    go_wp2_with fail
    go_ret
    exact ⟨by simp [h], by (repeat (first | with_reducible assumption | with_reducible exact Below.refl _ _ | with_reducible refine Below.setCell ?_ ?_ _ | with_reducible refine Below.alloc ?_ ?_ _ | with_reducible refine below_drewN' ?_ _ | with_reducible refine Below.drew ?_ | with_reducible refine Below.trans ?_ (Below.mono (by assumption) ?_) | omega | (dsimp only; omega) | (simp only [drew_heap', drewN_heap', World.size_alloc, World.size_setCell]; omega) | (solve | simp) | (solve | (simp; omega))))⟩
theorem pred_cell {f : FuncId} {q : Value → Bool} (hbody : Body Try.prog f) (n : Int) (l : List Sp) (B : Nat) (w : World) (hB : B < w.heap.size) (hc0 : w.cell? ⟨B, 0, none⟩ = some (.int .i64 n)) (g : Option Nat) (hg : some B ≠ g)
    (h : ∀ (x : Sp) (w' : World), B < w'.heap.size → w'.cell? ⟨B, 0, none⟩ = some (.int .i64 n) → Calls Try.prog f #[spV x, .pointer (some ⟨B, 0, none⟩)] w' fun e w'' => e = .returned (.bool (q (spV x))) ∧ Below w'.heap.size w' w'') :
    Pred Try.prog w g f #[.pointer (some ⟨B, 0, none⟩)] q (sps l) :=
  ⟨hbody, fun w' hw x hm => by
    obtain ⟨n, _, rfl⟩ := List.mem_map.1 hm
    exact h n w' (Nat.lt_of_lt_of_le hB hw.size) ((World.cell?_of_block (a := ⟨B, 0, none⟩) (hw.block B hB hg)).trans hc0)⟩
def dropS (l : List Sp) (who : Int) : List Sp := l.filter fun x => !decide (x.2.2 = who)
theorem dropS_sps (l : List Sp) (who : Int) : (sps l).filter (fun x => !whoP who x) = sps (dropS l who) := by
  unfold dropS
  induction l with
  | nil => rfl
  | cons x r ih =>
    rw [sps, List.map_cons, List.filter_cons, List.filter_cons, whoP_sp]
    rw [sps] at ih
    split
    · rw [ih]; rfl
    · rw [ih]
theorem dropS_le (l : List Sp) (who : Int) : (dropS l who).length ≤ l.length := List.length_filter_le _ _

set_option maxHeartbeats 1000000 in
theorem without_any (v : Value) (l : List Sp) (fid : FuncId) (B : Nat) (n : Int) (q : Value → Bool) (w : World) (hv : Sl w true 3 v (sps l)) (hby : l.length * 24 ≤ 140737488355328) (hbody : Body Try.prog fid) (hB : B < w.heap.size) (hc0 : w.cell? ⟨B, 0, none⟩ = some (.int .i64 n))
    (h : ∀ (x : Sp) (w' : World), B < w'.heap.size → w'.cell? ⟨B, 0, none⟩ = some (.int .i64 n) → Calls Try.prog fid #[spV x, .pointer (some ⟨B, 0, none⟩)] w' fun e w'' => e = .returned (.bool (q (spV x))) ∧ Below w'.heap.size w' w'') :
    Calls Try.prog 35 #[v, .func (.func fid) #[] #[.pointer (some ⟨B, 0, none⟩)]] w fun e w' => ∃ v', e = .returned v' ∧ Sl w' true 3 v' ((sps l).filter fun x => !q x) ∧ (∀ b, v'.ownBlock = some b → w.heap.size ≤ b) ∧ Below w.heap.size w w' := by
  have HV := Lib.hid hv
  have HH := Lib.hid h
  clear hv h
  go_enter Try.func35, Try.ntmps35
  go_wp2_with fail
  with_reducible refine (clone_span v (sps l) _ HV.out (by rw [sps_len]; exact hby)).mono ?_
  rintro e w2 ⟨v2, rfl, ho2, hb2⟩
  have hz2 := hb2.size
  have hB2 : some B ≠ v2.ownBlock := fun h => by have := ho2.own_ge _ h.symm; omega
  have HD := Lib.hid (deleteFunc_span v2 (sps l) fid #[.pointer (some ⟨B, 0, none⟩)] q w2 w.heap.size (fun x hx => by obtain ⟨a, _, rfl⟩ := List.mem_map.1 hx; exact ⟨_, _, _, rfl⟩) ho2 (pred_cell hbody n l B w2 (by omega) ((hb2.cell (p := ⟨B, 0, none⟩) hB).trans hc0) v2.ownBlock hB2 HH.out))
  have HO2 := Lib.hid ho2
  clear ho2 hc0
  go_wp2_with fail
  with_reducible refine HD.out.mono ?_
  rintro e w4 ⟨v4, rfl, hs4, hv4, hg4⟩
  have HS4 := Lib.hid hs4
  have HV4 := Lib.hid hv4
  have hb4 : Below w.heap.size w w4 := HO2.out.below hg4 hb2 (Nat.le_refl _) (by omega)
  clear hs4 hg4 hv4
  go_wp2_with fail
  go_ret
  exact ⟨_, rfl, HS4.out, fun b hb => HO2.out.own_ge b (HV4.out ▸ hb), hb4⟩

set_option maxHeartbeats 1000000 in
theorem drop_any (size : Int) (v : Value) (l : List Sp) (who : Int) (w : World) (hv : Sl w true 3 v (sps l)) (hby : l.length * 24 ≤ 140737488355328) :
    Calls Try.prog 18 #[.agg #[.int .i64 size, v], .int .i64 who] w fun e w' => ∃ v', e = .returned (.agg #[.int .i64 size, v']) ∧ Sl w' true 3 v' (sps (dropS l who)) ∧ Below w.heap.size w w' := by
  have HV := Lib.hid hv
  have HE := Lib.hid (dropS_sps l who)
  have HWO := Lib.hid (fun W h hB hc => without_any v l 36 (w.heap.size + 1) who (whoP who) W h hby drop1_body hB hc (fun x w' => drop1_any x who (w.heap.size + 1) w'))
  clear hv
  go_enter Try.func18, Try.ntmps18
  go_wp2_with fail
  with_reducible refine (HWO.out _ (HV.out.below ?_) ?_ ?_).mono ?_
  focus (repeat (first | with_reducible assumption | with_reducible exact Below.refl _ _ | with_reducible refine Below.setCell ?_ ?_ _ | with_reducible refine Below.alloc ?_ ?_ _ | with_reducible refine below_drewN' ?_ _ | with_reducible refine Below.drew ?_ | with_reducible refine Below.trans ?_ (Below.mono (by assumption) ?_) | omega | (dsimp only; omega) | (simp only [drew_heap', drewN_heap', World.size_alloc, World.size_setCell]; omega) | (solve | simp) | (solve | (simp; omega))))
  focus (simp only [World.size_alloc]; omega)
  focus exact ((Box.new1 (w.alloc (.cells #[.int .i64 size, v] 24)) #[.int .i64 who] 3 (n := w.heap.size + 1) (by simp)).alloc _).rules.1 0
  rintro e w4 ⟨v4, rfl, hs4, hg4, hb4⟩
  simp only [World.size_alloc] at hg4
  have HG4 := Lib.hid hg4
  have hz4 := hb4.size
  simp only [World.size_alloc] at hz4
  have bx1 : Box w4 w.heap.size #[.int .i64 size, v] 24 := (((Box.new _ _ _).alloc _).alloc _).below hb4 (by simp only [World.size_alloc]; omega)
  have bx3 : Box w4 (w.heap.size + 1 + 1) #[.int .i64 0, .slice none 0 0] 24 := Box.below (Box.new1 _ _ _ (by simp)) hb4 (by simp only [World.size_alloc]; omega)
  have hbw : Below w.heap.size w w4 := by (repeat (first | with_reducible assumption | with_reducible exact Below.refl _ _ | with_reducible refine Below.setCell ?_ ?_ _ | with_reducible refine Below.alloc ?_ ?_ _ | with_reducible refine below_drewN' ?_ _ | with_reducible refine Below.drew ?_ | with_reducible refine Below.trans ?_ (Below.mono (by assumption) ?_) | omega | (dsimp only; omega) | (simp only [drew_heap', drewN_heap', World.size_alloc, World.size_setCell]; omega) | (solve | simp) | (solve | (simp; omega))))
  rw [HE.out] at hs4
  obtain ⟨c1, f1, l1, n1, m1⟩ := bx1.rules
  obtain ⟨c3, f3, l3, n3, m3⟩ := bx3.rules
  have HS4 := Lib.hid hs4
  obtain ⟨a4, cap4, rfl, _⟩ := hs4.shape
  rw [sps_len] at HS4 HG4 ⊢
  clear hs4 bx1 bx3 hb4 hg4
  go_wp2_with fail
  refine bodyPost_ret (v := .agg #[.int .i64 size, .slice a4 (dropS l who).length cap4]) (by simp [results, Try.results18, go_sem, c1, c3]) rfl ⟨_, rfl, ?_, by (repeat (first | with_reducible assumption | with_reducible exact Below.refl _ _ | with_reducible refine Below.setCell ?_ ?_ _ | with_reducible refine Below.alloc ?_ ?_ _ | with_reducible refine below_drewN' ?_ _ | with_reducible refine Below.drew ?_ | with_reducible refine Below.trans ?_ (Below.mono (by assumption) ?_) | omega | (dsimp only; omega) | (simp only [drew_heap', drewN_heap', World.size_alloc, World.size_setCell]; omega) | (solve | simp) | (solve | (simp; omega))))⟩
  exact (((HS4.out.setOther (.inr fun b hb => by have := HG4.out b hb; omega) _ _).setOther (.inr fun b hb => by have := HG4.out b hb; omega) _ _).setOther (.inr fun b hb => by have := HG4.out b hb; omega) _ _)
end Go.Proofs.Ytdfkfoffinchhaa
