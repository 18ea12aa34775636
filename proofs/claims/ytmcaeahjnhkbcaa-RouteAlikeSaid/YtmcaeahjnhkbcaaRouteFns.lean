/- route.Outs, Ins; the closures of package route; images. Conditions: lengths within the reach. -/
import Derived.Test.YtmcaeahjnhkbcaaRouteLib
namespace Go.Proofs.Ytmcaeahjnhkbcaa
open Go Go.RowKit Go.Tm
set_option linter.unusedVariables false
set_option linter.unusedSimpArgs false

theorem okN_true {np : Nat} {n : Int} (h1 : 0 ≤ n) (h2 : n < np) : okN np n = true := okN_iff.2 ⟨h1, h2⟩
theorem okN_false {np : Nat} {n : Int} (h : n < 0 ∨ (np : Int) ≤ n) : okN np n = false := by
  cases h' : okN np n
  · rfl
  · have := okN_iff.1 h'; omega
theorem ok_any (n : Int) (B : Nat) (pa : Option Addr) (np pc : Nat) (fr : Int) (wv cv : Value) (w : World) (hx : Box w B #[.slice pa np pc, .int .i64 fr, wv, cv] 26) :
    Calls Try.prog 16 #[.int .i64 n, .pointer (some ⟨B, 0, none⟩)] w fun e w' => e = .returned (.bool (okN np n)) ∧ w = w' := by
  obtain ⟨c1, f1, l1, n1, m1⟩ := hx.rules
  clear hx
  by_cases h0 : 0 ≤ n
  · by_cases h1 : n < np
    · have d0 : decide (0 ≤ n) = true := decide_eq_true h0
      have d1 : decide (n < (np : Int)) = true := decide_eq_true h1
      have HE := Lib.hid (okN_true h0 h1)
      go_enter Try.func16, Try.ntmps16
      go_wp2_with fail
      go_ret
      exact ⟨by rw [HE.out]; simp, rfl⟩
    · have d0 : decide (0 ≤ n) = true := decide_eq_true h0
      have d1 : decide (n < (np : Int)) = false := decide_eq_false h1
      have HE := Lib.hid (okN_false (np := np) (n := n) (.inr (by omega)))
      go_enter Try.func16, Try.ntmps16
      go_wp2_with fail
      go_ret
      exact ⟨by rw [HE.out]; simp, rfl⟩
  · have d0 : decide (0 ≤ n) = false := decide_eq_false h0
    have HE := Lib.hid (okN_false (np := np) (n := n) (.inl (by omega)))
    go_enter Try.func16, Try.ntmps16
    go_wp2_with fail
    go_ret
    exact ⟨by rw [HE.out]; simp, rfl⟩

theorem some1_body : Body Try.prog 29 := body_of Try.func29 (by kernel_rfl) (by kernel_rfl)
theorem outs1_body : Body Try.prog 20 := body_of Try.func20 (by kernel_rfl) (by kernel_rfl)
theorem ins1_body : Body Try.prog 21 := body_of Try.func21 (by kernel_rfl) (by kernel_rfl)

def fromP (a : Int) : Value → Bool := fun v => match v with | .agg cs => (match cs.toList with | [_, .int _ n, _, _, _] => decide (n = a) | _ => false) | _ => false
def toQ (a : Int) : Value → Bool := fun v => match v with | .agg cs => (match cs.toList with | [_, _, .int _ n, _, _] => decide (n = a) | _ => false) | _ => false
theorem fromP_ch (a : Int) (x : Ch) : fromP a (chV x) = decide (x.2.1 = a) := rfl
theorem toQ_ch (a : Int) (x : Ch) : toQ a (chV x) = decide (x.2.2.1 = a) := rfl
theorem outs_chs (cs : List Ch) (a : Int) : (chs cs).filter (fromP a) = chs (outsS cs a) := by
  unfold outsS
  induction cs with
  | nil => rfl
  | cons x r ih =>
    rw [chs, List.map_cons, List.filter_cons, List.filter_cons, fromP_ch]
    rw [chs] at ih
    split
    · rw [ih]; rfl
    · rw [ih]
theorem ins_chs (cs : List Ch) (a : Int) : (chs cs).filter (toQ a) = chs (insS cs a) := by
  unfold insS
  induction cs with
  | nil => rfl
  | cons x r ih =>
    rw [chs, List.map_cons, List.filter_cons, List.filter_cons, toQ_ch]
    rw [chs] at ih
    split
    · rw [ih]; rfl
    · rw [ih]
theorem outs1_any (x : Ch) (a : Int) (B : Nat) (w : World) (hB : B < w.heap.size) (hc0 : w.cell? ⟨B, 0, none⟩ = some (.int .i64 a)) :
    Calls Try.prog 20 #[chV x, .pointer (some ⟨B, 0, none⟩)] w fun e w' => e = .returned (.bool (fromP a (chV x))) ∧ Below w.heap.size w w' := by
  rw [fromP_ch]
  have hne : ¬ B = w.heap.size := by omega
  obtain ⟨p, n, u, r, s⟩ := x
  dsimp only
  by_cases h : n = a
  · have hb : (n == a) = true := by simpa using h
    go_enter Try.func20, Try.ntmps20
    go_wp2_with fail
    go_ret
    exact ⟨by simp [h], by (repeat (first | with_reducible assumption | with_reducible exact Below.refl _ _ | with_reducible refine Below.setCell ?_ ?_ _ | with_reducible refine Below.alloc ?_ ?_ _ | with_reducible refine below_drewN' ?_ _ | with_reducible refine Below.drew ?_ | with_reducible refine Below.trans ?_ (Below.mono (by assumption) ?_) | omega | (dsimp only; omega) | (simp only [drew_heap', drewN_heap', World.size_alloc, World.size_setCell]; omega) | (solve | simp) | (solve | (simp; omega))))⟩
  · have hb : (n == a) = false := by simpa using h
    go_enter Try.func20, Try.ntmps20
    go_wp2_with fail
    go_ret
    exact ⟨by simp [h], by (repeat (first | with_reducible assumption | with_reducible exact Below.refl _ _ | with_reducible refine Below.setCell ?_ ?_ _ | with_reducible refine Below.alloc ?_ ?_ _ | with_reducible refine below_drewN' ?_ _ | with_reducible refine Below.drew ?_ | with_reducible refine Below.trans ?_ (Below.mono (by assumption) ?_) | omega | (dsimp only; omega) | (simp only [drew_heap', drewN_heap', World.size_alloc, World.size_setCell]; omega) | (solve | simp) | (solve | (simp; omega))))⟩
theorem ins1_any (x : Ch) (a : Int) (B : Nat) (w : World) (hB : B < w.heap.size) (hc0 : w.cell? ⟨B, 0, none⟩ = some (.int .i64 a)) :
    Calls Try.prog 21 #[chV x, .pointer (some ⟨B, 0, none⟩)] w fun e w' => e = .returned (.bool (toQ a (chV x))) ∧ Below w.heap.size w w' := by
  rw [toQ_ch]
  have hne : ¬ B = w.heap.size := by omega
  obtain ⟨p, n, u, r, s⟩ := x
  dsimp only
  by_cases h : u = a
  · have hb : (u == a) = true := by simpa using h
    go_enter Try.func21, Try.ntmps21
    go_wp2_with fail
    go_ret
    exact ⟨by simp [h], by (repeat (first | with_reducible assumption | with_reducible exact Below.refl _ _ | with_reducible refine Below.setCell ?_ ?_ _ | with_reducible refine Below.alloc ?_ ?_ _ | with_reducible refine below_drewN' ?_ _ | with_reducible refine Below.drew ?_ | with_reducible refine Below.trans ?_ (Below.mono (by assumption) ?_) | omega | (dsimp only; omega) | (simp only [drew_heap', drewN_heap', World.size_alloc, World.size_setCell]; omega) | (solve | simp) | (solve | (simp; omega))))⟩
  · have hb : (u == a) = false := by simpa using h
    go_enter Try.func21, Try.ntmps21
    go_wp2_with fail
    go_ret
    exact ⟨by simp [h], by (repeat (first | with_reducible assumption | with_reducible exact Below.refl _ _ | with_reducible refine Below.setCell ?_ ?_ _ | with_reducible refine Below.alloc ?_ ?_ _ | with_reducible refine below_drewN' ?_ _ | with_reducible refine Below.drew ?_ | with_reducible refine Below.trans ?_ (Below.mono (by assumption) ?_) | omega | (dsimp only; omega) | (simp only [drew_heap', drewN_heap', World.size_alloc, World.size_setCell]; omega) | (solve | simp) | (solve | (simp; omega))))⟩
theorem some1_any (x : Ch) (h : FuncId) (B B1 : Nat) (q : Value → Bool) (w : World) (hbody : Body Try.prog h) (hB : B < w.heap.size) (hc0 : w.cell? ⟨B, 0, none⟩ = some (.func (.func h) #[] #[.pointer (some ⟨B1, 0, none⟩)]))
    (hcall : ∀ w', Below w.heap.size w w' → Calls Try.prog h #[chV x, .pointer (some ⟨B1, 0, none⟩)] w' fun e w'' => e = .returned (.bool (q (chV x))) ∧ Below w'.heap.size w' w'') :
    Calls Try.prog 29 #[chV x, .pointer (some ⟨B, 0, none⟩)] w fun e w' => e = .returned (.bool (!q (chV x))) ∧ Below w.heap.size w w' := by
  obtain ⟨y, hy⟩ : ∃ y, y = q (chV x) := ⟨_, rfl⟩
  rw [← hy] at hcall ⊢
  have HC := Lib.hid hcall
  unfold Body at hbody
  have hne : ¬ B = w.heap.size := by omega
  clear hcall hy
  obtain ⟨p, n, u, r, s⟩ := x
  go_enter Try.func29, Try.ntmps29
  go_wp2_with fail
  with_reducible refine (HC.out _ (by (repeat (first | with_reducible assumption | with_reducible exact Below.refl _ _ | with_reducible refine Below.setCell ?_ ?_ _ | with_reducible refine Below.alloc ?_ ?_ _ | with_reducible refine below_drewN' ?_ _ | with_reducible refine Below.drew ?_ | with_reducible refine Below.trans ?_ (Below.mono (by assumption) ?_) | omega | (dsimp only; omega) | (simp only [drew_heap', drewN_heap', World.size_alloc, World.size_setCell]; omega) | (solve | simp) | (solve | (simp; omega)))))).mono ?_
  rintro e w1 ⟨rfl, hb1⟩
  go_wp2_with fail
  go_ret
  exact ⟨by simp, by have := hb1.size; simp only [World.size_alloc] at this; (repeat (first | with_reducible assumption | with_reducible exact Below.refl _ _ | with_reducible refine Below.setCell ?_ ?_ _ | with_reducible refine Below.alloc ?_ ?_ _ | with_reducible refine below_drewN' ?_ _ | with_reducible refine Below.drew ?_ | with_reducible refine Below.trans ?_ (Below.mono (by assumption) ?_) | omega | (dsimp only; omega) | (simp only [drew_heap', drewN_heap', World.size_alloc, World.size_setCell]; omega) | (solve | simp) | (solve | (simp; omega))))⟩

set_option maxHeartbeats 1000000 in
theorem some_any (pa : Option Addr) (np pc : Nat) (fr : Int) (wv cv : Value) (cs : List Ch) (h : FuncId) (B1 : Nat) (n : Int) (q : Value → Bool) (w : World) (hv : Sl w true 5 cv (chs cs)) (hby : cs.length * 40 ≤ 140737488355328) (hbody : Body Try.prog h)
    (hB1 : B1 < w.heap.size) (hc1 : w.cell? ⟨B1, 0, none⟩ = some (.int .i64 n))
    (hq : ∀ (x : Ch) (w' : World), B1 < w'.heap.size → w'.cell? ⟨B1, 0, none⟩ = some (.int .i64 n) → Calls Try.prog h #[chV x, .pointer (some ⟨B1, 0, none⟩)] w' fun e w'' => e = .returned (.bool (q (chV x))) ∧ Below w'.heap.size w' w'') :
    Calls Try.prog 19 #[.agg #[.slice pa np pc, .int .i64 fr, wv, cv], .func (.func h) #[] #[.pointer (some ⟨B1, 0, none⟩)]] w fun e w' => ∃ v', e = .returned v' ∧ Sl w' true 5 v' ((chs cs).filter q) ∧ (∀ b, v'.ownBlock = some b → w.heap.size ≤ b) ∧ Below w.heap.size w w' := by
  have HV := Lib.hid hv
  have HQ := Lib.hid hq
  have HB := Lib.hid hbody
  obtain ⟨a, cap, rfl, hl⟩ := hv.shape
  rw [chs_len] at hl HV ⊢
  clear hv hq hbody
  go_enter Try.func19, Try.ntmps19
  go_wp2_with fail
  with_reducible refine (clone_chan _ (chs cs) _ (HV.out.below (by (repeat (first | with_reducible assumption | with_reducible exact Below.refl _ _ | with_reducible refine Below.setCell ?_ ?_ _ | with_reducible refine Below.alloc ?_ ?_ _ | with_reducible refine below_drewN' ?_ _ | with_reducible refine Below.drew ?_ | with_reducible refine Below.trans ?_ (Below.mono (by assumption) ?_) | omega | (dsimp only; omega) | (simp only [drew_heap', drewN_heap', World.size_alloc, World.size_setCell]; omega) | (solve | simp) | (solve | (simp; omega)))))) (by rw [chs_len]; exact hby)).mono ?_
  rintro e w2 ⟨v2, rfl, ho2, hb2⟩
  have hz2 := hb2.size
  simp only [World.size_alloc] at hz2
  have hbx := Box.below (Box.new1 (w.alloc (.cells #[.slice pa np pc, .int .i64 fr, wv, .slice a cs.length cap] 26)) #[.func (.func h) #[] #[.pointer (some ⟨B1, 0, none⟩)]] 55 (n := w.heap.size + 1) (by simp)) hb2 (by simp only [World.size_alloc]; omega)
  have hbw2 : Below w.heap.size w w2 := by (repeat (first | with_reducible assumption | with_reducible exact Below.refl _ _ | with_reducible refine Below.setCell ?_ ?_ _ | with_reducible refine Below.alloc ?_ ?_ _ | with_reducible refine below_drewN' ?_ _ | with_reducible refine Below.drew ?_ | with_reducible refine Below.trans ?_ (Below.mono (by assumption) ?_) | omega | (dsimp only; omega) | (simp only [drew_heap', drewN_heap', World.size_alloc, World.size_setCell]; omega) | (solve | simp) | (solve | (simp; omega))))
  have hge : ∀ b, v2.ownBlock = some b → w.heap.size + 1 + 1 ≤ b := fun b hb => by have := ho2.own_ge b hb; simp only [World.size_alloc] at this; omega
  have HP : Hid (Pred Try.prog w2 v2.ownBlock 29 #[.pointer (some ⟨w.heap.size + 1, 0, none⟩)] (fun v => !q v) (chs cs)) := Lib.hid ⟨some1_body, fun w' hw x hm => by
    obtain ⟨y, _, rfl⟩ := List.mem_map.1 hm
    have hB3 : w.heap.size + 1 < w'.heap.size := Nat.lt_of_lt_of_le hbx.lt hw.size
    have e1 : w'.heap[w.heap.size + 1]? = w2.heap[w.heap.size + 1]? := hw.block _ hbx.lt (fun h => by have := hge _ h.symm; omega)
    have e2 : w'.heap[B1]? = w2.heap[B1]? := hw.block _ (by omega) (fun h => by have := hge _ h.symm; omega)
    refine some1_any y h (w.heap.size + 1) B1 q w' HB.out hB3 ((World.cell?_of_block (a := ⟨w.heap.size + 1, 0, none⟩) e1).trans (hbx.rules.1 0)) fun w'' hb => ?_
    have h1 : w2.cell? ⟨B1, 0, none⟩ = some (.int .i64 n) := (hbw2.cell (p := ⟨B1, 0, none⟩) hB1).trans hc1
    have h2 : B1 < w'.heap.size := by omega
    exact HQ.out y w'' (Nat.lt_of_lt_of_le h2 hb.size) ((hb.cell (p := ⟨B1, 0, none⟩) h2).trans ((World.cell?_of_block (a := ⟨B1, 0, none⟩) e2).trans h1))⟩
  have HD := Lib.hid (deleteFunc_chan v2 (chs cs) 29 #[.pointer (some ⟨w.heap.size + 1, 0, none⟩)] (fun v => !q v) w2 _ chs_form ho2 HP.out)
  have HO2 := Lib.hid ho2
  clear ho2 hbx
  go_wp2_with fail
  with_reducible refine HD.out.mono ?_
  rintro e w4 ⟨v4, rfl, hs4, hv4, hg4⟩
  have hb4 : Below w.heap.size w w4 := HO2.out.below hg4 hbw2 (by simp only [World.size_alloc]; omega) (by omega)
  simp only [Bool.not_not] at hs4
  have HS4 := Lib.hid hs4
  have HG4 := Lib.hid (show ∀ b, v4.ownBlock = some b → w.heap.size ≤ b from fun b hb => by have := hge b (hv4 ▸ hb); omega)
  clear hs4 hg4 hv4
  go_wp2_with fail
  go_ret
  exact ⟨_, rfl, HS4.out, HG4.out, hb4⟩

set_option maxHeartbeats 1000000 in
theorem outs_any (pa : Option Addr) (np pc : Nat) (fr : Int) (wv cv : Value) (cs : List Ch) (part : Int) (w : World) (hv : Sl w true 5 cv (chs cs)) (hby : cs.length * 40 ≤ 140737488355328) :
    Calls Try.prog 13 #[.agg #[.slice pa np pc, .int .i64 fr, wv, cv], .int .i64 part] w fun e w' => ∃ v', e = .returned v' ∧ Sl w' true 5 v' (chs (outsS cs part)) ∧ Below w.heap.size w w' := by
  have HV := Lib.hid hv
  have HE := Lib.hid (outs_chs cs part)
  have HS := Lib.hid (fun W h hB hc => some_any pa np pc fr wv cv cs 20 (w.heap.size + 1) part (fromP part) W h hby outs1_body hB hc (fun x w' => outs1_any x part (w.heap.size + 1) w'))
  clear hv
  go_enter Try.func13, Try.ntmps13
  go_wp2_with fail
  with_reducible refine (HS.out _ (HV.out.below ?_) ?_ ?_).mono ?_
  focus (repeat (first | with_reducible assumption | with_reducible exact Below.refl _ _ | with_reducible refine Below.setCell ?_ ?_ _ | with_reducible refine Below.alloc ?_ ?_ _ | with_reducible refine below_drewN' ?_ _ | with_reducible refine Below.drew ?_ | with_reducible refine Below.trans ?_ (Below.mono (by assumption) ?_) | omega | (dsimp only; omega) | (simp only [drew_heap', drewN_heap', World.size_alloc, World.size_setCell]; omega) | (solve | simp) | (solve | (simp; omega))))
  focus (simp only [World.size_alloc]; omega)
  focus exact (Box.new1 (w.alloc (.cells #[.slice pa np pc, .int .i64 fr, wv, cv] 26)) #[.int .i64 part] 3 (n := w.heap.size + 1) (by simp)).rules.1 0
  rintro e w1 ⟨v1, rfl, hs1, _, hb1⟩
  rw [HE.out] at hs1
  have HS1 := Lib.hid hs1
  clear hs1
  go_wp2_with fail
  go_ret
  exact ⟨_, rfl, HS1.out, by have := hb1.size; simp only [World.size_alloc] at this; (repeat (first | with_reducible assumption | with_reducible exact Below.refl _ _ | with_reducible refine Below.setCell ?_ ?_ _ | with_reducible refine Below.alloc ?_ ?_ _ | with_reducible refine below_drewN' ?_ _ | with_reducible refine Below.drew ?_ | with_reducible refine Below.trans ?_ (Below.mono (by assumption) ?_) | omega | (dsimp only; omega) | (simp only [drew_heap', drewN_heap', World.size_alloc, World.size_setCell]; omega) | (solve | simp) | (solve | (simp; omega))))⟩
set_option maxHeartbeats 1000000 in
theorem ins_any (pa : Option Addr) (np pc : Nat) (fr : Int) (wv cv : Value) (cs : List Ch) (part : Int) (w : World) (hv : Sl w true 5 cv (chs cs)) (hby : cs.length * 40 ≤ 140737488355328) :
    Calls Try.prog 14 #[.agg #[.slice pa np pc, .int .i64 fr, wv, cv], .int .i64 part] w fun e w' => ∃ v', e = .returned v' ∧ Sl w' true 5 v' (chs (insS cs part)) ∧ Below w.heap.size w w' := by
  have HV := Lib.hid hv
  have HE := Lib.hid (ins_chs cs part)
  have HS := Lib.hid (fun W h hB hc => some_any pa np pc fr wv cv cs 21 (w.heap.size + 1) part (toQ part) W h hby ins1_body hB hc (fun x w' => ins1_any x part (w.heap.size + 1) w'))
  clear hv
  go_enter Try.func14, Try.ntmps14
  go_wp2_with fail
  with_reducible refine (HS.out _ (HV.out.below ?_) ?_ ?_).mono ?_
  focus (repeat (first | with_reducible assumption | with_reducible exact Below.refl _ _ | with_reducible refine Below.setCell ?_ ?_ _ | with_reducible refine Below.alloc ?_ ?_ _ | with_reducible refine below_drewN' ?_ _ | with_reducible refine Below.drew ?_ | with_reducible refine Below.trans ?_ (Below.mono (by assumption) ?_) | omega | (dsimp only; omega) | (simp only [drew_heap', drewN_heap', World.size_alloc, World.size_setCell]; omega) | (solve | simp) | (solve | (simp; omega))))
  focus (simp only [World.size_alloc]; omega)
  focus exact (Box.new1 (w.alloc (.cells #[.slice pa np pc, .int .i64 fr, wv, cv] 26)) #[.int .i64 part] 3 (n := w.heap.size + 1) (by simp)).rules.1 0
  rintro e w1 ⟨v1, rfl, hs1, _, hb1⟩
  rw [HE.out] at hs1
  have HS1 := Lib.hid hs1
  clear hs1
  go_wp2_with fail
  go_ret
  exact ⟨_, rfl, HS1.out, by have := hb1.size; simp only [World.size_alloc] at this; (repeat (first | with_reducible assumption | with_reducible exact Below.refl _ _ | with_reducible refine Below.setCell ?_ ?_ _ | with_reducible refine Below.alloc ?_ ?_ _ | with_reducible refine below_drewN' ?_ _ | with_reducible refine Below.drew ?_ | with_reducible refine Below.trans ?_ (Below.mono (by assumption) ?_) | omega | (dsimp only; omega) | (simp only [drew_heap', drewN_heap', World.size_alloc, World.size_setCell]; omega) | (solve | simp) | (solve | (simp; omega))))⟩
end Go.Proofs.Ytmcaeahjnhkbcaa
