/- plan.Check: 0 where the plan is right, and else something else. Conditions: what came in is shaped. -/
import Derived.Test.YtinhnecgmokfkaaPlanLib
namespace Go.Proofs.Ytinhnecgmokfkaa
open Go Go.RowKit Go.Tm
set_option linter.unusedVariables false
set_option linter.unusedSimpArgs false

/-- A row of windows, one behind the other, from b on. -/
def RowOk (n : Nat) (frame : Int) : Int → List Wn → Prop
  | _, [] => True
  | b, x :: r => WinOk n frame x ∧ b ≤ x.2.1 ∧ RowOk n frame (x.2.1 + x.2.2) r
theorem rowOk_drop {n : Nat} {frame b : Int} {l : List Wn} {k : Nat} {x : Wn} (h : l[k]? = some x) : RowOk n frame b (l.drop k) ↔ WinOk n frame x ∧ b ≤ x.2.1 ∧ RowOk n frame (x.2.1 + x.2.2) (l.drop (k + 1)) := by
  have hl := (List.getElem?_eq_some_iff.1 h).1
  have : l.drop k = x :: l.drop (k + 1) := by
    rw [List.drop_eq_getElem_cons hl]
    rw [List.getElem?_eq_getElem hl] at h
    cases h; rfl
  rw [this]
  exact Iff.rfl
structure PlanOk (p : Pln) : Prop where
  parts4 : p.parts.length ≤ 4
  wins3 : p.wins.length ≤ 3
  chans6 : p.chans.length ≤ 6
  wins8 : ∀ l ∈ p.wins, l.length ≤ 8
  parts0 : p.parts.length ≠ 0
  wins0 : p.wins.length ≠ 0
  part : ∀ x ∈ p.parts, PartOk x
  frame1 : 1 ≤ p.frame
  frame4096 : p.frame ≤ 4096
  rows : ∀ l ∈ p.wins, RowOk p.parts.length p.frame 0 l
  chans : ∀ c ∈ p.chans, ChanOk p.parts.length c

theorem long_pred (vs : List Value) (ls : List (List Wn)) (W0 w : World) (hl : vs.length = ls.length) (h : ∀ (i : Nat) (u : Value) (l : List Wn), vs[i]? = some u → ls[i]? = some l → Sl W0 true 3 u (l.map wnV)) :
    Pred Try.prog w none 28 #[] longP vs :=
  ⟨check1_body, fun w' _ x hm => by
    obtain ⟨i, hi, he⟩ := List.mem_iff_getElem.1 hm
    obtain ⟨a, cap, hs, _⟩ := (h i x ls[i] (by rw [List.getElem?_eq_getElem hi, he]) (List.getElem?_eq_getElem (by omega))).shape
    subst hs
    exact check1_any a _ cap w'⟩
theorem long_any {vs : List Value} {ls : List (List Wn)} {W0 : World} (hl : vs.length = ls.length) (h : ∀ (i : Nat) (u : Value) (l : List Wn), vs[i]? = some u → ls[i]? = some l → Sl W0 true 3 u (l.map wnV)) :
    vs.any longP = decide (∃ l ∈ ls, 8 < l.length) := by
  rw [Bool.eq_iff_iff, List.any_eq_true, decide_eq_true_eq]
  constructor
  · rintro ⟨x, hm, hx⟩
    obtain ⟨i, hi, he⟩ := List.mem_iff_getElem.1 hm
    obtain ⟨a, cap, hs, _⟩ := (h i x ls[i] (by rw [List.getElem?_eq_getElem hi, he]) (List.getElem?_eq_getElem (by omega))).shape
    subst hs
    exact ⟨ls[i], List.getElem_mem _, by simpa [longP] using hx⟩
  · rintro ⟨l, hm, hx⟩
    obtain ⟨i, hi, he⟩ := List.mem_iff_getElem.1 hm
    obtain ⟨a, cap, hs, _⟩ := (h i vs[i] ls[i] (List.getElem?_eq_getElem (by omega)) (List.getElem?_eq_getElem (by omega))).shape
    exact ⟨vs[i], List.getElem_mem _, by rw [hs, he]; simpa [longP] using hx⟩

def badPtP : Value → Bool := fun v => match v with | .agg cs => (match cs.toList with | [.int _ m, .int _ a, .int _ b, .int _ c] => !decide (PartOk (m, a, b, c)) | _ => false) | _ => false
theorem check2_body : Body Try.prog 31 := body_of Try.func31 (by kernel_rfl) (by kernel_rfl)
theorem check2_any (x : Pt) (w : World) : Calls Try.prog 31 #[ptV x] w fun e w' => e = .returned (.bool (!decide (PartOk x))) ∧ Below w.heap.size w w' := by
  have HP := Lib.hid (fun W => part_any x W)
  generalize decide (PartOk x) = r at *
  go_enter Try.func31, Try.ntmps31
  go_wp2_with fail
  with_reducible refine (HP.out _).mono ?_
  rintro e w1 ⟨rfl, hb1⟩
  have hbw : Below w.heap.size w w1 := by (repeat (first | with_reducible assumption | with_reducible exact Below.refl _ _ | with_reducible refine Below.setCell ?_ ?_ _ | with_reducible refine Below.alloc ?_ ?_ _ | with_reducible refine below_drewN' ?_ _ | with_reducible refine Below.drew ?_ | with_reducible refine Below.trans ?_ (Below.mono (by assumption) ?_) | omega | (dsimp only; omega) | (simp only [drew_heap', drewN_heap', World.size_alloc, World.size_setCell]; omega) | (solve | simp) | (solve | (simp; omega))))
  go_wp2_with fail
  go_ret
  exact ⟨rfl, hbw⟩
theorem part_pred (l : List Pt) (w : World) : Pred Try.prog w none 31 #[] badPtP (l.map ptV) :=
  ⟨check2_body, fun w' _ x hm => by
    obtain ⟨n, _, rfl⟩ := List.mem_map.1 hm
    exact check2_any n w'⟩
theorem parts_any (l : List Pt) : (l.map ptV).any badPtP = decide (∃ x ∈ l, ¬ PartOk x) := by
  rw [Bool.eq_iff_iff, List.any_eq_true, decide_eq_true_eq]
  constructor
  · rintro ⟨v, hm, hx⟩
    obtain ⟨x, hx', rfl⟩ := List.mem_map.1 hm
    exact ⟨x, hx', by have : (!decide (PartOk x)) = true := hx; simpa using this⟩
  · rintro ⟨x, hm, hx⟩
    exact ⟨ptV x, List.mem_map.2 ⟨x, hm, rfl⟩, by show (!decide (PartOk x)) = true; simpa using hx⟩

def badChP (n : Nat) : Value → Bool := fun v => match v with | .agg cs => (match cs.toList with | [.int _ m, .int _ a, .int _ b, .int _ c, .int _ d] => !decide (ChanOk n (m, a, b, c, d)) | _ => false) | _ => false
theorem check3_body : Body Try.prog 35 := body_of Try.func35 (by kernel_rfl) (by kernel_rfl)
theorem check3_any (a1 : Option Addr) (n c1 : Nat) (frame : Int) (wv cv : Value) (x : Ch) (B : Nat) (w : World) (hB : Box w B #[.slice a1 n c1, .int .i64 frame, wv, cv] 26) (hwv : wv.oneCell' = true) (hcv : cv.oneCell' = true) :
    Calls Try.prog 35 #[chV x, .pointer (some ⟨B, 0, none⟩)] w fun e w' => e = .returned (.bool (!decide (ChanOk n x))) ∧ Below w.heap.size w w' := by
  have HC := Lib.hid (fun W => channel_any a1 n c1 frame wv cv x W)
  have HB := Lib.hid hB
  have hlt := hB.lt
  generalize decide (ChanOk n x) = r at *
  clear hB
  obtain ⟨k, f, t, s, d⟩ := x
  try dsimp only at *
  go_enter Try.func35, Try.ntmps35
  (have b1 : Box (w.alloc (.cells #[.int .i64 k, .int .i64 f, .int .i64 t, .int .i64 s, .int .i64 d] 54)) B #[.slice a1 n c1, .int .i64 frame, wv, cv] 26 := (by (try have k1 := HB.out); ((apply Box.cast); (repeat (first | with_reducible assumption | ((with_reducible apply Box.new1); (first | with_reducible rfl | rfl | (solve | simp))) | with_reducible apply Box.drewN | with_reducible apply Box.drew | with_reducible apply Box.set | with_reducible apply Box.other | with_reducible apply Box.alloc | (with_reducible apply Box.below; rotate_left; with_reducible assumption; rotate_right) | with_reducible rfl | omega | (dsimp only; omega) | (simp only [drew_heap', drewN_heap', World.size_alloc, World.size_setCell]; omega) | rfl | (solve | simp) | (solve | (simp; omega))))))); (obtain ⟨hc1, hf1, hl1, hn1, hm1⟩ := b1.rules); (have K1 := Lib.hid b1); (clear b1)
  go_wp2_with fail
  with_reducible refine (HC.out _).mono ?_
  rintro e w1 ⟨rfl, hb1⟩
  have hbw : Below w.heap.size w w1 := by (repeat (first | with_reducible assumption | with_reducible exact Below.refl _ _ | with_reducible refine Below.setCell ?_ ?_ _ | with_reducible refine Below.alloc ?_ ?_ _ | with_reducible refine below_drewN' ?_ _ | with_reducible refine Below.drew ?_ | with_reducible refine Below.trans ?_ (Below.mono (by assumption) ?_) | omega | (dsimp only; omega) | (simp only [drew_heap', drewN_heap', World.size_alloc, World.size_setCell]; omega) | (solve | simp) | (solve | (simp; omega))))
  go_wp2_with fail
  go_ret
  exact ⟨rfl, hbw⟩
theorem chan_pred (a1 : Option Addr) (n c1 : Nat) (frame : Int) (wv cv : Value) (l : List Ch) (B : Nat) (w : World) (hB : Box w B #[.slice a1 n c1, .int .i64 frame, wv, cv] 26) (hwv : wv.oneCell' = true) (hcv : cv.oneCell' = true) :
    Pred Try.prog w none 35 #[.pointer (some ⟨B, 0, none⟩)] (badChP n) (l.map chV) :=
  ⟨check3_body, fun w' hw x hm => by
    obtain ⟨y, _, rfl⟩ := List.mem_map.1 hm
    exact check3_any a1 n c1 frame wv cv y B w' (hB.below (below_of_grown hw) hB.lt) hwv hcv⟩
theorem chans_any (n : Nat) (l : List Ch) : (l.map chV).any (badChP n) = decide (∃ x ∈ l, ¬ ChanOk n x) := by
  rw [Bool.eq_iff_iff, List.any_eq_true, decide_eq_true_eq]
  constructor
  · rintro ⟨v, hm, hx⟩
    obtain ⟨x, hx', rfl⟩ := List.mem_map.1 hm
    exact ⟨x, hx', by have : (!decide (ChanOk n x)) = true := hx; simpa using this⟩
  · rintro ⟨x, hm, hx⟩
    exact ⟨chV x, List.mem_map.2 ⟨x, hm, rfl⟩, by show (!decide (ChanOk n x)) = true; simpa using hx⟩
end Go.Proofs.Ytinhnecgmokfkaa
