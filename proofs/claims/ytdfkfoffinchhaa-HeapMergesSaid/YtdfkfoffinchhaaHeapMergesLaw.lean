/- The law HeapMerges: its walk. Conditions: what came in is shaped. -/
import Derived.Test.YtdfkfoffinchhaaHeapFacts
namespace Go.Proofs.Ytdfkfoffinchhaa
open Go Go.RowKit Go.Tm
set_option linter.unusedVariables false
set_option linter.unusedSimpArgs false

def goneS (l : List Sp) (who : Int) : List Sp := l.filter fun x => decide (x.2.2 = who)
theorem gone_drop (l : List Sp) (who : Int) : sumN l = sumN (dropS l who) + sumN (goneS l who) := by
  unfold dropS goneS
  induction l with
  | nil => rfl
  | cons x r ih =>
    rw [List.filter_cons, List.filter_cons, sumN_cons]
    by_cases h : x.2.2 = who
    · simp only [h, decide_true, Bool.not_true, Bool.false_eq_true, if_false, if_true]; rw [sumN_cons]; omega
    · simp only [h, decide_false, Bool.not_false, Bool.false_eq_true, if_false, if_true]; rw [sumN_cons]; omega
theorem gone_in (l : List Sp) (who : Int) {i : Nat} {x : Sp} (hx : l[i]? = some x) (h : x.2.2 = who) : goneS (l.take (i + 1)) who = goneS (l.take i) who ++ [x] := by
  unfold goneS; rw [take_step hx, List.filter_append]; simp [h]
theorem gone_out (l : List Sp) (who : Int) {i : Nat} {x : Sp} (hx : l[i]? = some x) (h : x.2.2 ≠ who) : goneS (l.take (i + 1)) who = goneS (l.take i) who := by
  unfold goneS; rw [take_step hx, List.filter_append]; simp [h]
theorem gone_range {size : Int} {l : List Sp} (h : RightP size l) (who : Int) (i : Nat) : 0 ≤ sumN (goneS (l.take i) who) ∧ sumN (goneS (l.take i) who) ≤ size := by
  have h1 := sum_take h i
  have h2 := gone_drop (l.take i) who
  have h3 := sumN_nonneg (rightG_filter (rightG_take h.1 i) (fun x => decide (x.2.2 = who)))
  have h4 := sumN_nonneg (rightG_filter (rightG_take h.1 i) (fun x => !decide (x.2.2 = who)))
  unfold goneS dropS at *
  omega
def SC (X0 : World) (b1 b2 : Nat) (u1 u2 u3 u4 : Value) (W' : World) : Prop := W'.cell? ⟨b1, 0, none⟩ = some u1 ∧ W'.cell? ⟨b1, 1, none⟩ = some u2 ∧ W'.cell? ⟨b2, 0, none⟩ = some u3 ∧ W'.cell? ⟨b2, 1, none⟩ = some u4 ∧ Below X0.heap.size X0 W'
theorem SC.keep {X0 W' : World} {b1 b2 : Nat} {u1 u2 u3 u4 : Value} (h : SC X0 b1 b2 u1 u2 u3 u4 X0) (hb : Below X0.heap.size X0 W') : SC X0 b1 b2 u1 u2 u3 u4 W' :=
  ⟨(hb.cell (p := ⟨b1, 0, none⟩) (World.block_lt_of_cell? _ _ h.1)).trans h.1, (hb.cell (p := ⟨b1, 1, none⟩) (World.block_lt_of_cell? _ _ h.2.1)).trans h.2.1, (hb.cell (p := ⟨b2, 0, none⟩) (World.block_lt_of_cell? _ _ h.2.2.1)).trans h.2.2.1, (hb.cell (p := ⟨b2, 1, none⟩) (World.block_lt_of_cell? _ _ h.2.2.2.1)).trans h.2.2.2.1, hb⟩

set_option maxRecDepth 100000 in
set_option maxHeartbeats 4000000 in
theorem heapMerges_walk (size : Int) (v : Value) (l : List Sp) (who : Int) (w : World) (hv : Sl w true 3 v (sps l)) (hs : (Lit.int .i64 size).wf = true) (hw : ∀ x ∈ l, SpWf x) (hby : (l.length + 1) * 24 ≤ 140737488355328) :
    Calls Try.prog 10 #[.agg #[.int .i64 size, v], .int .i64 who] w fun e w' => e = .returned (.bool true) ∧ Below w.heap.size w w' := by
  have HV := Lib.hid hv
  have HR := Lib.hid (fun W h => right_any size v l W h hs hw)
  have HD := Lib.hid (fun W h => drop_any size v l who W h (by omega))
  have HL := Lib.hid (fun W h => left_any size v l W h hs hw hby)
  have hdl := dropS_le l who
  have HLK := Lib.hid (fun u W h => left_any size u (dropS l who) W h hs (drop_wf hw who) (by omega))
  have HHK := Lib.hid (fun u W h => holesC_any size u (dropS l who) W h hs (drop_wf hw who) (by omega))
  have hsz := size_range hs
  obtain ⟨a, cap, rfl, hl⟩ := hv.shape
  rw [sps_len] at hl HV HR HD HL ⊢
  by_cases hr : RightP size l
  rotate_left
  · rw [rightB_false hr] at HR
    clear hv hs hw hr HL HD HLK HHK
    go_enter Try.func10, Try.ntmps10
    ((go_wp2_with fail); (with_reducible refine (shown_any _).mono ?_); (rintro e w1 ⟨rfl, hb1⟩); (have hz1 := hb1.size); (try simp only [World.size_alloc, World.size_setCell] at hz1))
    (have b1 : Box w1 w.heap.size #[.int .i64 size, .slice a l.length cap] 24 := (by (try have k1 := (Lib.hid True.intro).out); ((apply Box.cast); (repeat (first | with_reducible assumption | ((with_reducible apply Box.new1); (first | with_reducible rfl | rfl | (solve | simp))) | with_reducible apply Box.drewN | with_reducible apply Box.drew | with_reducible apply Box.set | with_reducible apply Box.other | with_reducible apply Box.alloc | (with_reducible apply Box.below; rotate_left; with_reducible assumption; rotate_right) | with_reducible rfl | omega | (dsimp only; omega) | (simp only [drew_heap', drewN_heap', World.size_alloc, World.size_setCell]; omega) | rfl | (solve | simp) | (solve | (simp; omega))))))); (obtain ⟨hc1, hf1, hl1, hn1, hm1⟩ := b1.rules); (have K1 := Lib.hid b1); (clear b1)
    have hbw1 : Below w.heap.size w w1 := by (repeat (first | with_reducible assumption | with_reducible exact Below.refl _ _ | with_reducible refine Below.setCell ?_ ?_ _ | with_reducible refine Below.alloc ?_ ?_ _ | with_reducible refine below_drewN' ?_ _ | with_reducible refine Below.drew ?_ | with_reducible refine Below.trans ?_ (Below.mono (by assumption) ?_) | omega | (dsimp only; omega) | (simp only [drew_heap', drewN_heap', World.size_alloc, World.size_setCell]; omega) | (solve | simp) | (solve | (simp; omega))))
    clear hb1
    go_wp2_with fail
    with_reducible refine (HR.out _ (HV.out.below hbw1)).mono ?_
    rintro e w2 ⟨rfl, hb2⟩
    go_wp2_with fail
    go_ret
    exact ⟨by simp, hbw1.trans (hb2.mono hbw1.size)⟩
  rw [rightB_true hr] at HR
  have hsum : sumN (holesB size (dropS l who)) = sumN (holesB size l) + sumN (goneS l who) := by
    rw [holesB_true (drop_right hr who), holesB_true hr, sum_all (drop_right hr who), sum_all hr, gone_drop l who]; omega
  have hhl : (holesB size (dropS l who)).length ≤ (dropS l who).length + 1 := holesB_len _ _
  have hrange : 0 ≤ sumN (holesB size l) + sumN (goneS l who) ∧ sumN (holesB size l) + sumN (goneS l who) ≤ 9223372036854775807 := by
    rw [← hsum]
    have := holesB_sum (l := dropS l who) (holesB size (dropS l who)).length hs
    rwa [List.take_length] at this
  have HGR := Lib.hid (fun i => gone_range hr who i)
  rw [hsum] at HLK
  clear hv hs hw hr hsum
  generalize sumN (holesB size l) = sl at *
  generalize holesB size (dropS l who) = hk at *
  generalize dropS l who = ld at *
  go_enter Try.func10, Try.ntmps10
  ((go_wp2_with fail); (with_reducible refine (shown_any _).mono ?_); (rintro e w1 ⟨rfl, hb1⟩); (have hz1 := hb1.size); (try simp only [World.size_alloc, World.size_setCell] at hz1))
  (have b1 : Box w1 w.heap.size #[.int .i64 size, .slice a l.length cap] 24 := (by (try have k1 := (Lib.hid True.intro).out); ((apply Box.cast); (repeat (first | with_reducible assumption | ((with_reducible apply Box.new1); (first | with_reducible rfl | rfl | (solve | simp))) | with_reducible apply Box.drewN | with_reducible apply Box.drew | with_reducible apply Box.set | with_reducible apply Box.other | with_reducible apply Box.alloc | (with_reducible apply Box.below; rotate_left; with_reducible assumption; rotate_right) | with_reducible rfl | omega | (dsimp only; omega) | (simp only [drew_heap', drewN_heap', World.size_alloc, World.size_setCell]; omega) | rfl | (solve | simp) | (solve | (simp; omega))))))); (obtain ⟨hc1, hf1, hl1, hn1, hm1⟩ := b1.rules); (have K1 := Lib.hid b1); (clear b1)
  have hbw1 : Below w.heap.size w w1 := by (repeat (first | with_reducible assumption | with_reducible exact Below.refl _ _ | with_reducible refine Below.setCell ?_ ?_ _ | with_reducible refine Below.alloc ?_ ?_ _ | with_reducible refine below_drewN' ?_ _ | with_reducible refine Below.drew ?_ | with_reducible refine Below.trans ?_ (Below.mono (by assumption) ?_) | omega | (dsimp only; omega) | (simp only [drew_heap', drewN_heap', World.size_alloc, World.size_setCell]; omega) | (solve | simp) | (solve | (simp; omega))))
  clear hb1
  go_wp2_with fail
  with_reducible refine (HR.out _ (HV.out.below hbw1)).mono ?_
  rintro e w2 ⟨rfl, hb2⟩
  ((have b2 := K1.out.below hb2 K1.out.lt); (obtain ⟨hc2, hf2, hl2, hn2, hm2⟩ := b2.rules); (have K2 := Lib.hid b2); (clear b2))
  have hbw2 : Below w.heap.size w w2 := hbw1.trans (hb2.mono hbw1.size)
  clear hb2 K1 hc1 hf1 hl1 hn1 hm1
  go_wp2_with fail
  with_reducible refine (HD.out _ (HV.out.below hbw2)).mono ?_
  rintro e w3 ⟨v3, rfl, hs3, hb3⟩
  ((have b3 := K2.out.below hb3 K2.out.lt); (obtain ⟨hc3, hf3, hl3, hn3, hm3⟩ := b3.rules); (have K3 := Lib.hid b3); (clear b3))
  have hbw3 : Below w.heap.size w w3 := hbw2.trans (hb3.mono hbw2.size)
  have hz3 := hbw3.size
  obtain ⟨a3, k3, hv3, _⟩ := hs3.shape
  rw [sps_len] at hv3
  subst hv3
  have HK3 := Lib.hid hs3
  clear hb3 hs3 K2 hc2 hf2 hl2 hn2 hm2
  go_wp2_with fail
  have hbA0 : Below w3.heap.size w3 (w3.alloc (.cells #[.int .i64 size, .slice a3 ld.length k3] 24)) := (Below.refl _ _).alloc (Nat.le_refl _) _
  have X3 := Lib.hid (Box.new w3 #[.int .i64 size, .slice a3 ld.length k3] 24)
  have K4 := Lib.hid (K3.out.below hbA0 K3.out.lt)
  have HM := Lib.hid (HK3.out.below hbA0)
  have hbA : Below w.heap.size w (w3.alloc (.cells #[.int .i64 size, .slice a3 ld.length k3] 24)) := hbw3.trans (hbA0.mono hz3)
  have HVA := Lib.hid (HV.out.below hbA)
  clear K3 hc3 hf3 hl3 hn3 hm3 HK3 hbA0 hbw1 hbw2 hbw3
  generalize w3.alloc (.cells #[.int .i64 size, .slice a3 ld.length k3] 24) = wA at *
  have hzA := hbA.size
  go_loopw [7, 8] (fun s t W => ∃ i : Nat, i ≤ l.length ∧ t = .int .i64 i ∧ s = .int .i64 (sumN (goneS (l.take i) who)) ∧ Below wA.heap.size wA W) (fun _ t _ => l.length - (intOf t).toNat)
  case atStart => exact ⟨0, Nat.zero_le _, rfl, rfl, Below.refl _ _⟩
  case round =>
    obtain ⟨i, hi, rfl, rfl, hbw⟩ := hrel
    have hwz := hbw.size
    ((have b5 := K4.out.below hbw K4.out.lt); (obtain ⟨hc5, hf5, hl5, hn5, hm5⟩ := b5.rules); (have K5 := Lib.hid b5); (clear b5))
    by_cases hlt : i < l.length
    · obtain ⟨x, hx⟩ : ∃ x, l[i]? = some x := ⟨_, List.getElem?_eq_getElem hlt⟩
      obtain ⟨b, off, rfl, hb, c0, c1, c2⟩ := Sl.sp (HVA.out.below hbw) hx
      have hwr : IntKind.i64.wrap ((i : Int) + 1) = i + 1 := IntWalk.i64_in _ (by omega)
      have hg := HGR.out (i + 1)
      by_cases hq : x.2.2 = who
      · have HN := Lib.hid (gone_in l who hx hq)
        have hqb : (x.2.2 == who) = true := by simpa using hq
        rw [HN.out, sumN_append, sumN_cons, sumN_nil] at hg
        have HS := Lib.hid (show sumN (goneS (l.take (i + 1)) who) = sumN (goneS (l.take i) who) + x.2.1 by rw [HN.out, sumN_append, sumN_cons, sumN_nil]; omega)
        have hws : IntKind.i64.wrap (sumN (goneS (l.take i) who) + x.2.1) = sumN (goneS (l.take i) who) + x.2.1 := IntWalk.i64_in _ (by omega)
        clear hx hq hg
        go_wp2_with fail
        go_roundw
        case rel => exact ⟨i + 1, by omega, by go_num, by rw [HS.out], hbw⟩
        case measure => simp [intOf]; omega
      · have HN := Lib.hid (gone_out l who hx hq)
        have hqb : (x.2.2 == who) = false := by simpa using hq
        clear hx hq hg
        go_wp2_with fail
        go_roundw
        case rel => exact ⟨i + 1, by omega, by go_num, by rw [HN.out], hbw⟩
        case measure => simp [intOf]; omega
    · obtain rfl : i = l.length := by omega
      rw [List.take_length]
      have hbwr : Below w.heap.size w wr := hbA.trans (hbw.mono hzA)
      have hzr := hbwr.size
      have HVr := Lib.hid (HV.out.below hbwr)
      have HMr := Lib.hid (HM.out.below hbw)
      have hX := X3.out.below hbw X3.out.lt
      have hS0 : SC wr w.heap.size w3.heap.size (.int .i64 size) (.slice a l.length cap) (.int .i64 size) (.slice a3 ld.length k3) wr := ⟨hc5 0, hc5 1, hX.rules.1 0, hX.rules.1 1, Below.refl _ _⟩
      have hwg : IntKind.i64.wrap (sl + sumN (goneS l who)) = sl + sumN (goneS l who) := IntWalk.i64_in _ (by omega)
      have hwd : IntKind.i64.wrap ((ld.length : Int) + 1) = ld.length + 1 := IntWalk.i64_in _ (by omega)
      have hd : decide ((hk.length : Int) ≤ (ld.length : Int) + 1) = true := by simp; omega
      clear hX
      go_wp2_with fail
      go_region_held3 (fun W' => W'.cell? ⟨w.heap.size, 0, none⟩ = some (.int .i64 size) ∧ W'.cell? ⟨w.heap.size, 1, none⟩ = some (.slice a l.length cap) ∧ W'.cell? ⟨w3.heap.size, 0, none⟩ = some (.int .i64 size) ∧ W'.cell? ⟨w3.heap.size, 1, none⟩ = some (.slice a3 ld.length k3) ∧ Below wr.heap.size wr W') ((refine SC.keep hS0 ?_; (repeat (first | with_reducible assumption | with_reducible exact Below.refl _ _ | with_reducible refine Below.setCell ?_ ?_ _ | with_reducible refine Below.alloc ?_ ?_ _ | with_reducible refine below_drewN' ?_ _ | with_reducible refine Below.drew ?_ | with_reducible refine Below.trans ?_ (Below.mono (by assumption) ?_) | omega | (dsimp only; omega) | (simp only [drew_heap', drewN_heap', World.size_alloc, World.size_setCell]; omega) | (solve | simp) | (solve | (simp; omega))))))
        ((first
          | (go_at_call 20; (with_reducible first | refine (HLK.out _ _ (HMr.out.below (by (repeat (first | with_reducible assumption | with_reducible exact Below.refl _ _ | with_reducible refine Below.setCell ?_ ?_ _ | with_reducible refine Below.alloc ?_ ?_ _ | with_reducible refine below_drewN' ?_ _ | with_reducible refine Below.drew ?_ | with_reducible refine Below.trans ?_ (Below.mono (by assumption) ?_) | omega | (dsimp only; omega) | (simp only [drew_heap', drewN_heap', World.size_alloc, World.size_setCell]; omega) | (solve | simp) | (solve | (simp; omega))))))).mono ?_ | refine (HL.out _ (HVr.out.below (by (repeat (first | with_reducible assumption | with_reducible exact Below.refl _ _ | with_reducible refine Below.setCell ?_ ?_ _ | with_reducible refine Below.alloc ?_ ?_ _ | with_reducible refine below_drewN' ?_ _ | with_reducible refine Below.drew ?_ | with_reducible refine Below.trans ?_ (Below.mono (by assumption) ?_) | omega | (dsimp only; omega) | (simp only [drew_heap', drewN_heap', World.size_alloc, World.size_setCell]; omega) | (solve | simp) | (solve | (simp; omega))))))).mono ?_); rintro en w6 ⟨rfl, hb6⟩; (have hz6 := hb6.size); (try simp only [drew_heap', drewN_heap', World.size_alloc] at hz6))
          | (go_at_call 15; with_reducible refine (HHK.out _ _ (HMr.out.below (by (repeat (first | with_reducible assumption | with_reducible exact Below.refl _ _ | with_reducible refine Below.setCell ?_ ?_ _ | with_reducible refine Below.alloc ?_ ?_ _ | with_reducible refine below_drewN' ?_ _ | with_reducible refine Below.drew ?_ | with_reducible refine Below.trans ?_ (Below.mono (by assumption) ?_) | omega | (dsimp only; omega) | (simp only [drew_heap', drewN_heap', World.size_alloc, World.size_setCell]; omega) | (solve | simp) | (solve | (simp; omega))))))).mono ?_; rintro en w7 ⟨v7, rfl, ho7, hb7⟩; (have hz7 := hb7.size); (try simp only [drew_heap', drewN_heap', World.size_alloc] at hz7); (have hb7' : Below wr.heap.size wr w7 := by (repeat (first | with_reducible assumption | with_reducible exact Below.refl _ _ | with_reducible refine Below.setCell ?_ ?_ _ | with_reducible refine Below.alloc ?_ ?_ _ | with_reducible refine below_drewN' ?_ _ | with_reducible refine Below.drew ?_ | with_reducible refine Below.trans ?_ (Below.mono (by assumption) ?_) | omega | (dsimp only; omega) | (simp only [drew_heap', drewN_heap', World.size_alloc, World.size_setCell]; omega) | (solve | simp) | (solve | (simp; omega))))); (obtain ⟨a7, k7, hv7, _⟩ := ho7.sl.shape); (rw [sps_len] at hv7); subst hv7; clear ho7)))
      all_goals
        go_wp2_with fail
        go_ret
        exact ⟨by simp, hbwr.trans (hb7'.mono hzr)⟩
end Go.Proofs.Ytdfkfoffinchhaa
