/- slices.Clip on spans; heap.holes. Conditions: lengths within the reach. -/
import Derived.Test.YtdfkfoffinchhaaHeapFeet
import Derived.Test.YtdfkfoffinchhaaLib12
import Derived.Test.YtdfkfoffinchhaaLib9
import Derived.ControlIn
import Derived.HandedShaped
import Derived.RangeFuncNested
import Derived.RangeFuncBound
import Derived.RangeFuncCalls
import Derived.RangeFuncLeaves
import Derived.Shelf.Abstract
import Derived.OwnWalkIn
import Derived.TacticsInMore
import Derived.LoopNIn
import Derived.LoopIn
import Derived.Maps.AppendAt
namespace Go.Proofs.Ytdfkfoffinchhaa
open Go Go.RowKit Go.Tm
set_option linter.unusedVariables false
set_option linter.unusedSimpArgs false

theorem below_drew' {N : Nat} {w X : World} (h : Below N w X) : Below N w.drew X := ⟨h.os, h.tape, h.output, h.size, h.block⟩
theorem clip_any (v : Value) (xs : List Value) (w : World) (hv : Sl w true 3 v xs) : Calls Try.prog 38 #[v] w fun e w' => (∃ ao, e = .returned (.slice ao xs.length xs.length) ∧ Sl w true 3 (.slice ao xs.length xs.length) xs) ∧ w = w' := by
  obtain ⟨ao, hr, hs⟩ := Sl.run_clip' (m := xs.length) ty_span Try.underlying22 hv (xs.length : Int) rfl (Nat.le_refl _)
  rw [List.take_length] at hs
  obtain ⟨a, cap, rfl, hl⟩ := hv.shape
  have HS := Lib.hid hs
  clear hs hv
  go_enter Try.func38, Try.ntmps38
  go_wp2_with fail
  go_ret
  exact ⟨⟨ao, rfl, HS.out⟩, rfl⟩

attribute [local go_sem] Oper.semAt_some
theorem holes_any (size : Int) (v : Value) (w : World) : Calls Try.prog 28 #[.agg #[.int .i64 size, v]] w fun e w' =>
    e = .returned (.func (.func 37) #[] #[.pointer (some ⟨w.heap.size, 0, none⟩)]) ∧ w' = w.alloc (.cells #[.int .i64 size, v] 24) := by
  go_enter Try.func28, Try.ntmps28
  go_wp2_with fail
  go_ret
  exact ⟨rfl, rfl⟩

theorem holes_at {size : Int} {l : List Sp} (h : RightP size l) {k : Nat} {x : Sp} (hx : (l ++ [(size, 0, 0)])[k]? = some x) :
    0 ≤ endG 0 ((l ++ [(size, 0, 0)]).take k) ∧ endG 0 ((l ++ [(size, 0, 0)]).take k) ≤ x.1 ∧ 0 ≤ x.2.1 ∧ x.2.1 ≤ size ∧ x.1 + x.2.1 ≤ size := by
  have hk := (List.getElem?_eq_some_iff.1 hx).1
  simp only [List.length_append, List.length_cons, List.length_nil] at hk
  have hs := h.2
  by_cases hlt : k < l.length
  · rw [List.getElem?_append_left hlt] at hx
    rw [List.take_append_of_le_length (by omega)]
    have h1 := right_at h.1 hx
    have h2 := rightG_end (rightG_take h.1 k) h.2
    exact ⟨h2.1, h1.1, by omega, by omega, by omega⟩
  · obtain rfl : k = l.length := by omega
    simp only [List.getElem?_concat_length, Option.some.injEq] at hx
    subst hx
    rw [List.take_left]
    have h2 := rightG_end h.1 h.2
    exact ⟨h2.1, h2.2, by simp, h.2, by simp⟩
theorem holes_prefix (a : Int) (m : List Sp) (k : Nat) : holesG a (m.take k) <+: holesG a m := by
  conv => rhs; rw [← List.take_append_drop k m]
  rw [holesG_append]
  exact List.prefix_append _ _
theorem holes_step {a : Int} {m : List Sp} {k : Nat} {x : Sp} (hx : m[k]? = some x) : holesG a (m.take (k + 1)) = holesG a (m.take k) ++ hole (endG a (m.take k)) x := by
  rw [take_step hx, holesG_snoc]
theorem own_block {w : World} {base : Nat} {E : TypeId} {ag : Bool} {k g n cap : Nat} {xs : List Value} (h : Owned w base E ag k (.slice (some ⟨g, 0, none⟩) n cap) xs) (hne : 0 < xs.length) : ∃ o, w.heap[g]? = some o ∧ o.isCells = true := by
  obtain ⟨hr, hv⟩ := h
  obtain ⟨hlen, hr⟩ := hr
  rcases hr with ⟨h0, _⟩ | ⟨g', cap', cur, he, hb, hg, h1⟩
  · cases h0
  · cases he
    exact ⟨_, hg, rfl⟩

set_option maxRecDepth 100000 in
set_option maxHeartbeats 4000000 in
theorem holes_stops (n B B1 : Nat) (v : Value) (size : Int) (l : List Sp) (w : World) (hn : 1 ≤ n) (hBlt : B < w.heap.size) (hfeet : ∀ b, Feet B b w → b = B) (hr : RightP size l) (hs : (Lit.int .i64 size).wf = true) (hby : (l.length + 1) * 24 ≤ 140737488355328) (hv : ∀ W, FootK B w W → Sl W true 3 v (sps l))
    (h1 : ∀ W, FootK B w W → Box W B1 #[.int .i64 size, v] 24) :
    SeqStopsK Fence.wide n Try.prog 37 #[.pointer (some ⟨B1, 0, none⟩)] (fun x : Sp => #[spV x]) (FootK B) (fun ys => ys = holesS size l) (fun ys => ys <+: holesS size l) (l.length + 1) w := by
  intro l' J Jx W hW0 hJ hJx hY h0
  have hW : FootK B w W := .of hW0 hBlt
  have HV := Lib.hid hv
  have HB1 := Lib.hid h1
  obtain ⟨i0, hi0, hq0, hq1, hq2⟩ := info_parts info_span
  have hsz : -9223372036854775808 ≤ size ∧ size ≤ 9223372036854775807 := by simpa [Lit.wf, IntKind.min, IntKind.max, IntKind.bits, IntKind.signed] using hs
  have HI := Lib.hid (And.intro hi0 (And.intro hq0 (And.intro hq1 hq2)))
  clear hi0 hq0 hq1 hq2
  have HJ := Lib.hid hJ
  have HY := Lib.hid hY
  obtain ⟨a, cap, rfl, hl⟩ := (hv W hW).shape
  rw [sps_len] at hl HV HB1
  clear hv hJ hY
  have hx1 : Box W B1 #[.int .i64 size, .slice a l.length cap] 24 := HB1.out W hW
  obtain ⟨c1, f1, l1, n1, m1⟩ := hx1.rules
  have e0 := c1 0
  have e1 := c1 1
  clear h1
  ((refine callsIn_of_wp Try.func37 rfl trivial ?_ rfl); (simp only [Try.ntmps37, List.size_toArray, List.length_cons, List.length_nil, Nat.reduceAdd, Nat.reduceSub, Array.replicate_succ, Array.replicate_zero, List.push_toArray, List.append_toArray, List.nil_append, List.cons_append]))
  gi_wp2
  refine wpIn_wide.2 ?_
  have e0' := e0
  have e1' := e1
  simp only [List.getElem?_toArray, List.getElem?_cons_zero, List.getElem?_cons_succ] at e0' e1'
  have HE := Lib.hid (And.intro e0' e1')
  have hkeep : ∀ W', Below W.heap.size W W' → W'.cell? ⟨B1, 0, none⟩ = some (.int .i64 size) ∧ W'.cell? ⟨B1, 1, none⟩ = some (.slice a l.length cap) ∧ Below W.heap.size W W' := fun W' hb => ⟨(hb.cell (p := ⟨B1, 0, none⟩) l1).trans HE.out.1, (hb.cell (p := ⟨B1, 1, none⟩) l1).trans HE.out.2, hb⟩
  have HKP := Lib.hid hkeep
  clear hkeep e0 e1 e0' e1' c1 f1
  refine wp_region_held_drew (S := fun W' => W'.cell? ⟨B1, 0, none⟩ = some (.int .i64 size) ∧ W'.cell? ⟨B1, 1, none⟩ = some (.slice a l.length cap) ∧ Below W.heap.size W W') (by kernel_rfl) (HKP.out _ (Below.refl _ _).drew) (fun hHeld => ?_)
  ((refine wpAnyH_take (i := 0) (oi := ⟨some 6, _, _, _, _, _⟩) (v := ?_) rfl (by kernel_rfl) (by kernel_rfl) (by kernel_rfl) (fun _ _ _ h => h) (Or.inl ⟨by rfl, ?_⟩) (by assumption) ?_); rotate_left; (focus ((intro w hSw); (try dsimp only at hSw); go_simp; (try with_reducible rfl))); (try simp only [Act.put, List.setIfInBounds_toArray, List.set_cons_zero, List.set_cons_succ]))
  ((refine wpAnyH_take (i := 1) (oi := ⟨some 7, _, _, _, _, _⟩) (v := ?_) rfl (by kernel_rfl) (by kernel_rfl) (by kernel_rfl) (fun _ _ _ h => h) (Or.inl ⟨by rfl, ?_⟩) (by assumption) ?_); rotate_left; (focus ((intro w hSw); (try dsimp only at hSw); go_simp; (try with_reducible rfl))); (try simp only [Act.put, List.setIfInBounds_toArray, List.set_cons_zero, List.set_cons_succ]))
  ((refine wpAnyH_take (i := 3) (oi := ⟨some 9, _, _, _, _, _⟩) (v := ?_) rfl (by kernel_rfl) (by kernel_rfl) (by kernel_rfl) (fun _ _ _ h => h) (Or.inl ⟨by rfl, ?_⟩) (by assumption) ?_); rotate_left; (focus ((intro w hSw); (try dsimp only at hSw); go_simp; (try with_reducible rfl))); (try simp only [Act.put, List.setIfInBounds_toArray, List.set_cons_zero, List.set_cons_succ]))
  ((refine wpAnyH_take (i := 4) (oi := ⟨some 10, _, _, _, _, _⟩) (v := ?_) rfl (by kernel_rfl) (by kernel_rfl) (by kernel_rfl) (fun _ _ _ h => h) (Or.inl ⟨by rfl, ?_⟩) (by assumption) ?_); rotate_left; (focus ((intro w hSw); (try dsimp only at hSw); go_simp; (try with_reducible rfl))); (try simp only [Act.put, List.setIfInBounds_toArray, List.set_cons_zero, List.set_cons_succ]))
  ((refine wpAnyH_take (i := 5) (oi := ⟨some 11, _, _, _, _, _⟩) (v := ?_) rfl (by kernel_rfl) (by kernel_rfl) (by kernel_rfl) (fun _ _ _ h => h) (Or.inl ⟨by rfl, ?_⟩) (by assumption) ?_); rotate_left; (focus ((intro w hSw); (try dsimp only at hSw); go_simp; (try with_reducible rfl))); (try simp only [Act.put, List.setIfInBounds_toArray, List.set_cons_zero, List.set_cons_succ]))
  ((refine wpAnyH_take (i := 9) (oi := ⟨some 15, _, _, _, _, _⟩) (v := ?_) rfl (by kernel_rfl) (by kernel_rfl) (by kernel_rfl) (fun _ _ _ h => h) (Or.inl ⟨by rfl, ?_⟩) (by assumption) ?_); rotate_left; (focus ((intro w hSw); (try dsimp only at hSw); go_simp; (try with_reducible rfl))); (try simp only [Act.put, List.setIfInBounds_toArray, List.set_cons_zero, List.set_cons_succ]))
  refine wpAnyH_ready (rs := [2, 6]) (by kernel_rfl) (by simp) ?_
  refine AllReadyH.cons (o := ⟨some 8, _, _, _, _, _⟩) rfl (fun K hK => ?_) (AllReadyH.cons (o := ⟨some 12, _, _, _, _, _⟩) rfl (fun K hK => ?_) AllReadyH.nil)
  · go_simp
    with_reducible refine (clip_any _ (sps l) _ ((HV.out W hW).below (Below.refl _ _).drew)).mono ?_
    rintro en w2 ⟨⟨ao, rfl, hs8⟩, rfl⟩
    have HC0 := Lib.hid hs8
    clear hs8
    dsimp only
    refine hK.out _ _ (HKP.out _ (Below.refl _ _).drew) (fun hHeld => ?_)
    clear hK K
    (try simp only [Act.put, List.setIfInBounds_toArray, List.set_cons_zero, List.set_cons_succ])
    refine wpAnyH_ready (rs := [6]) (by kernel_rfl) (by simp) ?_
    refine AllReadyH.cons (o := ⟨some 12, _, _, _, _, _⟩) rfl (fun K hK => ?_) AllReadyH.nil
    go_simp
    refine hK.out _ _ (HKP.out _ ((Below.refl _ _).alloc (Nat.le_refl _) _).drew) (fun hHeld => ?_)
    clear hK K
    (try simp only [Act.put, List.setIfInBounds_toArray, List.set_cons_zero, List.set_cons_succ])
    have HC := Lib.hid (show Sl (W.alloc (.cells #[.int .i64 size, .int .i64 0, .int .i64 0] 31)).drew true 3 (.slice ao (sps l).length (sps l).length) (sps l) from HC0.out.below (show Below W.heap.size W.drew _ from below_drew' ((Below.refl W.heap.size W).alloc (Nat.le_refl _) _).drew))
    have HSL := Lib.hid (show Sl (W.alloc (.cells #[.int .i64 size, .int .i64 0, .int .i64 0] 31)).drew true 3 (.slice (some ⟨W.heap.size, 0, none⟩) [spV (size, 0, 0)].length 1) [spV (size, 0, 0)] from (Sl.made1 (sp_val (size, 0, 0)) rfl).below (Below.refl _ _).drew)
    obtain ⟨g, cp, w4, hrun, hown, hgr⟩ := run_append_clip (P := Try.prog) (w := (W.alloc (.cells #[.int .i64 size, .int .i64 0, .int .i64 0] 31)).drew) 22 22 ty_span i0 (.agg #[.int .i64 0, .int .i64 0, .int .i64 0]) 24 Try.underlying22 HI.out.1 HI.out.2.1 HI.out.2.2.1 HI.out.2.2.2 rfl ao (sps l) HC.out ⟨W.heap.size, 0, none⟩ 1 [spV (size, 0, 0)] HSL.out (by simp) (by simp [maxLen]; omega) (by simp; omega)
    have hb4 : Below W.heap.size W w4 := Below.grown ((Below.refl _ _).alloc (Nat.le_refl _) _).drew hgr (by simp [drew_heap']) (by intro k hk; cases hk)
    have HO4 := Lib.hid hown
    have HRUN := Lib.hid hrun
    clear hown hrun hgr
    refine wpAnyH_ready (rs := [7]) (by kernel_rfl) (by simp) ?_
    refine AllReadyH.cons (o := ⟨some 13, _, _, _, _, _⟩) rfl (fun K hK => ?_) AllReadyH.nil
    rw [if_pos (by rfl)]
    refine oper_append_run (v := .slice ao (sps l).length (sps l).length) (u := .slice (some ⟨W.heap.size, 0, none⟩) [spV (size, 0, 0)].length 1) rfl (by simp [Act.eval]) (by simp [Act.eval]) HRUN.out ?_
    (try simp only [Act.put, List.setIfInBounds_toArray, List.set_cons_zero, List.set_cons_succ])
    refine hK.out _ _ (HKP.out _ hb4) (fun hHeld => ?_)
    clear hK K
    (try simp only [Act.put, List.setIfInBounds_toArray, List.set_cons_zero, List.set_cons_succ])
    refine wpAnyH_ready (rs := [8]) (by kernel_rfl) (by simp) ?_
    refine AllReadyH.cons (o := ⟨some 14, _, _, _, _, _⟩) rfl (fun K hK => ?_) AllReadyH.nil
    go_simp
    refine hK.out _ _ (HKP.out _ hb4) (fun hHeld => ?_)
    clear hK K
    (try simp only [Act.put, List.setIfInBounds_toArray, List.set_cons_zero, List.set_cons_succ])
    refine wpAnyH_done (by kernel_rfl) ?_ _
    have hgB : FootK B w W := hW
    have hgl : W.heap.size ≤ g := HO4.out.own_ge g rfl |> Nat.le_trans (by simp [drew_heap'])
    obtain ⟨og, hog, hoc⟩ : ∃ o, w4.heap[g]? = some o ∧ o.isCells = true := own_block HO4.out (by simp)
    have hng : ¬ Feet B g w4 := fun k => by
      have h1 := k.same (hb4.block B (Nat.lt_of_lt_of_le hBlt hW0.size))
      have h2 := h1.same (hW0.block B hBlt)
      have := hfeet g h2
      have := hW0.size
      omega
    have hJ4 : J [] w4 := HJ.out _ W w4 none h0 (grown_of_below hb4 none) (fun r e => by cases e)
    have hwk4 : FootK B w w4 := hW.trans (.of hb4 (Nat.lt_of_lt_of_le hBlt hW0.size))
    have HJ4 := Lib.hid hJ4
    have hml : (sps l ++ [spV (size, 0, 0)]) = sps (l ++ [(size, 0, 0)]) := by simp
    rw [hml] at HO4
    simp only [sps_len, List.length_append, List.length_cons, List.length_nil] at HO4 ⊢
    have hmlen : (l ++ [(size, 0, 0)]).length = l.length + 1 := by simp
    have HAT := Lib.hid (fun k x h => holes_at (size := size) (l := l) (k := k) (x := x) hr h)
    have hpre : ∀ k, holesG 0 ((l ++ [(size, 0, 0)]).take k) <+: holesS size l := fun k => holes_prefix _ _ k
    have HPRE := Lib.hid hpre
    have hend : holesG 0 ((l ++ [(size, 0, 0)]).take (l.length + 1)) = holesS size l := by rw [← hmlen, List.take_length]; rfl
    have HEND := Lib.hid hend
    have HEQ := Lib.hid (fun k => (holes_len 0 ((l ++ [(size, 0, 0)]).take k)))
    clear hend hpre HE HKP n1 m1 l1 hJ4 hml
    generalize (l ++ [(size, 0, 0)]) = m at *
    gi_wp2
    gi_loopw [3, 15] (fun t3 t wr => ∃ k : Nat, k ≤ m.length ∧ t3 = .int .i64 (endG 0 (m.take k)) ∧ t = .int .i64 k ∧ FootK B w wr ∧ wr.heap[g]? = some og ∧ ¬ Feet B g wr ∧ J (holesG 0 (m.take k)) wr) (fun _ t _ => m.length - (intOf t).toNat)
    case atStart => exact ⟨0, Nat.zero_le _, rfl, rfl, hwk4, hog, hng, HJ4.out⟩
    case round =>
      obtain ⟨k, hk, rfl, rfl, hbw, hgo, hngr, hJs⟩ := hrel
      have HJS := Lib.hid hJs
      have HGO := Lib.hid (And.intro hgo hngr)
      clear hJs hngr
      have hBr : B < wr.heap.size := Nat.lt_of_lt_of_le hBlt hbw.size
      have hfr : ¬ Feet B wr.heap.size wr := fun k => Nat.lt_irrefl _ (hbw.2.2.2 (fun b h => by rw [hfeet b h]; exact hBlt) _ k)
      have HFR := Lib.hid hfr
      clear hfr
      by_cases hlt : k < m.length
      · obtain ⟨x, hx⟩ : ∃ x, m[k]? = some x := ⟨_, List.getElem?_eq_getElem hlt⟩
        obtain ⟨h1, h2, h3, h4, h5⟩ := HAT.out k x hx
        have HST := Lib.hid (holes_step (a := 0) hx)
        have HEN := Lib.hid (end_next (a := 0) hx)
        have hfl := HEQ.out k
        rw [List.length_take] at hfl
        obtain ⟨_, _, he, hb, d0, d1, d2⟩ := Sl.sp HO4.out.sl hx
        cases he
        have c0 := (World.cell?_of_block (w := w4) (a := ⟨g, 0 + k * 3, none⟩) (hgo.trans hog.symm)).trans d0
        have c1 := (World.cell?_of_block (w := w4) (a := ⟨g, 0 + k * 3 + 1, none⟩) (hgo.trans hog.symm)).trans d1
        have c2 := (World.cell?_of_block (w := w4) (a := ⟨g, 0 + k * 3 + 2, none⟩) (hgo.trans hog.symm)).trans d2
        simp only [Nat.zero_add] at c0 c1 c2
        clear hgo hx d0 d1 d2
        have hwr : IntKind.i64.wrap ((k : Int) + 1) = k + 1 := IntWalk.i64_in _ (by omega)
        obtain ⟨p, q, u⟩ := x
        dsimp only at h1 h2 h3 h4 h5 c0 c1 c2
        have hsum : IntKind.i64.wrap (p + q) = p + q := IntWalk.i64_in _ (by omega)
        have hbx : Below wr.heap.size wr (wr.alloc (.cells #[.int .i64 p, .int .i64 q, .int .i64 u] 31)) := (Below.refl _ _).alloc (Nat.le_refl _) _
        have hbn : Box (wr.alloc (.cells #[.int .i64 p, .int .i64 q, .int .i64 u] 31)) wr.heap.size #[.int .i64 p, .int .i64 q, .int .i64 u] 31 := Box.new _ _ _
        have HJ1 := Lib.hid (HJ.out _ wr _ none HJS.out (grown_of_below hbx none) (fun r e => by cases e))
        have HF1 := Lib.hid (FootK.of hbx hBr)
        have HBN := Lib.hid hbn
        have HFR1 := Lib.hid (show ¬ Feet B wr.heap.size (wr.alloc (.cells #[.int .i64 p, .int .i64 q, .int .i64 u] 31)) from fun k => HFR.out (k.same (hbx.block B hBr)))
        clear hbn hbx
        generalize hat : endG 0 (m.take k) = a0 at *
        by_cases hpa : a0 < p
        · have hgt : decide (a0 < p) = true := by simpa using hpa
          have hsub : IntKind.i64.wrap (p - a0) = p - a0 := IntWalk.i64_in _ (by omega)
          have hst := HST.out
          rw [show hole a0 (p, q, u) = [(a0, p - a0, 0)] from if_pos hpa] at hst
          have HST2 := Lib.hid hst
          clear hst
          obtain ⟨fn, tmps, assign, body, hy, hR⟩ := HY.out _ (a0, p - a0, 0) _ HJ1.out (by omega)
          have HR := Lib.hid hR
          clear hR
          gi_wp2
          refine HR.out.mono ?_
          rintro e w3 (⟨rfl, hJ3, hk3⟩ | ⟨rfl, hJx3⟩)
          · have hbs := hk3.box HBN.out HFR1.out
            obtain ⟨b1, b2, b3, b4, b5⟩ := hbs.rules
            have hk3' := HF1.out.trans hk3
            obtain ⟨hgo3, hng3⟩ := hk3'.2.2.1 g og HGO.out.1 hoc HGO.out.2
            have HG3 := Lib.hid (And.intro hgo3 hng3)
            have HK3 := Lib.hid hk3'
            have HJ3 := Lib.hid hJ3
            clear hbs hgo3 hng3 hk3' hk3 hJ3
            gi_wp2
            go_roundw
            case rel => exact ⟨k + 1, by omega, by rw [HEN.out], by go_num, hbw.trans HK3.out, HG3.out.1, HG3.out.2, by rw [HST2.out]; exact HJ3.out⟩
            case measure => simp [intOf]; omega
          · gi_wp2
            refine bodyPost_ret (results_none rfl _ _ _) rfl ?_
            exact ⟨⟨_, rfl⟩, .inr ⟨_, by rw [← HST2.out]; exact HPRE.out _, hJx3⟩⟩
        · have hgt : decide (a0 < p) = false := by simpa using hpa
          have hst := HST.out
          rw [show hole a0 (p, q, u) = [] from if_neg hpa, List.append_nil] at hst
          have HST2 := Lib.hid hst
          clear hst
          gi_wp2
          refine ⟨fun _ h => (by cases h), ?_⟩
          obtain ⟨b1, b2, b3, b4, b5⟩ := HBN.out.rules
          gi_wp2
          go_roundw
          case rel => exact ⟨k + 1, by omega, by rw [HEN.out], by go_num, hbw.trans HF1.out, (HF1.out.2.2.1 g og HGO.out.1 hoc HGO.out.2).1, (HF1.out.2.2.1 g og HGO.out.1 hoc HGO.out.2).2, by rw [HST2.out]; exact HJ1.out⟩
          case measure => simp [intOf]; omega
      · obtain rfl : k = m.length := by omega
        gi_wp2
        go_end0
        exact ⟨⟨_, rfl⟩, .inl ⟨_, rfl, by rw [← HEND.out, ← hmlen]; exact HJS.out⟩⟩
  · go_simp
    refine hK.out _ _ (HKP.out _ ((Below.refl W.heap.size W).alloc (Nat.le_refl _) _).drew) (fun hHeld => ?_)
    clear hK K
    (try simp only [Act.put, List.setIfInBounds_toArray, List.set_cons_zero, List.set_cons_succ])
    refine wpAnyH_ready (rs := [2]) (by kernel_rfl) (by simp) ?_
    refine AllReadyH.cons (o := ⟨some 8, _, _, _, _, _⟩) rfl (fun K hK => ?_) AllReadyH.nil
    go_simp
    with_reducible refine (clip_any _ (sps l) _ ((HV.out W hW).below ((Below.refl W.heap.size W).alloc (Nat.le_refl _) _).drew)).mono ?_
    rintro en w2 ⟨⟨ao, rfl, hs8⟩, rfl⟩
    have HC := Lib.hid hs8
    clear hs8
    dsimp only
    refine hK.out _ _ (HKP.out _ ((Below.refl W.heap.size W).alloc (Nat.le_refl _) _).drew) (fun hHeld => ?_)
    clear hK K
    (try simp only [Act.put, List.setIfInBounds_toArray, List.set_cons_zero, List.set_cons_succ])
    have HSL := Lib.hid (show Sl (W.alloc (.cells #[.int .i64 size, .int .i64 0, .int .i64 0] 31)).drew true 3 (.slice (some ⟨W.heap.size, 0, none⟩) [spV (size, 0, 0)].length 1) [spV (size, 0, 0)] from (Sl.made1 (sp_val (size, 0, 0)) rfl).below (Below.refl _ _).drew)
    obtain ⟨g, cp, w4, hrun, hown, hgr⟩ := run_append_clip (P := Try.prog) (w := (W.alloc (.cells #[.int .i64 size, .int .i64 0, .int .i64 0] 31)).drew) 22 22 ty_span i0 (.agg #[.int .i64 0, .int .i64 0, .int .i64 0]) 24 Try.underlying22 HI.out.1 HI.out.2.1 HI.out.2.2.1 HI.out.2.2.2 rfl ao (sps l) HC.out ⟨W.heap.size, 0, none⟩ 1 [spV (size, 0, 0)] HSL.out (by simp) (by simp [maxLen]; omega) (by simp; omega)
    have hb4 : Below W.heap.size W w4 := Below.grown ((Below.refl _ _).alloc (Nat.le_refl _) _).drew hgr (by simp [drew_heap']) (by intro k hk; cases hk)
    have HO4 := Lib.hid hown
    have HRUN := Lib.hid hrun
    clear hown hrun hgr
    refine wpAnyH_ready (rs := [7]) (by kernel_rfl) (by simp) ?_
    refine AllReadyH.cons (o := ⟨some 13, _, _, _, _, _⟩) rfl (fun K hK => ?_) AllReadyH.nil
    rw [if_pos (by rfl)]
    refine oper_append_run (v := .slice ao (sps l).length (sps l).length) (u := .slice (some ⟨W.heap.size, 0, none⟩) [spV (size, 0, 0)].length 1) rfl (by simp [Act.eval]) (by simp [Act.eval]) HRUN.out ?_
    (try simp only [Act.put, List.setIfInBounds_toArray, List.set_cons_zero, List.set_cons_succ])
    refine hK.out _ _ (HKP.out _ hb4) (fun hHeld => ?_)
    clear hK K
    (try simp only [Act.put, List.setIfInBounds_toArray, List.set_cons_zero, List.set_cons_succ])
    refine wpAnyH_ready (rs := [8]) (by kernel_rfl) (by simp) ?_
    refine AllReadyH.cons (o := ⟨some 14, _, _, _, _, _⟩) rfl (fun K hK => ?_) AllReadyH.nil
    go_simp
    refine hK.out _ _ (HKP.out _ hb4) (fun hHeld => ?_)
    clear hK K
    (try simp only [Act.put, List.setIfInBounds_toArray, List.set_cons_zero, List.set_cons_succ])
    refine wpAnyH_done (by kernel_rfl) ?_ _
    have hgB : FootK B w W := hW
    have hgl : W.heap.size ≤ g := HO4.out.own_ge g rfl |> Nat.le_trans (by simp [drew_heap'])
    obtain ⟨og, hog, hoc⟩ : ∃ o, w4.heap[g]? = some o ∧ o.isCells = true := own_block HO4.out (by simp)
    have hng : ¬ Feet B g w4 := fun k => by
      have h1 := k.same (hb4.block B (Nat.lt_of_lt_of_le hBlt hW0.size))
      have h2 := h1.same (hW0.block B hBlt)
      have := hfeet g h2
      have := hW0.size
      omega
    have hJ4 : J [] w4 := HJ.out _ W w4 none h0 (grown_of_below hb4 none) (fun r e => by cases e)
    have hwk4 : FootK B w w4 := hW.trans (.of hb4 (Nat.lt_of_lt_of_le hBlt hW0.size))
    have HJ4 := Lib.hid hJ4
    have hml : (sps l ++ [spV (size, 0, 0)]) = sps (l ++ [(size, 0, 0)]) := by simp
    rw [hml] at HO4
    simp only [sps_len, List.length_append, List.length_cons, List.length_nil] at HO4 ⊢
    have hmlen : (l ++ [(size, 0, 0)]).length = l.length + 1 := by simp
    have HAT := Lib.hid (fun k x h => holes_at (size := size) (l := l) (k := k) (x := x) hr h)
    have hpre : ∀ k, holesG 0 ((l ++ [(size, 0, 0)]).take k) <+: holesS size l := fun k => holes_prefix _ _ k
    have HPRE := Lib.hid hpre
    have hend : holesG 0 ((l ++ [(size, 0, 0)]).take (l.length + 1)) = holesS size l := by rw [← hmlen, List.take_length]; rfl
    have HEND := Lib.hid hend
    have HEQ := Lib.hid (fun k => (holes_len 0 ((l ++ [(size, 0, 0)]).take k)))
    clear hend hpre HE HKP n1 m1 l1 hJ4 hml
    generalize (l ++ [(size, 0, 0)]) = m at *
    gi_wp2
    gi_loopw [3, 15] (fun t3 t wr => ∃ k : Nat, k ≤ m.length ∧ t3 = .int .i64 (endG 0 (m.take k)) ∧ t = .int .i64 k ∧ FootK B w wr ∧ wr.heap[g]? = some og ∧ ¬ Feet B g wr ∧ J (holesG 0 (m.take k)) wr) (fun _ t _ => m.length - (intOf t).toNat)
    case atStart => exact ⟨0, Nat.zero_le _, rfl, rfl, hwk4, hog, hng, HJ4.out⟩
    case round =>
      obtain ⟨k, hk, rfl, rfl, hbw, hgo, hngr, hJs⟩ := hrel
      have HJS := Lib.hid hJs
      have HGO := Lib.hid (And.intro hgo hngr)
      clear hJs hngr
      have hBr : B < wr.heap.size := Nat.lt_of_lt_of_le hBlt hbw.size
      have hfr : ¬ Feet B wr.heap.size wr := fun k => Nat.lt_irrefl _ (hbw.2.2.2 (fun b h => by rw [hfeet b h]; exact hBlt) _ k)
      have HFR := Lib.hid hfr
      clear hfr
      by_cases hlt : k < m.length
      · obtain ⟨x, hx⟩ : ∃ x, m[k]? = some x := ⟨_, List.getElem?_eq_getElem hlt⟩
        obtain ⟨h1, h2, h3, h4, h5⟩ := HAT.out k x hx
        have HST := Lib.hid (holes_step (a := 0) hx)
        have HEN := Lib.hid (end_next (a := 0) hx)
        have hfl := HEQ.out k
        rw [List.length_take] at hfl
        obtain ⟨_, _, he, hb, d0, d1, d2⟩ := Sl.sp HO4.out.sl hx
        cases he
        have c0 := (World.cell?_of_block (w := w4) (a := ⟨g, 0 + k * 3, none⟩) (hgo.trans hog.symm)).trans d0
        have c1 := (World.cell?_of_block (w := w4) (a := ⟨g, 0 + k * 3 + 1, none⟩) (hgo.trans hog.symm)).trans d1
        have c2 := (World.cell?_of_block (w := w4) (a := ⟨g, 0 + k * 3 + 2, none⟩) (hgo.trans hog.symm)).trans d2
        simp only [Nat.zero_add] at c0 c1 c2
        clear hgo hx d0 d1 d2
        have hwr : IntKind.i64.wrap ((k : Int) + 1) = k + 1 := IntWalk.i64_in _ (by omega)
        obtain ⟨p, q, u⟩ := x
        dsimp only at h1 h2 h3 h4 h5 c0 c1 c2
        have hsum : IntKind.i64.wrap (p + q) = p + q := IntWalk.i64_in _ (by omega)
        have hbx : Below wr.heap.size wr (wr.alloc (.cells #[.int .i64 p, .int .i64 q, .int .i64 u] 31)) := (Below.refl _ _).alloc (Nat.le_refl _) _
        have hbn : Box (wr.alloc (.cells #[.int .i64 p, .int .i64 q, .int .i64 u] 31)) wr.heap.size #[.int .i64 p, .int .i64 q, .int .i64 u] 31 := Box.new _ _ _
        have HJ1 := Lib.hid (HJ.out _ wr _ none HJS.out (grown_of_below hbx none) (fun r e => by cases e))
        have HF1 := Lib.hid (FootK.of hbx hBr)
        have HBN := Lib.hid hbn
        have HFR1 := Lib.hid (show ¬ Feet B wr.heap.size (wr.alloc (.cells #[.int .i64 p, .int .i64 q, .int .i64 u] 31)) from fun k => HFR.out (k.same (hbx.block B hBr)))
        clear hbn hbx
        generalize hat : endG 0 (m.take k) = a0 at *
        by_cases hpa : a0 < p
        · have hgt : decide (a0 < p) = true := by simpa using hpa
          have hsub : IntKind.i64.wrap (p - a0) = p - a0 := IntWalk.i64_in _ (by omega)
          have hst := HST.out
          rw [show hole a0 (p, q, u) = [(a0, p - a0, 0)] from if_pos hpa] at hst
          have HST2 := Lib.hid hst
          clear hst
          obtain ⟨fn, tmps, assign, body, hy, hR⟩ := HY.out _ (a0, p - a0, 0) _ HJ1.out (by omega)
          have HR := Lib.hid hR
          clear hR
          gi_wp2
          refine HR.out.mono ?_
          rintro e w3 (⟨rfl, hJ3, hk3⟩ | ⟨rfl, hJx3⟩)
          · have hbs := hk3.box HBN.out HFR1.out
            obtain ⟨b1, b2, b3, b4, b5⟩ := hbs.rules
            have hk3' := HF1.out.trans hk3
            obtain ⟨hgo3, hng3⟩ := hk3'.2.2.1 g og HGO.out.1 hoc HGO.out.2
            have HG3 := Lib.hid (And.intro hgo3 hng3)
            have HK3 := Lib.hid hk3'
            have HJ3 := Lib.hid hJ3
            clear hbs hgo3 hng3 hk3' hk3 hJ3
            gi_wp2
            go_roundw
            case rel => exact ⟨k + 1, by omega, by rw [HEN.out], by go_num, hbw.trans HK3.out, HG3.out.1, HG3.out.2, by rw [HST2.out]; exact HJ3.out⟩
            case measure => simp [intOf]; omega
          · gi_wp2
            refine bodyPost_ret (results_none rfl _ _ _) rfl ?_
            exact ⟨⟨_, rfl⟩, .inr ⟨_, by rw [← HST2.out]; exact HPRE.out _, hJx3⟩⟩
        · have hgt : decide (a0 < p) = false := by simpa using hpa
          have hst := HST.out
          rw [show hole a0 (p, q, u) = [] from if_neg hpa, List.append_nil] at hst
          have HST2 := Lib.hid hst
          clear hst
          gi_wp2
          refine ⟨fun _ h => (by cases h), ?_⟩
          obtain ⟨b1, b2, b3, b4, b5⟩ := HBN.out.rules
          gi_wp2
          go_roundw
          case rel => exact ⟨k + 1, by omega, by rw [HEN.out], by go_num, hbw.trans HF1.out, (HF1.out.2.2.1 g og HGO.out.1 hoc HGO.out.2).1, (HF1.out.2.2.1 g og HGO.out.1 hoc HGO.out.2).2, by rw [HST2.out]; exact HJ1.out⟩
          case measure => simp [intOf]; omega
      · obtain rfl : k = m.length := by omega
        gi_wp2
        go_end0
        exact ⟨⟨_, rfl⟩, .inl ⟨_, rfl, by rw [← HEND.out, ← hmlen]; exact HJS.out⟩⟩
end Go.Proofs.Ytdfkfoffinchhaa
