/- route.To: where a port leads. Conditions: lengths within the reach. -/
import Derived.Test.YtmcaeahjnhkbcaaRouteFns
namespace Go.Proofs.Ytmcaeahjnhkbcaa
open Go Go.RowKit Go.Tm
set_option linter.unusedVariables false
set_option linter.unusedSimpArgs false

/-- Where a port leads, from what stands ahead and what is still to come. -/
def toF : List Ch → List Ch → Int → Int → Int × Int × Bool
  | _, [], _, _ => (0, 0, false)
  | pre, c :: r, part, p => if c.2.1 = part then (if p = 0 then (c.2.2.1, (((insS pre c.2.2.1).length : Nat) : Int), true) else toF (pre ++ [c]) r part (p - 1)) else toF (pre ++ [c]) r part p
def toS (cs : List Ch) (part port : Int) : Int × Int × Bool := if port < 0 then (0, 0, false) else toF [] cs part port
theorem drop_at {α : Type} {l : List α} {i : Nat} {x : α} (h : l[i]? = some x) : l.drop i = x :: l.drop (i + 1) := by
  obtain ⟨hl, hx⟩ := List.getElem?_eq_some_iff.1 h
  rw [← hx]; exact List.drop_eq_getElem_cons hl
theorem toF_out {cs : List Ch} {i : Nat} {x : Ch} {part p : Int} (hx : cs[i]? = some x) (h : x.2.1 ≠ part) : toF (cs.take i) (cs.drop i) part p = toF (cs.take (i + 1)) (cs.drop (i + 1)) part p := by
  rw [drop_at hx, take_step hx, toF, if_neg h]
theorem toF_in {cs : List Ch} {i : Nat} {x : Ch} {part p : Int} (hx : cs[i]? = some x) (h : x.2.1 = part) (hp : p ≠ 0) : toF (cs.take i) (cs.drop i) part p = toF (cs.take (i + 1)) (cs.drop (i + 1)) part (p - 1) := by
  rw [drop_at hx, take_step hx, toF, if_pos h, if_neg hp]
theorem toF_hit {cs : List Ch} {i : Nat} {x : Ch} {part : Int} (hx : cs[i]? = some x) (h : x.2.1 = part) : toF (cs.take i) (cs.drop i) part 0 = (x.2.2.1, (((insS (cs.take i) x.2.2.1).length : Nat) : Int), true) := by
  rw [drop_at hx, toF, if_pos h, if_pos rfl]
theorem insS_le (cs : List Ch) (a : Int) : (insS cs a).length ≤ cs.length := List.length_filter_le _ _
theorem outsS_le (cs : List Ch) (a : Int) : (outsS cs a).length ≤ cs.length := List.length_filter_le _ _

set_option maxRecDepth 100000 in
set_option maxHeartbeats 4000000 in
theorem to_any (pa : Option Addr) (np pc : Nat) (fr : Int) (wv cv : Value) (cs : List Ch) (part port : Int) (w : World) (hv : Sl w true 5 cv (chs cs)) (hport : (Lit.int .i64 port).wf = true) (hby : cs.length * 40 ≤ 140737488355328) :
    Calls Try.prog 11 #[.agg #[.slice pa np pc, .int .i64 fr, wv, cv], .int .i64 part, .int .i64 port] w fun e w' => e = .returned (.tuple #[.agg #[.int .i64 (toS cs part port).1, .int .i64 (toS cs part port).2.1], .bool (toS cs part port).2.2]) ∧ Below w.heap.size w w' := by
  have HV := Lib.hid hv
  have hpr : -9223372036854775808 ≤ port ∧ port ≤ 9223372036854775807 := by simpa [Lit.wf, IntKind.min, IntKind.max, IntKind.bits, IntKind.signed] using hport
  obtain ⟨a, cap, rfl, hl⟩ := hv.shape
  rw [chs_len] at hl HV ⊢
  obtain ⟨r1, r2, r3, hts⟩ : ∃ r1 r2 r3, toS cs part port = (r1, r2, r3) := ⟨_, _, _, rfl⟩
  rw [hts]
  dsimp only
  clear hv hport
  by_cases hneg : port < 0
  · have hd : decide (port < 0) = true := decide_eq_true hneg
    unfold toS at hts
    rw [if_pos hneg] at hts
    simp only [Prod.mk.injEq] at hts
    obtain ⟨rfl, rfl, rfl⟩ := hts
    go_enter Try.func11, Try.ntmps11
    go_wp2_with fail
    exact bodyPost_ret (v := .tuple #[.agg #[.int .i64 0, .int .i64 0], .bool false]) (by simp [results, Try.results11, go_sem]) rfl ⟨rfl, by (repeat (first | with_reducible assumption | with_reducible exact Below.refl _ _ | with_reducible refine Below.setCell ?_ ?_ _ | with_reducible refine Below.alloc ?_ ?_ _ | with_reducible refine below_drewN' ?_ _ | with_reducible refine Below.drew ?_ | with_reducible refine Below.trans ?_ (Below.mono (by assumption) ?_) | omega | (dsimp only; omega) | (simp only [drew_heap', drewN_heap', World.size_alloc, World.size_setCell]; omega) | (solve | simp) | (solve | (simp; omega))))⟩
  have hd : decide (port < 0) = false := decide_eq_false hneg
  unfold toS at hts
  rw [if_neg hneg] at hts
  have HTS := Lib.hid hts
  clear hts
  go_enter Try.func11, Try.ntmps11
  go_wp2_with fail
  have HA := Lib.hid (show Box ((w.alloc (.cells #[.slice pa np pc, .int .i64 fr, wv, .slice a cs.length cap] 26)).alloc (.cells #[.int .i64 0, .int .i64 0] 32)) w.heap.size #[.slice pa np pc, .int .i64 fr, wv, .slice a cs.length cap] 26 from (Box.new _ _ _).alloc _)
  have HB := Lib.hid (show Box ((w.alloc (.cells #[.slice pa np pc, .int .i64 fr, wv, .slice a cs.length cap] 26)).alloc (.cells #[.int .i64 0, .int .i64 0] 32)) (w.heap.size + 1) #[.int .i64 0, .int .i64 0] 32 from Box.new1 _ _ _ (by simp))
  have hbw1 : Below w.heap.size w ((w.alloc (.cells #[.slice pa np pc, .int .i64 fr, wv, .slice a cs.length cap] 26)).alloc (.cells #[.int .i64 0, .int .i64 0] 32)) := ((Below.refl _ _).alloc (Nat.le_refl _) _).alloc (by simp) _
  have hz1 : ((w.alloc (.cells #[.slice pa np pc, .int .i64 fr, wv, .slice a cs.length cap] 26)).alloc (.cells #[.int .i64 0, .int .i64 0] 32)).heap.size = w.heap.size + 1 + 1 := by simp
  generalize (w.alloc (.cells #[.slice pa np pc, .int .i64 fr, wv, .slice a cs.length cap] 26)).alloc (.cells #[.int .i64 0, .int .i64 0] 32) = w1 at *
  go_loopw [2, 8, 9, 16] (fun q _ _ t W => ∃ (i : Nat) (p : Int), i ≤ cs.length ∧ t = .int .i64 i ∧ q = .int .i64 p ∧ 0 ≤ p ∧ p ≤ port ∧ Below w1.heap.size w1 W ∧ Hid (toF (cs.take i) (cs.drop i) part p = (r1, r2, r3))) (fun _ _ _ t _ => cs.length - (intOf t).toNat)
  case atStart => exact ⟨0, port, Nat.zero_le _, rfl, rfl, by omega, Int.le_refl _, Below.refl _ _, HTS⟩
  case round =>
    obtain ⟨i, p, hi, rfl, rfl, hp0, hpp, hbw, HF⟩ := hrel
    have hwz := hbw.size
    ((have b2 := HA.out.below hbw HA.out.lt); (obtain ⟨hc2, hf2, hl2, hn2, hm2⟩ := b2.rules); (have K2 := Lib.hid b2); (clear b2))
    by_cases hlt : i < cs.length
    · obtain ⟨x, hx⟩ : ∃ x, cs[i]? = some x := ⟨_, List.getElem?_eq_getElem hlt⟩
      have HV2 := Lib.hid (HV.out.below (hbw1.trans (hbw.mono (by omega))))
      obtain ⟨r, hr, hs⟩ := Sl.run_take (t := 24) ty_chan Try.underlying24 HV2.out (i : Int) i rfl (by rw [chs_len]; omega)
      have hst : (chs cs).take i = chs (cs.take i) := by rw [chs, chs, List.map_take]
      rw [hst] at hs
      obtain ⟨ar, kr, hrv, _⟩ := hs.shape
      generalize (chs (cs.take i)).length = nr at hrv
      subst hrv
      have HS := Lib.hid hs
      obtain ⟨b, off, rfl, hb, e0, e1, e2, e3, e4⟩ := Sl.ch HV2.out hx
      have hwr : IntKind.i64.wrap ((i : Int) + 1) = i + 1 := IntWalk.i64_in _ (by omega)
      have hba : Below w1.heap.size w1 (wr.alloc (.cells #[.int .i64 x.1, .int .i64 x.2.1, .int .i64 x.2.2.1, .int .i64 x.2.2.2.1, .int .i64 x.2.2.2.2] 40)) := hbw.alloc hwz _
      clear hs hst
      by_cases hq : x.2.1 = part
      · have hqb : (x.2.1 != part) = false := by simpa using hq
        by_cases hpz : p = 0
        · subst hpz
          have hf := HF.out
          rw [toF_hit hx hq] at hf
          simp only [Prod.mk.injEq] at hf
          obtain ⟨rfl, hr2, rfl⟩ := hf
          have HR2 := Lib.hid hr2
          have HI := Lib.hid (fun W h => ins_any none 0 0 0 (.slice none 0 0) (.slice ar nr kr) (cs.take i) x.2.2.1 W h (by rw [List.length_take]; omega))
          have hil := insS_le (cs.take i) x.2.2.1
          rw [List.length_take] at hil
          clear hx hq hr2
          go_wp2_with fail
          have KX := Lib.hid (Box.new wr #[.int .i64 x.1, .int .i64 x.2.1, .int .i64 x.2.2.1, .int .i64 x.2.2.2.1, .int .i64 x.2.2.2.2] 40)
          have KA := Lib.hid (K2.out.alloc (.cells #[.int .i64 x.1, .int .i64 x.2.1, .int .i64 x.2.2.1, .int .i64 x.2.2.2.1, .int .i64 x.2.2.2.2] 40))
          have KB := Lib.hid ((HB.out.below hbw HB.out.lt).alloc (.cells #[.int .i64 x.1, .int .i64 x.2.1, .int .i64 x.2.2.1, .int .i64 x.2.2.2.1, .int .i64 x.2.2.2.2] 40))
          have HS3 := Lib.hid (HS.out.alloc (.cells #[.int .i64 x.1, .int .i64 x.2.1, .int .i64 x.2.2.1, .int .i64 x.2.2.2.1, .int .i64 x.2.2.2.2] 40))
          have hz3 : (wr.alloc (.cells #[.int .i64 x.1, .int .i64 x.2.1, .int .i64 x.2.2.1, .int .i64 x.2.2.2.1, .int .i64 x.2.2.2.2] 40)).heap.size = wr.heap.size + 1 := by simp
          generalize wr.alloc (.cells #[.int .i64 x.1, .int .i64 x.2.1, .int .i64 x.2.2.1, .int .i64 x.2.2.2.1, .int .i64 x.2.2.2.2] 40) = w3 at *
          have HZ3 := Lib.hid hz3
          clear hz3 HS hc2 hf2 hl2 hn2 hm2 e0 e1 e2 e3 e4
          refine wp_region_held_drew (S := fun W => W.cell? ⟨wr.heap.size, 2, none⟩ = some (.int .i64 x.2.2.1) ∧ W.cell? ⟨w.heap.size, 3, none⟩ = some (.slice (some ⟨b, off, none⟩) cs.length cap)) (by kernel_rfl) ⟨KX.out.drew.rules.1 2, KA.out.drew.rules.1 3⟩ (fun hHeld => ?_)
          ((refine wpAnyH_take (i := 0) (oi := ⟨some 30, _, _, _, _, _⟩) (v := ?_) rfl (by kernel_rfl) (by kernel_rfl) (by kernel_rfl) (fun _ _ _ h => h) (Or.inl ⟨by rfl, ?_⟩) (by assumption) ?_); rotate_left; (focus ((intro w hSw); (try dsimp only at hSw); go_simp; (try with_reducible rfl))); (try simp only [Act.put, List.setIfInBounds_toArray, List.set_cons_zero, List.set_cons_succ]))
          ((refine wpAnyH_take (i := 1) (oi := ⟨some 31, _, _, _, _, _⟩) (v := ?_) rfl (by kernel_rfl) (by kernel_rfl) (by kernel_rfl) (fun _ _ _ h => h) (Or.inl ⟨by rfl, ?_⟩) (by assumption) ?_); rotate_left; (focus ((intro w hSw); (try dsimp only at hSw); go_simp; (try with_reducible rfl))); (try simp only [Act.put, List.setIfInBounds_toArray, List.set_cons_zero, List.set_cons_succ]))
          ((refine wpAnyH_take (i := 2) (oi := ⟨some 32, _, _, _, _, _⟩) (v := ?_) rfl (by kernel_rfl) (by kernel_rfl) (by kernel_rfl) (fun _ _ _ h => h) (Or.inl ⟨by rfl, ?_⟩) (by assumption) ?_); rotate_left; (focus ((intro w hSw); (try dsimp only at hSw); go_simp; (try with_reducible rfl))); (try simp only [Act.put, List.setIfInBounds_toArray, List.set_cons_zero, List.set_cons_succ]))
          ((refine wpAnyH_take (i := 3) (oi := ⟨some 33, _, _, _, _, _⟩) (v := ?_) rfl (by kernel_rfl) (by kernel_rfl) (by kernel_rfl) (fun _ _ _ h => h) (Or.inl ⟨by rfl, ?_⟩) (by assumption) ?_); rotate_left; (focus ((intro w hSw); (try dsimp only at hSw); go_simp; (try with_reducible rfl))); (try simp only [Act.put, List.setIfInBounds_toArray, List.set_cons_zero, List.set_cons_succ]))
          ((refine wpAnyH_take (i := 4) (oi := ⟨some 34, _, _, _, _, _⟩) (v := ?_) rfl (by kernel_rfl) (by kernel_rfl) (by kernel_rfl) (fun _ _ _ h => h) (Or.inl ⟨by rfl, ?_⟩) (by assumption) ?_); rotate_left; (focus ((intro w hSw); (try dsimp only at hSw); go_simp; (try with_reducible rfl))); (try simp only [Act.put, List.setIfInBounds_toArray, List.set_cons_zero, List.set_cons_succ]))
          ((refine wpAnyH_take (i := 5) (oi := ⟨some 35, _, _, _, _, _⟩) (v := ?_) rfl (by kernel_rfl) (by kernel_rfl) (by kernel_rfl) (fun _ _ _ h => h) (Or.inl ⟨by rfl, ?_⟩) (by assumption) ?_); rotate_left; (focus ((intro w hSw); (try dsimp only at hSw); go_simp; (try with_reducible rfl))); (try simp only [Act.put, List.setIfInBounds_toArray, List.set_cons_zero, List.set_cons_succ]))
          ((refine wpAnyH_take (i := 6) (oi := ⟨some 36, _, _, _, _, _⟩) (v := ?_) rfl (by kernel_rfl) (by kernel_rfl) (by kernel_rfl) (fun _ _ _ h => h) (Or.inl ⟨by rfl, ?_⟩) (by assumption) ?_); rotate_left; (focus ((intro w hSw); (try dsimp only at hSw); go_simp; (try with_reducible rfl))); (try simp only [Act.put, List.setIfInBounds_toArray, List.set_cons_zero, List.set_cons_succ]))
          ((refine wpAnyH_take (i := 7) (oi := ⟨some 37, _, _, _, _, _⟩) (v := ?_) rfl (by kernel_rfl) (by kernel_rfl) (by kernel_rfl) (fun _ _ _ h => h) (Or.inl ⟨by rfl, ?_⟩) (by assumption) ?_); rotate_left; (focus ((intro w hSw); (try dsimp only at hSw); go_simp; (try with_reducible rfl))); (try simp only [Act.put, List.setIfInBounds_toArray, List.set_cons_zero, List.set_cons_succ]))
          ((refine wpAnyH_take (i := 8) (oi := ⟨some 38, _, _, _, _, _⟩) (v := ?_) rfl (by kernel_rfl) (by kernel_rfl) (by kernel_rfl) (fun _ _ _ h => h) (Or.inl ⟨by rfl, ?_⟩) (by assumption) ?_); rotate_left; (focus ((intro w hSw); (try dsimp only at hSw); go_simp; (try with_reducible rfl))); (try simp only [Act.put, List.setIfInBounds_toArray, List.set_cons_zero, List.set_cons_succ]))
          ((refine wpAnyH_ready (rs := [9]) (by kernel_rfl) (by simp) ?_); (refine AllReadyH.cons (o := ⟨some 39, _, _, _, _, _⟩) rfl (fun K hK => ?_) AllReadyH.nil); go_simp; (with_reducible refine (HI.out _ (HS3.out.below (Below.refl _ _).drew)).mono ?_); (rintro en w5 ⟨v5, rfl, hs5, hb5⟩); ((have hz5 := hb5.size); (try simp only [drew_heap', drewN_heap', World.size_alloc] at hz5); (have hb35 : Below w3.heap.size w3 w5 := (by (repeat (first | with_reducible assumption | with_reducible exact Below.refl _ _ | with_reducible refine Below.setCell ?_ ?_ _ | with_reducible refine Below.alloc ?_ ?_ _ | with_reducible refine below_drewN' ?_ _ | with_reducible refine Below.drew ?_ | with_reducible refine Below.trans ?_ (Below.mono (by assumption) ?_) | omega | (dsimp only; omega) | (simp only [drew_heap', drewN_heap', World.size_alloc, World.size_setCell]; omega) | (solve | simp) | (solve | (simp; omega)))))); (obtain ⟨a5, k5, hv5, _⟩ := hs5.shape); (rw [chs_len] at hv5); (subst hv5); (clear hs5)); (try go_wp2_with fail); (refine hK.out _ _ (⟨(KX.out.below hb35 KX.out.lt).rules.1 2, (KA.out.below hb35 KA.out.lt).rules.1 3⟩) (fun hHeld => ?_)); (clear hK K); (try simp only [Act.put, List.setIfInBounds_toArray, List.set_cons_zero, List.set_cons_succ]))
          have KB5 := Lib.hid (KB.out.below hb35 KB.out.lt)
          have KX5 := Lib.hid (KX.out.below hb35 KX.out.lt)
          have KA5 := Lib.hid (KA.out.below hb35 KA.out.lt)
          obtain ⟨hc5, hf5, hl5, hn5, hm5⟩ := KB5.out.rules
          have hne : wr.heap.size ≠ w.heap.size + 1 := by omega
          have HSS := Lib.hid (show ((w5.setCell ⟨w.heap.size + 1, 0, none⟩ (.int .i64 x.2.2.1)).setCell ⟨w.heap.size + 1, 1, none⟩ (.int .i64 ((insS (cs.take i) x.2.2.1).length : Nat))).cell? ⟨wr.heap.size, 2, none⟩ = some (.int .i64 x.2.2.1) ∧ ((w5.setCell ⟨w.heap.size + 1, 0, none⟩ (.int .i64 x.2.2.1)).setCell ⟨w.heap.size + 1, 1, none⟩ (.int .i64 ((insS (cs.take i) x.2.2.1).length : Nat))).cell? ⟨w.heap.size, 3, none⟩ = some (.slice (some ⟨b, off, none⟩) cs.length cap) from
            ⟨(World.cell?_setCell_far _ _ _ _ hne.symm).trans ((World.cell?_setCell_far _ _ _ _ hne.symm).trans (KX5.out.rules.1 2)), (World.cell?_setCell_far _ _ _ _ (by simp)).trans ((World.cell?_setCell_far _ _ _ _ (by simp)).trans (KA5.out.rules.1 3))⟩)
          have hbw5 : Below w.heap.size w w5 := (hbw1.trans (hba.mono (by omega))).trans (hb35.mono (by have := hba.size; omega))
          clear hb5 hb35 hne
          generalize (insS (cs.take i) x.2.2.1).length = n5 at *
          ((refine wpAnyH_take (i := 10) (oi := ⟨some 40, _, _, _, _, _⟩) (v := ?_) rfl (by kernel_rfl) (by kernel_rfl) (by kernel_rfl) (fun _ _ _ h => h) (Or.inl ⟨by rfl, ?_⟩) (by assumption) ?_); rotate_left; (focus ((intro w hSw); (try dsimp only at hSw); go_simp; (try with_reducible rfl))); (try simp only [Act.put, List.setIfInBounds_toArray, List.set_cons_zero, List.set_cons_succ]))
          ((refine wpAnyH_take (i := 11) (oi := ⟨some 41, _, _, _, _, _⟩) (v := ?_) rfl (by kernel_rfl) (by kernel_rfl) (by kernel_rfl) (fun _ _ _ h => h) (Or.inl ⟨by rfl, ?_⟩) (by assumption) ?_); rotate_left; (focus ((intro w hSw); (try dsimp only at hSw); go_simp; (try with_reducible rfl))); (try simp only [Act.put, List.setIfInBounds_toArray, List.set_cons_zero, List.set_cons_succ]))
          refine wpAnyH_ready (rs := [12]) (by kernel_rfl) (by simp) ?_
          refine AllReadyH.cons (o := ⟨none, _, _, _, _, _⟩) rfl (fun K hK => ?_) AllReadyH.nil
          go_simp
          refine hK.out _ _ HSS.out (fun hHeld => ?_)
          clear hK K
          (try simp only [Act.put, List.setIfInBounds_toArray, List.set_cons_zero, List.set_cons_succ])
          refine wpAnyH_ready (rs := [13]) (by kernel_rfl) (by simp) ?_
          refine AllReadyH.cons (o := ⟨some 7, _, _, _, _, _⟩) rfl (fun K hK => ?_) AllReadyH.nil
          go_simp
          refine hK.out _ _ HSS.out (fun hHeld => ?_)
          clear hK K
          (try simp only [Act.put, List.setIfInBounds_toArray, List.set_cons_zero, List.set_cons_succ])
          refine wpAnyH_done (by kernel_rfl) ?_ _
          go_wp2_with fail
          exact bodyPost_ret (v := .tuple #[.agg #[.int .i64 x.2.2.1, .int .i64 (n5 : Nat)], .bool true]) (by simp [results, Try.results11, go_sem, hc5]) rfl ⟨by rw [← HR2.out], by (repeat (first | with_reducible assumption | with_reducible exact Below.refl _ _ | with_reducible refine Below.setCell ?_ ?_ _ | with_reducible refine Below.alloc ?_ ?_ _ | with_reducible refine below_drewN' ?_ _ | with_reducible refine Below.drew ?_ | with_reducible refine Below.trans ?_ (Below.mono (by assumption) ?_) | omega | (dsimp only; omega) | (simp only [drew_heap', drewN_heap', World.size_alloc, World.size_setCell]; omega) | (solve | simp) | (solve | (simp; omega))))⟩
        · have HF2 := Lib.hid ((toF_in hx hq hpz).symm.trans HF.out)
          have hpb : (p == 0) = false := by simpa using hpz
          have hwp : IntKind.i64.wrap (p - 1) = p - 1 := IntWalk.i64_in _ (by omega)
          clear hx hq
          go_wp2_with fail
          go_roundw
          case rel => exact ⟨i + 1, p - 1, by omega, by go_num, rfl, by omega, by omega, hba, HF2⟩
          case measure => simp [intOf]; omega
      · have HF2 := Lib.hid ((toF_out hx hq).symm.trans HF.out)
        have hqb : (x.2.1 != part) = true := by simpa using hq
        clear hx hq
        go_wp2_with fail
        go_roundw
        case rel => exact ⟨i + 1, p, by omega, by go_num, rfl, by omega, by omega, hba, HF2⟩
        case measure => simp [intOf]; omega
    · obtain rfl : i = cs.length := by omega
      have hf := HF.out
      rw [List.drop_length, toF] at hf
      simp only [Prod.mk.injEq] at hf
      obtain ⟨rfl, rfl, rfl⟩ := hf
      ((have b3 := HB.out.below hbw HB.out.lt); (obtain ⟨hc3, hf3, hl3, hn3, hm3⟩ := b3.rules); (have K3 := Lib.hid b3); (clear b3))
      have hbwr : Below w.heap.size w wr := hbw1.trans (hbw.mono (by omega))
      go_wp2_with fail
      exact bodyPost_ret (v := .tuple #[.agg #[.int .i64 0, .int .i64 0], .bool false]) (by simp [results, Try.results11, go_sem, hc3]) rfl ⟨rfl, by (repeat (first | with_reducible assumption | with_reducible exact Below.refl _ _ | with_reducible refine Below.setCell ?_ ?_ _ | with_reducible refine Below.alloc ?_ ?_ _ | with_reducible refine below_drewN' ?_ _ | with_reducible refine Below.drew ?_ | with_reducible refine Below.trans ?_ (Below.mono (by assumption) ?_) | omega | (dsimp only; omega) | (simp only [drew_heap', drewN_heap', World.size_alloc, World.size_setCell]; omega) | (solve | simp) | (solve | (simp; omega))))⟩
end Go.Proofs.Ytmcaeahjnhkbcaa
