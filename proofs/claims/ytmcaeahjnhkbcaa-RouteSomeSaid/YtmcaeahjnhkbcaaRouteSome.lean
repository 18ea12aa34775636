/- The law RouteSome: its walk. Conditions: what came in is shaped. -/
import Derived.Test.YtmcaeahjnhkbcaaRouteReachLaw
namespace Go.Proofs.Ytmcaeahjnhkbcaa
open Go Go.RowKit Go.Tm
set_option linter.unusedVariables false
set_option linter.unusedSimpArgs false

set_option maxRecDepth 100000 in
set_option maxHeartbeats 8000000 in
theorem routeSome_walk (pa : Option Addr) (np pc : Nat) (fr : Int) (wa : Option Addr) (wn wc : Nat) (cv : Value) (cs : List Ch) (c : Ch) (part : Int) (w : World) (hv : Sl w true 5 cv (chs cs)) (hw : ∀ x ∈ cs, ChWf x) (hcw : ChWf c) (hby : cs.length * 40 ≤ 140737488355328) (hnp : np * 32 ≤ 140737488355328)
    (hp : (Lit.int .i64 part).wf = true) :
    Calls Try.prog 5 #[.agg #[.slice pa np pc, .int .i64 fr, .slice wa wn wc, cv], chV c, .int .i64 part] w fun e w' => e = .returned (.bool true) ∧ Below w.heap.size w w' := by
  have HV := Lib.hid hv
  have HF := Lib.hid (fun W h => few_any pa np pc fr (.slice wa wn wc) cv cs W h)
  have HR := Lib.hid (fun W h => reach_any pa np pc fr (.slice wa wn wc) cv cs part W h hw hp hby hnp)
  have HRQ := Lib.hid (fun v W h hl => reach_any pa np pc fr (.slice wa wn wc) v (cs ++ [c]) part W h (fun x hx => by
    rcases List.mem_append.1 hx with hx | hx
    · exact hw x hx
    · simp at hx; subst hx; exact hcw) hp hl hnp)
  have HSUB := Lib.hid (fun x hx => reachS_more (n := np) (cs := cs) (c := c) (part := part) (x := x) hx)
  have hlen := reachS_len (n := np) (cs := cs) (c := c) (part := part)
  obtain ⟨i0, hi0, hq0, hq1, hq2⟩ := info_parts info_chan
  have HI := Lib.hid (And.intro hi0 (And.intro hq0 (And.intro hq1 hq2)))
  obtain ⟨a, cap, rfl, hl⟩ := hv.shape
  rw [chs_len] at hl HV HF HR ⊢
  obtain ⟨c0, c1, c2, c3, c4⟩ := c
  clear hv hw hp hcw hi0 hq0 hq1 hq2
  have HCS := Lib.hid (show (chs (cs ++ [(c0, c1, c2, c3, c4)])) = [] ++ chs cs ++ [chV (c0, c1, c2, c3, c4)] by simp)
  generalize hcc : cs ++ [(c0, c1, c2, c3, c4)] = cq at *
  have hcq : cq.length ≤ cs.length + 1 := by rw [← hcc]; simp
  clear hcc
  generalize reachS np cs part = L at *
  generalize reachS np cq part = M at *
  go_enter Try.func5, Try.ntmps5
  ((go_wp2_with fail); (with_reducible refine (shown_any _).mono ?_); (rintro e w1 ⟨rfl, hb1⟩); (have hz1 := hb1.size); (try simp only [World.size_alloc, World.size_setCell] at hz1))
  (have b1 : Box w1 w.heap.size #[.slice pa np pc, .int .i64 fr, .slice wa wn wc, .slice a cs.length cap] 26 := (by (try have k1 := (Lib.hid True.intro).out); ((apply Box.cast); (repeat (first | with_reducible assumption | ((with_reducible apply Box.new1); (first | with_reducible rfl | rfl | (solve | simp))) | with_reducible apply Box.drewN | with_reducible apply Box.drew | with_reducible apply Box.set | with_reducible apply Box.other | with_reducible apply Box.alloc | (with_reducible apply Box.below; rotate_left; with_reducible assumption; rotate_right) | with_reducible rfl | omega | (dsimp only; omega) | (simp only [drew_heap', drewN_heap', World.size_alloc, World.size_setCell]; omega) | rfl | (solve | simp) | (solve | (simp; omega))))))); (obtain ⟨hc1, hf1, hl1, hn1, hm1⟩ := b1.rules); (have K1 := Lib.hid b1); (clear b1)
  have KC1 := Lib.hid (show Box w1 (w.heap.size + 1) #[.int .i64 c0, .int .i64 c1, .int .i64 c2, .int .i64 c3, .int .i64 c4] 40 from Box.below (Box.new1 _ _ _ (by simp)) hb1 (by simp only [World.size_alloc]; omega))
  have hbw1 : Below w.heap.size w w1 := by (repeat (first | with_reducible assumption | with_reducible exact Below.refl _ _ | with_reducible refine Below.setCell ?_ ?_ _ | with_reducible refine Below.alloc ?_ ?_ _ | with_reducible refine below_drewN' ?_ _ | with_reducible refine Below.drew ?_ | with_reducible refine Below.trans ?_ (Below.mono (by assumption) ?_) | omega | (dsimp only; omega) | (simp only [drew_heap', drewN_heap', World.size_alloc, World.size_setCell]; omega) | (solve | simp) | (solve | (simp; omega))))
  clear hb1
  go_wp2_with fail
  with_reducible refine (HF.out _ (HV.out.below hbw1)).mono ?_
  rintro e w2 ⟨rfl, hb2⟩
  ((have b2 := K1.out.below hb2 K1.out.lt); (obtain ⟨hc2, hf2, hl2, hn2, hm2⟩ := b2.rules); (have K2 := Lib.hid b2); (clear b2))
  have KC2 := Lib.hid (KC1.out.below hb2 KC1.out.lt)
  have hbw2 : Below w.heap.size w w2 := hbw1.trans (hb2.mono hbw1.size)
  have hz2 := hbw2.size
  clear hb2 K1 KC1 hc1 hf1 hl1 hn1 hm1
  by_cases hfew : cs.length ≤ 50 ∧ np ≤ 50
  rotate_left
  · rw [few_false hfew]
    clear hfew
    go_wp2_with fail
    go_ret
    exact ⟨by simp, hbw2⟩
  rw [show (decide (cs.length ≤ 50) && decide (np ≤ 50)) = true by simp [hfew.1, hfew.2]]
  obtain ⟨hc50, hn50⟩ := hfew
  go_wp2_with fail
  have KA3 := Lib.hid (K2.out.alloc (.cells #[.slice pa np pc, .int .i64 fr, .slice wa wn wc, .slice a cs.length cap] 26))
  have KC3 := Lib.hid (KC2.out.alloc (.cells #[.slice pa np pc, .int .i64 fr, .slice wa wn wc, .slice a cs.length cap] 26))
  have KQ3 := Lib.hid (Box.new w2 #[.slice pa np pc, .int .i64 fr, .slice wa wn wc, .slice a cs.length cap] 26)
  have hbw3 : Below w.heap.size w (w2.alloc (.cells #[.slice pa np pc, .int .i64 fr, .slice wa wn wc, .slice a cs.length cap] 26)) := hbw2.alloc hz2 _
  have hz3 : (w2.alloc (.cells #[.slice pa np pc, .int .i64 fr, .slice wa wn wc, .slice a cs.length cap] 26)).heap.size = w2.heap.size + 1 := by simp
  have HZ3 := Lib.hid hz3
  have hz3' := hbw3.size
  have hz3'' : w2.heap.size + 1 ≤ (w2.alloc (.cells #[.slice pa np pc, .int .i64 fr, .slice wa wn wc, .slice a cs.length cap] 26)).heap.size := by rw [hz3]; exact Nat.le_refl _
  have hqlt : w.heap.size + 1 < w2.heap.size := KC2.out.lt
  clear hz3 K2 KC2 hc2 hf2 hl2 hn2 hm2
  generalize w2.alloc (.cells #[.slice pa np pc, .int .i64 fr, .slice wa wn wc, .slice a cs.length cap] 26) = w3 at *
  refine wp_region_held_drew (S := fun W => W.cell? ⟨w.heap.size, 3, none⟩ = some (.slice a cs.length cap) ∧ Box W (w.heap.size + 1) #[.int .i64 c0, .int .i64 c1, .int .i64 c2, .int .i64 c3, .int .i64 c4] 40) (by kernel_rfl) ⟨KA3.out.drew.rules.1 3, KC3.out.drew⟩ (fun hHeld => ?_)
  have HKEEP := Lib.hid (show ∀ W, Below w3.drew.heap.size w3.drew W → (W.cell? ⟨w.heap.size, 3, none⟩ = some (.slice a cs.length cap) ∧ Box W (w.heap.size + 1) #[.int .i64 c0, .int .i64 c1, .int .i64 c2, .int .i64 c3, .int .i64 c4] 40) from fun W h => ⟨(KA3.out.drew.below h KA3.out.lt).rules.1 3, KC3.out.drew.below h KC3.out.lt⟩)
  have KA4 := Lib.hid KA3.out.drew
  have KQ4 := Lib.hid KQ3.out.drew
  have HV4 := Lib.hid (HV.out.below hbw3.drew)
  have hbw4 : Below w.heap.size w w3.drew := hbw3.drew
  have hz4 : w2.heap.size + 1 ≤ w3.drew.heap.size := hz3''
  clear KA3 KC3 KQ3 hbw3 hz3' hz3'' HZ3
  generalize w3.drew = w4 at *
  have hz4' := hbw4.size
  ((refine wpAnyH_take (i := 1) (oi := ⟨some 23, _, _, _, _, _⟩) (v := ?_) rfl (by kernel_rfl) (by kernel_rfl) (by kernel_rfl) (fun _ _ _ h => h) (Or.inl ⟨by rfl, ?_⟩) (by assumption) ?_); rotate_left; (focus ((intro w hSw); (try dsimp only at hSw); go_simp; (try with_reducible rfl))); (try simp only [Act.put, List.setIfInBounds_toArray, List.set_cons_zero, List.set_cons_succ]))
  ((refine wpAnyH_take (i := 2) (oi := ⟨some 24, _, _, _, _, _⟩) (v := ?_) rfl (by kernel_rfl) (by kernel_rfl) (by kernel_rfl) (fun _ _ _ h => h) (Or.inl ⟨by rfl, ?_⟩) (by assumption) ?_); rotate_left; (focus ((intro w hSw); (try dsimp only at hSw); go_simp; (try with_reducible rfl))); (try simp only [Act.put, List.setIfInBounds_toArray, List.set_cons_zero, List.set_cons_succ]))
  ((refine wpAnyH_take (i := 4) (oi := ⟨some 26, _, _, _, _, _⟩) rfl (by kernel_rfl) (by kernel_rfl) (by kernel_rfl) (fun _ _ _ h => h) (yieldsIf_load_box 40 _ rfl (#[.int .i64 c0, .int .i64 c1, .int .i64 c2, .int .i64 c3, .int .i64 c4]) ty_chan (ch_val (c0, c1, c2, c3, c4)) (by rfl) ?_ (fun w hs => hs.2)) (by assumption) ?_); (focus (solve | simp [Act.eval, Act.put])); (try simp only [Act.put, List.setIfInBounds_toArray, List.set_cons_zero, List.set_cons_succ]))
  have hb4 : Below w4.heap.size w4 w4 := Below.refl _ _
  refine wpAnyH_ready (rs := [0, 5]) (by kernel_rfl) (by simp) ?_
  refine AllReadyH.cons (o := ⟨some 22, _, _, _, _, _⟩) rfl (fun K hK => ?_) (AllReadyH.cons (o := ⟨some 27, _, _, _, _, _⟩) rfl (fun K hK => ?_) AllReadyH.nil)
  · go_simp
    refine hK.out _ _ (HKEEP.out _ (hb4.alloc (by have := hb4.size; omega) _)) (fun hHeld => ?_)
    clear hK K
    (try simp only [Act.put, List.setIfInBounds_toArray, List.set_cons_zero, List.set_cons_succ])
    have hb5 : Below w4.heap.size w4 ((w4).alloc (.cells #[] 40)) := hb4.alloc (by have := hb4.size; omega) _
    have HE5 := Lib.hid (show Owned ((w4).alloc (.cells #[] 40)) w4.heap.size 40 true 5 (.slice (some ⟨(w4).heap.size, 0, none⟩) 0 0) [] from Owned.made0 (by (try simp only [World.size_alloc]); omega))
    refine wpAnyH_ready (rs := [3, 5]) (by kernel_rfl) (by simp) ?_
    refine AllReadyH.cons (o := ⟨some 25, _, _, _, _, _⟩) rfl (fun K hK => ?_) (AllReadyH.cons (o := ⟨some 27, _, _, _, _, _⟩) rfl (fun K hK => ?_) AllReadyH.nil)
    · obtain ⟨v6, w6, hrun, ho6, hg6⟩ := run_append_sl (P := Try.prog) (w := w4.alloc (.cells #[] 40)) (base := w4.heap.size) (v := .slice (some ⟨(w4).heap.size, 0, none⟩) 0 0) (u := .slice a cs.length cap) (xs := []) (ys := chs cs) 24 24 ty_chan i0 (.agg #[.int .i64 0, .int .i64 0, .int .i64 0, .int .i64 0, .int .i64 0]) 40 Try.underlying24 HI.out.1 HI.out.2.1 HI.out.2.2.1 HI.out.2.2.2 rfl HE5.out (HV4.out.below hb5) (by simp [maxLen]; omega) (by simp; omega) (by have := hb5.size; omega)
      have hb6 : Below w4.heap.size w4 w6 := HE5.out.below hg6 hb5 (Nat.le_refl _) hb5.size
      have HO6 := Lib.hid ho6
      have HRUN6 := Lib.hid hrun
      have HG6 := Lib.hid hg6
      clear ho6 hrun hg6
      rw [if_pos (by rfl)]
      refine oper_append_run (v := .slice (some ⟨(w4).heap.size, 0, none⟩) 0 0) (u := .slice a cs.length cap) rfl (by simp [Act.eval]) (by simp [Act.eval]) HRUN6.out ?_
      (try simp only [Act.put, List.setIfInBounds_toArray, List.set_cons_zero, List.set_cons_succ])
      refine hK.out _ _ (HKEEP.out _ hb6) (fun hHeld => ?_)
      clear hK K
      (try simp only [Act.put, List.setIfInBounds_toArray, List.set_cons_zero, List.set_cons_succ])
      refine wpAnyH_ready (rs := [5]) (by kernel_rfl) (by simp) ?_
      refine AllReadyH.cons (o := ⟨some 27, _, _, _, _, _⟩) rfl (fun K hK => ?_) AllReadyH.nil
      go_simp
      refine hK.out _ _ (HKEEP.out _ (hb6.alloc (by have := hb6.size; omega) _)) (fun hHeld => ?_)
      clear hK K
      (try simp only [Act.put, List.setIfInBounds_toArray, List.set_cons_zero, List.set_cons_succ])
      have hb7 : Below w4.heap.size w4 ((w6).alloc (.cells #[.int .i64 c0, .int .i64 c1, .int .i64 c2, .int .i64 c3, .int .i64 c4] 40)) := hb6.alloc (by have := hb6.size; omega) _
      have HS7 := Lib.hid (show Sl ((w6).alloc (.cells #[.int .i64 c0, .int .i64 c1, .int .i64 c2, .int .i64 c3, .int .i64 c4] 40)) true 5 (.slice (some ⟨(w6).heap.size, 0, none⟩) 1 1) [chV (c0, c1, c2, c3, c4)] from Sl.made1 (ch_val (c0, c1, c2, c3, c4)) rfl)
      have HO7 := Lib.hid (HO6.out.kept (show Below w6.heap.size w6 (w6.alloc (.cells #[.int .i64 c0, .int .i64 c1, .int .i64 c2, .int .i64 c3, .int .i64 c4] 40)) from (Below.refl _ _).alloc (Nat.le_refl _) _))
      refine wpAnyH_ready (rs := [6]) (by kernel_rfl) (by simp) ?_
      refine AllReadyH.cons (o := ⟨some 28, _, _, _, _, _⟩) rfl (fun K hK => ?_) AllReadyH.nil
      obtain ⟨v9, w9, hrun, ho9, hg9⟩ := run_append_sl (P := Try.prog) (w := w6.alloc (.cells #[.int .i64 c0, .int .i64 c1, .int .i64 c2, .int .i64 c3, .int .i64 c4] 40)) (base := w4.heap.size) (v := v6) (u := .slice (some ⟨(w6).heap.size, 0, none⟩) 1 1) (xs := [] ++ chs cs) (ys := [chV (c0, c1, c2, c3, c4)]) 24 24 ty_chan i0 (.agg #[.int .i64 0, .int .i64 0, .int .i64 0, .int .i64 0, .int .i64 0]) 40 Try.underlying24 HI.out.1 HI.out.2.1 HI.out.2.2.1 HI.out.2.2.2 rfl HO7.out HS7.out (by simp [maxLen]; omega) (by simp; omega) (by have := hb7.size; omega)
      have hb9 : Below w4.heap.size w4 w9 := HO7.out.below hg9 hb7 (Nat.le_refl _) hb7.size
      have HO9 := Lib.hid ho9
      have HRUN9 := Lib.hid hrun
      have HG9 := Lib.hid hg9
      clear ho9 hrun hg9
      rw [if_pos (by rfl)]
      refine oper_append_run (v := v6) (u := .slice (some ⟨(w6).heap.size, 0, none⟩) 1 1) rfl (by simp [Act.eval]) (by simp [Act.eval]) HRUN9.out ?_
      (try simp only [Act.put, List.setIfInBounds_toArray, List.set_cons_zero, List.set_cons_succ])
      refine hK.out _ _ (HKEEP.out _ hb9) (fun hHeld => ?_)
      clear hK K
      (try simp only [Act.put, List.setIfInBounds_toArray, List.set_cons_zero, List.set_cons_succ])
      have ho10 := HO9.out
      rw [← HCS.out] at ho10
      obtain ⟨a9, k9, hv9, _⟩ := ho10.sl.shape
      rw [chs_len] at hv9
      subst hv9
      have KQ9 := Lib.hid (KQ4.out.below hb9 KQ4.out.lt)
      have KA9 := Lib.hid (KA4.out.below hb9 KA4.out.lt)
      obtain ⟨hc9, hf9, hl9, hn9, hm9⟩ := KQ9.out.rules
      have hbw9 : Below w.heap.size w w9 := hbw4.trans (hb9.mono hz4')
      have HSS := Lib.hid (show (w9.setCell ⟨w2.heap.size, 3, none⟩ (.slice a9 cq.length k9)).cell? ⟨w.heap.size, 3, none⟩ = some (.slice a cs.length cap) ∧ Box (w9.setCell ⟨w2.heap.size, 3, none⟩ (.slice a9 cq.length k9)) (w.heap.size + 1) #[.int .i64 c0, .int .i64 c1, .int .i64 c2, .int .i64 c3, .int .i64 c4] 40 from
        ⟨(World.cell?_setCell_far _ _ _ _ (by dsimp only; omega)).trans (HKEEP.out _ hb9).1, (HKEEP.out _ hb9).2.other _ _ (by dsimp only; omega)⟩)
      have hbX : Below w.heap.size w (w9.setCell ⟨w2.heap.size, 3, none⟩ (.slice a9 cq.length k9)) := hbw9.setCell (by dsimp only; omega) _
      have KAX := Lib.hid (KA9.out.other ⟨w2.heap.size, 3, none⟩ (.slice a9 cq.length k9) (by dsimp only; omega))
      have KQX := Lib.hid (KQ9.out.set 3 (.slice a9 cq.length k9))
      have HQX := Lib.hid ((ho10.setOther (b := w2.heap.size) (by omega) 3 (.slice a9 cq.length k9)).sl)
      clear ho10 HO9 KQ9 KA9 HV4
      ((refine wpAnyH_take (i := 7) (oi := ⟨some 29, _, _, _, _, _⟩) (v := ?_) rfl (by kernel_rfl) (by kernel_rfl) (by kernel_rfl) (fun _ _ _ h => h) (Or.inl ⟨by rfl, ?_⟩) (by assumption) ?_); rotate_left; (focus ((intro w hSw); (try dsimp only at hSw); go_simp; (try with_reducible rfl))); (try simp only [Act.put, List.setIfInBounds_toArray, List.set_cons_zero, List.set_cons_succ]))
      refine wpAnyH_ready (rs := [8]) (by kernel_rfl) (by simp) ?_
      refine AllReadyH.cons (o := ⟨none, _, _, _, _, _⟩) rfl (fun K hK => ?_) AllReadyH.nil
      go_simp
      refine hK.out _ _ HSS.out (fun hHeld => ?_)
      clear hK K
      (try simp only [Act.put, List.setIfInBounds_toArray, List.set_cons_zero, List.set_cons_succ])
      refine wpAnyH_done (by kernel_rfl) ?_ _
      clear hc9 hf9 hl9 hn9 hm9 HSS HKEEP
      generalize w9.setCell ⟨w2.heap.size, 3, none⟩ (.slice a9 cq.length k9) = wX at *
      have hzX := hbX.size
      obtain ⟨hcX, hfX, hlX, hnX, hmX⟩ := KAX.out.rules
      go_wp2_with fail
      with_reducible refine (HR.out _ (HV.out.below hbX)).mono ?_
      rintro e w11 ⟨v11, rfl, ho11, hb11⟩
      obtain ⟨a11, k11, hv11, hll⟩ := ho11.sl.shape
      rw [ints_len] at hv11 hll
      subst hv11
      have HL11 := Lib.hid ho11.sl
      have hbw11 : Below w.heap.size w w11 := hbX.trans (hb11.mono hzX)
      have hz11 := hbw11.size
      have KQ11 := Lib.hid (KQX.out.below hb11 KQX.out.lt)
      have HQ11 := Lib.hid (HQX.out.below hb11)
      obtain ⟨hd11, he11, hg11, hi11, hj11⟩ := KQ11.out.rules
      clear ho11 hb11 hcX hfX hlX hnX hmX
      go_wp2_with fail
      with_reducible refine (HRQ.out _ _ HQ11.out (by omega)).mono ?_
      rintro e w12 ⟨v12, rfl, ho12, hb12⟩
      obtain ⟨a12, k12, hv12, hml⟩ := ho12.sl.shape
      rw [ints_len] at hv12 hml
      subst hv12
      have HM12 := Lib.hid ho12.sl
      have HL12 := Lib.hid (HL11.out.below hb12)
      have hbw12 : Below w.heap.size w w12 := hbw11.trans (hb12.mono hz11)
      have hz12 := hbw12.size
      clear ho12 hb12 hd11 he11 hg11 hi11 hj11
      go_wp2_with fail
      go_loopw [12, 13, 14] (fun t _ _ W => ∃ n : Nat, n ≤ L.length ∧ t = .int .i64 n ∧ Below w12.heap.size w12 W) (fun t _ _ _ => L.length - (intOf t).toNat)
      case atStart => exact ⟨0, Nat.zero_le _, rfl, Below.refl _ _⟩
      case round =>
        obtain ⟨n, hn, rfl, hbv⟩ := hrel
        have hvz := hbv.size
        by_cases hnl : n < L.length
        · obtain ⟨y, hy⟩ : ∃ y, L[n]? = some y := ⟨_, List.getElem?_eq_getElem hnl⟩
          have HYL := Lib.hid (HSUB.out y (List.mem_of_getElem? hy))
          have HY := Lib.hid hy
          have hwn : IntKind.i64.wrap ((n : Int) + 1) = n + 1 := IntWalk.i64_in _ (by omega)
          obtain ⟨b2, off2, rfl, hb2, -⟩ := Sl.int (HL12.out.below hbv) hy
          clear hy
          go_wp2_with fail
          go_loopw [13, 14] (fun o t W => ∃ (k : Nat) (d : Bool), k ≤ M.length ∧ t = .int .i64 k ∧ o = .bool d ∧ Hid (d = decide (y ∈ M.take k)) ∧ Below w12.heap.size w12 W) (fun _ t _ => M.length - (intOf t).toNat)
          case atStart => exact ⟨0, false, Nat.zero_le _, rfl, rfl, Lib.hid (by simp), hbv⟩
          case round =>
            obtain ⟨k, d, hk, rfl, rfl, HD2, hbu⟩ := hrel
            have huz := hbu.size
            by_cases hkl : k < M.length
            · obtain ⟨z, hz⟩ : ∃ z, M[k]? = some z := ⟨_, List.getElem?_eq_getElem hkl⟩
              obtain ⟨b3, off3, rfl, hb3, e3⟩ := Sl.int (HM12.out.below hbu) hz
              obtain ⟨_, _, he2, hb4', e4⟩ := Sl.int (HL12.out.below hbu) HY.out
              simp only [Option.some.injEq, Addr.mk.injEq, and_true] at he2
              obtain ⟨rfl, rfl⟩ := he2
              have HMS := Lib.hid (mem_step (y := y) hz)
              have hwk : IntKind.i64.wrap ((k : Int) + 1) = k + 1 := IntWalk.i64_in _ (by omega)
              obtain ⟨d', hd', hcase⟩ : ∃ d' : Bool, Hid (d' = decide (y ∈ M.take (k + 1))) ∧ ((d = true ∧ d' = true) ∨ (d = false ∧ (z == y) = d')) := by
                refine ⟨decide (y ∈ M.take (k + 1)), Lib.hid rfl, ?_⟩
                rw [HMS.out, ← HD2.out]
                cases d
                · right; exact ⟨rfl, by rw [Bool.eq_iff_iff]; simp⟩
                · left; exact ⟨rfl, by simp⟩
              have g0 := cell_rg e3 hb3
              have g1 := cell_rg e4 hb4'
              clear hz
              rcases hcase with ⟨rfl, rfl⟩ | ⟨rfl, hzy⟩
              · go_wp2_with fail
                ((refine wp_region_quiet_below (by kernel_rfl) (by kernel_rfl) ?_); (repeat (go_big_quiet_step (fail))); (refine wpQuiet_nil ?_); (intro _ hw'); (obtain ⟨⟨dq, osq⟩, hw''⟩ := hw'); (subst hw''); (have hb7' := below_regrown wr dq osq); (generalize Go.Sort.grow (redrawn wr dq) osq = w7' at *); (have hz7' := hb7'.size))
                clear g0 g1
                go_wp2_with fail
                go_roundw
                case rel => exact ⟨k + 1, true, by omega, by go_num, rfl, hd', hbu.trans (hb7'.mono huz)⟩
                case measure => simp [intOf]; omega
              · go_wp2_with fail
                ((refine wp_region_quiet_below (by kernel_rfl) (by kernel_rfl) ?_); (repeat (go_big_quiet_step (fail))); (refine wpQuiet_nil ?_); (intro _ hw'); (obtain ⟨⟨dq, osq⟩, hw''⟩ := hw'); (subst hw''); (have hb7' := below_regrown wr dq osq); (generalize Go.Sort.grow (redrawn wr dq) osq = w7' at *); (have hz7' := hb7'.size))
                clear g0 g1
                go_wp2_with fail
                go_roundw
                case rel => exact ⟨k + 1, d', by omega, by go_num, rfl, hd', hbu.trans (hb7'.mono huz)⟩
                case measure => simp [intOf]; omega
            · obtain rfl : k = M.length := by omega
              obtain rfl : d = true := by rw [HD2.out, List.take_length]; exact decide_eq_true HYL.out
              go_wp2_with fail
              go_roundw
              case rel => exact ⟨n + 1, by omega, by go_num, hbu⟩
              case measure => simp [intOf]; omega
        · obtain rfl : n = L.length := by omega
          have hgeL : decide (L.length ≤ M.length) = true := decide_eq_true hlen
          have hgeL2 : decide ((L.length : Int) ≤ (M.length : Int)) = true := decide_eq_true (by omega)
          go_wp2_with fail
          go_ret
          exact ⟨by simp [hlen], hbw12.trans (hbv.mono hz12)⟩
    · go_simp
      refine hK.out _ _ (HKEEP.out _ (hb5.alloc (by have := hb5.size; omega) _)) (fun hHeld => ?_)
      clear hK K
      (try simp only [Act.put, List.setIfInBounds_toArray, List.set_cons_zero, List.set_cons_succ])
      have hb6 : Below w4.heap.size w4 ((w4.alloc (.cells #[] 40)).alloc (.cells #[.int .i64 c0, .int .i64 c1, .int .i64 c2, .int .i64 c3, .int .i64 c4] 40)) := hb5.alloc (by have := hb5.size; omega) _
      have HS6 := Lib.hid (show Sl ((w4.alloc (.cells #[] 40)).alloc (.cells #[.int .i64 c0, .int .i64 c1, .int .i64 c2, .int .i64 c3, .int .i64 c4] 40)) true 5 (.slice (some ⟨(w4.alloc (.cells #[] 40)).heap.size, 0, none⟩) 1 1) [chV (c0, c1, c2, c3, c4)] from Sl.made1 (ch_val (c0, c1, c2, c3, c4)) rfl)
      have HE6 := Lib.hid (HE5.out.kept (show Below (w4.alloc (.cells #[] 40)).heap.size (w4.alloc (.cells #[] 40)) ((w4.alloc (.cells #[] 40)).alloc (.cells #[.int .i64 c0, .int .i64 c1, .int .i64 c2, .int .i64 c3, .int .i64 c4] 40)) from (Below.refl _ _).alloc (Nat.le_refl _) _))
      refine wpAnyH_ready (rs := [3]) (by kernel_rfl) (by simp) ?_
      refine AllReadyH.cons (o := ⟨some 25, _, _, _, _, _⟩) rfl (fun K hK => ?_) AllReadyH.nil
      obtain ⟨v7, w7, hrun, ho7, hg7⟩ := run_append_sl (P := Try.prog) (w := (w4.alloc (.cells #[] 40)).alloc (.cells #[.int .i64 c0, .int .i64 c1, .int .i64 c2, .int .i64 c3, .int .i64 c4] 40)) (base := w4.heap.size) (v := .slice (some ⟨(w4).heap.size, 0, none⟩) 0 0) (u := .slice a cs.length cap) (xs := []) (ys := chs cs) 24 24 ty_chan i0 (.agg #[.int .i64 0, .int .i64 0, .int .i64 0, .int .i64 0, .int .i64 0]) 40 Try.underlying24 HI.out.1 HI.out.2.1 HI.out.2.2.1 HI.out.2.2.2 rfl HE6.out (HV4.out.below hb6) (by simp [maxLen]; omega) (by simp; omega) (by have := hb6.size; omega)
      have hb7 : Below w4.heap.size w4 w7 := HE6.out.below hg7 hb6 (Nat.le_refl _) hb6.size
      have HO7 := Lib.hid ho7
      have HRUN7 := Lib.hid hrun
      have HG7 := Lib.hid hg7
      clear ho7 hrun hg7
      rw [if_pos (by rfl)]
      refine oper_append_run (v := .slice (some ⟨(w4).heap.size, 0, none⟩) 0 0) (u := .slice a cs.length cap) rfl (by simp [Act.eval]) (by simp [Act.eval]) HRUN7.out ?_
      (try simp only [Act.put, List.setIfInBounds_toArray, List.set_cons_zero, List.set_cons_succ])
      refine hK.out _ _ (HKEEP.out _ hb7) (fun hHeld => ?_)
      clear hK K
      (try simp only [Act.put, List.setIfInBounds_toArray, List.set_cons_zero, List.set_cons_succ])
      have HS7 := Lib.hid (HS6.out.grown HG7.out (by intro b hb; simp [Value.ownBlock] at hb ⊢; omega))
      refine wpAnyH_ready (rs := [6]) (by kernel_rfl) (by simp) ?_
      refine AllReadyH.cons (o := ⟨some 28, _, _, _, _, _⟩) rfl (fun K hK => ?_) AllReadyH.nil
      obtain ⟨v9, w9, hrun, ho9, hg9⟩ := run_append_sl (P := Try.prog) (w := w7) (base := w4.heap.size) (v := v7) (u := .slice (some ⟨(w4.alloc (.cells #[] 40)).heap.size, 0, none⟩) 1 1) (xs := [] ++ chs cs) (ys := [chV (c0, c1, c2, c3, c4)]) 24 24 ty_chan i0 (.agg #[.int .i64 0, .int .i64 0, .int .i64 0, .int .i64 0, .int .i64 0]) 40 Try.underlying24 HI.out.1 HI.out.2.1 HI.out.2.2.1 HI.out.2.2.2 rfl HO7.out HS7.out (by simp [maxLen]; omega) (by simp; omega) (by have := hb7.size; omega)
      have hb9 : Below w4.heap.size w4 w9 := HO7.out.below hg9 hb7 (Nat.le_refl _) hb7.size
      have HO9 := Lib.hid ho9
      have HRUN9 := Lib.hid hrun
      have HG9 := Lib.hid hg9
      clear ho9 hrun hg9
      rw [if_pos (by rfl)]
      refine oper_append_run (v := v7) (u := .slice (some ⟨(w4.alloc (.cells #[] 40)).heap.size, 0, none⟩) 1 1) rfl (by simp [Act.eval]) (by simp [Act.eval]) HRUN9.out ?_
      (try simp only [Act.put, List.setIfInBounds_toArray, List.set_cons_zero, List.set_cons_succ])
      refine hK.out _ _ (HKEEP.out _ hb9) (fun hHeld => ?_)
      clear hK K
      (try simp only [Act.put, List.setIfInBounds_toArray, List.set_cons_zero, List.set_cons_succ])
      have ho10 := HO9.out
      rw [← HCS.out] at ho10
      obtain ⟨a9, k9, hv9, _⟩ := ho10.sl.shape
      rw [chs_len] at hv9
      subst hv9
      have KQ9 := Lib.hid (KQ4.out.below hb9 KQ4.out.lt)
      have KA9 := Lib.hid (KA4.out.below hb9 KA4.out.lt)
      obtain ⟨hc9, hf9, hl9, hn9, hm9⟩ := KQ9.out.rules
      have hbw9 : Below w.heap.size w w9 := hbw4.trans (hb9.mono hz4')
      have HSS := Lib.hid (show (w9.setCell ⟨w2.heap.size, 3, none⟩ (.slice a9 cq.length k9)).cell? ⟨w.heap.size, 3, none⟩ = some (.slice a cs.length cap) ∧ Box (w9.setCell ⟨w2.heap.size, 3, none⟩ (.slice a9 cq.length k9)) (w.heap.size + 1) #[.int .i64 c0, .int .i64 c1, .int .i64 c2, .int .i64 c3, .int .i64 c4] 40 from
        ⟨(World.cell?_setCell_far _ _ _ _ (by dsimp only; omega)).trans (HKEEP.out _ hb9).1, (HKEEP.out _ hb9).2.other _ _ (by dsimp only; omega)⟩)
      have hbX : Below w.heap.size w (w9.setCell ⟨w2.heap.size, 3, none⟩ (.slice a9 cq.length k9)) := hbw9.setCell (by dsimp only; omega) _
      have KAX := Lib.hid (KA9.out.other ⟨w2.heap.size, 3, none⟩ (.slice a9 cq.length k9) (by dsimp only; omega))
      have KQX := Lib.hid (KQ9.out.set 3 (.slice a9 cq.length k9))
      have HQX := Lib.hid ((ho10.setOther (b := w2.heap.size) (by omega) 3 (.slice a9 cq.length k9)).sl)
      clear ho10 HO9 KQ9 KA9 HV4
      ((refine wpAnyH_take (i := 7) (oi := ⟨some 29, _, _, _, _, _⟩) (v := ?_) rfl (by kernel_rfl) (by kernel_rfl) (by kernel_rfl) (fun _ _ _ h => h) (Or.inl ⟨by rfl, ?_⟩) (by assumption) ?_); rotate_left; (focus ((intro w hSw); (try dsimp only at hSw); go_simp; (try with_reducible rfl))); (try simp only [Act.put, List.setIfInBounds_toArray, List.set_cons_zero, List.set_cons_succ]))
      refine wpAnyH_ready (rs := [8]) (by kernel_rfl) (by simp) ?_
      refine AllReadyH.cons (o := ⟨none, _, _, _, _, _⟩) rfl (fun K hK => ?_) AllReadyH.nil
      go_simp
      refine hK.out _ _ HSS.out (fun hHeld => ?_)
      clear hK K
      (try simp only [Act.put, List.setIfInBounds_toArray, List.set_cons_zero, List.set_cons_succ])
      refine wpAnyH_done (by kernel_rfl) ?_ _
      clear hc9 hf9 hl9 hn9 hm9 HSS HKEEP
      generalize w9.setCell ⟨w2.heap.size, 3, none⟩ (.slice a9 cq.length k9) = wX at *
      have hzX := hbX.size
      obtain ⟨hcX, hfX, hlX, hnX, hmX⟩ := KAX.out.rules
      go_wp2_with fail
      with_reducible refine (HR.out _ (HV.out.below hbX)).mono ?_
      rintro e w11 ⟨v11, rfl, ho11, hb11⟩
      obtain ⟨a11, k11, hv11, hll⟩ := ho11.sl.shape
      rw [ints_len] at hv11 hll
      subst hv11
      have HL11 := Lib.hid ho11.sl
      have hbw11 : Below w.heap.size w w11 := hbX.trans (hb11.mono hzX)
      have hz11 := hbw11.size
      have KQ11 := Lib.hid (KQX.out.below hb11 KQX.out.lt)
      have HQ11 := Lib.hid (HQX.out.below hb11)
      obtain ⟨hd11, he11, hg11, hi11, hj11⟩ := KQ11.out.rules
      clear ho11 hb11 hcX hfX hlX hnX hmX
      go_wp2_with fail
      with_reducible refine (HRQ.out _ _ HQ11.out (by omega)).mono ?_
      rintro e w12 ⟨v12, rfl, ho12, hb12⟩
      obtain ⟨a12, k12, hv12, hml⟩ := ho12.sl.shape
      rw [ints_len] at hv12 hml
      subst hv12
      have HM12 := Lib.hid ho12.sl
      have HL12 := Lib.hid (HL11.out.below hb12)
      have hbw12 : Below w.heap.size w w12 := hbw11.trans (hb12.mono hz11)
      have hz12 := hbw12.size
      clear ho12 hb12 hd11 he11 hg11 hi11 hj11
      go_wp2_with fail
      go_loopw [12, 13, 14] (fun t _ _ W => ∃ n : Nat, n ≤ L.length ∧ t = .int .i64 n ∧ Below w12.heap.size w12 W) (fun t _ _ _ => L.length - (intOf t).toNat)
      case atStart => exact ⟨0, Nat.zero_le _, rfl, Below.refl _ _⟩
      case round =>
        obtain ⟨n, hn, rfl, hbv⟩ := hrel
        have hvz := hbv.size
        by_cases hnl : n < L.length
        · obtain ⟨y, hy⟩ : ∃ y, L[n]? = some y := ⟨_, List.getElem?_eq_getElem hnl⟩
          have HYL := Lib.hid (HSUB.out y (List.mem_of_getElem? hy))
          have HY := Lib.hid hy
          have hwn : IntKind.i64.wrap ((n : Int) + 1) = n + 1 := IntWalk.i64_in _ (by omega)
          obtain ⟨b2, off2, rfl, hb2, -⟩ := Sl.int (HL12.out.below hbv) hy
          clear hy
          go_wp2_with fail
          go_loopw [13, 14] (fun o t W => ∃ (k : Nat) (d : Bool), k ≤ M.length ∧ t = .int .i64 k ∧ o = .bool d ∧ Hid (d = decide (y ∈ M.take k)) ∧ Below w12.heap.size w12 W) (fun _ t _ => M.length - (intOf t).toNat)
          case atStart => exact ⟨0, false, Nat.zero_le _, rfl, rfl, Lib.hid (by simp), hbv⟩
          case round =>
            obtain ⟨k, d, hk, rfl, rfl, HD2, hbu⟩ := hrel
            have huz := hbu.size
            by_cases hkl : k < M.length
            · obtain ⟨z, hz⟩ : ∃ z, M[k]? = some z := ⟨_, List.getElem?_eq_getElem hkl⟩
              obtain ⟨b3, off3, rfl, hb3, e3⟩ := Sl.int (HM12.out.below hbu) hz
              obtain ⟨_, _, he2, hb4', e4⟩ := Sl.int (HL12.out.below hbu) HY.out
              simp only [Option.some.injEq, Addr.mk.injEq, and_true] at he2
              obtain ⟨rfl, rfl⟩ := he2
              have HMS := Lib.hid (mem_step (y := y) hz)
              have hwk : IntKind.i64.wrap ((k : Int) + 1) = k + 1 := IntWalk.i64_in _ (by omega)
              obtain ⟨d', hd', hcase⟩ : ∃ d' : Bool, Hid (d' = decide (y ∈ M.take (k + 1))) ∧ ((d = true ∧ d' = true) ∨ (d = false ∧ (z == y) = d')) := by
                refine ⟨decide (y ∈ M.take (k + 1)), Lib.hid rfl, ?_⟩
                rw [HMS.out, ← HD2.out]
                cases d
                · right; exact ⟨rfl, by rw [Bool.eq_iff_iff]; simp⟩
                · left; exact ⟨rfl, by simp⟩
              have g0 := cell_rg e3 hb3
              have g1 := cell_rg e4 hb4'
              clear hz
              rcases hcase with ⟨rfl, rfl⟩ | ⟨rfl, hzy⟩
              · go_wp2_with fail
                ((refine wp_region_quiet_below (by kernel_rfl) (by kernel_rfl) ?_); (repeat (go_big_quiet_step (fail))); (refine wpQuiet_nil ?_); (intro _ hw'); (obtain ⟨⟨dq, osq⟩, hw''⟩ := hw'); (subst hw''); (have hb7' := below_regrown wr dq osq); (generalize Go.Sort.grow (redrawn wr dq) osq = w7' at *); (have hz7' := hb7'.size))
                clear g0 g1
                go_wp2_with fail
                go_roundw
                case rel => exact ⟨k + 1, true, by omega, by go_num, rfl, hd', hbu.trans (hb7'.mono huz)⟩
                case measure => simp [intOf]; omega
              · go_wp2_with fail
                ((refine wp_region_quiet_below (by kernel_rfl) (by kernel_rfl) ?_); (repeat (go_big_quiet_step (fail))); (refine wpQuiet_nil ?_); (intro _ hw'); (obtain ⟨⟨dq, osq⟩, hw''⟩ := hw'); (subst hw''); (have hb7' := below_regrown wr dq osq); (generalize Go.Sort.grow (redrawn wr dq) osq = w7' at *); (have hz7' := hb7'.size))
                clear g0 g1
                go_wp2_with fail
                go_roundw
                case rel => exact ⟨k + 1, d', by omega, by go_num, rfl, hd', hbu.trans (hb7'.mono huz)⟩
                case measure => simp [intOf]; omega
            · obtain rfl : k = M.length := by omega
              obtain rfl : d = true := by rw [HD2.out, List.take_length]; exact decide_eq_true HYL.out
              go_wp2_with fail
              go_roundw
              case rel => exact ⟨n + 1, by omega, by go_num, hbu⟩
              case measure => simp [intOf]; omega
        · obtain rfl : n = L.length := by omega
          have hgeL : decide (L.length ≤ M.length) = true := decide_eq_true hlen
          have hgeL2 : decide ((L.length : Int) ≤ (M.length : Int)) = true := decide_eq_true (by omega)
          go_wp2_with fail
          go_ret
          exact ⟨by simp [hlen], hbw12.trans (hbv.mono hz12)⟩
  · go_simp
    refine hK.out _ _ (HKEEP.out _ (hb4.alloc (by have := hb4.size; omega) _)) (fun hHeld => ?_)
    clear hK K
    (try simp only [Act.put, List.setIfInBounds_toArray, List.set_cons_zero, List.set_cons_succ])
    have hb5 : Below w4.heap.size w4 ((w4).alloc (.cells #[.int .i64 c0, .int .i64 c1, .int .i64 c2, .int .i64 c3, .int .i64 c4] 40)) := hb4.alloc (by have := hb4.size; omega) _
    have HS5 := Lib.hid (show Sl ((w4).alloc (.cells #[.int .i64 c0, .int .i64 c1, .int .i64 c2, .int .i64 c3, .int .i64 c4] 40)) true 5 (.slice (some ⟨(w4).heap.size, 0, none⟩) 1 1) [chV (c0, c1, c2, c3, c4)] from Sl.made1 (ch_val (c0, c1, c2, c3, c4)) rfl)
    refine wpAnyH_ready (rs := [0]) (by kernel_rfl) (by simp) ?_
    refine AllReadyH.cons (o := ⟨some 22, _, _, _, _, _⟩) rfl (fun K hK => ?_) AllReadyH.nil
    go_simp
    refine hK.out _ _ (HKEEP.out _ (hb5.alloc (by have := hb5.size; omega) _)) (fun hHeld => ?_)
    clear hK K
    (try simp only [Act.put, List.setIfInBounds_toArray, List.set_cons_zero, List.set_cons_succ])
    have hb6 : Below w4.heap.size w4 ((w4.alloc (.cells #[.int .i64 c0, .int .i64 c1, .int .i64 c2, .int .i64 c3, .int .i64 c4] 40)).alloc (.cells #[] 40)) := hb5.alloc (by have := hb5.size; omega) _
    have HE6 := Lib.hid (show Owned ((w4.alloc (.cells #[.int .i64 c0, .int .i64 c1, .int .i64 c2, .int .i64 c3, .int .i64 c4] 40)).alloc (.cells #[] 40)) w4.heap.size 40 true 5 (.slice (some ⟨(w4.alloc (.cells #[.int .i64 c0, .int .i64 c1, .int .i64 c2, .int .i64 c3, .int .i64 c4] 40)).heap.size, 0, none⟩) 0 0) [] from Owned.made0 (by (try simp only [World.size_alloc]); omega))
    have HS6 := Lib.hid (HS5.out.below (show Below (w4.alloc (.cells #[.int .i64 c0, .int .i64 c1, .int .i64 c2, .int .i64 c3, .int .i64 c4] 40)).heap.size (w4.alloc (.cells #[.int .i64 c0, .int .i64 c1, .int .i64 c2, .int .i64 c3, .int .i64 c4] 40)) ((w4.alloc (.cells #[.int .i64 c0, .int .i64 c1, .int .i64 c2, .int .i64 c3, .int .i64 c4] 40)).alloc (.cells #[] 40)) from (Below.refl _ _).alloc (Nat.le_refl _) _))
    refine wpAnyH_ready (rs := [3]) (by kernel_rfl) (by simp) ?_
    refine AllReadyH.cons (o := ⟨some 25, _, _, _, _, _⟩) rfl (fun K hK => ?_) AllReadyH.nil
    obtain ⟨v7, w7, hrun, ho7, hg7⟩ := run_append_sl (P := Try.prog) (w := (w4.alloc (.cells #[.int .i64 c0, .int .i64 c1, .int .i64 c2, .int .i64 c3, .int .i64 c4] 40)).alloc (.cells #[] 40)) (base := w4.heap.size) (v := .slice (some ⟨(w4.alloc (.cells #[.int .i64 c0, .int .i64 c1, .int .i64 c2, .int .i64 c3, .int .i64 c4] 40)).heap.size, 0, none⟩) 0 0) (u := .slice a cs.length cap) (xs := []) (ys := chs cs) 24 24 ty_chan i0 (.agg #[.int .i64 0, .int .i64 0, .int .i64 0, .int .i64 0, .int .i64 0]) 40 Try.underlying24 HI.out.1 HI.out.2.1 HI.out.2.2.1 HI.out.2.2.2 rfl HE6.out (HV4.out.below hb6) (by simp [maxLen]; omega) (by simp; omega) (by have := hb6.size; omega)
    have hb7 : Below w4.heap.size w4 w7 := HE6.out.below hg7 hb6 (Nat.le_refl _) hb6.size
    have HO7 := Lib.hid ho7
    have HRUN7 := Lib.hid hrun
    have HG7 := Lib.hid hg7
    clear ho7 hrun hg7
    rw [if_pos (by rfl)]
    refine oper_append_run (v := .slice (some ⟨(w4.alloc (.cells #[.int .i64 c0, .int .i64 c1, .int .i64 c2, .int .i64 c3, .int .i64 c4] 40)).heap.size, 0, none⟩) 0 0) (u := .slice a cs.length cap) rfl (by simp [Act.eval]) (by simp [Act.eval]) HRUN7.out ?_
    (try simp only [Act.put, List.setIfInBounds_toArray, List.set_cons_zero, List.set_cons_succ])
    refine hK.out _ _ (HKEEP.out _ hb7) (fun hHeld => ?_)
    clear hK K
    (try simp only [Act.put, List.setIfInBounds_toArray, List.set_cons_zero, List.set_cons_succ])
    have HS7 := Lib.hid (HS6.out.grown HG7.out (by intro b hb; simp [Value.ownBlock] at hb ⊢; omega))
    refine wpAnyH_ready (rs := [6]) (by kernel_rfl) (by simp) ?_
    refine AllReadyH.cons (o := ⟨some 28, _, _, _, _, _⟩) rfl (fun K hK => ?_) AllReadyH.nil
    obtain ⟨v9, w9, hrun, ho9, hg9⟩ := run_append_sl (P := Try.prog) (w := w7) (base := w4.heap.size) (v := v7) (u := .slice (some ⟨(w4).heap.size, 0, none⟩) 1 1) (xs := [] ++ chs cs) (ys := [chV (c0, c1, c2, c3, c4)]) 24 24 ty_chan i0 (.agg #[.int .i64 0, .int .i64 0, .int .i64 0, .int .i64 0, .int .i64 0]) 40 Try.underlying24 HI.out.1 HI.out.2.1 HI.out.2.2.1 HI.out.2.2.2 rfl HO7.out HS7.out (by simp [maxLen]; omega) (by simp; omega) (by have := hb7.size; omega)
    have hb9 : Below w4.heap.size w4 w9 := HO7.out.below hg9 hb7 (Nat.le_refl _) hb7.size
    have HO9 := Lib.hid ho9
    have HRUN9 := Lib.hid hrun
    have HG9 := Lib.hid hg9
    clear ho9 hrun hg9
    rw [if_pos (by rfl)]
    refine oper_append_run (v := v7) (u := .slice (some ⟨(w4).heap.size, 0, none⟩) 1 1) rfl (by simp [Act.eval]) (by simp [Act.eval]) HRUN9.out ?_
    (try simp only [Act.put, List.setIfInBounds_toArray, List.set_cons_zero, List.set_cons_succ])
    refine hK.out _ _ (HKEEP.out _ hb9) (fun hHeld => ?_)
    clear hK K
    (try simp only [Act.put, List.setIfInBounds_toArray, List.set_cons_zero, List.set_cons_succ])
    have ho10 := HO9.out
    rw [← HCS.out] at ho10
    obtain ⟨a9, k9, hv9, _⟩ := ho10.sl.shape
    rw [chs_len] at hv9
    subst hv9
    have KQ9 := Lib.hid (KQ4.out.below hb9 KQ4.out.lt)
    have KA9 := Lib.hid (KA4.out.below hb9 KA4.out.lt)
    obtain ⟨hc9, hf9, hl9, hn9, hm9⟩ := KQ9.out.rules
    have hbw9 : Below w.heap.size w w9 := hbw4.trans (hb9.mono hz4')
    have HSS := Lib.hid (show (w9.setCell ⟨w2.heap.size, 3, none⟩ (.slice a9 cq.length k9)).cell? ⟨w.heap.size, 3, none⟩ = some (.slice a cs.length cap) ∧ Box (w9.setCell ⟨w2.heap.size, 3, none⟩ (.slice a9 cq.length k9)) (w.heap.size + 1) #[.int .i64 c0, .int .i64 c1, .int .i64 c2, .int .i64 c3, .int .i64 c4] 40 from
      ⟨(World.cell?_setCell_far _ _ _ _ (by dsimp only; omega)).trans (HKEEP.out _ hb9).1, (HKEEP.out _ hb9).2.other _ _ (by dsimp only; omega)⟩)
    have hbX : Below w.heap.size w (w9.setCell ⟨w2.heap.size, 3, none⟩ (.slice a9 cq.length k9)) := hbw9.setCell (by dsimp only; omega) _
    have KAX := Lib.hid (KA9.out.other ⟨w2.heap.size, 3, none⟩ (.slice a9 cq.length k9) (by dsimp only; omega))
    have KQX := Lib.hid (KQ9.out.set 3 (.slice a9 cq.length k9))
    have HQX := Lib.hid ((ho10.setOther (b := w2.heap.size) (by omega) 3 (.slice a9 cq.length k9)).sl)
    clear ho10 HO9 KQ9 KA9 HV4
    ((refine wpAnyH_take (i := 7) (oi := ⟨some 29, _, _, _, _, _⟩) (v := ?_) rfl (by kernel_rfl) (by kernel_rfl) (by kernel_rfl) (fun _ _ _ h => h) (Or.inl ⟨by rfl, ?_⟩) (by assumption) ?_); rotate_left; (focus ((intro w hSw); (try dsimp only at hSw); go_simp; (try with_reducible rfl))); (try simp only [Act.put, List.setIfInBounds_toArray, List.set_cons_zero, List.set_cons_succ]))
    refine wpAnyH_ready (rs := [8]) (by kernel_rfl) (by simp) ?_
    refine AllReadyH.cons (o := ⟨none, _, _, _, _, _⟩) rfl (fun K hK => ?_) AllReadyH.nil
    go_simp
    refine hK.out _ _ HSS.out (fun hHeld => ?_)
    clear hK K
    (try simp only [Act.put, List.setIfInBounds_toArray, List.set_cons_zero, List.set_cons_succ])
    refine wpAnyH_done (by kernel_rfl) ?_ _
    clear hc9 hf9 hl9 hn9 hm9 HSS HKEEP
    generalize w9.setCell ⟨w2.heap.size, 3, none⟩ (.slice a9 cq.length k9) = wX at *
    have hzX := hbX.size
    obtain ⟨hcX, hfX, hlX, hnX, hmX⟩ := KAX.out.rules
    go_wp2_with fail
    with_reducible refine (HR.out _ (HV.out.below hbX)).mono ?_
    rintro e w11 ⟨v11, rfl, ho11, hb11⟩
    obtain ⟨a11, k11, hv11, hll⟩ := ho11.sl.shape
    rw [ints_len] at hv11 hll
    subst hv11
    have HL11 := Lib.hid ho11.sl
    have hbw11 : Below w.heap.size w w11 := hbX.trans (hb11.mono hzX)
    have hz11 := hbw11.size
    have KQ11 := Lib.hid (KQX.out.below hb11 KQX.out.lt)
    have HQ11 := Lib.hid (HQX.out.below hb11)
    obtain ⟨hd11, he11, hg11, hi11, hj11⟩ := KQ11.out.rules
    clear ho11 hb11 hcX hfX hlX hnX hmX
    go_wp2_with fail
    with_reducible refine (HRQ.out _ _ HQ11.out (by omega)).mono ?_
    rintro e w12 ⟨v12, rfl, ho12, hb12⟩
    obtain ⟨a12, k12, hv12, hml⟩ := ho12.sl.shape
    rw [ints_len] at hv12 hml
    subst hv12
    have HM12 := Lib.hid ho12.sl
    have HL12 := Lib.hid (HL11.out.below hb12)
    have hbw12 : Below w.heap.size w w12 := hbw11.trans (hb12.mono hz11)
    have hz12 := hbw12.size
    clear ho12 hb12 hd11 he11 hg11 hi11 hj11
    go_wp2_with fail
    go_loopw [12, 13, 14] (fun t _ _ W => ∃ n : Nat, n ≤ L.length ∧ t = .int .i64 n ∧ Below w12.heap.size w12 W) (fun t _ _ _ => L.length - (intOf t).toNat)
    case atStart => exact ⟨0, Nat.zero_le _, rfl, Below.refl _ _⟩
    case round =>
      obtain ⟨n, hn, rfl, hbv⟩ := hrel
      have hvz := hbv.size
      by_cases hnl : n < L.length
      · obtain ⟨y, hy⟩ : ∃ y, L[n]? = some y := ⟨_, List.getElem?_eq_getElem hnl⟩
        have HYL := Lib.hid (HSUB.out y (List.mem_of_getElem? hy))
        have HY := Lib.hid hy
        have hwn : IntKind.i64.wrap ((n : Int) + 1) = n + 1 := IntWalk.i64_in _ (by omega)
        obtain ⟨b2, off2, rfl, hb2, -⟩ := Sl.int (HL12.out.below hbv) hy
        clear hy
        go_wp2_with fail
        go_loopw [13, 14] (fun o t W => ∃ (k : Nat) (d : Bool), k ≤ M.length ∧ t = .int .i64 k ∧ o = .bool d ∧ Hid (d = decide (y ∈ M.take k)) ∧ Below w12.heap.size w12 W) (fun _ t _ => M.length - (intOf t).toNat)
        case atStart => exact ⟨0, false, Nat.zero_le _, rfl, rfl, Lib.hid (by simp), hbv⟩
        case round =>
          obtain ⟨k, d, hk, rfl, rfl, HD2, hbu⟩ := hrel
          have huz := hbu.size
          by_cases hkl : k < M.length
          · obtain ⟨z, hz⟩ : ∃ z, M[k]? = some z := ⟨_, List.getElem?_eq_getElem hkl⟩
            obtain ⟨b3, off3, rfl, hb3, e3⟩ := Sl.int (HM12.out.below hbu) hz
            obtain ⟨_, _, he2, hb4', e4⟩ := Sl.int (HL12.out.below hbu) HY.out
            simp only [Option.some.injEq, Addr.mk.injEq, and_true] at he2
            obtain ⟨rfl, rfl⟩ := he2
            have HMS := Lib.hid (mem_step (y := y) hz)
            have hwk : IntKind.i64.wrap ((k : Int) + 1) = k + 1 := IntWalk.i64_in _ (by omega)
            obtain ⟨d', hd', hcase⟩ : ∃ d' : Bool, Hid (d' = decide (y ∈ M.take (k + 1))) ∧ ((d = true ∧ d' = true) ∨ (d = false ∧ (z == y) = d')) := by
              refine ⟨decide (y ∈ M.take (k + 1)), Lib.hid rfl, ?_⟩
              rw [HMS.out, ← HD2.out]
              cases d
              · right; exact ⟨rfl, by rw [Bool.eq_iff_iff]; simp⟩
              · left; exact ⟨rfl, by simp⟩
            have g0 := cell_rg e3 hb3
            have g1 := cell_rg e4 hb4'
            clear hz
            rcases hcase with ⟨rfl, rfl⟩ | ⟨rfl, hzy⟩
            · go_wp2_with fail
              ((refine wp_region_quiet_below (by kernel_rfl) (by kernel_rfl) ?_); (repeat (go_big_quiet_step (fail))); (refine wpQuiet_nil ?_); (intro _ hw'); (obtain ⟨⟨dq, osq⟩, hw''⟩ := hw'); (subst hw''); (have hb7' := below_regrown wr dq osq); (generalize Go.Sort.grow (redrawn wr dq) osq = w7' at *); (have hz7' := hb7'.size))
              clear g0 g1
              go_wp2_with fail
              go_roundw
              case rel => exact ⟨k + 1, true, by omega, by go_num, rfl, hd', hbu.trans (hb7'.mono huz)⟩
              case measure => simp [intOf]; omega
            · go_wp2_with fail
              ((refine wp_region_quiet_below (by kernel_rfl) (by kernel_rfl) ?_); (repeat (go_big_quiet_step (fail))); (refine wpQuiet_nil ?_); (intro _ hw'); (obtain ⟨⟨dq, osq⟩, hw''⟩ := hw'); (subst hw''); (have hb7' := below_regrown wr dq osq); (generalize Go.Sort.grow (redrawn wr dq) osq = w7' at *); (have hz7' := hb7'.size))
              clear g0 g1
              go_wp2_with fail
              go_roundw
              case rel => exact ⟨k + 1, d', by omega, by go_num, rfl, hd', hbu.trans (hb7'.mono huz)⟩
              case measure => simp [intOf]; omega
          · obtain rfl : k = M.length := by omega
            obtain rfl : d = true := by rw [HD2.out, List.take_length]; exact decide_eq_true HYL.out
            go_wp2_with fail
            go_roundw
            case rel => exact ⟨n + 1, by omega, by go_num, hbu⟩
            case measure => simp [intOf]; omega
      · obtain rfl : n = L.length := by omega
        have hgeL : decide (L.length ≤ M.length) = true := decide_eq_true hlen
        have hgeL2 : decide ((L.length : Int) ≤ (M.length : Int)) = true := decide_eq_true (by omega)
        go_wp2_with fail
        go_ret
        exact ⟨by simp [hlen], hbw12.trans (hbv.mono hz12)⟩
end Go.Proofs.Ytmcaeahjnhkbcaa
