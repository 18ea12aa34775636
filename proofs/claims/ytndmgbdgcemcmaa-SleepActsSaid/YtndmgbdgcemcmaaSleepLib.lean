/- The library's functions on rows of alarms. Conditions: lengths within the reach. -/
import Derived.Test.YtndmgbdgcemcmaaRows
import Derived.Test.YtndmgbdgcemcmaaChecked
import Derived.Test.YtndmgbdgcemcmaaLib6
import Derived.Test.YtndmgbdgcemcmaaQTail
import Derived.StillTail
import Derived.RegionTactic
import Derived.BigRegion
namespace Go.Proofs.Ytndmgbdgcemcmaa
open Go Go.RowKit Go.Tm
set_option linter.unusedVariables false
set_option linter.unusedSimpArgs false


theorem ty_alarm : Ty Try.prog 30 2 true := ⟨by kernel_rfl, by kernel_rfl, by decide, by kernel_rfl⟩


theorem info_alarm : (Try.prog.info? 30).map (fun i => (i.zero, i.size, i.bytes)) = some (some (.agg #[.int .u64 0, .int .i64 0]), 2, 16) := by kernel_rfl

set_option maxHeartbeats 1000000 in
theorem clone_alarm (v : Value) (xs : List Value) (w : World) (hsl : Sl w true 2 v xs) (hbytes : xs.length * 16 ≤ 140737488355328) :
    Calls Try.prog 26 #[v] w fun e w' => ∃ v', e = .returned v' ∧ Owned w' w.heap.size 30 true 2 v' xs ∧ Below w.heap.size w w' := by
  have hsl0 := Lib.hid hsl
  obtain ⟨hsz, a, cap, rfl, hl, hm, hform⟩ := hsl
  have hlen : xs.length ≤ maxLen := by omega
  cases a with
  | none =>
    have h0 : xs = [] := by
      rcases hform with h0 | ⟨b, off, hb, _⟩
      · exact h0
      · cases hb
    subst h0
    have hnil := fun (n c : Nat) (w : World) => run_eql_slice_none Try.prog (t := 22) (n := n) (c := c) Try.underlying22 w
    clear hform hsz hl hm hlen
    go_enter Try.func26, Try.ntmps26
    go_wp2_with fail
    go_ret
    exact ⟨_, rfl, ⟨World.ownsRow_nil _ _ _ _, by simp⟩, Below.refl _ _⟩
  | some a =>
    have hnil := fun (n c : Nat) (w : World) => run_eql_slice_some Try.prog (t := 22) (a := a) (n := n) (c := c) Try.underlying22 w
    obtain ⟨i0, hi, hz0, hz1, hz2⟩ := info_parts info_alarm
    have HI := Lib.hid hi
    have HZ := Lib.hid (And.intro hz0 (And.intro hz1 hz2))
    have HS := Lib.hid hsz
    clear hi hz0 hz1 hz2 hform hl hm hsz
    go_enter Try.func26, Try.ntmps26
    go_wp2_with (first | (refine wpList_append_own _ rfl _ _ 22 rfl w.heap.size 30 i0 (.agg #[.int .u64 0, .int .i64 0]) 2 16 Try.underlying22 HI.out HZ.out.1 HZ.out.2.1 HZ.out.2.2 rfl (by decide) (.slice (some ⟨w.heap.size, 0, none⟩) 0 0) 0 [] (by simp [Act.eval]) (World.ownsRow_made w #[] 0 (Nat.le_refl _) (Nat.zero_le _) rfl) a xs.length cap (flat xs) (by simp [Act.eval]) ?c1 ?c2 ?c3 ?c4 ?c5 ?c6 ?_) | fail)
    case c1 => exact flat_len HS.out
    case c2 => exact (hsl0.out.below ((Below.refl _ _).alloc (Nat.le_refl _) _)).news
    case c3 => exact flat_one HS.out
    case c4 => omega
    case c5 => omega
    case c6 => simp
    intro v' w1 hown hgrow _
    try simp only [Nat.zero_add, List.nil_append] at hown
    have HO := Lib.hid hown
    have HG := Lib.hid hgrow
    clear hown hgrow
    go_wp2_with fail
    go_ret
    exact ⟨_, rfl, ⟨HO.out, HS.out⟩, ((Below.refl _ _).alloc (Nat.le_refl _) _).grown HG.out (by simp) (by intro k hk; simp [Value.ownBlock] at hk; omega)⟩

theorem zero_alarm : Val true 2 (.agg #[.int .u64 0, .int .i64 0]) := ⟨_, rfl, rfl, by intro c hc; simp at hc; rcases hc with rfl | rfl <;> rfl⟩

set_option maxHeartbeats 8000000 in
theorem insert_alarm (v : Value) (xs : List Value) (i : Nat) (x : Value) (U : Nat) (w : World) (base : Nat) (ho : Owned w base 30 true 2 v xs) (hi : i ≤ xs.length) (hx : Val true 2 x) (hbx : Box w U x.cells 30)
    (hU : ∀ b, v.ownBlock = some b → b ≠ U) (hbase : base ≤ w.heap.size) (hby : (xs.length + 1) * 16 ≤ 140737488355328) :
    Calls Try.prog 25 #[v, .int .i64 i, .slice (some ⟨U, 0, none⟩) 1 1] w fun e w' => ∃ v', e = .returned v' ∧ Owned w' base 30 true 2 v' (xs.take i ++ x :: xs.drop i) ∧ w.grownBy w' v.ownBlock := by
  obtain ⟨i0, hi0, hq0, hq1, hq2⟩ := info_parts info_alarm
  have HI := Lib.hid (And.intro hi0 (And.intro hq0 (And.intro hq1 hq2)))
  clear hi0 hq0 hq1 hq2
  have HU := Lib.hid (Sl.ofBox (ag := true) (k := 2) hx hbx)
  have HO := Lib.hid ho
  have hlen63 : xs.length + 1 ≤ 9223372036854775807 := by omega
  by_cases hin : i = xs.length
  · subst hin
    obtain ⟨_, a, cap, rfl, hlc, hcm, _⟩ := ho.sl
    have HL := Lib.hid (show xs.take xs.length ++ x :: xs.drop xs.length = xs ++ [x] by simp)
    clear ho hbx hU
    by_cases hce : cap = xs.length
    · subst hce
      go_enter Try.func25, Try.ntmps25
      go_wp2_with (first | (refine wpList_append_sl (v := .slice a xs.length xs.length) (xs := xs) (base := base) rfl _ _ 22 rfl ty_alarm i0 (.agg #[.int .u64 0, .int .i64 0]) 16 Try.underlying22 HI.out.1 HI.out.2.1 HI.out.2.2.1 HI.out.2.2.2 rfl ?_ ?_ (.slice (some ⟨U, 0, none⟩) 1 1) ([x]) ?_ ?_ ?_ ?_ ?_ ?_; (focus (simp [Act.eval])); (focus (exact HO.out)); (focus (simp [Act.eval])); (focus (exact HU.out)); (focus (first | (simp [maxLen]; omega) | (solve | simp [maxLen]))); (focus (first | (simp; omega) | (solve | simp))); (focus (first | omega | (simp only [World.size_alloc, World.size_setCell]; omega))); (intro v4 w4 ho4 hg4 hf4; (have HO4 := Lib.hid ho4); (have HG4 := Lib.hid hg4); (clear ho4 hg4 hf4))) | fail)
      go_ret
      refine ⟨_, rfl, ?_, HG4.out⟩
      first | (rw [HL.out]; exact HO4.out) | exact HO4.out
    · go_enter Try.func25, Try.ntmps25
      go_wp2_with (first | (refine wpList_append_sl (v := .slice a xs.length cap) (xs := xs) (base := base) rfl _ _ 22 rfl ty_alarm i0 (.agg #[.int .u64 0, .int .i64 0]) 16 Try.underlying22 HI.out.1 HI.out.2.1 HI.out.2.2.1 HI.out.2.2.2 rfl ?_ ?_ (.slice (some ⟨U, 0, none⟩) 1 1) ([x]) ?_ ?_ ?_ ?_ ?_ ?_; (focus (simp [Act.eval])); (focus (exact HO.out)); (focus (simp [Act.eval])); (focus (exact HU.out)); (focus (first | (simp [maxLen]; omega) | (solve | simp [maxLen]))); (focus (first | (simp; omega) | (solve | simp))); (focus (first | omega | (simp only [World.size_alloc, World.size_setCell]; omega))); (intro v4 w4 ho4 hg4 hf4; (have HO4 := Lib.hid ho4); (have HG4 := Lib.hid hg4); (clear ho4 hg4 hf4))) | fail)
      go_ret
      refine ⟨_, rfl, ?_, HG4.out⟩
      first | (rw [HL.out]; exact HO4.out) | exact HO4.out
  have hlt : i < xs.length := by omega
  obtain ⟨g, cap, rfl, hlc, hcm, hbg, hgw, _, _⟩ := ho.form (by omega)
  unfold maxLen at hcm
  have hob : (Value.slice (some ⟨g, 0, none⟩) xs.length cap).ownBlock = some g := rfl
  rw [hob]
  have hgU : g ≠ U := hU g rfl
  have hilt : (i : Int) < xs.length := by omega
  have hine : ((i : Int) == xs.length) = false := by rw [beq_eq_false_iff_ne]; omega
  have hwn : IntKind.i64.wrap ((xs.length : Int) + 1) = xs.length + 1 := IntWalk.i64_in _ (by omega)
  have hwi : IntKind.i64.wrap ((i : Int) + 1) = i + 1 := IntWalk.i64_in _ (by omega)
  have hci : ¬ cap = i := by omega
  have hr53 := fun n W (h : n ≤ cap) (h' : i ≤ n) => run_from (P := Try.prog) (t := 22) ty_alarm Try.underlying22 g 0 n cap i i rfl h' h (by omega) W
  by_cases hroom : xs.length + 1 ≤ cap
  · -- in place
    have hroom' : ¬ (cap : Int) < (xs.length : Int) + 1 := by omega
    have hroom2 : (xs.length : Int) + 1 ≤ cap := by omega
    have hci1 : ¬ cap = i + 1 := by omega
    obtain ⟨cur, hg, hcs, htk⟩ : ∃ cur, w.heap[g]? = some (.cells cur 30 (0, 0)) ∧ cur.size = cap * 2 ∧ cur.toList.take (xs.length * 2) = flat xs := by
      rcases ho.row.2 with ⟨h0, _⟩ | ⟨g', cap', cur, he, _, hg, _, _, h3, h4⟩
      · simp at h0
      · simp only [Value.slice.injEq, Option.some.injEq, Addr.mk.injEq, and_true, true_and] at he
        obtain ⟨rfl, _, rfl⟩ := he
        exact ⟨cur, hg, h3, h4⟩
    have hgb : Box w g cur 30 := hg
    have hsz : ∀ w, (Go.sizeOf 30).run Try.prog w = .ok 2 w := fun w => by simp [sizeOf, typeInfo, HI.out.1, HI.out.2.2.1]
    have hov : ∀ lb cb, (callFunc 29 #[.slice (some ⟨U, 0, none⟩) 1 1, .slice (some ⟨g, (i + 1) * 2, none⟩) lb cb]).run Try.prog w = .ok (.value (.bool false)) w := fun lb cb => by
      rw [run_callFunc_extern Try.func29 (by kernel_rfl) (by kernel_rfl) (by kernel_rfl) (e := Extern.SlicesOverlaps.overlaps #[22, 22] #[4]) (by kernel_rfl),
        Lib.run_overlaps_apart w 22 4 30 Try.underlying22 2 hsz ⟨U, 0, none⟩ ⟨g, (i + 1) * 2, none⟩ 1 1 lb cb (Ne.symm hgU) _ _ _ _ hbx.shape hgb.shape (by rw [hcs]; omega) (hbx.rules.2.1 0) (hbx.rules.2.1 _)]
      rfl
    have hr50 := fun W => run_from (P := Try.prog) (t := 22) ty_alarm Try.underlying22 g 0 (xs.length + 1) cap ((i : Int) + 1) (i + 1) (by omega) (by omega) hroom (by omega) W
    have hr53 := fun W => hr53 (xs.length + 1) W hroom (by omega)
    have hval := ho.val
    have hDl : (flat (xs.drop i)).length = (xs.length - i) * 2 := by rw [flat_len (fun y hy => hval y (List.mem_of_mem_drop hy)), List.length_drop]
    have hD1 : ∀ u ∈ flat (xs.drop i), u.oneCell' = true := flat_one (fun y hy => hval y (List.mem_of_mem_drop hy))
    have hDn := (HO.out.sl.dropAt (m := i) (by omega)).news
    simp only [Nat.zero_add] at hr50 hr53 hDn
    have HDN := Lib.hid hDn
    have HD1 := Lib.hid hD1
    have HBX := Lib.hid hbx
    have HGB := Lib.hid hgb
    have HTK := Lib.hid htk
    have HVAL := Lib.hid hval
    clear ho hU hg hgb hsz hDn hD1 hval htk hbx
    go_enter Try.func25, Try.ntmps25
    go_wp2_with fail
    clear hov
    ((refine wp_region_below_tail 8 (by kernel_rfl) (by kernel_rfl) ?_); (simp only [List.take_succ_cons, List.take_zero, List.drop_succ_cons, List.drop_zero]); (repeat (go_big_quiet_step (fail))); (refine wpQuiet_nil ?_); (intro _ hw'); (obtain ⟨⟨dq, osq⟩, hw''⟩ := hw'); (subst hw''); (have hq := below_regrown w dq osq); (generalize Go.Sort.grow (redrawn w dq) osq = w3 at *); (have hz3 := hq.size))
    have hb3 : Box w3 g cur 30 := HGB.out.below hq HGB.out.lt
    have HB3 := Lib.hid hb3
    have hDn3 : ∀ j u, (flat (xs.drop i))[j]? = some u → w3.cell? ((⟨g, i * 2, none⟩ : Addr).add j) = some u := fun j u hu => by
      have := HDN.out j u hu
      rw [addr_add] at this ⊢
      exact (hq.cell (p := ⟨g, i * 2 + j, none⟩) HGB.out.lt).trans this
    have HDN3 := Lib.hid hDn3
    have hfit : (i + 1) * 2 + (flat (xs.drop i)).length ≤ cur.size := by
      have e3 : (xs.length + 1) * 2 ≤ cap * 2 := Nat.mul_le_mul_right _ hroom
      rw [hDl, hcs]; omega
    have hmin : min (xs.length + 1 - i) (xs.length - i) = xs.length - i := by omega
    have hcp := fun ty => copyRow_run (P := Try.prog) (t := 22) (ty := ty) (k := 2) (ag := true) (c := cap - (i + 1)) (cs := cap - i) (n := xs.length + 1 - i) (m := xs.length - i) (o := (i + 1) * 2) ty_alarm Try.underlying22 hb3 (by rw [hmin]; exact hDl) hDn3 HD1.out hfit
    obtain ⟨C1, hC1⟩ : ∃ C1, C1 = (cur.toList.take ((i + 1) * 2) ++ flat (xs.drop i) ++ cur.toList.drop ((i + 1) * 2 + (flat (xs.drop i)).length)).toArray := ⟨_, rfl⟩
    rw [← hC1] at hcp
    have hC1s : C1.size = cur.size := by
      rw [hC1]
      simp only [List.size_toArray, List.length_append, List.length_take, List.length_drop, Array.length_toList]
      omega
    have hfit2 : i * 2 + 2 ≤ C1.size := by rw [hC1s]; omega
    have HC1 := Lib.hid hC1
    have HCP := Lib.hid hcp
    clear hb3 hDn3 hcp hC1 hC1s
    go_wp2_with (first | (refine wpList_copy_run rfl _ _ 22 22 rfl _ _ ?_ ?_ (HCP.out _) ?_; (focus (simp [Act.eval])); (focus (simp [Act.eval])); (generalize hW4 : w3.setRow g C1 = w4); ((have hg4 : Box w4 g C1 30 := by rw [← hW4]; exact setRow_heap w3 g cur _ _ (0, 0) HB3.out); (have hu4 : Box w4 U x.cells 30 := by rw [← hW4]; exact ((HBX.out.below hq HBX.out.lt).row g _ (Ne.symm hgU))); (have hgr4 : w3.grownBy w4 (some g) := by rw [← hW4]; exact ⟨rfl, rfl, rfl, by simp [World.setRow], fun b hb hne => setRow_other w3 g b _ (by intro he; exact hne (by rw [he]))⟩); (have HG4 := Lib.hid hg4); (have HU4 := Lib.hid (Sl.ofBox (ag := true) (k := 2) hx hu4)); (have HGR4 := Lib.hid hgr4); (clear hg4 hu4 hgr4 hW4))) | ((have hl4 : x.cells.toList.length = min 1 (xs.length + 1 - i) * 2 := by rw [show min 1 (xs.length + 1 - i) = 1 by omega, hx.len]); (have hn4 : ∀ j u, x.cells.toList[j]? = some u → w4.cell? ((⟨U, 0, none⟩ : Addr).add j) = some u := by (have hnw := HU4.out.news); simpa [flat] using hnw); (refine wpList_copy_run rfl _ _ 22 22 rfl (.slice (some ⟨g, i * 2, none⟩) (xs.length + 1 - i) (cap - i)) (.slice (some ⟨U, 0, none⟩) 1 1) ?_ ?_ (copyRow_run ty_alarm Try.underlying22 HG4.out hl4 hn4 hx.one (by rw [hx.len]; exact hfit2)) ?_); (focus (simp [Act.eval])); (focus (simp [Act.eval])); (clear hl4 hn4); (generalize hW5 : w4.setRow g (C1.toList.take (i * 2) ++ x.cells.toList ++ C1.toList.drop (i * 2 + x.cells.toList.length)).toArray = w5); (have HW5 := Lib.hid hW5); (clear hW5)) | fail)
    go_ret
    have hW5 := HW5.out
    subst hW5
    have hC2 : C1.toList.take (i * 2) ++ x.cells.toList ++ C1.toList.drop (i * 2 + x.cells.toList.length) = cur.toList.take (i * 2) ++ x.cells.toList ++ flat (xs.drop i) ++ cur.toList.drop (i * 2 + 2 + (flat (xs.drop i)).length) := by
      have h := row_insert cur.toList (flat (xs.drop i)) x.cells.toList (i * 2) 2 hx.len (by rw [Array.length_toList]; omega)
      rw [HC1.out, show (i + 1) * 2 = i * 2 + 2 from Nat.succ_mul _ _]
      exact h
    rw [hC2]
    refine ⟨_, rfl, Owned.inserted (cur := cur) HVAL.out hx hbg hroom hcm hcs HTK.out hi (setRow_heap w4 g C1 _ _ (0, 0) HG4.out), ?_⟩
    exact grown_trans (grown_of_below hq (some g)) (grown_trans HGR4.out ⟨rfl, rfl, rfl, by simp [World.setRow], fun b hb hne => setRow_other w4 g b _ (by intro he; exact hne (by rw [he]))⟩)
  · -- a new row
    obtain ⟨m, hm⟩ : ∃ m, i + m = xs.length + 1 := ⟨xs.length + 1 - i, by omega⟩
    have hroom' : (cap : Int) < (xs.length : Int) + 1 := by omega
    have hwm : IntKind.i64.wrap ((xs.length : Int) + 1 - i) = m := by rw [IntWalk.i64_in _ (by omega)]; omega
    have hr53 := fun W => hr53 xs.length W hlc (by omega)
    simp only [Nat.zero_add] at hr53
    have HDA := Lib.hid (HO.out.sl.dropAt (m := i) (by omega))
    have hvz : Val true 2 (.agg #[.int .u64 0, .int .i64 0]) := zero_alarm
    clear ho hbx hU
    go_enter Try.func25, Try.ntmps25
    go_wp2_with (first | (refine wpList_append_grow_own (base := base) rfl _ _ 22 3 rfl ty_alarm i0 (.agg #[.int .u64 0, .int .i64 0]) .i64 16 Try.underlying22 Try.underlying3 HI.out.1 HI.out.2.1 HI.out.2.2.1 HI.out.2.2.2 hvz g xs.length cap HO.out i m (by omega) (by omega) (by omega) (by unfold maxLen; omega) (by rw [hm]; exact hby) hbase ?_ ?_ ?_; (focus (simp [Act.eval])); (focus (simp [Act.eval])); (intro cap2 w2 hc2 ho2 hg2; (have hb2 : Below w.heap.size w w2 := below_of_grown hg2); (have hne2 : ¬ cap2 = i := by omega); (have HO2 := Lib.hid ho2); (have HU2 := Lib.hid (HU.out.below hb2)); (clear ho2 hg2))) | (refine wpList_copy_own (base := base) rfl _ _ 22 rfl ty_alarm Try.underlying22 w.heap.size (i + m) cap2 (xs.take i ++ List.replicate m (.agg #[.int .u64 0, .int .i64 0])) [x] HO2.out i (xs.length + 1 - i) (cap2 - i) ⟨U, 0, none⟩ 1 HU2.out ?_ ?_ ?_ ?_ ?_; (focus (simp; omega)); (focus (simp; omega)); (focus (simp [Act.eval])); (focus (simp [Act.eval])); (intro w3 ho3 hg3; (have HO3 := Lib.hid ho3); (have hb3 : Below w.heap.size w w3 := hb2.grown hg3 hb2.size (by intro k hk; cases hk; exact Nat.le_refl _)); (clear ho3 hg3))) | fail)
    have hr50 := fun W => run_from (P := Try.prog) (t := 22) ty_alarm Try.underlying22 w.heap.size 0 (xs.length + 1) cap2 ((i : Int) + 1) (i + 1) (by omega) (by omega) (by omega) (by omega) W
    simp only [Nat.zero_add] at hr50
    simp only [Act.put, List.setIfInBounds_toArray, List.set_cons_succ, List.set_cons_zero, goInt, List.length_cons, List.length_nil]
    ((refine wp_region_below_tail 8 (by kernel_rfl) (by kernel_rfl) ?_); (simp only [List.take_succ_cons, List.take_zero, List.drop_succ_cons, List.drop_zero]); (repeat (go_big_quiet_step (fail))); (refine wpQuiet_nil ?_); (intro _ hw'); (obtain ⟨⟨dq, osq⟩, hw''⟩ := hw'); (subst hw''); (have hq := below_regrown w3 dq osq); (generalize Go.Sort.grow (redrawn w3 dq) osq = w4 at *); (have hz4 := hq.size))
    have hb4 : Below w.heap.size w w4 := hb3.trans (hq.mono hb3.size)
    have HO4 := Lib.hid (HO3.out.kept hq)
    have HDA4 := Lib.hid (HDA.out.below hb4)
    go_wp2_with (first | (refine wpList_copy_own (base := base) rfl _ _ 22 rfl ty_alarm Try.underlying22 w.heap.size (i + m) cap2 _ (xs.drop i) HO4.out (i + 1) (xs.length - i) (cap2 - (i + 1)) ⟨g, 0 + i * 2, none⟩ (cap - i) HDA4.out ?_ ?_ ?_ ?_ ?_; (focus (simp)); (focus (simp; omega)); (focus (simp [Act.eval])); (focus (simp [Act.eval])); (intro w5 ho5 hg5; (have HO5 := Lib.hid ho5); (have hb5 : Below w.heap.size w w5 := hb4.grown hg5 hb4.size (by intro k hk; cases hk; exact Nat.le_refl _)); (clear ho5 hg5))) | fail)
    go_ret
    refine ⟨_, rfl, ?_, grown_of_below hb5 _⟩
    have h := HO5.out
    rw [hm] at h
    rw [← ins_list (z := .agg #[.int .u64 0, .int .i64 0]) (x := x) hlt hm]
    exact h

end Go.Proofs.Ytndmgbdgcemcmaa
