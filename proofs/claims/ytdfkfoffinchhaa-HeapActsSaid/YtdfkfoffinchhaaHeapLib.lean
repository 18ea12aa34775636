/- Spans; the library's functions on rows of spans. Conditions: lengths within the reach. -/
import Derived.Test.YtdfkfoffinchhaaRows
import Derived.Test.YtdfkfoffinchhaaChecked
import Derived.Test.YtdfkfoffinchhaaLib11
import Derived.Test.YtdfkfoffinchhaaQTail
import Derived.Test.YtdfkfoffinchhaaHeapPure
import Derived.StillTail
import Derived.RegionTactic
import Derived.BigRegion
namespace Go.Proofs.Ytdfkfoffinchhaa
open Go Go.RowKit Go.Tm
set_option linter.unusedVariables false
set_option linter.unusedSimpArgs false

abbrev spV (a : Sp) : Value := .agg #[.int .i64 a.1, .int .i64 a.2.1, .int .i64 a.2.2]
abbrev sps (l : List Sp) : List Value := l.map spV
theorem sp_val (a : Sp) : Val true 3 (spV a) := ⟨_, rfl, rfl, by intro c hc; simp at hc; rcases hc with rfl | rfl | rfl <;> rfl⟩
theorem sps_len (l : List Sp) : (sps l).length = l.length := by simp
theorem sps_get {l : List Sp} {i : Nat} {a : Sp} (h : l[i]? = some a) : (sps l)[i]? = some (spV a) := by simp [h]
theorem Sl.sp {w : World} {a : Option Addr} {n cap : Nat} {l : List Sp} (h : Sl w true 3 (.slice a n cap) (sps l)) {i : Nat} {x : Sp} (hx : l[i]? = some x) :
    ∃ b off, a = some ⟨b, off, none⟩ ∧ b < w.heap.size ∧ w.cell? ⟨b, off + i * 3, none⟩ = some (.int .i64 x.1) ∧ w.cell? ⟨b, off + i * 3 + 1, none⟩ = some (.int .i64 x.2.1) ∧ w.cell? ⟨b, off + i * 3 + 2, none⟩ = some (.int .i64 x.2.2) := by
  obtain ⟨b, off, ha, hb, hcell⟩ := h.at (sps_get hx)
  exact ⟨b, off, ha, hb, hcell 0 _ rfl, hcell 1 _ rfl, hcell 2 _ rfl⟩
def SpWf (x : Sp) : Prop := (Lit.int .i64 x.1).wf = true ∧ (Lit.int .i64 x.2.1).wf = true ∧ (Lit.int .i64 x.2.2).wf = true


theorem ty_span : Ty Try.prog 31 3 true := ⟨by kernel_rfl, by kernel_rfl, by decide, by kernel_rfl⟩


theorem info_span : (Try.prog.info? 31).map (fun i => (i.zero, i.size, i.bytes)) = some (some (.agg #[.int .i64 0, .int .i64 0, .int .i64 0]), 3, 24) := by kernel_rfl

set_option maxHeartbeats 1000000 in
theorem clone_span (v : Value) (xs : List Value) (w : World) (hsl : Sl w true 3 v xs) (hbytes : xs.length * 24 ≤ 140737488355328) :
    Calls Try.prog 30 #[v] w fun e w' => ∃ v', e = .returned v' ∧ Owned w' w.heap.size 31 true 3 v' xs ∧ Below w.heap.size w w' := by
  have hsl0 := Lib.hid hsl
  obtain ⟨hsz, a, cap, rfl, hl, hm, hform⟩ := hsl
  have hlen : xs.length ≤ maxLen := by omega
  cases a with
  | none =>
    have h0 : xs = [] := by
      rcases hform with h0 | ⟨b, off, hb, _⟩
      · exact h0
      · cases hb
    subst h0
    have hnil := fun (n c : Nat) (w : World) => run_eql_slice_none Try.prog (t := 22) (n := n) (c := c) Try.underlying22 w
    clear hform hsz hl hm hlen
    go_enter Try.func30, Try.ntmps30
    go_wp2_with fail
    go_ret
    exact ⟨_, rfl, ⟨World.ownsRow_nil _ _ _ _, by simp⟩, Below.refl _ _⟩
  | some a =>
    have hnil := fun (n c : Nat) (w : World) => run_eql_slice_some Try.prog (t := 22) (a := a) (n := n) (c := c) Try.underlying22 w
    obtain ⟨i0, hi, hz0, hz1, hz2⟩ := info_parts info_span
    have HI := Lib.hid hi
    have HZ := Lib.hid (And.intro hz0 (And.intro hz1 hz2))
    have HS := Lib.hid hsz
    clear hi hz0 hz1 hz2 hform hl hm hsz
    go_enter Try.func30, Try.ntmps30
    go_wp2_with (first | (refine wpList_append_own _ rfl _ _ 22 rfl w.heap.size 31 i0 (.agg #[.int .i64 0, .int .i64 0, .int .i64 0]) 3 24 Try.underlying22 HI.out HZ.out.1 HZ.out.2.1 HZ.out.2.2 rfl (by decide) (.slice (some ⟨w.heap.size, 0, none⟩) 0 0) 0 [] (by simp [Act.eval]) (World.ownsRow_made w #[] 0 (Nat.le_refl _) (Nat.zero_le _) rfl) a xs.length cap (flat xs) (by simp [Act.eval]) ?c1 ?c2 ?c3 ?c4 ?c5 ?c6 ?_) | fail)
    case c1 => exact flat_len HS.out
    case c2 => exact (hsl0.out.below ((Below.refl _ _).alloc (Nat.le_refl _) _)).news
    case c3 => exact flat_one HS.out
    case c4 => omega
    case c5 => omega
    case c6 => simp
    intro v' w1 hown hgrow _
    try simp only [Nat.zero_add, List.nil_append] at hown
    have HO := Lib.hid hown
    have HG := Lib.hid hgrow
    clear hown hgrow
    go_wp2_with fail
    go_ret
    exact ⟨_, rfl, ⟨HO.out, HS.out⟩, ((Below.refl _ _).alloc (Nat.le_refl _) _).grown HG.out (by simp) (by intro k hk; simp [Value.ownBlock] at hk; omega)⟩

theorem zero_span : Val true 3 (.agg #[.int .i64 0, .int .i64 0, .int .i64 0]) := sp_val (0, 0, 0)

set_option maxHeartbeats 8000000 in
theorem insert_span (v : Value) (xs : List Value) (i : Nat) (x : Value) (U : Nat) (w : World) (base : Nat) (ho : Owned w base 31 true 3 v xs) (hi : i ≤ xs.length) (hx : Val true 3 x) (hbx : Box w U x.cells 31)
    (hU : ∀ b, v.ownBlock = some b → b ≠ U) (hbase : base ≤ w.heap.size) (hby : (xs.length + 1) * 24 ≤ 140737488355328) :
    Calls Try.prog 29 #[v, .int .i64 i, .slice (some ⟨U, 0, none⟩) 1 1] w fun e w' => ∃ v', e = .returned v' ∧ Owned w' base 31 true 3 v' (xs.take i ++ x :: xs.drop i) ∧ w.grownBy w' v.ownBlock := by
  obtain ⟨i0, hi0, hq0, hq1, hq2⟩ := info_parts info_span
  have HI := Lib.hid (And.intro hi0 (And.intro hq0 (And.intro hq1 hq2)))
  clear hi0 hq0 hq1 hq2
  have HU := Lib.hid (Sl.ofBox (ag := true) (k := 3) hx hbx)
  have HO := Lib.hid ho
  have hlen63 : xs.length + 1 ≤ 9223372036854775807 := by omega
  by_cases hin : i = xs.length
  · subst hin
    obtain ⟨_, a, cap, rfl, hlc, hcm, _⟩ := ho.sl
    have HL := Lib.hid (show xs.take xs.length ++ x :: xs.drop xs.length = xs ++ [x] by simp)
    clear ho hbx hU
    by_cases hce : cap = xs.length
    · subst hce
      go_enter Try.func29, Try.ntmps29
      go_wp2_with (first | (refine wpList_append_sl (v := .slice a xs.length xs.length) (xs := xs) (base := base) rfl _ _ 22 rfl ty_span i0 (.agg #[.int .i64 0, .int .i64 0, .int .i64 0]) 24 Try.underlying22 HI.out.1 HI.out.2.1 HI.out.2.2.1 HI.out.2.2.2 rfl ?_ ?_ (.slice (some ⟨U, 0, none⟩) 1 1) ([x]) ?_ ?_ ?_ ?_ ?_ ?_; (focus (solve | simp [Act.eval, Act.put])); (focus (exact HO.out)); (focus (solve | simp [Act.eval, Act.put])); (focus (exact HU.out)); (focus (first | (simp [maxLen]; omega) | (solve | simp [maxLen]))); (focus (first | (simp; omega) | (solve | simp))); (focus (first | omega | (simp only [World.size_alloc, World.size_setCell]; omega))); (intro v4 w4 ho4 hg4 hf4; (have HO4 := Lib.hid ho4); (have HG4 := Lib.hid hg4); (clear ho4 hg4 hf4))) | fail)
      go_ret
      refine ⟨_, rfl, ?_, HG4.out⟩
      first | (rw [HL.out]; exact HO4.out) | exact HO4.out
    · go_enter Try.func29, Try.ntmps29
      go_wp2_with (first | (refine wpList_append_sl (v := .slice a xs.length cap) (xs := xs) (base := base) rfl _ _ 22 rfl ty_span i0 (.agg #[.int .i64 0, .int .i64 0, .int .i64 0]) 24 Try.underlying22 HI.out.1 HI.out.2.1 HI.out.2.2.1 HI.out.2.2.2 rfl ?_ ?_ (.slice (some ⟨U, 0, none⟩) 1 1) ([x]) ?_ ?_ ?_ ?_ ?_ ?_; (focus (solve | simp [Act.eval, Act.put])); (focus (exact HO.out)); (focus (solve | simp [Act.eval, Act.put])); (focus (exact HU.out)); (focus (first | (simp [maxLen]; omega) | (solve | simp [maxLen]))); (focus (first | (simp; omega) | (solve | simp))); (focus (first | omega | (simp only [World.size_alloc, World.size_setCell]; omega))); (intro v4 w4 ho4 hg4 hf4; (have HO4 := Lib.hid ho4); (have HG4 := Lib.hid hg4); (clear ho4 hg4 hf4))) | fail)
      go_ret
      refine ⟨_, rfl, ?_, HG4.out⟩
      first | (rw [HL.out]; exact HO4.out) | exact HO4.out
  have hlt : i < xs.length := by omega
  obtain ⟨g, cap, rfl, hlc, hcm, hbg, hgw, _, _⟩ := ho.form (by omega)
  unfold maxLen at hcm
  have hob : (Value.slice (some ⟨g, 0, none⟩) xs.length cap).ownBlock = some g := rfl
  rw [hob]
  have hgU : g ≠ U := hU g rfl
  have hilt : (i : Int) < xs.length := by omega
  have hine : ((i : Int) == xs.length) = false := by rw [beq_eq_false_iff_ne]; omega
  have hwn : IntKind.i64.wrap ((xs.length : Int) + 1) = xs.length + 1 := IntWalk.i64_in _ (by omega)
  have hwi : IntKind.i64.wrap ((i : Int) + 1) = i + 1 := IntWalk.i64_in _ (by omega)
  have hci : ¬ cap = i := by omega
  have hr53 := fun n W (h : n ≤ cap) (h' : i ≤ n) => run_from (P := Try.prog) (t := 22) ty_span Try.underlying22 g 0 n cap i i rfl h' h (by omega) W
  by_cases hroom : xs.length + 1 ≤ cap
  · -- in place
    have hroom' : ¬ (cap : Int) < (xs.length : Int) + 1 := by omega
    have hroom2 : (xs.length : Int) + 1 ≤ cap := by omega
    have hci1 : ¬ cap = i + 1 := by omega
    obtain ⟨cur, hg, hcs, htk⟩ : ∃ cur, w.heap[g]? = some (.cells cur 31 (0, 0)) ∧ cur.size = cap * 3 ∧ cur.toList.take (xs.length * 3) = flat xs := by
      rcases ho.row.2 with ⟨h0, _⟩ | ⟨g', cap', cur, he, _, hg, _, _, h3, h4⟩
      · simp at h0
      · simp only [Value.slice.injEq, Option.some.injEq, Addr.mk.injEq, and_true, true_and] at he
        obtain ⟨rfl, _, rfl⟩ := he
        exact ⟨cur, hg, h3, h4⟩
    have hgb : Box w g cur 31 := hg
    have hsz : ∀ w, (Go.sizeOf 31).run Try.prog w = .ok 3 w := fun w => by simp [sizeOf, typeInfo, HI.out.1, HI.out.2.2.1]
    have hov : ∀ lb cb, (callFunc 39 #[.slice (some ⟨U, 0, none⟩) 1 1, .slice (some ⟨g, (i + 1) * 3, none⟩) lb cb]).run Try.prog w = .ok (.value (.bool false)) w := fun lb cb => by
      rw [run_callFunc_extern Try.func39 (by kernel_rfl) (by kernel_rfl) (by kernel_rfl) (e := Extern.SlicesOverlaps.overlaps #[22, 22] #[4]) (by kernel_rfl),
        Lib.run_overlaps_apart w 22 4 31 Try.underlying22 3 hsz ⟨U, 0, none⟩ ⟨g, (i + 1) * 3, none⟩ 1 1 lb cb (Ne.symm hgU) _ _ _ _ hbx.shape hgb.shape (by rw [hcs]; omega) (hbx.rules.2.1 0) (hbx.rules.2.1 _)]
      rfl
    have hr50 := fun W => run_from (P := Try.prog) (t := 22) ty_span Try.underlying22 g 0 (xs.length + 1) cap ((i : Int) + 1) (i + 1) (by omega) (by omega) hroom (by omega) W
    have hr53 := fun W => hr53 (xs.length + 1) W hroom (by omega)
    have hval := ho.val
    have hDl : (flat (xs.drop i)).length = (xs.length - i) * 3 := by rw [flat_len (fun y hy => hval y (List.mem_of_mem_drop hy)), List.length_drop]
    have hD1 : ∀ u ∈ flat (xs.drop i), u.oneCell' = true := flat_one (fun y hy => hval y (List.mem_of_mem_drop hy))
    have hDn := (HO.out.sl.dropAt (m := i) (by omega)).news
    simp only [Nat.zero_add] at hr50 hr53 hDn
    have HDN := Lib.hid hDn
    have HD1 := Lib.hid hD1
    have HBX := Lib.hid hbx
    have HGB := Lib.hid hgb
    have HTK := Lib.hid htk
    have HVAL := Lib.hid hval
    clear ho hU hg hgb hsz hDn hD1 hval htk hbx
    go_enter Try.func29, Try.ntmps29
    go_wp2_with fail
    clear hov
    ((refine wp_region_below_tail 8 (by kernel_rfl) (by kernel_rfl) ?_); (simp only [List.take_succ_cons, List.take_zero, List.drop_succ_cons, List.drop_zero]); (repeat (go_big_quiet_step (fail))); (refine wpQuiet_nil ?_); (intro _ hw'); (obtain ⟨⟨dq, osq⟩, hw''⟩ := hw'); (subst hw''); (have hq := below_regrown w dq osq); (generalize Go.Sort.grow (redrawn w dq) osq = w3 at *); (have hz3 := hq.size))
    have hb3 : Box w3 g cur 31 := HGB.out.below hq HGB.out.lt
    have HB3 := Lib.hid hb3
    have hDn3 : ∀ j u, (flat (xs.drop i))[j]? = some u → w3.cell? ((⟨g, i * 3, none⟩ : Addr).add j) = some u := fun j u hu => by
      have := HDN.out j u hu
      rw [addr_add] at this ⊢
      exact (hq.cell (p := ⟨g, i * 3 + j, none⟩) HGB.out.lt).trans this
    have HDN3 := Lib.hid hDn3
    have hfit : (i + 1) * 3 + (flat (xs.drop i)).length ≤ cur.size := by
      have e3 : (xs.length + 1) * 3 ≤ cap * 3 := Nat.mul_le_mul_right _ hroom
      rw [hDl, hcs]; omega
    have hmin : min (xs.length + 1 - i) (xs.length - i) = xs.length - i := by omega
    have hcp := fun ty => copyRow_run (P := Try.prog) (t := 22) (ty := ty) (k := 3) (ag := true) (c := cap - (i + 1)) (cs := cap - i) (n := xs.length + 1 - i) (m := xs.length - i) (o := (i + 1) * 3) ty_span Try.underlying22 hb3 (by rw [hmin]; exact hDl) hDn3 HD1.out hfit
    obtain ⟨C1, hC1⟩ : ∃ C1, C1 = (cur.toList.take ((i + 1) * 3) ++ flat (xs.drop i) ++ cur.toList.drop ((i + 1) * 3 + (flat (xs.drop i)).length)).toArray := ⟨_, rfl⟩
    rw [← hC1] at hcp
    have hC1s : C1.size = cur.size := by
      rw [hC1]
      simp only [List.size_toArray, List.length_append, List.length_take, List.length_drop, Array.length_toList]
      omega
    have hfit2 : i * 3 + 3 ≤ C1.size := by rw [hC1s]; omega
    have HC1 := Lib.hid hC1
    have HCP := Lib.hid hcp
    clear hb3 hDn3 hcp hC1 hC1s
    go_wp2_with (first | (refine wpList_copy_run rfl _ _ 22 22 rfl _ _ ?_ ?_ (HCP.out _) ?_; (focus (simp [Act.eval])); (focus (simp [Act.eval])); (generalize hW4 : w3.setRow g C1 = w4); ((have hg4 : Box w4 g C1 31 := by rw [← hW4]; exact setRow_heap w3 g cur _ _ (0, 0) HB3.out); (have hu4 : Box w4 U x.cells 31 := by rw [← hW4]; exact ((HBX.out.below hq HBX.out.lt).row g _ (Ne.symm hgU))); (have hgr4 : w3.grownBy w4 (some g) := by rw [← hW4]; exact ⟨rfl, rfl, rfl, by simp [World.setRow], fun b hb hne => setRow_other w3 g b _ (by intro he; exact hne (by rw [he]))⟩); (have HG4 := Lib.hid hg4); (have HU4 := Lib.hid (Sl.ofBox (ag := true) (k := 3) hx hu4)); (have HGR4 := Lib.hid hgr4); (clear hg4 hu4 hgr4 hW4))) | ((have hl4 : x.cells.toList.length = min 1 (xs.length + 1 - i) * 3 := by rw [show min 1 (xs.length + 1 - i) = 1 by omega, hx.len]); (have hn4 : ∀ j u, x.cells.toList[j]? = some u → w4.cell? ((⟨U, 0, none⟩ : Addr).add j) = some u := by (have hnw := HU4.out.news); simpa [flat] using hnw); (refine wpList_copy_run rfl _ _ 22 22 rfl (.slice (some ⟨g, i * 3, none⟩) (xs.length + 1 - i) (cap - i)) (.slice (some ⟨U, 0, none⟩) 1 1) ?_ ?_ (copyRow_run ty_span Try.underlying22 HG4.out hl4 hn4 hx.one (by rw [hx.len]; exact hfit2)) ?_); (focus (simp [Act.eval])); (focus (simp [Act.eval])); (clear hl4 hn4); (generalize hW5 : w4.setRow g (C1.toList.take (i * 3) ++ x.cells.toList ++ C1.toList.drop (i * 3 + x.cells.toList.length)).toArray = w5); (have HW5 := Lib.hid hW5); (clear hW5)) | fail)
    go_ret
    have hW5 := HW5.out
    subst hW5
    have hC2 : C1.toList.take (i * 3) ++ x.cells.toList ++ C1.toList.drop (i * 3 + x.cells.toList.length) = cur.toList.take (i * 3) ++ x.cells.toList ++ flat (xs.drop i) ++ cur.toList.drop (i * 3 + 3 + (flat (xs.drop i)).length) := by
      have h := row_insert cur.toList (flat (xs.drop i)) x.cells.toList (i * 3) 3 hx.len (by rw [Array.length_toList]; omega)
      rw [HC1.out, show (i + 1) * 3 = i * 3 + 3 from Nat.succ_mul _ _]
      exact h
    rw [hC2]
    refine ⟨_, rfl, Owned.inserted (cur := cur) HVAL.out hx hbg hroom hcm hcs HTK.out hi (setRow_heap w4 g C1 _ _ (0, 0) HG4.out), ?_⟩
    exact grown_trans (grown_of_below hq (some g)) (grown_trans HGR4.out ⟨rfl, rfl, rfl, by simp [World.setRow], fun b hb hne => setRow_other w4 g b _ (by intro he; exact hne (by rw [he]))⟩)
  · -- a new row
    obtain ⟨m, hm⟩ : ∃ m, i + m = xs.length + 1 := ⟨xs.length + 1 - i, by omega⟩
    have hroom' : (cap : Int) < (xs.length : Int) + 1 := by omega
    have hwm : IntKind.i64.wrap ((xs.length : Int) + 1 - i) = m := by rw [IntWalk.i64_in _ (by omega)]; omega
    have hr53 := fun W => hr53 xs.length W hlc (by omega)
    simp only [Nat.zero_add] at hr53
    have HDA := Lib.hid (HO.out.sl.dropAt (m := i) (by omega))
    have hvz : Val true 3 (.agg #[.int .i64 0, .int .i64 0, .int .i64 0]) := zero_span
    clear ho hbx hU
    go_enter Try.func29, Try.ntmps29
    go_wp2_with (first | (refine wpList_append_grow_own (base := base) rfl _ _ 22 3 rfl ty_span i0 (.agg #[.int .i64 0, .int .i64 0, .int .i64 0]) .i64 24 Try.underlying22 Try.underlying3 HI.out.1 HI.out.2.1 HI.out.2.2.1 HI.out.2.2.2 hvz g xs.length cap HO.out i m (by omega) (by omega) (by omega) (by unfold maxLen; omega) (by rw [hm]; exact hby) hbase ?_ ?_ ?_; (focus (simp [Act.eval])); (focus (simp [Act.eval])); (intro cap2 w2 hc2 ho2 hg2; (have hb2 : Below w.heap.size w w2 := below_of_grown hg2); (have hne2 : ¬ cap2 = i := by omega); (have HO2 := Lib.hid ho2); (have HU2 := Lib.hid (HU.out.below hb2)); (clear ho2 hg2))) | (refine wpList_copy_own (base := base) rfl _ _ 22 rfl ty_span Try.underlying22 w.heap.size (i + m) cap2 (xs.take i ++ List.replicate m (.agg #[.int .i64 0, .int .i64 0, .int .i64 0])) [x] HO2.out i (xs.length + 1 - i) (cap2 - i) ⟨U, 0, none⟩ 1 HU2.out ?_ ?_ ?_ ?_ ?_; (focus (simp; omega)); (focus (simp; omega)); (focus (simp [Act.eval])); (focus (simp [Act.eval])); (intro w3 ho3 hg3; (have HO3 := Lib.hid ho3); (have hb3 : Below w.heap.size w w3 := hb2.grown hg3 hb2.size (by intro k hk; cases hk; exact Nat.le_refl _)); (clear ho3 hg3))) | fail)
    have hr50 := fun W => run_from (P := Try.prog) (t := 22) ty_span Try.underlying22 w.heap.size 0 (xs.length + 1) cap2 ((i : Int) + 1) (i + 1) (by omega) (by omega) (by omega) (by omega) W
    simp only [Nat.zero_add] at hr50
    simp only [Act.put, List.setIfInBounds_toArray, List.set_cons_succ, List.set_cons_zero, goInt, List.length_cons, List.length_nil]
    ((refine wp_region_below_tail 8 (by kernel_rfl) (by kernel_rfl) ?_); (simp only [List.take_succ_cons, List.take_zero, List.drop_succ_cons, List.drop_zero]); (repeat (go_big_quiet_step (fail))); (refine wpQuiet_nil ?_); (intro _ hw'); (obtain ⟨⟨dq, osq⟩, hw''⟩ := hw'); (subst hw''); (have hq := below_regrown w3 dq osq); (generalize Go.Sort.grow (redrawn w3 dq) osq = w4 at *); (have hz4 := hq.size))
    have hb4 : Below w.heap.size w w4 := hb3.trans (hq.mono hb3.size)
    have HO4 := Lib.hid (HO3.out.kept hq)
    have HDA4 := Lib.hid (HDA.out.below hb4)
    go_wp2_with (first | (refine wpList_copy_own (base := base) rfl _ _ 22 rfl ty_span Try.underlying22 w.heap.size (i + m) cap2 _ (xs.drop i) HO4.out (i + 1) (xs.length - i) (cap2 - (i + 1)) ⟨g, 0 + i * 3, none⟩ (cap - i) HDA4.out ?_ ?_ ?_ ?_ ?_; (focus (simp)); (focus (simp; omega)); (focus (simp [Act.eval])); (focus (simp [Act.eval])); (intro w5 ho5 hg5; (have HO5 := Lib.hid ho5); (have hb5 : Below w.heap.size w w5 := hb4.grown hg5 hb4.size (by intro k hk; cases hk; exact Nat.le_refl _)); (clear ho5 hg5))) | fail)
    go_ret
    refine ⟨_, rfl, ?_, grown_of_below hb5 _⟩
    have h := HO5.out
    rw [hm] at h
    rw [← ins_list (z := .agg #[.int .i64 0, .int .i64 0, .int .i64 0]) (x := x) hlt hm]
    exact h


set_option maxHeartbeats 1000000 in
theorem indexFunc_span (v : Value) (xs : List Value) (fid : FuncId) (caps : Array Value) (p : Value → Bool) (w : World) (hsl : Sl w true 3 v xs) (hp : Pred Try.prog w none fid caps p xs) :
    Calls Try.prog 32 #[v, .func (.func fid) #[] caps] w fun e w' => e = .returned (.int .i64 (idx p xs)) ∧ Below w.heap.size w w' := by
  obtain ⟨hsz, a, cap, rfl, hl, hm, hform⟩ := hsl
  unfold maxLen at hm
  have hlen : xs.length ≤ 9223372036854775807 := by omega
  go_enter Try.func32, Try.ntmps32
  go_wp2_with fail
  go_loopw [8] (fun t wr => ∃ i : Nat, i ≤ xs.length ∧ t = .int .i64 i ∧ Below w.heap.size w wr ∧ ∀ j y, j < i → xs[j]? = some y → p y = false) (fun t _ => xs.length - (intOf t).toNat)
  case atStart => exact ⟨0, Nat.zero_le _, rfl, Below.refl _ _, by intro j y h; omega⟩
  case round =>
    obtain ⟨i, hi, rfl, hbw, hprev⟩ := hrel
    have HP := Lib.hid hprev
    clear hprev
    by_cases hlt : i < xs.length
    · obtain ⟨x, hx⟩ : ∃ x, xs[i]? = some x := ⟨_, List.getElem?_eq_getElem hlt⟩
      have hmem : x ∈ xs := List.mem_of_getElem? hx
      have HV := Lib.hid (hsz _ hmem)
      obtain ⟨b, off, rfl, hb, hcell⟩ : ∃ b off, a = some ⟨b, off, none⟩ ∧ b < w.heap.size ∧ Cells wr b (off + i * 3) x.cells.toList := by
        rcases hform with h0 | ⟨b, off, ha, hb, hc⟩
        · subst h0; simp at hlt
        · exact ⟨b, off, ha, hb, (hc i _ hx).below hbw hb⟩
      have HX := Lib.hid hx
      have HCE := Lib.hid hcell
      clear hx hcell hform hsz
      have hcall := hp.asks wr (grown_of_below hbw none) _ hmem
      have hbody := hp.body
      unfold Body at hbody
      have HC := Lib.hid hcall
      clear hcall hp
      cases hpx : p x
      · have HPX := Lib.hid hpx
        rw [hpx] at HC
        clear hpx
        go_wp2_with (first | (refine wpList_load_val rfl 31 _ rfl b (off + i * 3) (by simp [Act.eval]) x ty_span HV.out HCE.out ?_) | fail)
        refine HC.out.mono ?_
        rintro e w1 ⟨rfl, hb1⟩
        go_wp2_with fail
        go_roundw
        case rel =>
          refine ⟨i + 1, by omega, by go_num, hbw.trans (hb1.mono hbw.size), ?_⟩
          intro j y hj hy
          rcases Nat.lt_succ_iff_lt_or_eq.1 hj with hj | rfl
          · exact HP.out j y hj hy
          · rw [HX.out] at hy; cases hy; exact HPX.out
        case measure => simp [intOf]; omega
      · have HPX := Lib.hid hpx
        rw [hpx] at HC
        clear hpx
        go_wp2_with (first | (refine wpList_load_val rfl 31 _ rfl b (off + i * 3) (by simp [Act.eval]) x ty_span HV.out HCE.out ?_) | fail)
        refine HC.out.mono ?_
        rintro e w1 ⟨rfl, hb1⟩
        go_wp2_with fail
        go_ret
        exact ⟨by rw [idx_some HX.out HPX.out HP.out]; rfl, hbw.trans (hb1.mono hbw.size)⟩
    · go_wp2_with fail
      go_ret
      refine ⟨?_, hbw⟩
      rw [idx_none ?_]; · rfl
      intro x hx
      obtain ⟨j, hj, hxj⟩ := List.getElem_of_mem hx
      exact HP.out j x (by omega) (by rw [← hxj]; exact List.getElem?_eq_getElem hj)

def SpForm (x : Value) : Prop := ∃ (fa fb fc : Int), x = .agg #[.int .i64 fa, .int .i64 fb, .int .i64 fc]

set_option maxHeartbeats 4000000 in
theorem deleteFunc_span (v : Value) (xs : List Value) (fid : FuncId) (caps : Array Value) (p : Value → Bool) (w : World) (base : Nat) (hform : ∀ x ∈ xs, SpForm x) (ho : Owned w base 31 true 3 v xs) (hp : Pred Try.prog w v.ownBlock fid caps p xs) :
    Calls Try.prog 42 #[v, .func (.func fid) #[] caps] w fun e w' => ∃ v', e = .returned v' ∧ Sl w' true 3 v' (xs.filter fun x => !p x) ∧ v'.ownBlock = v.ownBlock ∧ w.grownBy w' v.ownBlock := by
  have hI := indexFunc_span v xs fid caps p w ho.sl ⟨hp.body, fun w' hg x hx => hp.asks w' ⟨hg.os, hg.tape, hg.output, hg.size, fun b hb _ => hg.block b hb (by simp)⟩ x hx⟩
  rcases idx_cases p xs with ⟨hi, hall⟩ | ⟨i0, x0, hi, hx0, hpx0, hprev⟩
  · rw [hi] at hI
    have HF := Lib.hid (show xs.filter (fun x => !p x) = xs from List.filter_eq_self.2 (fun x hx => by rw [hall x hx]; rfl))
    have HO := Lib.hid ho
    clear hp ho hall
    go_enter Try.func42, Try.ntmps42
    go_wp2_with fail
    with_reducible refine hI.mono ?_
    rintro e w1 ⟨rfl, hb1⟩
    go_wp2_with fail
    go_ret
    exact ⟨_, rfl, by rw [HF.out]; exact (HO.out.kept hb1).sl, rfl, grown_of_below hb1 _⟩
  · rw [hi] at hI
    have hlt0 : i0 < xs.length := (List.getElem?_eq_some_iff.1 hx0).1
    obtain ⟨g, cap, rfl, hlc, hcm, hbg, hgw, hfz, _⟩ := ho.form (by omega)
    have hlen : xs.length ≤ 9223372036854775807 := by unfold maxLen at hcm; omega
    have hob : (Value.slice (some ⟨g, 0, none⟩) xs.length cap).ownBlock = some g := rfl
    rw [hob] at hp ⊢
    obtain ⟨i1, hi0, hq0, hq1, hq2⟩ := info_parts info_span
    have hzv : ∀ w, (zeroValue 31).run Try.prog w = .ok (.agg #[.int .i64 0, .int .i64 0, .int .i64 0]) w := fun w => by simp [zeroValue, typeInfo, hi0, hq0]
    have HZV := Lib.hid hzv
    clear hi0 hq0 hq1 hq2 hzv hfz
    have HO0 := Lib.hid ho
    have HPR := Lib.hid hp
    have hbody := hp.body
    unfold Body at hbody
    have hst0 : xs.take i0 = (xs.take (i0 + 1)).filter (fun x => !p x) := by
      rw [take_step hx0, List.filter_append]
      have h1 : (xs.take i0).filter (fun x => !p x) = xs.take i0 := List.filter_eq_self.2 (fun x hx => by
        obtain ⟨j, hj, rfl⟩ := List.getElem_of_mem hx
        have hj' : j < i0 := by rw [List.length_take] at hj; omega
        rw [List.getElem_take, hprev j _ hj' (List.getElem?_eq_getElem (by omega))]; rfl)
      rw [h1]
      simp [hpx0]
    have HST0 := Lib.hid hst0
    have hwr0 : IntKind.i64.wrap ((i0 : Int) + 1) = i0 + 1 := IntWalk.i64_in _ (by omega)
    have hne1 : ((i0 : Int) == -1) = false := by rw [beq_eq_false_iff_ne]; omega
    clear ho hp hprev hst0 hx0 hpx0
    go_enter Try.func42, Try.ntmps42
    go_wp2_with fail
    with_reducible refine hI.mono ?_
    rintro e w1 ⟨rfl, hb1⟩
    have hz1 := hb1.size
    go_wp2_with fail
    go_loopw [5, 6] (fun u t W => ∃ (i j : Nat) (zs : List Value), i < j ∧ j ≤ xs.length ∧ u = .int .i64 i ∧ t = .int .i64 j ∧ zs.length = xs.length ∧ Owned W base 31 true 3 (.slice (some ⟨g, 0, none⟩) xs.length cap) zs ∧ w.grownBy W (some g) ∧
      zs.take i = (xs.take j).filter (fun x => !p x) ∧ ∀ r, j ≤ r → zs[r]? = xs[r]?) (fun _ t _ => xs.length - (intOf t).toNat)
    case atStart => exact ⟨i0, i0 + 1, xs, by omega, by omega, rfl, by go_num, rfl, HO0.out.kept hb1, grown_of_below hb1 _, HST0.out, fun _ _ => rfl⟩
    case round =>
      obtain ⟨i, j, zs, hij, hj, rfl, rfl, hzl, how, hgw, htk, hdr⟩ := hrel
      have HO := Lib.hid how
      have HZL := Lib.hid hzl
      have HTK := Lib.hid htk
      have HDR := Lib.hid hdr
      have HG := Lib.hid hgw
      clear how hzl htk hdr hgw
      by_cases hlt : j < xs.length
      · obtain ⟨x, hx⟩ : ∃ x, xs[j]? = some x := ⟨_, List.getElem?_eq_getElem hlt⟩
        have hzx : zs[j]? = some x := (HDR.out j (Nat.le_refl _)).trans hx
        obtain ⟨b', off', hbo, hblt, hcell⟩ := HO.out.sl.at hzx
        simp only [Option.some.injEq, Addr.mk.injEq, and_true] at hbo
        obtain ⟨rfl, rfl⟩ := hbo
        rw [Nat.zero_add] at hcell
        have HCE := Lib.hid hcell
        have HV := Lib.hid (HO.out.val x (List.mem_of_getElem? hzx))
        have HC := Lib.hid (fun W h => HPR.out.asks W h x (List.mem_of_getElem? hx))
        obtain ⟨fa, fb, fc, rfl⟩ := hform x (List.mem_of_getElem? hx)
        have HX := Lib.hid hx
        have hwj : IntKind.i64.wrap ((j : Int) + 1) = j + 1 := IntWalk.i64_in _ (by omega)
        have hwi : IntKind.i64.wrap ((i : Int) + 1) = i + 1 := IntWalk.i64_in _ (by omega)
        clear hx hzx hcell
        cases hpx : p (.agg #[.int .i64 fa, .int .i64 fb, .int .i64 fc])
        · have HPX := Lib.hid hpx
          rw [hpx] at HC
          clear hpx
          have hizs : i < zs.length := by rw [HZL.out]; omega
          go_wp2_with (first | (refine wpList_load_val rfl 31 _ rfl g (j * 3) (by simp [Act.eval]) (.agg #[.int .i64 fa, .int .i64 fb, .int .i64 fc]) ty_span HV.out HCE.out ?_) | ((with_reducible refine (HC.out _ ?_).mono ?_); (focus exact grown_trans HG.out (World.grownBy_alloc _ _ _)); rintro e w2 ⟨rfl, hb2⟩; (have hz2 := hb2.size); (simp only [World.size_alloc] at hz2); (have hb2' : Below wr.heap.size wr w2 := ((Below.refl wr.heap.size wr).alloc (Nat.le_refl _) _).trans (hb2.mono (by simp only [World.size_alloc]; omega))); (have HO2 := Lib.hid (HO.out.kept hb2')); (have bx2 : Box w2 wr.heap.size #[.int .i64 fa, .int .i64 fb, .int .i64 fc] 31 := Box.below (Box.new wr _ _) hb2 (by simp only [World.size_alloc]; omega)); (obtain ⟨hcx, hfx, hlx, hnx, hmx⟩ := bx2.rules); (clear bx2)) | (refine wpList_store_own (base := base) rfl _ _ rfl ty_span g xs.length cap HO2.out i hizs ?_ (.agg #[.int .i64 fa, .int .i64 fb, .int .i64 fc]) ?_ HV.out ?_; (focus (simp [Act.eval])); (focus (simp [Act.eval])); (intro w3 ho3 hg3; (have HO3 := Lib.hid ho3); (have hg3' := grown_trans HG.out (grown_trans (grown_of_below hb2' (some g)) hg3)); (have HG3 := Lib.hid hg3'); clear ho3 hg3 hg3')) | fail)
          go_roundw
          case rel =>
            refine ⟨i + 1, j + 1, _, by omega, by omega, by go_num, by go_num, ?_, HO3.out, HG3.out, ?_, ?_⟩
            · rw [List.length_set]; exact HZL.out
            · rw [take_step HX.out, List.filter_append, ← HTK.out, take_step (i := i) (x := .agg #[.int .i64 fa, .int .i64 fb, .int .i64 fc]) (by rw [List.getElem?_set]; simp [hizs]), List.take_set_of_le (Nat.le_refl _)]
              simp [HPX.out]
            · intro r hr
              rw [List.getElem?_set_ne (by omega)]
              exact HDR.out r (by omega)
          case measure => simp [intOf]; omega
        · have HPX := Lib.hid hpx
          rw [hpx] at HC
          clear hpx
          go_wp2_with (first | (refine wpList_load_val rfl 31 _ rfl g (j * 3) (by simp [Act.eval]) (.agg #[.int .i64 fa, .int .i64 fb, .int .i64 fc]) ty_span HV.out HCE.out ?_) | ((with_reducible refine (HC.out _ ?_).mono ?_); (focus exact grown_trans HG.out (World.grownBy_alloc _ _ _)); rintro e w2 ⟨rfl, hb2⟩; (have hz2 := hb2.size); (simp only [World.size_alloc] at hz2); (have hb2' : Below wr.heap.size wr w2 := ((Below.refl wr.heap.size wr).alloc (Nat.le_refl _) _).trans (hb2.mono (by simp only [World.size_alloc]; omega))); (have HO2 := Lib.hid (HO.out.kept hb2')); (have bx2 : Box w2 wr.heap.size #[.int .i64 fa, .int .i64 fb, .int .i64 fc] 31 := Box.below (Box.new wr _ _) hb2 (by simp only [World.size_alloc]; omega)); (obtain ⟨hcx, hfx, hlx, hnx, hmx⟩ := bx2.rules); (clear bx2)) | fail)
          go_roundw
          case rel =>
            refine ⟨i, j + 1, zs, by omega, by omega, rfl, by go_num, HZL.out, HO2.out, grown_trans HG.out (grown_of_below hb2' (some g)), ?_, fun r hr => HDR.out r (by omega)⟩
            rw [take_step HX.out, List.filter_append, ← HTK.out]
            simp [HPX.out]
          case measure => simp [intOf]; omega
      · have hjl : j = xs.length := by omega
        subst hjl
        have hizs : i < zs.length := by rw [HZL.out]; omega
        have hsub : zs.length - i = xs.length - i := by rw [HZL.out]
        go_wp2_with (first | (refine wpList_clear_own (base := base) rfl _ 22 rfl ty_span Try.underlying22 HZV.out zero_span g xs.length cap (cap - i) HO.out i hizs ?_ ?_; (focus (rw [hsub]; simp [Act.eval])); (intro w3 ho3 hg3; (have HO3 := Lib.hid ho3); (have HG3 := Lib.hid (grown_trans HG.out hg3)); clear ho3 hg3)) | fail)
        go_ret
        refine ⟨_, rfl, ?_, rfl, HG3.out⟩
        have h := HO3.out.sl
        rw [HTK.out, List.take_of_length_le (Nat.le_refl _)] at h
        exact h

end Go.Proofs.Ytdfkfoffinchhaa
