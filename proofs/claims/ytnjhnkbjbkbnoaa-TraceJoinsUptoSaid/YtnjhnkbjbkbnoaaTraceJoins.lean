/- The law TraceJoins: its walk. Conditions: what came in is shaped, and of at most 1048576 events each. -/
import Derived.Test.YtnjhnkbjbkbnoaaTraceRef
namespace Go.Proofs.Ytnjhnkbjbkbnoaa
open Go Go.RowKit Go.Tm
set_option linter.unusedVariables false
set_option linter.unusedSimpArgs false

theorem evs_app (a b : List Ev) : evs (a ++ b) = evs a ++ evs b := List.map_append

set_option maxHeartbeats 8000000 in
theorem traceJoins_walk (u v : Value) (l m : List Ev) (pid n : Int) (w : World) (hu : Sl w true 4 u (evs l)) (hv : Sl w true 4 v (evs m)) (hl1 : l.length ≤ 1048576) (hm1 : m.length ≤ 1048576)
    (hw : ∀ x ∈ l, EvWf x) (hw2 : ∀ x ∈ m, EvWf x) :
    Calls Try.prog 5 #[.agg #[u, v, .int .i64 pid, .int .u32 n]] w fun e w' => e = .returned (.bool true) ∧ Below w.heap.size w w' := by
  have HU := Lib.hid hu
  have HV := Lib.hid hv
  have HOU := Lib.hid (fun W h => traceOf_any u l pid W h (by omega))
  have HOV := Lib.hid (fun W h => traceOf_any v m pid W h (by omega))
  have HOA := Lib.hid (fun x W h => traceOf_any x (l ++ m) pid W h (by rw [List.length_append]; omega))
  have hwa : ∀ x ∈ l ++ m, EvWf x := fun x hx => (List.mem_append.1 hx).elim (hw x) (hw2 x)
  have HEV := Lib.hid (fun x x' W h h' => events_true x x' (ofP (l ++ m) pid) W h h' (fun y hy => hwa y (List.mem_filter.1 hy).1))
  have HCU := Lib.hid (fun W h => count_any u l n W h)
  have HCV := Lib.hid (fun W h => count_any v m n W h)
  have HCA := Lib.hid (fun x W h => count_any x (l ++ m) n W h)
  have HEU := Lib.hid (fun W h => errors_any u l W h hw)
  have HEVV := Lib.hid (fun W h => errors_any v m W h hw2)
  have HEA := Lib.hid (fun x W h => errors_any x (l ++ m) W h hwa)
  have hof : ofP (l ++ m) pid = ofP l pid ++ ofP m pid := List.filter_append _ _
  have hce : cntE (l ++ m) n = cntE l n + cntE m n := by unfold cntE; rw [List.filter_append, List.length_append]
  have hee : errE (l ++ m) = errE l + errE m := by unfold errE; rw [List.filter_append, List.length_append]
  have hc1 : cntE l n ≤ l.length := List.length_filter_le _ _
  have hc2 : cntE m n ≤ m.length := List.length_filter_le _ _
  have he1 : errE l ≤ l.length := List.length_filter_le _ _
  have he2 : errE m ≤ m.length := List.length_filter_le _ _
  have hk1 : (ofP l pid).length ≤ l.length := List.length_filter_le _ _
  have hk2 : (ofP m pid).length ≤ m.length := List.length_filter_le _ _
  rw [hof] at HOA HEV
  rw [hce] at HCA
  rw [hee] at HEA
  obtain ⟨i0, hi0, hq0, hq1, hq2⟩ := info_parts info_event
  have HI := Lib.hid (And.intro hi0 (And.intro hq0 (And.intro hq1 hq2)))
  clear hi0 hq0 hq1 hq2
  obtain ⟨ua, uc, rfl, _⟩ := hu.shape
  obtain ⟨va, vc, rfl, _⟩ := hv.shape
  rw [evs_len] at HU HV HOU HOV HCU HCV HEU HEVV ⊢
  rw [evs_len]
  generalize ofP l pid = p at *
  generalize ofP m pid = q at *
  generalize cntE l n = c1 at *
  generalize cntE m n = c2 at *
  generalize errE l = e1 at *
  generalize errE m = e2 at *
  have hwc : IntKind.i64.wrap ((c1 : Int) + c2) = ((c1 + c2 : Nat) : Int) := by rw [IntWalk.i64_in _ (by omega)]; omega
  have hwe : IntKind.i64.wrap ((e1 : Int) + e2) = ((e1 + e2 : Nat) : Int) := by rw [IntWalk.i64_in _ (by omega)]; omega
  clear hu hv hw hw2 hwa hof hce hee
  go_enter Try.func5, Try.ntmps5
  ((go_wp2_with fail); (with_reducible refine (shown_any _).mono ?_); (rintro e w1 ⟨rfl, hb1⟩); (have hz1 := hb1.size); (try simp only [World.size_alloc, World.size_setCell] at hz1))
  have hx1 : Below w.heap.size w w1 := by (repeat (first | with_reducible assumption | with_reducible exact Below.refl _ _ | with_reducible refine Below.setCell ?_ ?_ _ | with_reducible refine Below.alloc ?_ ?_ _ | with_reducible refine below_drewN' ?_ _ | with_reducible refine Below.drew ?_ | with_reducible refine Below.trans ?_ (Below.mono (by assumption) ?_) | omega | (dsimp only; omega) | (simp only [drew_heap', drewN_heap', World.size_alloc, World.size_setCell]; omega) | (solve | simp) | (solve | (simp; omega))))
  go_wp2_with (first
    | (refine wpList_append_sl (v := .slice (some ⟨w1.heap.size, 0, none⟩) 0 0) (xs := []) (base := w1.heap.size) rfl _ _ 22 rfl ty_event i0 (.agg #[.int .i64 0, .int .u32 0, .int .u32 0, .int .u64 0]) 24 Try.underlying22 HI.out.1 HI.out.2.1 HI.out.2.2.1 HI.out.2.2.2 rfl ?_ ?_ (.slice ua l.length uc) (evs l) ?_ ?_ ?_ ?_ ?_ ?_; (focus (simp [Act.eval])); (focus (exact Owned.made0 (Nat.le_refl _))); (focus (simp [Act.eval])); (focus (exact (HU.out.below (by (repeat (first | with_reducible assumption | with_reducible exact Below.refl _ _ | with_reducible refine Below.setCell ?_ ?_ _ | with_reducible refine Below.alloc ?_ ?_ _ | with_reducible refine below_drewN' ?_ _ | with_reducible refine Below.drew ?_ | with_reducible refine Below.trans ?_ (Below.mono (by assumption) ?_) | omega | (dsimp only; omega) | (simp only [drew_heap', drewN_heap', World.size_alloc, World.size_setCell]; omega) | (solve | simp) | (solve | (simp; omega)))))))); (focus (first | (simp [maxLen]; omega) | (solve | simp [maxLen]))); (focus (first | (simp; omega) | (solve | simp))); (focus (first | omega | (simp only [World.size_alloc, World.size_setCell]; omega))); (intro v2 w2 ho2 hg2 hf2; (have hb2 : Below w1.heap.size w1 w2 := (Owned.made0 (E := 29) (ag := true) (k := 4) (Nat.le_refl w1.heap.size)).below hg2 (by (repeat (first | with_reducible assumption | with_reducible exact Below.refl _ _ | with_reducible refine Below.setCell ?_ ?_ _ | with_reducible refine Below.alloc ?_ ?_ _ | with_reducible refine below_drewN' ?_ _ | with_reducible refine Below.drew ?_ | with_reducible refine Below.trans ?_ (Below.mono (by assumption) ?_) | omega | (dsimp only; omega) | (simp only [drew_heap', drewN_heap', World.size_alloc, World.size_setCell]; omega) | (solve | simp) | (solve | (simp; omega))))) (by omega) (by simp only [World.size_alloc]; omega)); (have hz2 := hb2.size); (have HO2 := Lib.hid ho2); (clear ho2 hg2 hf2)))
    | (refine wpList_append_sl (v := v2) (xs := evs l) (base := w1.heap.size) rfl _ _ 22 rfl ty_event i0 (.agg #[.int .i64 0, .int .u32 0, .int .u32 0, .int .u64 0]) 24 Try.underlying22 HI.out.1 HI.out.2.1 HI.out.2.2.1 HI.out.2.2.2 rfl ?_ ?_ (.slice va m.length vc) (evs m) ?_ ?_ ?_ ?_ ?_ ?_; (focus (simp [Act.eval])); (focus (exact HO2.out)); (focus (simp [Act.eval])); (focus (exact (HV.out.below (hx1.trans (hb2.mono hx1.size))))); (focus (first | (simp [maxLen]; omega) | (solve | simp [maxLen]))); (focus (first | (simp; omega) | (solve | simp))); (focus (first | omega | (simp only [World.size_alloc, World.size_setCell]; omega))); (intro v3 w3 ho3 hg3 hf3; (have hb3 : Below w1.heap.size w1 w3 := HO2.out.below hg3 hb2 (Nat.le_refl _) hz2); (have hz3 := hb3.size); (have HO3 := Lib.hid ho3); (clear ho3 hg3 hf3)))
    | fail)
  have hx3 : Below w.heap.size w w3 := hx1.trans (hb3.mono hx1.size)
  have HA3 := Lib.hid (show Sl w3 true 4 v3 (evs (l ++ m)) by rw [evs_app]; exact HO3.out.sl)
  have HE3 := Lib.hid (Owned.made0 (w := w3) (E := 29) (ag := true) (k := 4) (Nat.le_refl w3.heap.size))
  clear HO2 HO3
  have hx4 : Below w.heap.size w (w3.alloc (.cells #[] 29)) := hx3.alloc hx3.size _
  have hb4 : Below w3.heap.size w3 (w3.alloc (.cells #[] 29)) := (Below.refl _ _).alloc (Nat.le_refl _) _
  have hz4 : (w3.alloc (.cells #[] 29)).heap.size = w3.heap.size + 1 := by simp
  generalize hW4 : w3.alloc (.cells #[] 29) = w4 at *
  clear hW4
  with_reducible refine (HOU.out _ (HU.out.below hx4)).mono ?_
  rintro e w5 ⟨v5, rfl, ho5, hb5⟩
  have hz5 := hb5.size
  have hx5 : Below w.heap.size w w5 := hx4.trans (hb5.mono hx4.size)
  have HS5 := Lib.hid ho5.sl
  obtain ⟨a5, k5, rfl, _⟩ := ho5.sl.shape
  rw [evs_len] at HS5 ⊢
  have HE5 := Lib.hid (HE3.out.kept hb5)
  have hb35 : Below w3.heap.size w3 w5 := hb4.trans (hb5.mono hb4.size)
  clear ho5 HE3
  go_wp2_with (first
    | (refine wpList_append_sl (v := .slice (some ⟨w3.heap.size, 0, none⟩) 0 0) (xs := []) (base := w3.heap.size) rfl _ _ 22 rfl ty_event i0 (.agg #[.int .i64 0, .int .u32 0, .int .u32 0, .int .u64 0]) 24 Try.underlying22 HI.out.1 HI.out.2.1 HI.out.2.2.1 HI.out.2.2.2 rfl ?_ ?_ (.slice a5 p.length k5) (evs p) ?_ ?_ ?_ ?_ ?_ ?_; (focus (simp [Act.eval])); (focus (exact HE5.out)); (focus (simp [Act.eval])); (focus (exact HS5.out)); (focus (first | (simp [maxLen]; omega) | (solve | simp [maxLen]))); (focus (first | (simp; omega) | (solve | simp))); (focus (first | omega | (simp only [World.size_alloc, World.size_setCell]; omega))); (intro v6 w6 ho6 hg6 hf6; (have hb6 : Below w3.heap.size w3 w6 := HE5.out.below hg6 hb35 (Nat.le_refl _) (by omega)); (have hz6 := hg6.size); (have HO6 := Lib.hid ho6); (clear ho6 hg6 hf6)))
    | fail)
  have hx6 : Below w.heap.size w w6 := hx3.trans (hb6.mono hx3.size)
  clear HE5 HS5
  with_reducible refine (HOV.out _ (HV.out.below hx6)).mono ?_
  rintro e w7 ⟨v7, rfl, ho7, hb7⟩
  have hz7 := hb7.size
  have HS7 := Lib.hid ho7.sl
  obtain ⟨a7, k7, rfl, _⟩ := ho7.sl.shape
  rw [evs_len] at HS7 ⊢
  have HO7 := Lib.hid (HO6.out.kept hb7)
  have hb37 : Below w3.heap.size w3 w7 := hb6.trans (hb7.mono (by omega))
  clear ho7 HO6
  go_wp2_with (first
    | (refine wpList_append_sl (v := v6) (xs := evs p) (base := w3.heap.size) rfl _ _ 22 rfl ty_event i0 (.agg #[.int .i64 0, .int .u32 0, .int .u32 0, .int .u64 0]) 24 Try.underlying22 HI.out.1 HI.out.2.1 HI.out.2.2.1 HI.out.2.2.2 rfl ?_ ?_ (.slice a7 q.length k7) (evs q) ?_ ?_ ?_ ?_ ?_ ?_; (focus (simp [Act.eval])); (focus (exact HO7.out)); (focus (simp [Act.eval])); (focus (exact HS7.out)); (focus (first | (simp [maxLen]; omega) | (solve | simp [maxLen]))); (focus (first | (simp; omega) | (solve | simp))); (focus (first | omega | (simp only [World.size_alloc, World.size_setCell]; omega))); (intro v8 w8 ho8 hg8 hf8; (have hb8 : Below w3.heap.size w3 w8 := HO7.out.below hg8 hb37 (Nat.le_refl _) (by omega)); (have HO8 := Lib.hid ho8); (clear ho8 hg8 hf8)))
    | fail)
  have hz8 := hb8.size
  have hx8 : Below w.heap.size w w8 := hx3.trans (hb8.mono hx3.size)
  have HA8 := Lib.hid (HA3.out.below hb8)
  have HB8 := Lib.hid (show Sl w8 true 4 v8 (evs (p ++ q)) by rw [evs_app]; exact HO8.out.sl)
  clear HO7 HS7 HO8 HA3
  with_reducible refine (HOA.out _ _ HA8.out).mono ?_
  rintro e w9 ⟨v9, rfl, ho9, hb9⟩
  have hx9 : Below w.heap.size w w9 := hx8.trans (hb9.mono hx8.size)
  have HS9 := Lib.hid ho9.sl
  clear ho9
  go_wp2_with fail
  with_reducible refine (HEV.out _ _ _ HS9.out (HB8.out.below hb9)).mono ?_
  rintro e w10 ⟨rfl, hb10⟩
  have hx10 : Below w.heap.size w w10 := hx9.trans (hb10.mono hx9.size)
  have HA10 := Lib.hid ((HA8.out.below hb9).below hb10)
  clear HA8 HB8 HS9
  go_wp2_with fail
  with_reducible refine (HCA.out _ _ HA10.out).mono ?_
  rintro e w11 ⟨rfl, hb11⟩
  have hx11 : Below w.heap.size w w11 := hx10.trans (hb11.mono hx10.size)
  go_wp2_with fail
  with_reducible refine (HCU.out _ (HU.out.below hx11)).mono ?_
  rintro e w12 ⟨rfl, hb12⟩
  have hx12 : Below w.heap.size w w12 := hx11.trans (hb12.mono hx11.size)
  go_wp2_with fail
  with_reducible refine (HCV.out _ (HV.out.below hx12)).mono ?_
  rintro e w13 ⟨rfl, hb13⟩
  have hx13 : Below w.heap.size w w13 := hx12.trans (hb13.mono hx12.size)
  have HA13 := Lib.hid (((HA10.out.below hb11).below hb12).below hb13)
  go_wp2_with fail
  with_reducible refine (HEA.out _ _ HA13.out).mono ?_
  rintro e w14 ⟨rfl, hb14⟩
  have hx14 : Below w.heap.size w w14 := hx13.trans (hb14.mono hx13.size)
  go_wp2_with fail
  with_reducible refine (HEU.out _ (HU.out.below hx14)).mono ?_
  rintro e w15 ⟨rfl, hb15⟩
  have hx15 : Below w.heap.size w w15 := hx14.trans (hb15.mono hx14.size)
  go_wp2_with fail
  with_reducible refine (HEVV.out _ (HV.out.below hx15)).mono ?_
  rintro e w16 ⟨rfl, hb16⟩
  have hx16 : Below w.heap.size w w16 := hx15.trans (hb16.mono hx15.size)
  go_wp2_with fail
  go_ret
  exact ⟨by simp, hx16⟩
end Go.Proofs.Ytnjhnkbjbkbnoaa
