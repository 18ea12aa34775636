/- route.Alike: whether all is the same that may come to one; the law RouteAlike: its walk. Conditions: what came in is shaped. -/
import Derived.Test.YtmcaeahjnhkbcaaRouteStr
import Derived.Test.YtmcaeahjnhkbcaaRouteOwn
namespace Go.Proofs.Ytmcaeahjnhkbcaa
open Go Go.RowKit Go.Tm
set_option linter.unusedVariables false
set_option linter.unusedSimpArgs false


theorem ty_int : Ty Try.prog 3 1 false := ⟨by kernel_rfl, by kernel_rfl, by decide, by kernel_rfl⟩

theorem info_int : (Try.prog.info? 3).map (fun i => (i.zero, i.size, i.bytes)) = some (some (.int .i64 0), 1, 8) := by kernel_rfl
def alikeL (a b : List (List ByteArray)) (l : List Int) : Bool := l.all fun n => decide (imgS a n = imgS b n)
def alikeS (np : Nat) (cs : List Ch) (a b : List (List ByteArray)) (part : Int) : Bool := alikeL a b (0 :: reachS np cs part)
theorem alikeS_symm (np : Nat) (cs : List Ch) (a b : List (List ByteArray)) (part : Int) : alikeS np cs a b part = alikeS np cs b a part := by
  unfold alikeS alikeL
  congr 1
  funext n
  rw [Bool.eq_iff_iff]
  simp [eq_comm]
theorem alikeS_self (np : Nat) (cs : List Ch) (a : List (List ByteArray)) (part : Int) : alikeS np cs a a part = true := by
  unfold alikeS alikeL; simp
theorem alikeL_no {a b : List (List ByteArray)} {l : List Int} {i : Nat} {x : Int} (hx : l[i]? = some x) (h : imgS a x ≠ imgS b x) : alikeL a b l = false := by
  cases e : alikeL a b l
  · rfl
  · have := List.all_eq_true.1 e x (List.mem_of_getElem? hx)
    exact absurd (by simpa using this) h
theorem alikeL_step {a b : List (List ByteArray)} {l : List Int} {i : Nat} {x : Int} (hx : l[i]? = some x) (h : imgS a x = imgS b x) (ht : alikeL a b (l.take i) = true) : alikeL a b (l.take (i + 1)) = true := by
  unfold alikeL at *
  rw [take_step hx, List.all_append, ht]
  simp [h]

set_option maxRecDepth 100000 in
set_option maxHeartbeats 4000000 in
theorem alike_any (pa : Option Addr) (np pc : Nat) (fr : Int) (wv cv : Value) (cs : List Ch) (va vb : Value) (ra rb : List (List ByteArray)) (part : Int) (w : World) (hv : Sl w true 5 cv (chs cs)) (ha : RowsAt w va ra) (hb : RowsAt w vb rb) (hw : ∀ x ∈ cs, ChWf x) (hp : (Lit.int .i64 part).wf = true) (hby : cs.length * 40 ≤ 140737488355328) (hnp : np * 32 ≤ 140737488351232) :
    Calls Try.prog 15 #[.agg #[.slice pa np pc, .int .i64 fr, wv, cv], va, vb, .int .i64 part] w fun e w' => e = .returned (.bool (alikeS np cs ra rb part)) ∧ Below w.heap.size w w' := by
  have HV := Lib.hid hv
  have HA := Lib.hid ha
  have HB := Lib.hid hb
  have HR := Lib.hid (fun W h => reach_any pa np pc fr wv cv cs part W h hw hp hby (by omega))
  have hlen : (reachS np cs part).length ≤ np := by
    unfold reachS
    split
    · exact Nat.le_trans (List.length_filter_le _ _) (by simp)
    · simp
  obtain ⟨a, cap, rfl, hl⟩ := hv.shape
  obtain ⟨aa, ca, rfl, hla⟩ := ha.shape
  obtain ⟨ab, cb, rfl, hlb⟩ := hb.shape
  rw [chs_len] at hl HV HR ⊢
  obtain ⟨r, hr⟩ : ∃ r, r = alikeS np cs ra rb part := ⟨_, rfl⟩
  rw [← hr]
  unfold alikeS at hr
  obtain ⟨i0, hi0, hq0, hq1, hq2⟩ := info_parts info_int
  have HI := Lib.hid (And.intro hi0 (And.intro hq0 (And.intro hq1 hq2)))
  clear hv ha hi0 hq0 hq1 hq2
  generalize reachS np cs part = L at *
  obtain ⟨LL, hLL⟩ : ∃ LL, LL = 0 :: L := ⟨_, rfl⟩
  rw [← hLL] at hr
  have hLl : LL.length ≤ L.length + 1 := by rw [hLL]; simp
  have HIN := Lib.hid (show ints [0] ++ ints L = ints LL by rw [hLL]; rfl)
  have HRR := Lib.hid hr
  clear hr hLL hb hw hp
  go_enter Try.func15, Try.ntmps15
  go_wp2_with (first | ((with_reducible refine at_bs 36 ?_); (refine wpList_build_one rfl 36 _ rfl ty_int (by decide) i0 (.int .i64 0) Try.underlying36 HI.out.1 HI.out.2.1 HI.out.2.2.1 (.int .i64 0) ?_ ((ints_val [0] _ (by simp))) ?_; (focus (solve | simp [Act.eval, Act.put])))) | fail)
  have hbw1 : Below w.heap.size w ((w.alloc (.cells #[.slice pa np pc, .int .i64 fr, wv, .slice a cs.length cap] 26)).alloc (.cells #[.int .i64 0] 3)) := by (repeat (first | with_reducible assumption | with_reducible exact Below.refl _ _ | with_reducible refine Below.setCell ?_ ?_ _ | with_reducible refine Below.alloc ?_ ?_ _ | with_reducible refine below_drewN' ?_ _ | with_reducible refine Below.drew ?_ | with_reducible refine Below.trans ?_ (Below.mono (by assumption) ?_) | omega | (dsimp only; omega) | (simp only [drew_heap', drewN_heap', World.size_alloc, World.size_setCell]; omega) | (solve | simp) | (solve | (simp; omega))))
  have ho1 := Owned.made1 (E := 3) (ag := false) (k := 1) (base := w.heap.size + 1) (w := w.alloc (.cells #[.slice pa np pc, .int .i64 fr, wv, .slice a cs.length cap] 26)) (x := .int .i64 0) (ints_val [0] _ (by simp)) (by simp)
  rw [World.size_alloc] at ho1
  have HO1 := Lib.hid (show Owned ((w.alloc (.cells #[.slice pa np pc, .int .i64 fr, wv, .slice a cs.length cap] 26)).alloc (.cells #[.int .i64 0] 3)) (w.heap.size + 1) 3 false 1 (.slice (some ⟨w.heap.size + 1, 0, none⟩) 1 1) (ints [0]) from ho1)
  clear ho1
  with_reducible refine (HR.out _ (HV.out.below hbw1)).mono ?_
  rintro e w3 ⟨v3, rfl, ho3, hb3⟩
  have hbw3 : Below w.heap.size w w3 := hbw1.trans (hb3.mono hbw1.size)
  have hz3 := hb3.size
  simp only [World.size_alloc] at hz3
  have HO3 := Lib.hid (HO1.out.kept hb3)
  have HL3 := Lib.hid ho3.sl
  clear ho3 hb3 hbw1
  go_wp2_with (first | ((with_reducible refine at_app ?_); (refine wpList_append_sl (v := .slice (some ⟨w.heap.size + 1, 0, none⟩) 1 1) (xs := ints [0]) (base := w.heap.size + 1) rfl _ _ 36 rfl ty_int i0 (.int .i64 0) 8 Try.underlying36 HI.out.1 HI.out.2.1 HI.out.2.2.1 HI.out.2.2.2 rfl ?_ ?_ (v3) (ints L) ?_ ?_ ?_ ?_ ?_ ?_; (focus (solve | simp [Act.eval, Act.put])); (focus (exact HO3.out)); (focus (solve | simp [Act.eval, Act.put])); (focus (exact HL3.out)); (focus (first | (simp [maxLen]; omega) | (solve | simp [maxLen]))); (focus (first | (simp; omega) | (solve | simp))); (focus (first | omega | (simp only [World.size_alloc, World.size_setCell]; omega))); (intro v4 w4 ho4 hg4 hf4; (have hbw4 : Below w.heap.size w w4 := HO3.out.below hg4 hbw3 (by omega) (by omega)); (rw [HIN.out] at ho4); (have hz4 := hbw4.size); (have HO4 := Lib.hid ho4.sl); (obtain ⟨a4, k4, hv4, hl4⟩ := ho4.sl.shape); (rw [ints_len] at hv4 hl4); (subst hv4); (clear ho4 hg4 hf4)))) | fail)
  have HA4 := Lib.hid (HA.out.below hbw4)
  have HB4 := Lib.hid (HB.out.below hbw4)
  go_loopw [10, 17] (fun _ t W => ∃ i : Nat, i ≤ LL.length ∧ t = .int .i64 i ∧ Below w4.heap.size w4 W ∧ Hid (alikeL ra rb (LL.take i) = true)) (fun _ t _ => LL.length - (intOf t).toNat)
  case atStart => exact ⟨0, Nat.zero_le _, rfl, Below.refl _ _, Lib.hid rfl⟩
  case round =>
    obtain ⟨i, hi, rfl, hbw, HT⟩ := hrel
    have hwz := hbw.size
    by_cases hlt : i < LL.length
    · obtain ⟨x, hx⟩ : ∃ x, LL[i]? = some x := ⟨_, List.getElem?_eq_getElem hlt⟩
      obtain ⟨b, off, rfl, hb, e0⟩ := Sl.int (HO4.out.below hbw) hx
      have hwi : IntKind.i64.wrap ((i : Int) + 1) = i + 1 := IntWalk.i64_in _ (by omega)
      have hbwr : Below w.heap.size w wr := hbw4.trans (hbw.mono hz4)
      have HX := Lib.hid hx
      clear hx
      go_wp2_with fail
      with_reducible refine (images_any _ ra x _ (HA4.out.below hbw)).mono ?_
      rintro e w5 ⟨v5, rfl, hs5, rfl⟩
      have H5 := Lib.hid hs5
      clear hs5
      go_wp2_with fail
      with_reducible refine (images_any _ rb x _ (HB4.out.below hbw)).mono ?_
      rintro e w6 ⟨v6, rfl, hs6, rfl⟩
      have H6 := Lib.hid hs6
      clear hs6
      go_wp2_with fail
      with_reducible refine (equal_any v5 v6 _ _ _ H5.out H6.out).mono ?_
      rintro e w7 ⟨rfl, hb7⟩
      have hbw7 : Below w4.heap.size w4 w7 := hbw.trans (hb7.mono hwz)
      by_cases hq : imgS ra x = imgS rb x
      · have HN := Lib.hid (alikeL_step HX.out hq HT.out)
        rw [decide_eq_true hq]
        clear hq
        go_wp2_with fail
        go_roundw
        case rel => exact ⟨i + 1, by omega, by go_num, hbw7, HN⟩
        case measure => simp [intOf]; omega
      · have HN := Lib.hid (HRR.out.trans (alikeL_no HX.out hq))
        rw [decide_eq_false hq]
        clear hq
        go_wp2_with fail
        go_ret
        exact ⟨by rw [HN.out]; rfl, hbw4.trans (hbw7.mono hz4)⟩
    · obtain rfl : i = LL.length := by omega
      have HN := Lib.hid (show r = true by have h := HT.out; rw [List.take_length] at h; rw [HRR.out, h])
      go_wp2_with fail
      go_ret
      exact ⟨by rw [HN.out]; rfl, hbw4.trans (hbw.mono hz4)⟩

set_option maxRecDepth 100000 in
set_option maxHeartbeats 4000000 in
theorem routeAlike_walk (pa : Option Addr) (np pc : Nat) (fr : Int) (wa : Option Addr) (wn wc : Nat) (cv : Value) (cs : List Ch) (va vb : Value) (ra rb : List (List ByteArray)) (part : Int) (w : World) (hv : Sl w true 5 cv (chs cs)) (ha : RowsAt w va ra) (hb : RowsAt w vb rb) (hw : ∀ x ∈ cs, ChWf x) (hp : (Lit.int .i64 part).wf = true) (hby : cs.length * 40 ≤ 140737488355328) (hnp : np * 32 ≤ 140737488351232) :
    Calls Try.prog 8 #[.agg #[.slice pa np pc, .int .i64 fr, .slice wa wn wc, cv, va, vb, .int .i64 part]] w fun e w' => e = .returned (.bool true) ∧ Below w.heap.size w w' := by
  have HV := Lib.hid hv
  have HA := Lib.hid ha
  have HB := Lib.hid hb
  have HF := Lib.hid (fun W h => few_any pa np pc fr (.slice wa wn wc) cv cs W h)
  have HL1 := Lib.hid (fun W h1 h2 h3 => alike_any pa np pc fr (.slice wa wn wc) cv cs va vb ra rb part W h1 h2 h3 hw hp hby hnp)
  have HL2 := Lib.hid (fun W h1 h2 h3 => alike_any pa np pc fr (.slice wa wn wc) cv cs vb va rb ra part W h1 h2 h3 hw hp hby hnp)
  have HL3 := Lib.hid (fun W h1 h2 h3 => alike_any pa np pc fr (.slice wa wn wc) cv cs va va ra ra part W h1 h2 h3 hw hp hby hnp)
  rw [alikeS_symm np cs rb ra part] at HL2
  rw [alikeS_self np cs ra part] at HL3
  obtain ⟨a, cap, rfl, hl⟩ := hv.shape
  obtain ⟨aa, ca, rfl, hla⟩ := ha.shape
  obtain ⟨ab, cb, rfl, hlb⟩ := hb.shape
  rw [chs_len] at hl HV HF HL1 HL2 HL3 ⊢
  generalize alikeS np cs ra rb part = r at *
  clear hv ha hb hw hp
  go_enter Try.func8, Try.ntmps8
  ((go_wp2_with fail); (with_reducible refine (shown_any _).mono ?_); (rintro e w1 ⟨rfl, hb1⟩); (have hz1 := hb1.size); (try simp only [World.size_alloc, World.size_setCell] at hz1))
  (have b1 : Box w1 (w.heap.size + 1) #[.slice pa np pc, .int .i64 fr, .slice wa wn wc, .slice a cs.length cap] 26 := (by (try have k1 := (Lib.hid True.intro).out); ((apply Box.cast); (repeat (first | with_reducible assumption | ((with_reducible apply Box.new1); (first | with_reducible rfl | rfl | (solve | simp))) | with_reducible apply Box.drewN | with_reducible apply Box.drew | with_reducible apply Box.set | with_reducible apply Box.other | with_reducible apply Box.alloc | (with_reducible apply Box.below; rotate_left; with_reducible assumption; rotate_right) | with_reducible rfl | omega | (dsimp only; omega) | (simp only [drew_heap', drewN_heap', World.size_alloc, World.size_setCell]; omega) | rfl | (solve | simp) | (solve | (simp; omega))))))); (obtain ⟨hc1, hf1, hl1, hn1, hm1⟩ := b1.rules); (have K1 := Lib.hid b1); (clear b1)
  have hbw1 : Below w.heap.size w w1 := by (repeat (first | with_reducible assumption | with_reducible exact Below.refl _ _ | with_reducible refine Below.setCell ?_ ?_ _ | with_reducible refine Below.alloc ?_ ?_ _ | with_reducible refine below_drewN' ?_ _ | with_reducible refine Below.drew ?_ | with_reducible refine Below.trans ?_ (Below.mono (by assumption) ?_) | omega | (dsimp only; omega) | (simp only [drew_heap', drewN_heap', World.size_alloc, World.size_setCell]; omega) | (solve | simp) | (solve | (simp; omega))))
  clear hb1
  go_wp2_with fail
  with_reducible refine (HF.out _ (HV.out.below hbw1)).mono ?_
  rintro e w2 ⟨rfl, hb2⟩
  ((have b2 := K1.out.below hb2 K1.out.lt); (obtain ⟨hc2, hf2, hl2, hn2, hm2⟩ := b2.rules); (have K2 := Lib.hid b2); (clear b2))
  have hbw2 : Below w.heap.size w w2 := hbw1.trans (hb2.mono hbw1.size)
  have hz2 := hbw2.size
  clear hb2 K1 hc1 hf1 hl1 hn1 hm1
  by_cases hfew : cs.length ≤ 50 ∧ np ≤ 50
  rotate_left
  · rw [few_false hfew]
    clear hfew
    go_wp2_with fail
    go_ret
    exact ⟨by simp, hbw2⟩
  rw [show (decide (cs.length ≤ 50) && decide (np ≤ 50)) = true by simp [hfew.1, hfew.2]]
  clear hfew
  have HV2 := Lib.hid (HV.out.below hbw2)
  have HA2 := Lib.hid (HA.out.below hbw2)
  have HB2 := Lib.hid (HB.out.below hbw2)
  go_wp2_with fail
  have g0 := K2.out.regrown
  have C1 := Lib.hid (fun dd os => Calls.regrown_of (HL1.out _ (HV2.out.below (below_regrown w2 dd os)) (HA2.out.below (below_regrown w2 dd os)) (HB2.out.below (below_regrown w2 dd os))))
  have C2 := Lib.hid (fun dd os => Calls.regrown_of (HL2.out _ (HV2.out.below (below_regrown w2 dd os)) (HB2.out.below (below_regrown w2 dd os)) (HA2.out.below (below_regrown w2 dd os))))
  have C3 := Lib.hid (fun dd os => Calls.regrown_of (HL3.out _ (HV2.out.below (below_regrown w2 dd os)) (HA2.out.below (below_regrown w2 dd os)) (HA2.out.below (below_regrown w2 dd os))))
  ((refine wp_region_quiet_below (by kernel_rfl) (by kernel_rfl) ?_); (repeat (go_big_quiet_step ((go_at_call 15; with_reducible first | exact C1.out _ _ | exact C2.out _ _ | exact C3.out _ _)))); (refine wpQuiet_nil ?_); (intro _ hw'); (obtain ⟨⟨dq, osq⟩, hw''⟩ := hw'); (subst hw''); (have hb7 := below_regrown w2 dq osq); (generalize Go.Sort.grow (redrawn w2 dq) osq = w7 at *); (have hz7 := hb7.size))
  clear g0
  go_wp2_with fail
  go_ret
  exact ⟨by simp, hbw2.trans (hb7.mono hz2)⟩
end Go.Proofs.Ytmcaeahjnhkbcaa
