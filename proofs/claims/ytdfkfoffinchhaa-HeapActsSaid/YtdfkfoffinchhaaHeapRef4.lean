/- The reference's Take: what it answers. Conditions: lengths within the reach. -/
import Derived.Test.YtdfkfoffinchhaaHeapRef
import Derived.Test.YtdfkfoffinchhaaHeapFacts
import Derived.Test.YtdfkfoffinchhaaLib14
namespace Go.Proofs.Ytdfkfoffinchhaa
open Go Go.RowKit Go.Tm
set_option linter.unusedVariables false
set_option linter.unusedSimpArgs false

theorem take_hit {size n who : Int} {l : List Sp} {i : Nat} {x : Sp} (hn : ¬ n < 1) (hr : RightP size l) (hx : (holesS size l)[i]? = some x) (h : n ≤ x.2.1) (hno : ∀ j y, j < i → (holesS size l)[j]? = some y → y.2.1 < n) :
    ∃ l1 l2, l = l1 ++ l2 ∧ takeS size l n who = (l1 ++ (x.1, n, who) :: l2, x.1, 0) ∧ (∀ s ∈ l1, s.1 < x.1) ∧ (∀ s ∈ l2, x.1 < s.1) := by
  have hf : (holesS size l).find? (fitB n) = some x := by
    rw [List.find?_eq_some_iff_getElem]
    obtain ⟨hil, hie⟩ := (List.getElem?_eq_some_iff.1 hx)
    refine ⟨by simpa [fitB] using h, i, hil, hie, fun j hj => ?_⟩
    have := hno j _ hj (List.getElem?_eq_getElem (by omega))
    simp [fitB]; omega
  obtain ⟨l1, l2, e, h1, h2, h3, h4, h5, h6, h7⟩ := ins_facts (who := who) hr (List.mem_of_getElem? hx) (by omega) h
  exact ⟨l1, l2, e, by rw [takeS_some hn hr hf, h1], h5, h6⟩
theorem take_miss {size n who : Int} {l : List Sp} (hn : ¬ n < 1) (hr : RightP size l) (hno : ∀ j y, j < (holesS size l).length → (holesS size l)[j]? = some y → y.2.1 < n) : takeS size l n who = (l, 0, 5) := by
  refine takeS_none hn hr ?_
  rw [List.find?_eq_none]
  intro x hx
  obtain ⟨j, hj, rfl⟩ := List.getElem_of_mem hx
  have := hno j _ hj (List.getElem?_eq_getElem hj)
  simp [fitB]; omega

set_option maxRecDepth 100000 in
set_option maxHeartbeats 8000000 in
theorem refTake_any (size : Int) (v : Value) (l : List Sp) (n who : Int) (w : World) (hv : Sl w true 3 v (sps l)) (hs : (Lit.int .i64 size).wf = true) (hw : ∀ x ∈ l, SpWf x) (hby : (l.length + 2) * 24 ≤ 140737488355328) :
    Calls Try.prog 23 #[.agg #[.int .i64 size, v], .int .i64 n, .int .i64 who] w fun e w' => ∃ v', e = .returned (.tuple #[.agg #[.int .i64 size, v'], .int .i64 (takeS size l n who).2.1, .int .i64 (takeS size l n who).2.2]) ∧ Sl w' true 3 v' (sps (takeS size l n who).1) ∧ Below w.heap.size w w' := by
  have HV := Lib.hid hv
  have HR := Lib.hid (fun W h => refRight_any size v l W h hs hw)
  have HC := Lib.hid (fun W h => refHoles_any size v l W h hs hw (by omega))
  obtain ⟨i0, hi0, hq0, hq1, hq2⟩ := info_parts info_span
  have HI := Lib.hid (And.intro hi0 (And.intro hq0 (And.intro hq1 hq2)))
  obtain ⟨a, cap, rfl, hl⟩ := hv.shape
  rw [sps_len] at hl HV HR HC ⊢
  obtain ⟨lf, p9, e9, hlf⟩ : ∃ lf p9 e9, takeS size l n who = (lf, p9, e9) := ⟨_, _, _, rfl⟩
  rw [hlf]
  have HLF := Lib.hid hlf
  dsimp only
  clear hv hs hw hi0 hq0 hq1 hq2 hlf
  go_enter Try.func23, Try.ntmps23
  go_wp2_with fail
  with_reducible refine (HR.out _ (HV.out.below (by (repeat (first | with_reducible assumption | with_reducible exact Below.refl _ _ | with_reducible refine Below.setCell ?_ ?_ _ | with_reducible refine Below.alloc ?_ ?_ _ | with_reducible refine below_drewN' ?_ _ | with_reducible refine Below.drew ?_ | with_reducible refine Below.trans ?_ (Below.mono (by assumption) ?_) | omega | (dsimp only; omega) | (simp only [drew_heap', drewN_heap', World.size_alloc, World.size_setCell]; omega) | (solve | simp) | (solve | (simp; omega))))))).mono ?_
  rintro e w1 ⟨rfl, hb1⟩
  have hz1 := hb1.size
  simp only [World.size_alloc] at hz1
  have KA := Lib.hid (show Box w1 w.heap.size #[.int .i64 size, .slice a l.length cap] 24 from ((Box.new _ _ _).alloc _).below hb1 (by simp only [World.size_alloc]; omega))
  have KB := Lib.hid (show Box w1 (w.heap.size + 1) #[.int .i64 0, .slice none 0 0] 24 from Box.below (Box.new1 _ _ _ (by simp)) hb1 (by simp only [World.size_alloc]; omega))
  have hbw1 : Below w.heap.size w w1 := by (repeat (first | with_reducible assumption | with_reducible exact Below.refl _ _ | with_reducible refine Below.setCell ?_ ?_ _ | with_reducible refine Below.alloc ?_ ?_ _ | with_reducible refine below_drewN' ?_ _ | with_reducible refine Below.drew ?_ | with_reducible refine Below.trans ?_ (Below.mono (by assumption) ?_) | omega | (dsimp only; omega) | (simp only [drew_heap', drewN_heap', World.size_alloc, World.size_setCell]; omega) | (solve | simp) | (solve | (simp; omega))))
  clear hb1
  obtain ⟨c1, f1, l1', n1, m1⟩ := KA.out.rules
  obtain ⟨c2, f2, l2', n2, m2⟩ := KB.out.rules
  by_cases hn : n < 1
  · have hd : decide (n < 1) = true := by simpa using hn
    have hlf := HLF.out
    rw [takeS_arg (.inl hn)] at hlf
    simp only [Prod.mk.injEq] at hlf
    obtain ⟨rfl, rfl, rfl⟩ := hlf
    generalize rightB size l = rb at *
    go_wp2_with fail
    refine bodyPost_ret (v := .tuple #[.agg #[.int .i64 size, .slice a l.length cap], .int .i64 0, .int .i64 1]) (by simp [results, Try.results23, go_sem, c1, c2]) rfl ⟨_, rfl, ?_, by (repeat (first | with_reducible assumption | with_reducible exact Below.refl _ _ | with_reducible refine Below.setCell ?_ ?_ _ | with_reducible refine Below.alloc ?_ ?_ _ | with_reducible refine below_drewN' ?_ _ | with_reducible refine Below.drew ?_ | with_reducible refine Below.trans ?_ (Below.mono (by assumption) ?_) | omega | (dsimp only; omega) | (simp only [drew_heap', drewN_heap', World.size_alloc, World.size_setCell]; omega) | (solve | simp) | (solve | (simp; omega))))⟩
    exact HV.out.below (by (repeat (first | with_reducible assumption | with_reducible exact Below.refl _ _ | with_reducible refine Below.setCell ?_ ?_ _ | with_reducible refine Below.alloc ?_ ?_ _ | with_reducible refine below_drewN' ?_ _ | with_reducible refine Below.drew ?_ | with_reducible refine Below.trans ?_ (Below.mono (by assumption) ?_) | omega | (dsimp only; omega) | (simp only [drew_heap', drewN_heap', World.size_alloc, World.size_setCell]; omega) | (solve | simp) | (solve | (simp; omega)))))
  have hd : decide (n < 1) = false := by simpa using hn
  by_cases hr : RightP size l
  rotate_left
  · rw [rightB_false hr]
    have hlf := HLF.out
    rw [takeS_arg (.inr hr)] at hlf
    simp only [Prod.mk.injEq] at hlf
    obtain ⟨rfl, rfl, rfl⟩ := hlf
    clear hr
    go_wp2_with fail
    refine bodyPost_ret (v := .tuple #[.agg #[.int .i64 size, .slice a l.length cap], .int .i64 0, .int .i64 1]) (by simp [results, Try.results23, go_sem, c1, c2]) rfl ⟨_, rfl, ?_, by (repeat (first | with_reducible assumption | with_reducible exact Below.refl _ _ | with_reducible refine Below.setCell ?_ ?_ _ | with_reducible refine Below.alloc ?_ ?_ _ | with_reducible refine below_drewN' ?_ _ | with_reducible refine Below.drew ?_ | with_reducible refine Below.trans ?_ (Below.mono (by assumption) ?_) | omega | (dsimp only; omega) | (simp only [drew_heap', drewN_heap', World.size_alloc, World.size_setCell]; omega) | (solve | simp) | (solve | (simp; omega))))⟩
    exact HV.out.below (by (repeat (first | with_reducible assumption | with_reducible exact Below.refl _ _ | with_reducible refine Below.setCell ?_ ?_ _ | with_reducible refine Below.alloc ?_ ?_ _ | with_reducible refine below_drewN' ?_ _ | with_reducible refine Below.drew ?_ | with_reducible refine Below.trans ?_ (Below.mono (by assumption) ?_) | omega | (dsimp only; omega) | (simp only [drew_heap', drewN_heap', World.size_alloc, World.size_setCell]; omega) | (solve | simp) | (solve | (simp; omega)))))
  rw [rightB_true hr]
  have HRR := Lib.hid hr
  have HNN := Lib.hid hn
  rw [holesB_true hr] at HC
  clear hr hn
  go_wp2_with fail
  with_reducible refine (HC.out _ (HV.out.below hbw1)).mono ?_
  rintro e w3 ⟨v3, rfl, ho3, hb3⟩
  have hz3 := hb3.size
  have hbw3 : Below w.heap.size w w3 := hbw1.trans (hb3.mono hbw1.size)
  have hlen := holes_len 0 (l ++ [(size, 0, 0)])
  have HM := Lib.hid ho3.sl
  have HOG := Lib.hid ho3.own_ge
  have KA3 := Lib.hid (KA.out.below hb3 KA.out.lt)
  have KB3 := Lib.hid (KB.out.below hb3 KB.out.lt)
  obtain ⟨a3, k3, hv3, hml⟩ := ho3.sl.shape
  rw [sps_len] at hv3 hml
  subst hv3
  have hnn : ¬ n < 1 := by have := HNN.out; omega
  have HHIT := Lib.hid (fun i x h1 h2 h3 => take_hit (i := i) (x := x) (who := who) hnn HRR.out h1 h2 h3)
  have HMISS := Lib.hid (fun h => take_miss (who := who) hnn HRR.out h)
  clear hnn
  clear ho3 hb3 c1 f1 l1' n1 m1 c2 f2 l2' n2 m2 KA KB
  generalize holesS size l = m at *
  go_wp2_with fail
  go_loopw [11] (fun t W => ∃ i : Nat, i ≤ m.length ∧ t = .int .i64 i ∧ Below w3.heap.size w3 W ∧ Hid (∀ j y, j < i → m[j]? = some y → y.2.1 < n)) (fun t _ => m.length - (intOf t).toNat)
  case atStart => exact ⟨0, Nat.zero_le _, rfl, Below.refl _ _, Lib.hid (fun j y h => by omega)⟩
  case round =>
    obtain ⟨i, hi, rfl, hbw, HNO⟩ := hrel
    have hwz := hbw.size
    by_cases hlt : i < m.length
    · obtain ⟨x, hx⟩ : ∃ x, m[i]? = some x := ⟨_, List.getElem?_eq_getElem hlt⟩
      obtain ⟨b, off, rfl, hb, x0, x1, x2⟩ := Sl.sp (HM.out.below hbw) hx
      have hwr : IntKind.i64.wrap ((i : Int) + 1) = i + 1 := IntWalk.i64_in _ (by omega)
      by_cases hq : n ≤ x.2.1
      · obtain ⟨l1, l2, he, ht, h1, h2⟩ := HHIT.out i x hx hq HNO.out
        have hlf := HLF.out
        rw [ht] at hlf
        simp only [Prod.mk.injEq] at hlf
        obtain ⟨hlf, rfl, rfl⟩ := hlf
        have hqb : decide (x.2.1 < n) = false := by simp; omega
        have HX := Lib.hid hx
        have HE := Lib.hid he
        have HLE := Lib.hid hlf
        have H1 := Lib.hid h1
        have H2 := Lib.hid h2
        have hll1 : l.length ≤ l1.length + l2.length := by rw [he]; simp
        have hll2 : l1.length + l2.length ≤ l.length := by rw [he]; simp
        clear hx hq hlf ht he h1 h2
        obtain ⟨p, q, u⟩ := x
        dsimp only at *
        go_wp2_with fail
        obtain ⟨wA, hwA⟩ : ∃ wA, wA = wr := ⟨_, rfl⟩
        subst hwA
        have HLA := Lib.hid (HV.out.below (hbw3.trans (hbw.mono hbw3.size)))
        have KA4 := Lib.hid (KA3.out.below hbw KA3.out.lt)
        have KB4 := Lib.hid (KB3.out.below hbw KB3.out.lt)
        have HXA := Lib.hid (HM.out.below hbw)
        have hwA : w.heap.size + 1 < wA.heap.size := KB4.out.lt
        clear x0 x1 x2 KA3 KB3
        go_loopw [12, 13, 14] (fun u d t W => ∃ (k : Nat) (s : Value), k ≤ l.length ∧ s = u ∧ t = .int .i64 k ∧ Below wA.heap.size wA W ∧ ((k ≤ l1.length ∧ d = .bool false ∧ Owned W wA.heap.size 31 true 3 u (sps (l.take k))) ∨ (l1.length < k ∧ d = .bool true ∧ Owned W wA.heap.size 31 true 3 u (sps (l1 ++ (p, n, who) :: l2.take (k - l1.length)))))) (fun _ _ t _ => l.length - (intOf t).toNat)
        case atStart => exact ⟨0, _, Nat.zero_le _, rfl, rfl, Below.refl _ _, .inl ⟨Nat.zero_le _, rfl, Owned.nil⟩⟩
        case round =>
          obtain ⟨k, s, hk, rfl, rfl, hbu, hcase⟩ := hrel
          have huz := hbu.size
          have hbwu : Below w3.heap.size w3 wr := hbw.trans (hbu.mono hwz)
          have hwk : IntKind.i64.wrap ((k : Int) + 1) = k + 1 := IntWalk.i64_in _ (by omega)
          ((have b6 := KA4.out.below hbu KA4.out.lt); (obtain ⟨hc6, hf6, hl6, hn6, hm6⟩ := b6.rules); (have K6 := Lib.hid b6); (clear b6))
          have HXR := Lib.hid (HXA.out.below hbu)
          obtain ⟨_, _, hex, hbx, x0, x1, -⟩ := Sl.sp HXR.out HX.out
          simp only [Option.some.injEq, Addr.mk.injEq, and_true] at hex
          obtain ⟨rfl, rfl⟩ := hex
          dsimp only at x0 x1
          by_cases hkl : k < l.length
          · obtain ⟨y, hy⟩ : ∃ y, l[k]? = some y := ⟨_, List.getElem?_eq_getElem hkl⟩
            obtain ⟨by', oy, rfl, hby', y0, y1, y2⟩ := Sl.sp (HLA.out.below hbu) hy
            have g0 := cell_rg x0 hbx
            have g1 := cell_rg y0 hby'
            have g2 := K6.out.regrown
            rcases hcase with ⟨hk1, rfl, hown⟩ | ⟨hk1, rfl, hown⟩
            · have HO := Lib.hid hown
              clear hown
              by_cases hk2 : k < l1.length
              · have hy1 : y.1 < p := H1.out y (by
                  have := hy
                  rw [HE.out, List.getElem?_append_left hk2] at this
                  exact List.mem_of_getElem? this)
                have hgt : decide (p < y.1) = false := by simp; omega
                have HT := Lib.hid (take_step hy)
                have HY := Lib.hid hy
                have hln : (l.take k).length ≤ k := by rw [List.length_take]; omega
                clear hy
                generalize l.take k = tk at *
                go_wp2_with fail
                ((refine wp_region_quiet_below (by kernel_rfl) (by kernel_rfl) ?_); (repeat (go_big_quiet_step (fail))); (refine wpQuiet_nil ?_); (intro _ hw'); (obtain ⟨⟨dq, osq⟩, hw''⟩ := hw'); (subst hw''); (have hb7 := below_regrown wr dq osq); (generalize Go.Sort.grow (redrawn wr dq) osq = w7 at *); (have hz7 := hb7.size))
                have hbu7 : Below wA.heap.size wA w7 := hbu.trans (hb7.mono huz)
                have hz7' := hbu7.size
                have HO7 := Lib.hid (HO.out.kept hb7)
                clear hc6 hf6 hl6 hn6 hm6
                ((have b7 := K6.out.below hb7 K6.out.lt); (obtain ⟨hc7, hf7, hl7, hn7, hm7⟩ := b7.rules); (have K7 := Lib.hid b7); (clear b7))
                obtain ⟨_, _, hey, hby7, y0', y1', y2'⟩ := Sl.sp (HLA.out.below hbu7) HY.out
                simp only [Option.some.injEq, Addr.mk.injEq, and_true] at hey
                obtain ⟨rfl, rfl⟩ := hey
                clear g0 g1 g2 y0 y1 y2 x0 x1
                go_wp2_with (first | ((with_reducible refine at_app ?_); (refine wpList_append_sl (v := s) (xs := sps tk) (base := wA.heap.size) rfl _ _ 22 rfl ty_span i0 (.agg #[.int .i64 0, .int .i64 0, .int .i64 0]) 24 Try.underlying22 HI.out.1 HI.out.2.1 HI.out.2.2.1 HI.out.2.2.2 rfl ?_ ?_ (.slice (some ⟨w7.heap.size, 0, none⟩) 1 1) ([spV y]) ?_ ?_ ?_ ?_ ?_ ?_; (focus (solve | simp [Act.eval, Act.put])); (focus (exact (HO7.out.kept (by (repeat (first | with_reducible assumption | with_reducible exact Below.refl _ _ | with_reducible refine Below.setCell ?_ ?_ _ | with_reducible refine Below.alloc ?_ ?_ _ | with_reducible refine below_drewN' ?_ _ | with_reducible refine Below.drew ?_ | with_reducible refine Below.trans ?_ (Below.mono (by assumption) ?_) | omega | (dsimp only; omega) | (simp only [drew_heap', drewN_heap', World.size_alloc, World.size_setCell]; omega) | (solve | simp) | (solve | (simp; omega)))))))); (focus (solve | simp [Act.eval, Act.put])); (focus (exact (Sl.made1 (sp_val y) rfl))); (focus (first | (simp [maxLen]; omega) | (solve | simp [maxLen]))); (focus (first | (simp; omega) | (solve | simp))); (focus (first | omega | (simp only [World.size_alloc, World.size_setCell]; omega))); (intro v8 w8 ho8 hg8 hf8; (have hb8 : Below wA.heap.size wA w8 := (HO7.out.kept (by (repeat (first | with_reducible assumption | with_reducible exact Below.refl _ _ | with_reducible refine Below.setCell ?_ ?_ _ | with_reducible refine Below.alloc ?_ ?_ _ | with_reducible refine below_drewN' ?_ _ | with_reducible refine Below.drew ?_ | with_reducible refine Below.trans ?_ (Below.mono (by assumption) ?_) | omega | (dsimp only; omega) | (simp only [drew_heap', drewN_heap', World.size_alloc, World.size_setCell]; omega) | (solve | simp) | (solve | (simp; omega)))))).below hg8 (by (repeat (first | with_reducible assumption | with_reducible exact Below.refl _ _ | with_reducible refine Below.setCell ?_ ?_ _ | with_reducible refine Below.alloc ?_ ?_ _ | with_reducible refine below_drewN' ?_ _ | with_reducible refine Below.drew ?_ | with_reducible refine Below.trans ?_ (Below.mono (by assumption) ?_) | omega | (dsimp only; omega) | (simp only [drew_heap', drewN_heap', World.size_alloc, World.size_setCell]; omega) | (solve | simp) | (solve | (simp; omega))))) (Nat.le_refl _) (by simp only [World.size_alloc]; omega)); (have HO8 := Lib.hid ho8); (clear ho8 hg8 hf8)))) | fail)
                go_roundw
                case rel => exact ⟨k + 1, _, by omega, rfl, by go_num, hb8, .inl ⟨by omega, rfl, by rw [HT.out, sps, List.map_append]; exact HO8.out⟩⟩
                case measure => simp [intOf]; omega
              · obtain rfl : k = l1.length := by omega
                have hyl : l2[0]? = some y := by
                  have := hy
                  rw [HE.out, List.getElem?_append_right (by omega), Nat.sub_self] at this
                  exact this
                have hy2 : p < y.1 := H2.out y (List.mem_of_getElem? hyl)
                have hgt : decide (p < y.1) = true := by simpa using hy2
                have HT : Hid (l1 ++ (p, n, who) :: l2.take (l1.length + 1 - l1.length) = (l.take l1.length ++ [(p, n, who)]) ++ [y]) := Lib.hid (by
                  rw [show l1.length + 1 - l1.length = 0 + 1 by omega, take_step hyl, HE.out]; simp)
                have HY := Lib.hid hy
                have hln : (l.take l1.length).length ≤ l1.length := by rw [List.length_take]; omega
                clear hy hyl hy2
                generalize l.take l1.length = tk at *
                go_wp2_with fail
                ((refine wp_region_quiet_below (by kernel_rfl) (by kernel_rfl) ?_); (repeat (go_big_quiet_step (fail))); (refine wpQuiet_nil ?_); (intro _ hw'); (obtain ⟨⟨dq, osq⟩, hw''⟩ := hw'); (subst hw''); (have hb7 := below_regrown wr dq osq); (generalize Go.Sort.grow (redrawn wr dq) osq = w7 at *); (have hz7 := hb7.size))
                have hbu7 : Below wA.heap.size wA w7 := hbu.trans (hb7.mono huz)
                have hz7' := hbu7.size
                have HO7 := Lib.hid (HO.out.kept hb7)
                clear hc6 hf6 hl6 hn6 hm6
                ((have b7 := K6.out.below hb7 K6.out.lt); (obtain ⟨hc7, hf7, hl7, hn7, hm7⟩ := b7.rules); (have K7 := Lib.hid b7); (clear b7))
                obtain ⟨_, _, hex7, hbx7, x0', x1', -⟩ := Sl.sp (HXA.out.below hbu7) HX.out
                simp only [Option.some.injEq, Addr.mk.injEq, and_true] at hex7
                obtain ⟨rfl, rfl⟩ := hex7
                dsimp only at x0' x1'
                clear g0 g1 g2 y0 y1 y2 x0 x1
                go_wp2_with (first | ((with_reducible refine at_app ?_); (refine wpList_append_sl (v := s) (xs := sps tk) (base := wA.heap.size) rfl _ _ 22 rfl ty_span i0 (.agg #[.int .i64 0, .int .i64 0, .int .i64 0]) 24 Try.underlying22 HI.out.1 HI.out.2.1 HI.out.2.2.1 HI.out.2.2.2 rfl ?_ ?_ (.slice (some ⟨w7.heap.size, 0, none⟩) 1 1) ([spV (p, n, who)]) ?_ ?_ ?_ ?_ ?_ ?_; (focus (solve | simp [Act.eval, Act.put])); (focus (exact (HO7.out.kept (by (repeat (first | with_reducible assumption | with_reducible exact Below.refl _ _ | with_reducible refine Below.setCell ?_ ?_ _ | with_reducible refine Below.alloc ?_ ?_ _ | with_reducible refine below_drewN' ?_ _ | with_reducible refine Below.drew ?_ | with_reducible refine Below.trans ?_ (Below.mono (by assumption) ?_) | omega | (dsimp only; omega) | (simp only [drew_heap', drewN_heap', World.size_alloc, World.size_setCell]; omega) | (solve | simp) | (solve | (simp; omega)))))))); (focus (solve | simp [Act.eval, Act.put])); (focus (exact (Sl.made1 (sp_val (p, n, who)) rfl))); (focus (first | (simp [maxLen]; omega) | (solve | simp [maxLen]))); (focus (first | (simp; omega) | (solve | simp))); (focus (first | omega | (simp only [World.size_alloc, World.size_setCell]; omega))); (intro v8 w8 ho8 hg8 hf8; (have hb8 : Below wA.heap.size wA w8 := (HO7.out.kept (by (repeat (first | with_reducible assumption | with_reducible exact Below.refl _ _ | with_reducible refine Below.setCell ?_ ?_ _ | with_reducible refine Below.alloc ?_ ?_ _ | with_reducible refine below_drewN' ?_ _ | with_reducible refine Below.drew ?_ | with_reducible refine Below.trans ?_ (Below.mono (by assumption) ?_) | omega | (dsimp only; omega) | (simp only [drew_heap', drewN_heap', World.size_alloc, World.size_setCell]; omega) | (solve | simp) | (solve | (simp; omega)))))).below hg8 (by (repeat (first | with_reducible assumption | with_reducible exact Below.refl _ _ | with_reducible refine Below.setCell ?_ ?_ _ | with_reducible refine Below.alloc ?_ ?_ _ | with_reducible refine below_drewN' ?_ _ | with_reducible refine Below.drew ?_ | with_reducible refine Below.trans ?_ (Below.mono (by assumption) ?_) | omega | (dsimp only; omega) | (simp only [drew_heap', drewN_heap', World.size_alloc, World.size_setCell]; omega) | (solve | simp) | (solve | (simp; omega))))) (Nat.le_refl _) (by simp only [World.size_alloc]; omega)); (obtain ⟨xs8, hxs8⟩ : ∃ xs8, xs8 = sps tk ++ [spV (p, n, who)] := ⟨_, rfl⟩); (have hxl : xs8.length ≤ l1.length + 1 := by rw [hxs8]; simp; omega); (rw [← hxs8] at ho8); (have HXS := Lib.hid hxs8); (clear hxs8); (have HO8 := Lib.hid ho8); (have hz8 := hb8.size); (obtain ⟨_, _, hey, hby8, y0', y1', y2'⟩ := Sl.sp (HLA.out.below hb8) HY.out); (simp only [Option.some.injEq, Addr.mk.injEq, and_true] at hey); (obtain ⟨rfl, rfl⟩ := hey); (obtain ⟨c8, f8, l8, n8, m8⟩ := (KA4.out.below hb8 KA4.out.lt).rules); (clear ho8 hg8 hf8)))) | ((with_reducible refine at_app ?_); (refine wpList_append_sl (v := v8) (xs := xs8) (base := wA.heap.size) rfl _ _ 22 rfl ty_span i0 (.agg #[.int .i64 0, .int .i64 0, .int .i64 0]) 24 Try.underlying22 HI.out.1 HI.out.2.1 HI.out.2.2.1 HI.out.2.2.2 rfl ?_ ?_ (.slice (some ⟨w8.heap.size, 0, none⟩) 1 1) ([spV y]) ?_ ?_ ?_ ?_ ?_ ?_; (focus (solve | simp [Act.eval, Act.put])); (focus (exact (HO8.out.kept (by (repeat (first | with_reducible assumption | with_reducible exact Below.refl _ _ | with_reducible refine Below.setCell ?_ ?_ _ | with_reducible refine Below.alloc ?_ ?_ _ | with_reducible refine below_drewN' ?_ _ | with_reducible refine Below.drew ?_ | with_reducible refine Below.trans ?_ (Below.mono (by assumption) ?_) | omega | (dsimp only; omega) | (simp only [drew_heap', drewN_heap', World.size_alloc, World.size_setCell]; omega) | (solve | simp) | (solve | (simp; omega)))))))); (focus (solve | simp [Act.eval, Act.put])); (focus (exact (Sl.made1 (sp_val y) rfl))); (focus (first | (simp [maxLen]; omega) | (solve | simp [maxLen]))); (focus (first | (simp; omega) | (solve | simp))); (focus (first | omega | (simp only [World.size_alloc, World.size_setCell]; omega))); (intro v9 w9 ho9 hg9 hf9; (have hb9 : Below wA.heap.size wA w9 := (HO8.out.kept (by (repeat (first | with_reducible assumption | with_reducible exact Below.refl _ _ | with_reducible refine Below.setCell ?_ ?_ _ | with_reducible refine Below.alloc ?_ ?_ _ | with_reducible refine below_drewN' ?_ _ | with_reducible refine Below.drew ?_ | with_reducible refine Below.trans ?_ (Below.mono (by assumption) ?_) | omega | (dsimp only; omega) | (simp only [drew_heap', drewN_heap', World.size_alloc, World.size_setCell]; omega) | (solve | simp) | (solve | (simp; omega)))))).below hg9 (by (repeat (first | with_reducible assumption | with_reducible exact Below.refl _ _ | with_reducible refine Below.setCell ?_ ?_ _ | with_reducible refine Below.alloc ?_ ?_ _ | with_reducible refine below_drewN' ?_ _ | with_reducible refine Below.drew ?_ | with_reducible refine Below.trans ?_ (Below.mono (by assumption) ?_) | omega | (dsimp only; omega) | (simp only [drew_heap', drewN_heap', World.size_alloc, World.size_setCell]; omega) | (solve | simp) | (solve | (simp; omega))))) (Nat.le_refl _) (by simp only [World.size_alloc]; omega)); (have HO9 := Lib.hid ho9); (clear ho9 hg9 hf9)))) | fail)
                go_roundw
                case rel => exact ⟨l1.length + 1, _, by omega, rfl, by go_num, hb9, .inr ⟨by omega, rfl, by rw [HT.out, sps, List.map_append, List.map_append]; have h9 := HO9.out; rw [HXS.out] at h9; exact h9⟩⟩
                case measure => simp [intOf]; omega
            · have hgt : True := trivial
              have hki : (l1.length : Nat) ≤ k := by omega
              have hyl : l2[k - l1.length]? = some y := by rw [HE.out, List.getElem?_append_right (by omega)] at hy; exact hy
              have HT : Hid (l1 ++ (p, n, who) :: l2.take (k + 1 - l1.length) = (l1 ++ (p, n, who) :: l2.take (k - l1.length)) ++ [y]) := Lib.hid (by
                rw [show k + 1 - l1.length = (k - l1.length) + 1 by omega, take_step hyl]; simp)
              have HY := Lib.hid hy
              have HO := Lib.hid hown
              have hln : (l1 ++ (p, n, who) :: l2.take (k - l1.length)).length ≤ k + 1 := by simp [List.length_take]; omega
              clear hy hyl hown
              generalize l1 ++ (p, n, who) :: l2.take (k - l1.length) = tk at *
              go_wp2_with fail
              ((refine wp_region_quiet_below (by kernel_rfl) (by kernel_rfl) ?_); (repeat (go_big_quiet_step (fail))); (refine wpQuiet_nil ?_); (intro _ hw'); (obtain ⟨⟨dq, osq⟩, hw''⟩ := hw'); (subst hw''); (have hb7 := below_regrown wr dq osq); (generalize Go.Sort.grow (redrawn wr dq) osq = w7 at *); (have hz7 := hb7.size))
              have hbu7 : Below wA.heap.size wA w7 := hbu.trans (hb7.mono huz)
              have hz7' := hbu7.size
              have HO7 := Lib.hid (HO.out.kept hb7)
              clear hc6 hf6 hl6 hn6 hm6
              ((have b7 := K6.out.below hb7 K6.out.lt); (obtain ⟨hc7, hf7, hl7, hn7, hm7⟩ := b7.rules); (have K7 := Lib.hid b7); (clear b7))
              obtain ⟨_, _, hey, hby7, y0', y1', y2'⟩ := Sl.sp (HLA.out.below hbu7) HY.out
              simp only [Option.some.injEq, Addr.mk.injEq, and_true] at hey
              obtain ⟨rfl, rfl⟩ := hey
              clear g0 g1 g2 y0 y1 y2 x0 x1
              go_wp2_with (first | ((with_reducible refine at_app ?_); (refine wpList_append_sl (v := s) (xs := sps tk) (base := wA.heap.size) rfl _ _ 22 rfl ty_span i0 (.agg #[.int .i64 0, .int .i64 0, .int .i64 0]) 24 Try.underlying22 HI.out.1 HI.out.2.1 HI.out.2.2.1 HI.out.2.2.2 rfl ?_ ?_ (.slice (some ⟨w7.heap.size, 0, none⟩) 1 1) ([spV y]) ?_ ?_ ?_ ?_ ?_ ?_; (focus (solve | simp [Act.eval, Act.put])); (focus (exact (HO7.out.kept (by (repeat (first | with_reducible assumption | with_reducible exact Below.refl _ _ | with_reducible refine Below.setCell ?_ ?_ _ | with_reducible refine Below.alloc ?_ ?_ _ | with_reducible refine below_drewN' ?_ _ | with_reducible refine Below.drew ?_ | with_reducible refine Below.trans ?_ (Below.mono (by assumption) ?_) | omega | (dsimp only; omega) | (simp only [drew_heap', drewN_heap', World.size_alloc, World.size_setCell]; omega) | (solve | simp) | (solve | (simp; omega)))))))); (focus (solve | simp [Act.eval, Act.put])); (focus (exact (Sl.made1 (sp_val y) rfl))); (focus (first | (simp [maxLen]; omega) | (solve | simp [maxLen]))); (focus (first | (simp; omega) | (solve | simp))); (focus (first | omega | (simp only [World.size_alloc, World.size_setCell]; omega))); (intro v8 w8 ho8 hg8 hf8; (have hb8 : Below wA.heap.size wA w8 := (HO7.out.kept (by (repeat (first | with_reducible assumption | with_reducible exact Below.refl _ _ | with_reducible refine Below.setCell ?_ ?_ _ | with_reducible refine Below.alloc ?_ ?_ _ | with_reducible refine below_drewN' ?_ _ | with_reducible refine Below.drew ?_ | with_reducible refine Below.trans ?_ (Below.mono (by assumption) ?_) | omega | (dsimp only; omega) | (simp only [drew_heap', drewN_heap', World.size_alloc, World.size_setCell]; omega) | (solve | simp) | (solve | (simp; omega)))))).below hg8 (by (repeat (first | with_reducible assumption | with_reducible exact Below.refl _ _ | with_reducible refine Below.setCell ?_ ?_ _ | with_reducible refine Below.alloc ?_ ?_ _ | with_reducible refine below_drewN' ?_ _ | with_reducible refine Below.drew ?_ | with_reducible refine Below.trans ?_ (Below.mono (by assumption) ?_) | omega | (dsimp only; omega) | (simp only [drew_heap', drewN_heap', World.size_alloc, World.size_setCell]; omega) | (solve | simp) | (solve | (simp; omega))))) (Nat.le_refl _) (by simp only [World.size_alloc]; omega)); (have HO8 := Lib.hid ho8); (clear ho8 hg8 hf8)))) | fail)
              go_roundw
              case rel => exact ⟨k + 1, _, by omega, rfl, by go_num, hb8, .inr ⟨by omega, rfl, by rw [HT.out, sps, List.map_append]; exact HO8.out⟩⟩
              case measure => simp [intOf]; omega
          · obtain rfl : k = l.length := by omega
            have hnext : ∃ d' : Bool, True := ⟨true, trivial⟩
            rcases hcase with ⟨hk1, rfl, hown⟩ | ⟨hk1, rfl, hown⟩
            · have hl2 : l2 = [] := List.eq_nil_of_length_eq_zero (by omega)
              have HT : Hid (sps (l.take l.length) ++ [spV (p, n, who)] = sps lf) := Lib.hid (by
                rw [List.take_length, HLE.out.symm, HE.out, hl2]; simp)
              have HO := Lib.hid hown
              have hln : (l.take l.length).length ≤ l.length := by rw [List.take_length]; exact Nat.le_refl _
              clear hown hl2
              generalize l.take l.length = tk at *
              go_wp2_with (first | ((with_reducible refine at_app ?_); (refine wpList_append_sl (v := s) (xs := sps tk) (base := wA.heap.size) rfl _ _ 22 rfl ty_span i0 (.agg #[.int .i64 0, .int .i64 0, .int .i64 0]) 24 Try.underlying22 HI.out.1 HI.out.2.1 HI.out.2.2.1 HI.out.2.2.2 rfl ?_ ?_ (.slice (some ⟨wr.heap.size, 0, none⟩) 1 1) ([spV (p, n, who)]) ?_ ?_ ?_ ?_ ?_ ?_; (focus (solve | simp [Act.eval, Act.put])); (focus (exact (HO.out.kept (by (repeat (first | with_reducible assumption | with_reducible exact Below.refl _ _ | with_reducible refine Below.setCell ?_ ?_ _ | with_reducible refine Below.alloc ?_ ?_ _ | with_reducible refine below_drewN' ?_ _ | with_reducible refine Below.drew ?_ | with_reducible refine Below.trans ?_ (Below.mono (by assumption) ?_) | omega | (dsimp only; omega) | (simp only [drew_heap', drewN_heap', World.size_alloc, World.size_setCell]; omega) | (solve | simp) | (solve | (simp; omega)))))))); (focus (solve | simp [Act.eval, Act.put])); (focus (exact (Sl.made1 (sp_val (p, n, who)) rfl))); (focus (first | (simp [maxLen]; omega) | (solve | simp [maxLen]))); (focus (first | (simp; omega) | (solve | simp))); (focus (first | omega | (simp only [World.size_alloc, World.size_setCell]; omega))); (intro v8 w8 ho8 hg8 hf8; (have hb8 : Below wA.heap.size wA w8 := (HO.out.kept (by (repeat (first | with_reducible assumption | with_reducible exact Below.refl _ _ | with_reducible refine Below.setCell ?_ ?_ _ | with_reducible refine Below.alloc ?_ ?_ _ | with_reducible refine below_drewN' ?_ _ | with_reducible refine Below.drew ?_ | with_reducible refine Below.trans ?_ (Below.mono (by assumption) ?_) | omega | (dsimp only; omega) | (simp only [drew_heap', drewN_heap', World.size_alloc, World.size_setCell]; omega) | (solve | simp) | (solve | (simp; omega)))))).below hg8 (by (repeat (first | with_reducible assumption | with_reducible exact Below.refl _ _ | with_reducible refine Below.setCell ?_ ?_ _ | with_reducible refine Below.alloc ?_ ?_ _ | with_reducible refine below_drewN' ?_ _ | with_reducible refine Below.drew ?_ | with_reducible refine Below.trans ?_ (Below.mono (by assumption) ?_) | omega | (dsimp only; omega) | (simp only [drew_heap', drewN_heap', World.size_alloc, World.size_setCell]; omega) | (solve | simp) | (solve | (simp; omega))))) (Nat.le_refl _) (by simp only [World.size_alloc]; omega)); (rw [HT.out] at ho8); (have HO8 := Lib.hid ho8); (clear ho8 hg8 hf8)))) | fail)
              have hz8 := hb8.size
              have hbw8 : Below w3.heap.size w3 w8 := hbw.trans (hb8.mono hwz)
              obtain ⟨_, _, hex8, hbx8, x0', x1', -⟩ := Sl.sp (HXA.out.below hb8) HX.out
              simp only [Option.some.injEq, Addr.mk.injEq, and_true] at hex8
              obtain ⟨rfl, rfl⟩ := hex8
              dsimp only at x0' x1'
              obtain ⟨a8, k8, hv8, _⟩ := HO8.out.sl.shape
              generalize (sps lf).length = n8 at hv8
              subst hv8
              clear hc6 hf6 hl6 hn6 hm6 x0 x1
              have hbne : w.heap.size + 1 ≠ b := by have := HOG.out b rfl; omega
              have KA8 := Lib.hid (KA4.out.below hb8 KA4.out.lt)
              have X8 := Lib.hid x0'
              have KA9 := Lib.hid (KA8.out.drew)
              have KB9 := Lib.hid ((KB4.out.below hb8 KB4.out.lt).drew)
              have X9 := Lib.hid (show w8.drew.cell? ⟨b, off + i * 3, none⟩ = some (.int .i64 p) from x0')
              have HO9 := Lib.hid (HO8.out.kept (Below.refl _ _).drew)
              have hbw9 : Below w.heap.size w w8.drew := ((hbw3.trans (hbw.mono hbw3.size)).trans (hb8.mono (by have := hbw.size; have := hbw3.size; omega))).drew
              clear x0' x1'
              refine wp_region_held_drew (S := fun W' => W'.cell? ⟨w.heap.size, 0, none⟩ = some (.int .i64 size) ∧ W'.cell? ⟨b, off + i * 3, none⟩ = some (.int .i64 p)) (by kernel_rfl) ⟨KA8.out.rules.1 0, X8.out⟩ (fun hHeld => ?_)
              generalize w8.drew = w9 at *
              ((refine wpAnyH_take (i := 0) (oi := ⟨some 94, _, _, _, _, _⟩) (v := ?_) rfl (by kernel_rfl) (by kernel_rfl) (by kernel_rfl) (fun _ _ _ h => h) (Or.inl ⟨by rfl, ?_⟩) (by assumption) ?_); rotate_left; (focus ((intro w hSw); (try dsimp only at hSw); go_simp; (try with_reducible rfl))); (try simp only [Act.put, List.setIfInBounds_toArray, List.set_cons_zero, List.set_cons_succ]))
              ((refine wpAnyH_take (i := 1) (oi := ⟨some 95, _, _, _, _, _⟩) (v := ?_) rfl (by kernel_rfl) (by kernel_rfl) (by kernel_rfl) (fun _ _ _ h => h) (Or.inl ⟨by rfl, ?_⟩) (by assumption) ?_); rotate_left; (focus ((intro w hSw); (try dsimp only at hSw); go_simp; (try with_reducible rfl))); (try simp only [Act.put, List.setIfInBounds_toArray, List.set_cons_zero, List.set_cons_succ]))
              ((refine wpAnyH_take (i := 2) (oi := ⟨some 96, _, _, _, _, _⟩) (v := ?_) rfl (by kernel_rfl) (by kernel_rfl) (by kernel_rfl) (fun _ _ _ h => h) (Or.inl ⟨by rfl, ?_⟩) (by assumption) ?_); rotate_left; (focus ((intro w hSw); (try dsimp only at hSw); go_simp; (try with_reducible rfl))); (try simp only [Act.put, List.setIfInBounds_toArray, List.set_cons_zero, List.set_cons_succ]))
              ((refine wpAnyH_take (i := 3) (oi := ⟨some 97, _, _, _, _, _⟩) (v := ?_) rfl (by kernel_rfl) (by kernel_rfl) (by kernel_rfl) (fun _ _ _ h => h) (Or.inl ⟨by rfl, ?_⟩) (by assumption) ?_); rotate_left; (focus ((intro w hSw); (try dsimp only at hSw); go_simp; (try with_reducible rfl))); (try simp only [Act.put, List.setIfInBounds_toArray, List.set_cons_zero, List.set_cons_succ]))
              ((refine wpAnyH_take (i := 4) (oi := ⟨some 98, _, _, _, _, _⟩) (v := ?_) rfl (by kernel_rfl) (by kernel_rfl) (by kernel_rfl) (fun _ _ _ h => h) (Or.inl ⟨by rfl, ?_⟩) (by assumption) ?_); rotate_left; (focus ((intro w hSw); (try dsimp only at hSw); go_simp; (try with_reducible rfl))); (try simp only [Act.put, List.setIfInBounds_toArray, List.set_cons_zero, List.set_cons_succ]))
              ((refine wpAnyH_take (i := 5) (oi := ⟨some 99, _, _, _, _, _⟩) (v := ?_) rfl (by kernel_rfl) (by kernel_rfl) (by kernel_rfl) (fun _ _ _ h => h) (Or.inl ⟨by rfl, ?_⟩) (by assumption) ?_); rotate_left; (focus ((intro w hSw); (try dsimp only at hSw); go_simp; (try with_reducible rfl))); (try simp only [Act.put, List.setIfInBounds_toArray, List.set_cons_zero, List.set_cons_succ]))
              ((refine wpAnyH_take (i := 6) (oi := ⟨some 100, _, _, _, _, _⟩) (v := ?_) rfl (by kernel_rfl) (by kernel_rfl) (by kernel_rfl) (fun _ _ _ h => h) (Or.inl ⟨by rfl, ?_⟩) (by assumption) ?_); rotate_left; (focus ((intro w hSw); (try dsimp only at hSw); go_simp; (try with_reducible rfl))); (try simp only [Act.put, List.setIfInBounds_toArray, List.set_cons_zero, List.set_cons_succ]))
              ((refine wpAnyH_take (i := 7) (oi := ⟨some 101, _, _, _, _, _⟩) (v := ?_) rfl (by kernel_rfl) (by kernel_rfl) (by kernel_rfl) (fun _ _ _ h => h) (Or.inl ⟨by rfl, ?_⟩) (by assumption) ?_); rotate_left; (focus ((intro w hSw); (try dsimp only at hSw); go_simp; (try with_reducible rfl))); (try simp only [Act.put, List.setIfInBounds_toArray, List.set_cons_zero, List.set_cons_succ]))
              ((refine wpAnyH_take (i := 8) (oi := ⟨some 102, _, _, _, _, _⟩) (v := ?_) rfl (by kernel_rfl) (by kernel_rfl) (by kernel_rfl) (fun _ _ _ h => h) (Or.inl ⟨by rfl, ?_⟩) (by assumption) ?_); rotate_left; (focus ((intro w hSw); (try dsimp only at hSw); go_simp; (try with_reducible rfl))); (try simp only [Act.put, List.setIfInBounds_toArray, List.set_cons_zero, List.set_cons_succ]))
              obtain ⟨hc9, hf9, hl9, hn9, hm9⟩ := KB9.out.rules
              have hS : (((w9.setCell ⟨w.heap.size + 1, 0, none⟩ (.int .i64 size)).setCell ⟨w.heap.size + 1, 1, none⟩ (.slice a8 n8 k8)).cell? ⟨w.heap.size, 0, none⟩ = some (.int .i64 size) ∧ ((w9.setCell ⟨w.heap.size + 1, 0, none⟩ (.int .i64 size)).setCell ⟨w.heap.size + 1, 1, none⟩ (.slice a8 n8 k8)).cell? ⟨b, off + i * 3, none⟩ = some (.int .i64 p)) :=
                ⟨(World.cell?_setCell_far _ _ _ _ (by simp)).trans ((World.cell?_setCell_far _ _ _ _ (by simp)).trans (KA9.out.rules.1 0)), (World.cell?_setCell_far _ _ _ _ hbne).trans ((World.cell?_setCell_far _ _ _ _ hbne).trans X9.out)⟩
              have HSS := Lib.hid hS
              clear hS
              refine wpAnyH_ready (rs := [9]) (by kernel_rfl) (by simp) ?_
              refine AllReadyH.cons (o := ⟨none, _, _, _, _, _⟩) rfl (fun K hK => ?_) AllReadyH.nil
              go_simp
              refine hK.out _ _ HSS.out (fun hHeld => ?_)
              clear hK K
              (try simp only [Act.put, List.setIfInBounds_toArray, List.set_cons_zero, List.set_cons_succ])
              refine wpAnyH_ready (rs := [10]) (by kernel_rfl) (by simp) ?_
              refine AllReadyH.cons (o := ⟨some 7, _, _, _, _, _⟩) rfl (fun K hK => ?_) AllReadyH.nil
              go_simp
              refine hK.out _ _ HSS.out (fun hHeld => ?_)
              clear hK K
              (try simp only [Act.put, List.setIfInBounds_toArray, List.set_cons_zero, List.set_cons_succ])
              refine wpAnyH_ready (rs := [11]) (by kernel_rfl) (by simp) ?_
              refine AllReadyH.cons (o := ⟨some 8, _, _, _, _, _⟩) rfl (fun K hK => ?_) AllReadyH.nil
              go_simp
              refine hK.out _ _ HSS.out (fun hHeld => ?_)
              clear hK K
              (try simp only [Act.put, List.setIfInBounds_toArray, List.set_cons_zero, List.set_cons_succ])
              refine wpAnyH_done (by kernel_rfl) ?_ _
              go_wp2_with fail
              refine bodyPost_ret (v := .tuple #[.agg #[.int .i64 size, .slice a8 n8 k8], .int .i64 p, .int .i64 0]) (by simp [results, Try.results23, go_sem, hc9]) rfl ⟨_, rfl, ?_, by (repeat (first | with_reducible assumption | with_reducible exact Below.refl _ _ | with_reducible refine Below.setCell ?_ ?_ _ | with_reducible refine Below.alloc ?_ ?_ _ | with_reducible refine below_drewN' ?_ _ | with_reducible refine Below.drew ?_ | with_reducible refine Below.trans ?_ (Below.mono (by assumption) ?_) | omega | (dsimp only; omega) | (simp only [drew_heap', drewN_heap', World.size_alloc, World.size_setCell]; omega) | (solve | simp) | (solve | (simp; omega))))⟩
              exact ((HO9.out.setOther (b := w.heap.size + 1) (by omega) 0 (.int .i64 size)).setOther (b := w.heap.size + 1) (by omega) 1 _).sl
            · have HT : Hid (l1 ++ (p, n, who) :: l2.take (l.length - l1.length) = lf) := Lib.hid (by
                rw [HLE.out.symm, List.take_of_length_le (by omega)])
              rw [HT.out] at hown
              have HO8 := Lib.hid hown
              clear hown
              obtain ⟨v8, hv8⟩ : ∃ v8, v8 = s := ⟨_, rfl⟩
              subst hv8
              obtain ⟨w8, hw8⟩ : ∃ w8, w8 = wr := ⟨_, rfl⟩
              subst hw8
              have hb8 := hbu
              go_wp2_with fail
              have hz8 := hb8.size
              have hbw8 : Below w3.heap.size w3 w8 := hbw.trans (hb8.mono hwz)
              obtain ⟨_, _, hex8, hbx8, x0', x1', -⟩ := Sl.sp (HXA.out.below hb8) HX.out
              simp only [Option.some.injEq, Addr.mk.injEq, and_true] at hex8
              obtain ⟨rfl, rfl⟩ := hex8
              dsimp only at x0' x1'
              obtain ⟨a8, k8, hv8, _⟩ := HO8.out.sl.shape
              generalize (sps lf).length = n8 at hv8
              subst hv8
              clear hc6 hf6 hl6 hn6 hm6 x0 x1
              have hbne : w.heap.size + 1 ≠ b := by have := HOG.out b rfl; omega
              have KA8 := Lib.hid (KA4.out.below hb8 KA4.out.lt)
              have X8 := Lib.hid x0'
              have KA9 := Lib.hid (KA8.out.drew)
              have KB9 := Lib.hid ((KB4.out.below hb8 KB4.out.lt).drew)
              have X9 := Lib.hid (show w8.drew.cell? ⟨b, off + i * 3, none⟩ = some (.int .i64 p) from x0')
              have HO9 := Lib.hid (HO8.out.kept (Below.refl _ _).drew)
              have hbw9 : Below w.heap.size w w8.drew := ((hbw3.trans (hbw.mono hbw3.size)).trans (hb8.mono (by have := hbw.size; have := hbw3.size; omega))).drew
              clear x0' x1'
              refine wp_region_held_drew (S := fun W' => W'.cell? ⟨w.heap.size, 0, none⟩ = some (.int .i64 size) ∧ W'.cell? ⟨b, off + i * 3, none⟩ = some (.int .i64 p)) (by kernel_rfl) ⟨KA8.out.rules.1 0, X8.out⟩ (fun hHeld => ?_)
              generalize w8.drew = w9 at *
              ((refine wpAnyH_take (i := 0) (oi := ⟨some 94, _, _, _, _, _⟩) (v := ?_) rfl (by kernel_rfl) (by kernel_rfl) (by kernel_rfl) (fun _ _ _ h => h) (Or.inl ⟨by rfl, ?_⟩) (by assumption) ?_); rotate_left; (focus ((intro w hSw); (try dsimp only at hSw); go_simp; (try with_reducible rfl))); (try simp only [Act.put, List.setIfInBounds_toArray, List.set_cons_zero, List.set_cons_succ]))
              ((refine wpAnyH_take (i := 1) (oi := ⟨some 95, _, _, _, _, _⟩) (v := ?_) rfl (by kernel_rfl) (by kernel_rfl) (by kernel_rfl) (fun _ _ _ h => h) (Or.inl ⟨by rfl, ?_⟩) (by assumption) ?_); rotate_left; (focus ((intro w hSw); (try dsimp only at hSw); go_simp; (try with_reducible rfl))); (try simp only [Act.put, List.setIfInBounds_toArray, List.set_cons_zero, List.set_cons_succ]))
              ((refine wpAnyH_take (i := 2) (oi := ⟨some 96, _, _, _, _, _⟩) (v := ?_) rfl (by kernel_rfl) (by kernel_rfl) (by kernel_rfl) (fun _ _ _ h => h) (Or.inl ⟨by rfl, ?_⟩) (by assumption) ?_); rotate_left; (focus ((intro w hSw); (try dsimp only at hSw); go_simp; (try with_reducible rfl))); (try simp only [Act.put, List.setIfInBounds_toArray, List.set_cons_zero, List.set_cons_succ]))
              ((refine wpAnyH_take (i := 3) (oi := ⟨some 97, _, _, _, _, _⟩) (v := ?_) rfl (by kernel_rfl) (by kernel_rfl) (by kernel_rfl) (fun _ _ _ h => h) (Or.inl ⟨by rfl, ?_⟩) (by assumption) ?_); rotate_left; (focus ((intro w hSw); (try dsimp only at hSw); go_simp; (try with_reducible rfl))); (try simp only [Act.put, List.setIfInBounds_toArray, List.set_cons_zero, List.set_cons_succ]))
              ((refine wpAnyH_take (i := 4) (oi := ⟨some 98, _, _, _, _, _⟩) (v := ?_) rfl (by kernel_rfl) (by kernel_rfl) (by kernel_rfl) (fun _ _ _ h => h) (Or.inl ⟨by rfl, ?_⟩) (by assumption) ?_); rotate_left; (focus ((intro w hSw); (try dsimp only at hSw); go_simp; (try with_reducible rfl))); (try simp only [Act.put, List.setIfInBounds_toArray, List.set_cons_zero, List.set_cons_succ]))
              ((refine wpAnyH_take (i := 5) (oi := ⟨some 99, _, _, _, _, _⟩) (v := ?_) rfl (by kernel_rfl) (by kernel_rfl) (by kernel_rfl) (fun _ _ _ h => h) (Or.inl ⟨by rfl, ?_⟩) (by assumption) ?_); rotate_left; (focus ((intro w hSw); (try dsimp only at hSw); go_simp; (try with_reducible rfl))); (try simp only [Act.put, List.setIfInBounds_toArray, List.set_cons_zero, List.set_cons_succ]))
              ((refine wpAnyH_take (i := 6) (oi := ⟨some 100, _, _, _, _, _⟩) (v := ?_) rfl (by kernel_rfl) (by kernel_rfl) (by kernel_rfl) (fun _ _ _ h => h) (Or.inl ⟨by rfl, ?_⟩) (by assumption) ?_); rotate_left; (focus ((intro w hSw); (try dsimp only at hSw); go_simp; (try with_reducible rfl))); (try simp only [Act.put, List.setIfInBounds_toArray, List.set_cons_zero, List.set_cons_succ]))
              ((refine wpAnyH_take (i := 7) (oi := ⟨some 101, _, _, _, _, _⟩) (v := ?_) rfl (by kernel_rfl) (by kernel_rfl) (by kernel_rfl) (fun _ _ _ h => h) (Or.inl ⟨by rfl, ?_⟩) (by assumption) ?_); rotate_left; (focus ((intro w hSw); (try dsimp only at hSw); go_simp; (try with_reducible rfl))); (try simp only [Act.put, List.setIfInBounds_toArray, List.set_cons_zero, List.set_cons_succ]))
              ((refine wpAnyH_take (i := 8) (oi := ⟨some 102, _, _, _, _, _⟩) (v := ?_) rfl (by kernel_rfl) (by kernel_rfl) (by kernel_rfl) (fun _ _ _ h => h) (Or.inl ⟨by rfl, ?_⟩) (by assumption) ?_); rotate_left; (focus ((intro w hSw); (try dsimp only at hSw); go_simp; (try with_reducible rfl))); (try simp only [Act.put, List.setIfInBounds_toArray, List.set_cons_zero, List.set_cons_succ]))
              obtain ⟨hc9, hf9, hl9, hn9, hm9⟩ := KB9.out.rules
              have hS : (((w9.setCell ⟨w.heap.size + 1, 0, none⟩ (.int .i64 size)).setCell ⟨w.heap.size + 1, 1, none⟩ (.slice a8 n8 k8)).cell? ⟨w.heap.size, 0, none⟩ = some (.int .i64 size) ∧ ((w9.setCell ⟨w.heap.size + 1, 0, none⟩ (.int .i64 size)).setCell ⟨w.heap.size + 1, 1, none⟩ (.slice a8 n8 k8)).cell? ⟨b, off + i * 3, none⟩ = some (.int .i64 p)) :=
                ⟨(World.cell?_setCell_far _ _ _ _ (by simp)).trans ((World.cell?_setCell_far _ _ _ _ (by simp)).trans (KA9.out.rules.1 0)), (World.cell?_setCell_far _ _ _ _ hbne).trans ((World.cell?_setCell_far _ _ _ _ hbne).trans X9.out)⟩
              have HSS := Lib.hid hS
              clear hS
              refine wpAnyH_ready (rs := [9]) (by kernel_rfl) (by simp) ?_
              refine AllReadyH.cons (o := ⟨none, _, _, _, _, _⟩) rfl (fun K hK => ?_) AllReadyH.nil
              go_simp
              refine hK.out _ _ HSS.out (fun hHeld => ?_)
              clear hK K
              (try simp only [Act.put, List.setIfInBounds_toArray, List.set_cons_zero, List.set_cons_succ])
              refine wpAnyH_ready (rs := [10]) (by kernel_rfl) (by simp) ?_
              refine AllReadyH.cons (o := ⟨some 7, _, _, _, _, _⟩) rfl (fun K hK => ?_) AllReadyH.nil
              go_simp
              refine hK.out _ _ HSS.out (fun hHeld => ?_)
              clear hK K
              (try simp only [Act.put, List.setIfInBounds_toArray, List.set_cons_zero, List.set_cons_succ])
              refine wpAnyH_ready (rs := [11]) (by kernel_rfl) (by simp) ?_
              refine AllReadyH.cons (o := ⟨some 8, _, _, _, _, _⟩) rfl (fun K hK => ?_) AllReadyH.nil
              go_simp
              refine hK.out _ _ HSS.out (fun hHeld => ?_)
              clear hK K
              (try simp only [Act.put, List.setIfInBounds_toArray, List.set_cons_zero, List.set_cons_succ])
              refine wpAnyH_done (by kernel_rfl) ?_ _
              go_wp2_with fail
              refine bodyPost_ret (v := .tuple #[.agg #[.int .i64 size, .slice a8 n8 k8], .int .i64 p, .int .i64 0]) (by simp [results, Try.results23, go_sem, hc9]) rfl ⟨_, rfl, ?_, by (repeat (first | with_reducible assumption | with_reducible exact Below.refl _ _ | with_reducible refine Below.setCell ?_ ?_ _ | with_reducible refine Below.alloc ?_ ?_ _ | with_reducible refine below_drewN' ?_ _ | with_reducible refine Below.drew ?_ | with_reducible refine Below.trans ?_ (Below.mono (by assumption) ?_) | omega | (dsimp only; omega) | (simp only [drew_heap', drewN_heap', World.size_alloc, World.size_setCell]; omega) | (solve | simp) | (solve | (simp; omega))))⟩
              exact ((HO9.out.setOther (b := w.heap.size + 1) (by omega) 0 (.int .i64 size)).setOther (b := w.heap.size + 1) (by omega) 1 _).sl
      · have HN2 : Hid (∀ j y, j < i + 1 → m[j]? = some y → y.2.1 < n) := Lib.hid (fun j y hj hy => by
          rcases Nat.lt_succ_iff_lt_or_eq.1 hj with hj | rfl
          · exact HNO.out j y hj hy
          · rw [hx] at hy; cases hy; omega)
        have hqb : decide (x.2.1 < n) = true := by simp; omega
        clear hx hq
        go_wp2_with fail
        go_roundw
        case rel => exact ⟨i + 1, by omega, by go_num, hbw, HN2⟩
        case measure => simp [intOf]; omega
    · obtain rfl : i = m.length := by omega
      have hlf := HLF.out
      rw [HMISS.out HNO.out] at hlf
      simp only [Prod.mk.injEq] at hlf
      obtain ⟨rfl, rfl, rfl⟩ := hlf
      ((have b4 := KA3.out.below hbw KA3.out.lt); (obtain ⟨hc4, hf4, hl4, hn4, hm4⟩ := b4.rules); (have K4 := Lib.hid b4); (clear b4))
      ((have b5 := KB3.out.below hbw KB3.out.lt); (obtain ⟨hc5, hf5, hl5, hn5, hm5⟩ := b5.rules); (have K5 := Lib.hid b5); (clear b5))
      go_wp2_with fail
      refine bodyPost_ret (v := .tuple #[.agg #[.int .i64 size, .slice a l.length cap], .int .i64 0, .int .i64 5]) (by simp [results, Try.results23, go_sem, hc4, hc5]) rfl ⟨_, rfl, ?_, by (repeat (first | with_reducible assumption | with_reducible exact Below.refl _ _ | with_reducible refine Below.setCell ?_ ?_ _ | with_reducible refine Below.alloc ?_ ?_ _ | with_reducible refine below_drewN' ?_ _ | with_reducible refine Below.drew ?_ | with_reducible refine Below.trans ?_ (Below.mono (by assumption) ?_) | omega | (dsimp only; omega) | (simp only [drew_heap', drewN_heap', World.size_alloc, World.size_setCell]; omega) | (solve | simp) | (solve | (simp; omega))))⟩
      exact HV.out.below (by (repeat (first | with_reducible assumption | with_reducible exact Below.refl _ _ | with_reducible refine Below.setCell ?_ ?_ _ | with_reducible refine Below.alloc ?_ ?_ _ | with_reducible refine below_drewN' ?_ _ | with_reducible refine Below.drew ?_ | with_reducible refine Below.trans ?_ (Below.mono (by assumption) ?_) | omega | (dsimp only; omega) | (simp only [drew_heap', drewN_heap', World.size_alloc, World.size_setCell]; omega) | (solve | simp) | (solve | (simp; omega)))))
end Go.Proofs.Ytdfkfoffinchhaa
