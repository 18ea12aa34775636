/- route.Reach: who may reach one, in order. Conditions: lengths within the reach. -/
import Derived.Test.YtmcaeahjnhkbcaaRouteFns
import Derived.Test.YtmcaeahjnhkbcaaRouteSort
namespace Go.Proofs.Ytmcaeahjnhkbcaa
open Go Go.RowKit Go.Tm
set_option linter.unusedVariables false
set_option linter.unusedSimpArgs false

theorem reachC_add {np : Nat} {S : List Int} {c : Ch} : reachC np S c = if c.2.2.1 ∈ S ∧ okN np c.2.1 = true then addS S c.2.1 else S := by
  unfold reachC addS
  by_cases h1 : c.2.2.1 ∈ S ∧ okN np c.2.1 = true
  · rw [if_pos h1]
    by_cases h2 : c.2.1 ∈ S
    · rw [if_pos h2, if_neg (fun h => h.2.2 h2)]
    · rw [if_neg h2, if_pos ⟨h1.1, h1.2, h2⟩]
  · rw [if_neg h1, if_neg (fun h => h1 ⟨h.1, h.2.1⟩)]
theorem reach_sorted {np : Nat} {cs : List Ch} {part : Int} (h : okN np part = true) : ((reachSet np cs part).mergeSort fun x y => decide (x ≤ y)) = reachS np cs part := by
  have tr : ∀ a b c : Int, decide (a ≤ b) = true → decide (b ≤ c) = true → decide (a ≤ c) = true := fun a b c h1 h2 => by simp only [decide_eq_true_eq] at *; exact Int.le_trans h1 h2
  have to : ∀ a b : Int, (decide (a ≤ b) || decide (b ≤ a)) = true := fun a b => by simp only [Bool.or_eq_true, decide_eq_true_eq]; exact Int.le_total a b
  refine List.Perm.eq_of_pairwise (le := fun a b => decide (a ≤ b) = true) (fun a b _ _ h1 h2 => ?_) (List.pairwise_mergeSort tr to _) (reachS_rises.imp (by intro a b h; simp; omega)) ((List.mergeSort_perm _ _).trans ((List.perm_ext_iff_of_nodup (reachK_good (one_good h) np).nodup (reachS_rises.imp (by intro a b h; omega))).2 fun x => ?_))
  · simp only [decide_eq_true_eq] at h1 h2
    exact Int.le_antisymm h1 h2
  · rw [reachS_mem]
    exact ⟨fun hx => ⟨h, hx⟩, fun hx => hx.2⟩

set_option maxRecDepth 100000 in
set_option maxHeartbeats 4000000 in
theorem reach_any (pa : Option Addr) (np pc : Nat) (fr : Int) (wv cv : Value) (cs : List Ch) (part : Int) (w : World) (hv : Sl w true 5 cv (chs cs)) (hw : ∀ x ∈ cs, ChWf x) (hp : (Lit.int .i64 part).wf = true) (hby : cs.length * 40 ≤ 140737488355328) (hnp : np * 32 ≤ 140737488355328) :
    Calls Try.prog 12 #[.agg #[.slice pa np pc, .int .i64 fr, wv, cv], .int .i64 part] w fun e w' => ∃ v', e = .returned v' ∧ Owned w' w.heap.size 3 false 1 v' (ints (reachS np cs part)) ∧ Below w.heap.size w w' := by
  have HV := Lib.hid hv
  have HW := Lib.hid hw
  have HP := Lib.hid hp
  obtain ⟨a, cap, rfl, hl⟩ := hv.shape
  rw [chs_len] at hl HV ⊢
  clear hv hw hp
  have hmm := @run_makeMap Try.prog
  go_enter Try.func12, Try.ntmps12
  go_wp2_with fail
  have hbx0 : Box ((w.alloc (.cells #[.slice pa np pc, .int .i64 fr, wv, .slice a cs.length cap] 26)).alloc (.map #[] 0)) w.heap.size #[.slice pa np pc, .int .i64 fr, wv, .slice a cs.length cap] 26 := (Box.new _ _ _).alloc _
  with_reducible refine (ok_any part w.heap.size pa np pc fr wv (.slice a cs.length cap) _ hbx0).mono ?_
  rintro e w1 ⟨rfl, rfl⟩
  cases hok : okN np part
  · have HE := Lib.hid (show reachS np cs part = [] by unfold reachS; rw [hok]; rfl)
    clear hok hbx0
    go_wp2_with fail
    go_ret
    exact ⟨_, rfl, by rw [HE.out]; exact Owned.nil, by (repeat (first | with_reducible assumption | with_reducible exact Below.refl _ _ | with_reducible refine Below.setCell ?_ ?_ _ | with_reducible refine Below.alloc ?_ ?_ _ | with_reducible refine below_drewN' ?_ _ | with_reducible refine Below.drew ?_ | with_reducible refine Below.trans ?_ (Below.mono (by assumption) ?_) | omega | (dsimp only; omega) | (simp only [drew_heap', drewN_heap', World.size_alloc, World.size_setCell]; omega) | (solve | simp) | (solve | (simp; omega))))⟩
  have HOK := Lib.hid hok
  have hm0 := MapS.new (w.alloc (.cells #[.slice pa np pc, .int .i64 fr, wv, .slice a cs.length cap] 26))
  rw [World.size_alloc] at hm0
  have HM0 := Lib.hid hm0
  have HB0 := Lib.hid hbx0
  have hbw0 : Below w.heap.size w ((w.alloc (.cells #[.slice pa np pc, .int .i64 fr, wv, .slice a cs.length cap] 26)).alloc (.map #[] 0)) := by (repeat (first | with_reducible assumption | with_reducible exact Below.refl _ _ | with_reducible refine Below.setCell ?_ ?_ _ | with_reducible refine Below.alloc ?_ ?_ _ | with_reducible refine below_drewN' ?_ _ | with_reducible refine Below.drew ?_ | with_reducible refine Below.trans ?_ (Below.mono (by assumption) ?_) | omega | (dsimp only; omega) | (simp only [drew_heap', drewN_heap', World.size_alloc, World.size_setCell]; omega) | (solve | simp) | (solve | (simp; omega))))
  clear hok hm0 hbx0
  go_wp2_with (first | (at_mapUpdate; (refine wpList_setput rfl _ _ _ rfl (w.heap.size + 1) [] HM0.out (by decide) part HP.out ?_ ?_ ?_ ?_); (focus (solve | simp [Act.eval, Act.put])); (focus (solve | simp [Act.eval, Act.put])); (focus (solve | simp [Act.eval, Act.put])); (intro w2 hm2 hg2; (have HM2 := Lib.hid hm2); (have hbx2 := HB0.out.grown hg2 (by simp)); (have hbw2 : Below w.heap.size w w2 := hbw0.grown hg2 (by simp; omega) (by intro k hk; cases hk; omega)); (obtain ⟨c2, f2, l2, n2, m2⟩ := hbx2.rules); (have HB2 := Lib.hid hbx2); (clear hm2 hg2 hbx2))) | fail)
  have hS0 : addS [] part = reachK np cs [part] 0 := by simp [addS, reachK]
  rw [hS0] at HM2
  have HGOOD := Lib.hid (fun k => reachK_good (cs := cs) (one_good HOK.out) k)
  have hz2 := hbw2.size
  clear hS0 HM0 HB0 hbw0
  go_loopw [20, 25] (fun t _ W => ∃ i : Nat, i ≤ np ∧ t = .int .i64 i ∧ Below w.heap.size w W ∧ Box W w.heap.size #[.slice pa np pc, .int .i64 fr, wv, .slice a cs.length cap] 26 ∧ MapS W (w.heap.size + 1) (reachK np cs [part] i)) (fun t _ _ => np - (intOf t).toNat)
  case atStart => exact ⟨0, Nat.zero_le _, rfl, hbw2, HB2.out, HM2.out⟩
  case round =>
    obtain ⟨i, hi, rfl, hbw, hbx, hms⟩ := hrel
    have hwz := hbw.size
    have HBX := Lib.hid hbx
    have HMS := Lib.hid hms
    clear c2 f2 l2 n2 m2 hms
    obtain ⟨c3, f3, l3, n3, m3⟩ := hbx.rules
    clear hbx
    by_cases hlt : i < np
    · have hwi : IntKind.i64.wrap ((i : Int) + 1) = i + 1 := IntWalk.i64_in _ (by omega)
      have hgi := HGOOD.out i
      obtain ⟨S, hS⟩ : ∃ S, S = reachK np cs [part] i := ⟨_, rfl⟩
      rw [← hS] at HMS hgi
      have HS := Lib.hid hS
      have HGI := Lib.hid hgi
      clear hS hgi
      go_wp2_with fail
      clear c3 f3 l3 n3 m3
      go_loopw [25] (fun t W => ∃ j : Nat, j ≤ cs.length ∧ t = .int .i64 j ∧ Below w.heap.size w W ∧ Box W w.heap.size #[.slice pa np pc, .int .i64 fr, wv, .slice a cs.length cap] 26 ∧ MapS W (w.heap.size + 1) (reachR np (cs.take j) S)) (fun t _ => cs.length - (intOf t).toNat)
      case atStart => exact ⟨0, Nat.zero_le _, rfl, hbw, HBX.out, by simpa [reachR] using HMS.out⟩
      case round =>
        obtain ⟨j, hj, rfl, hbv, hby', hmt⟩ := hrel
        have hvz := hbv.size
        have HBY := Lib.hid hby'
        obtain ⟨c4, f4, l4, n4, m4⟩ := hby'.rules
        have hgj := reachR_good (cs := cs.take j) HGI.out
        have hgl := good_len hgj
        by_cases hjl : j < cs.length
        · obtain ⟨x, hx⟩ : ∃ x, cs[j]? = some x := ⟨_, List.getElem?_eq_getElem hjl⟩
          obtain ⟨b, off, rfl, hb, e0, e1, e2, e3, e4⟩ := Sl.ch (HV.out.below hbv) hx
          have hwj : IntKind.i64.wrap ((j : Int) + 1) = j + 1 := IntWalk.i64_in _ (by omega)
          have HT := Lib.hid ((reachR_take (n := np) (S := S) hx).trans reachC_add)
          have hxw := HW.out x (List.mem_of_getElem? hx)
          have HWF := Lib.hid hxw.2.1
          have hlk := fun d (hd : decide (x.2.2.1 ∈ reachR np (cs.take j) S) = d) => hd ▸ (hmt.alloc' (.cells #[.int .i64 x.1, .int .i64 x.2.1, .int .i64 x.2.2.1, .int .i64 x.2.2.2.1, .int .i64 x.2.2.2.2] 40)).look hxw.2.2.1
          have HMA := Lib.hid (hmt.alloc' (.cells #[.int .i64 x.1, .int .i64 x.2.1, .int .i64 x.2.2.1, .int .i64 x.2.2.2.1, .int .i64 x.2.2.2.2] 40))
          have HBA := Lib.hid (HBY.out.alloc (.cells #[.int .i64 x.1, .int .i64 x.2.1, .int .i64 x.2.2.1, .int .i64 x.2.2.2.1, .int .i64 x.2.2.2.2] 40))
          have hba : Below w.heap.size w (wr.alloc (.cells #[.int .i64 x.1, .int .i64 x.2.1, .int .i64 x.2.2.1, .int .i64 x.2.2.2.1, .int .i64 x.2.2.2.2] 40)) := hbv.alloc hvz _
          clear hx hxw hgj hmt hby'
          by_cases hto : x.2.2.1 ∈ reachR np (cs.take j) S
          · have hl1 := hlk true (decide_eq_true hto)
            clear hlk
            generalize reachR np (cs.take j) S = T at *
            go_wp2_with fail
            with_reducible refine (ok_any x.2.1 w.heap.size pa np pc fr wv _ _ HBA.out).mono ?_
            rintro e w5 ⟨rfl, rfl⟩
            cases hok : okN np x.2.1
            · have hre := HT.out
              rw [if_neg (by rw [hok]; simp)] at hre
              have HRE := Lib.hid hre
              clear hok hre
              go_wp2_with fail
              go_roundw
              case rel => exact ⟨j + 1, by omega, by go_num, hba, HBA.out, by rw [HRE.out]; exact HMA.out⟩
              case measure => simp [intOf]; omega
            · have hre := HT.out
              rw [if_pos ⟨hto, hok⟩] at hre
              have HRE := Lib.hid hre
              clear hok hre
              go_wp2_with (first | (at_mapUpdate; (refine wpList_setput rfl _ _ _ rfl (w.heap.size + 1) T HMA.out (by unfold maxLen; omega) x.2.1 HWF.out ?_ ?_ ?_ ?_); (focus (solve | simp [Act.eval, Act.put])); (focus (solve | simp [Act.eval, Act.put])); (focus (solve | simp [Act.eval, Act.put])); (intro w6 hm6 hg6; (have HM6 := Lib.hid hm6); (have hbx6 := HBA.out.grown hg6 (by simp)); (have hbw6 : Below w.heap.size w w6 := hba.grown hg6 hba.size (by intro k hk; cases hk; omega)); (have HB6 := Lib.hid hbx6); (clear hm6 hg6 hbx6))) | fail)
              go_roundw
              case rel => exact ⟨j + 1, by omega, by go_num, hbw6, HB6.out, by rw [HRE.out]; exact HM6.out⟩
              case measure => simp [intOf]; omega
          · have hl1 := hlk false (decide_eq_false hto)
            have hre := HT.out
            rw [if_neg (fun h => hto h.1)] at hre
            have HRE := Lib.hid hre
            clear hlk hre hto
            generalize reachR np (cs.take j) S = T at *
            go_wp2_with fail
            go_roundw
            case rel => exact ⟨j + 1, by omega, by go_num, hba, HBA.out, by rw [HRE.out]; exact HMA.out⟩
            case measure => simp [intOf]; omega
        · obtain rfl : j = cs.length := by omega
          rw [List.take_length] at hmt
          have HMT := Lib.hid hmt
          clear hmt hgj hgl
          go_wp2_with fail
          go_roundw
          case rel => exact ⟨i + 1, by omega, by go_num, hbv, HBY.out, by rw [show reachK np cs [part] (i + 1) = reachR np cs (reachK np cs [part] i) from rfl, ← HS.out]; exact HMT.out⟩
          case measure => simp [intOf]; omega
    · obtain rfl : i = np := by omega
      have hgl := good_len (HGOOD.out i)
      have HSO := Lib.hid (reach_sorted (cs := cs) HOK.out)
      have HSC := Lib.hid (sorted_call (w.heap.size + 1) (reachK i cs [part] i) wr HMS.out (HGOOD.out i).nodup (by omega))
      rw [show reachSet i cs part = reachK i cs [part] i from rfl] at HSO
      clear hgl
      generalize reachK i cs [part] i = S at *
      go_wp2_with fail
      with_reducible refine (keys_call _ _).mono ?_
      rintro e w6 ⟨rfl, rfl⟩
      go_wp2_with fail
      with_reducible refine HSC.out.mono ?_
      rintro e w7 ⟨v7, rfl, ho7, hb7⟩
      rw [HSO.out] at ho7
      have HO7 := Lib.hid ho7
      clear ho7
      go_wp2_with fail
      go_ret
      exact ⟨_, rfl, HO7.out.le (by omega), (hbw.alloc hwz _).trans (hb7.mono (by omega))⟩
end Go.Proofs.Ytmcaeahjnhkbcaa
