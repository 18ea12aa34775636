/- The references of package table: Right, Put; the reference's Ints on equal rows. Conditions: lengths within the reach. -/
import Derived.Test.YtianochlnbehnaaTabRef2
namespace Go.Proofs.Ytianochlnbehnaa
open Go Go.RowKit Go.Tm
set_option linter.unusedVariables false
set_option linter.unusedSimpArgs false

set_option maxHeartbeats 4000000 in
theorem ints_true (v u : Value) (l : List Int) (w : World) (hv : Sl w false 1 v (ints l)) (hu : Sl w false 1 u (ints l)) :
    Calls Try.prog 27 #[v, u] w fun e w' => e = .returned (.bool true) ∧ Below w.heap.size w w' := by
  have HV := Lib.hid hv
  have HU := Lib.hid hu
  obtain ⟨a, cap, rfl, hl⟩ := hv.shape
  obtain ⟨a2, cap2, rfl, _⟩ := hu.shape
  rw [ints_len] at hl HV HU ⊢
  clear hv hu
  go_enter Try.func27, Try.ntmps27
  go_wp2_with fail
  go_loopw [5] (fun t W => ∃ i : Nat, i ≤ l.length ∧ t = .int .i64 i ∧ Below w.heap.size w W) (fun t _ => l.length - (intOf t).toNat)
  case atStart => exact ⟨0, Nat.zero_le _, rfl, Below.refl _ _⟩
  case round =>
    obtain ⟨i, hi, rfl, hbw⟩ := hrel
    have hws := hbw.size
    by_cases hlt : i < l.length
    · obtain ⟨x, hx⟩ : ∃ x, l[i]? = some x := ⟨_, List.getElem?_eq_getElem hlt⟩
      obtain ⟨b, off, rfl, hb, hcell⟩ := (HV.out.below hbw).at (ints_get hx)
      obtain ⟨b2, off2, rfl, hb2, hcell2⟩ := (HU.out.below hbw).at (ints_get hx)
      have c0 : wr.cell? ⟨b, off + i, none⟩ = some (.int .i64 x) := by have := hcell 0 _ rfl; simpa using this
      have e0 : wr.cell? ⟨b2, off2 + i, none⟩ = some (.int .i64 x) := by have := hcell2 0 _ rfl; simpa using this
      have hwr : IntKind.i64.wrap ((i : Int) + 1) = i + 1 := IntWalk.i64_in _ (by omega)
      clear hx hcell hcell2
      go_wp2_with fail
      go_region
      go_wp2_with fail
      go_roundw
      case rel => exact ⟨i + 1, by omega, by go_num, by (repeat (first | with_reducible assumption | with_reducible exact Below.refl _ _ | with_reducible refine Below.setCell ?_ ?_ _ | with_reducible refine Below.alloc ?_ ?_ _ | with_reducible refine below_drewN' ?_ _ | with_reducible refine Below.drew ?_ | with_reducible refine Below.trans ?_ (Below.mono (by assumption) ?_) | omega | (dsimp only; omega) | (simp only [drew_heap', drewN_heap', World.size_alloc, World.size_setCell]; omega) | (solve | simp) | (solve | (simp; omega))))⟩
      case measure => simp [intOf]; omega
    · go_wp2_with fail
      go_ret
      exact ⟨rfl, hbw⟩

theorem right_pos {l : List Prc} (h : RightT l) : ∀ (i : Nat) (x : Prc), l[i]? = some x → 1 ≤ x.pid := by
  intro i
  induction i with
  | zero => intro x hx; have := h 0 x hx; simp [lastP] at this; omega
  | succ i ih =>
    intro x hx
    have hi := (List.getElem?_eq_some_iff.1 hx).1
    obtain ⟨y, hy⟩ : ∃ y, l[i]? = some y := ⟨_, List.getElem?_eq_getElem (by omega)⟩
    have h1 := ih y hy
    have h2 := h (i + 1) x hx
    simp only [lastP, hy] at h2
    omega

set_option maxHeartbeats 4000000 in
theorem refRight_any (v : Value) (l : List Prc) (w : World) (hv : Sl w true 26 v (prs l)) :
    Calls Try.prog 19 #[v] w fun e w' => e = .returned (.bool (rightT l)) ∧ Below w.heap.size w w' := by
  have HV := Lib.hid hv
  obtain ⟨a, cap, rfl, hl⟩ := hv.shape
  rw [prs_len] at hl HV ⊢
  clear hv
  go_enter Try.func19, Try.ntmps19
  go_wp2_with fail
  go_loopw [3] (fun t W => ∃ i : Nat, i ≤ l.length ∧ t = .int .i64 i ∧ Below w.heap.size w W ∧ ∀ (j : Nat) (x : Prc), j < i → l[j]? = some x → lastP l j < x.pid ∧ 1 ≤ x.pid) (fun t _ => l.length - (intOf t).toNat)
  case atStart => exact ⟨0, Nat.zero_le _, rfl, Below.refl _ _, by intro j x h; omega⟩
  case round =>
    obtain ⟨i, hi, rfl, hbw, hprev⟩ := hrel
    have hws := hbw.size
    have HP := Lib.hid hprev
    clear hprev
    by_cases hlt : i < l.length
    · obtain ⟨x, hx⟩ : ∃ x, l[i]? = some x := ⟨_, List.getElem?_eq_getElem hlt⟩
      obtain ⟨b, off, rfl, hb, -, c0, -, -⟩ := Sl.pr (HV.out.below hbw) hx
      have g0 := cell_rg c0 hb
      have HX := Lib.hid hx
      have hwr : IntKind.i64.wrap ((i : Int) + 1) = i + 1 := IntWalk.i64_in _ (by omega)
      clear hx
      by_cases h1 : x.pid < 1
      · have HN := Lib.hid (rightT_false (l := l) (fun h => by have := right_pos h i x HX.out; omega))
        have hd1 : decide (x.pid < 1) = true := by simpa using h1
        go_wp2_with fail
        ((refine wp_region_quiet_below (by kernel_rfl) (by kernel_rfl) ?_); (repeat (go_big_quiet_step (fail))); (refine wpQuiet_nil ?_); (intro _ hw'); (obtain ⟨⟨dq, osq⟩, hw''⟩ := hw'); (subst hw''); (have hb7 := below_regrown wr dq osq); (generalize Go.Sort.grow (redrawn wr dq) osq = w7 at *); (have hz7 := hb7.size))
        clear g0
        go_wp2_with fail
        go_ret
        exact ⟨by rw [HN.out]; rfl, hbw.trans (hb7.mono hws)⟩
      · have hd1 : decide (x.pid < 1) = false := by simp; omega
        by_cases hi0 : i = 0
        · have hgt : decide ((0 : Int) < (i : Int)) = false := by simp; omega
          have hgt2 : decide (0 < i) = false := by simp; omega
          have HP2 := Lib.hid (show ∀ (j : Nat) (y : Prc), j < i + 1 → l[j]? = some y → lastP l j < y.pid ∧ 1 ≤ y.pid from fun j y hj hy => by
            obtain rfl : j = i := by omega
            rw [HX.out] at hy; cases hy
            subst hi0
            simp only [lastP]; omega)
          clear hi0
          go_wp2_with fail
          ((refine wp_region_quiet_below (by kernel_rfl) (by kernel_rfl) ?_); (repeat (go_big_quiet_step (fail))); (refine wpQuiet_nil ?_); (intro _ hw'); (obtain ⟨⟨dq, osq⟩, hw''⟩ := hw'); (subst hw''); (have hb7 := below_regrown wr dq osq); (generalize Go.Sort.grow (redrawn wr dq) osq = w7 at *); (have hz7 := hb7.size))
          clear g0
          go_wp2_with fail
          go_roundw
          case rel => exact ⟨i + 1, by omega, by go_num, hbw.trans (hb7.mono hws), HP2.out⟩
          case measure => simp [intOf]; omega
        · obtain ⟨k, rfl⟩ : ∃ k, i = k + 1 := ⟨i - 1, by omega⟩
          obtain ⟨y, hy⟩ : ∃ y, l[k]? = some y := ⟨_, List.getElem?_eq_getElem (by omega)⟩
          obtain ⟨_, _, he, hb2, -, e0, -, -⟩ := Sl.pr (HV.out.below hbw) hy
          simp only [Option.some.injEq, Addr.mk.injEq, and_true] at he
          obtain ⟨rfl, rfl⟩ := he
          have HL := Lib.hid (show lastP l (k + 1) = y.pid by simp only [lastP, hy])
          have g1 := cell_rg e0 hb2
          have hws1 : IntKind.i64.wrap ((k : Int) + 1 - 1) = k := by rw [IntWalk.i64_in _ (by omega)]; omega
          have hlt' : (k : Int) + 1 < l.length := by omega
          have hgt : decide ((0 : Int) < (k : Int) + 1) = true := decide_eq_true (by omega)
          have hgt2 : decide (0 < k + 1) = true := by simp
          clear hy
          by_cases hle : x.pid ≤ y.pid
          · have HN := Lib.hid (rightT_false (l := l) (fun h => by have := h (k + 1) x HX.out; rw [HL.out] at this; omega))
            have hd2 : decide (x.pid ≤ y.pid) = true := by simpa using hle
            go_wp2_with fail
            ((refine wp_region_quiet_below (by kernel_rfl) (by kernel_rfl) ?_); (repeat (go_big_quiet_step (fail))); (refine wpQuiet_nil ?_); (intro _ hw'); (obtain ⟨⟨dq, osq⟩, hw''⟩ := hw'); (subst hw''); (have hb7 := below_regrown wr dq osq); (generalize Go.Sort.grow (redrawn wr dq) osq = w7 at *); (have hz7 := hb7.size))
            clear g0 g1
            go_wp2_with fail
            go_ret
            exact ⟨by rw [HN.out]; rfl, hbw.trans (hb7.mono hws)⟩
          · have hd2 : decide (x.pid ≤ y.pid) = false := by simpa using hle
            have HP2 := Lib.hid (show ∀ (j : Nat) (z : Prc), j < k + 1 + 1 → l[j]? = some z → lastP l j < z.pid ∧ 1 ≤ z.pid from fun j z hj hz => by
              rcases Nat.lt_succ_iff_lt_or_eq.1 hj with hj | rfl
              · exact HP.out j z hj hz
              · rw [HX.out] at hz; cases hz
                rw [HL.out]; omega)
            go_wp2_with fail
            ((refine wp_region_quiet_below (by kernel_rfl) (by kernel_rfl) ?_); (repeat (go_big_quiet_step (fail))); (refine wpQuiet_nil ?_); (intro _ hw'); (obtain ⟨⟨dq, osq⟩, hw''⟩ := hw'); (subst hw''); (have hb7 := below_regrown wr dq osq); (generalize Go.Sort.grow (redrawn wr dq) osq = w7 at *); (have hz7 := hb7.size))
            clear g0 g1
            go_wp2_with fail
            go_roundw
            case rel => exact ⟨k + 1 + 1, by omega, by go_num, hbw.trans (hb7.mono hws), HP2.out⟩
            case measure => simp [intOf]; omega
    · obtain rfl : i = l.length := by omega
      have HN := Lib.hid (rightT_true (l := l) (fun j x hx => (HP.out j x (List.getElem?_eq_some_iff.1 hx).1 hx).1))
      go_wp2_with fail
      go_ret
      exact ⟨by rw [HN.out]; rfl, hbw⟩

set_option maxHeartbeats 3000000 in
theorem refPut_any (v : Value) (l : List Prc) (p : Prc) (w : World) (hv : Sl w true 26 v (prs l)) (hby : (l.length + 1) * 168 ≤ 140737488355328) :
    Calls Try.prog 24 #[v, prV p] w fun e w' => ∃ v', e = .returned v' ∧ Sl w' true 26 v' (prs (putS l p)) ∧ Below w.heap.size w w' := by
  have HV := Lib.hid hv
  have HA := Lib.hid (fun W h => refAt_any v l p.pid W h)
  obtain ⟨i0, hi0, hq0, hq1, hq2⟩ := info_parts info_proc
  have HI := Lib.hid (And.intro hi0 (And.intro hq0 (And.intro hq1 hq2)))
  clear hi0 hq0 hq1 hq2
  obtain ⟨a, cap, rfl, hl⟩ := hv.shape
  rw [prs_len] at hl HV HA ⊢
  have q0 := prC0 p
  clear hv
  rcases at_cases l p.pid with ⟨hi, hno⟩ | ⟨k, x0, hi, hx0, hp0, hno⟩
  · rw [hi] at HA
    have HP := Lib.hid (putS_none hno)
    have HNO := Lib.hid hno
    have htl := tw_le (fun x : Prc => !decide (p.pid < x.pid)) l
    have HT1 := Lib.hid (tw_take (fun x : Prc => !decide (p.pid < x.pid)) l)
    have HT2 := Lib.hid (tw_drop (fun x : Prc => !decide (p.pid < x.pid)) l)
    have HTA := Lib.hid (fun (i : Nat) (x : Prc) (h : l[i]? = some x) hi => tw_at (p := fun x : Prc => !decide (p.pid < x.pid)) h hi)
    have HTS := Lib.hid (fun (x : Prc) h => tw_stop (p := fun x : Prc => !decide (p.pid < x.pid)) (l := l) (x := x) h)
    rw [← HT1.out, ← HT2.out] at HP
    clear hi hno HT1 HT2
    generalize (l.takeWhile (fun x : Prc => !decide (p.pid < x.pid))).length = n at *
    have hm1 : ((-1 : Int) == 0) = false := by decide
    go_enter Try.func24, Try.ntmps24
    go_wp2_with fail
    have hb0 := Box.new w (prC p) 33
    with_reducible refine (HA.out _ (HV.out.below ?_)).mono ?_
    focus (repeat (first | with_reducible assumption | with_reducible exact Below.refl _ _ | with_reducible refine Below.setCell ?_ ?_ _ | with_reducible refine Below.alloc ?_ ?_ _ | with_reducible refine below_drewN' ?_ _ | with_reducible refine Below.drew ?_ | with_reducible refine Below.trans ?_ (Below.mono (by assumption) ?_) | omega | (dsimp only; omega) | (simp only [drew_heap', drewN_heap', World.size_alloc, World.size_setCell]; omega) | (solve | simp) | (solve | (simp; omega))))
    rintro e w1 ⟨rfl, hb1⟩
    have hz1 := hb1.size
    simp only [World.size_alloc] at hz1
    (have b1 : Box w1 w.heap.size (prC p) 33 := (by (try have k1 := (Lib.hid hb0).out); ((apply Box.cast); (repeat (first | with_reducible assumption | ((with_reducible apply Box.new1); (first | with_reducible rfl | rfl | (solve | simp))) | with_reducible apply Box.drewN | with_reducible apply Box.drew | with_reducible apply Box.set | with_reducible apply Box.other | with_reducible apply Box.alloc | (with_reducible apply Box.below; rotate_left; with_reducible assumption; rotate_right) | with_reducible rfl | omega | (dsimp only; omega) | (simp only [drew_heap', drewN_heap', World.size_alloc, World.size_setCell]; omega) | rfl | (solve | simp) | (solve | (simp; omega))))))); (obtain ⟨hc1, hf1, hl1, hn1, hm1⟩ := b1.rules); (have K1 := Lib.hid b1); (clear b1)
    have hbw1 : Below w.heap.size w w1 := by (repeat (first | with_reducible assumption | with_reducible exact Below.refl _ _ | with_reducible refine Below.setCell ?_ ?_ _ | with_reducible refine Below.alloc ?_ ?_ _ | with_reducible refine below_drewN' ?_ _ | with_reducible refine Below.drew ?_ | with_reducible refine Below.trans ?_ (Below.mono (by assumption) ?_) | omega | (dsimp only; omega) | (simp only [drew_heap', drewN_heap', World.size_alloc, World.size_setCell]; omega) | (solve | simp) | (solve | (simp; omega))))
    clear hb0 hb1 hc1 hf1 hn1 hm1
    go_wp2_with fail
    go_loopw [6, 7, 8] (fun u dn t W => ∃ (i : Nat) (s : Value), i ≤ l.length ∧ s = u ∧ t = .int .i64 i ∧ Below w1.heap.size w1 W ∧
        ((i ≤ n ∧ dn = .bool false ∧ Owned W w1.heap.size 33 true 26 u (prs (l.take i))) ∨ (n < i ∧ dn = .bool true ∧ Owned W w1.heap.size 33 true 26 u (prs (l.take n ++ p :: (l.drop n).take (i - n)))))) (fun _ _ t _ => l.length - (intOf t).toNat)
    case atStart => exact ⟨0, _, Nat.zero_le _, rfl, rfl, Below.refl _ _, .inl ⟨Nat.zero_le _, rfl, Owned.nil⟩⟩
    case round =>
      obtain ⟨i, s, hi, rfl, rfl, hbx, hcase⟩ := hrel
      have hws := hbx.size
      have hbw : Below w.heap.size w wr := hbw1.trans (hbx.mono hbw1.size)
      have hwr : IntKind.i64.wrap ((i : Int) + 1) = i + 1 := IntWalk.i64_in _ (by omega)
      have him : ((i : Int) == -1) = false := by rw [beq_eq_false_iff_ne]; omega
      have KB := Lib.hid (K1.out.below hbx K1.out.lt)
      have d0 := (hbx.cell (p := ⟨w.heap.size, 0, none⟩) hl1).trans ((K1.out.rules.1 0).trans q0)
      by_cases hlt : i < l.length
      · obtain ⟨x, hx⟩ : ∃ x, l[i]? = some x := ⟨_, List.getElem?_eq_getElem hlt⟩
        obtain ⟨b, off, rfl, hb, hcx, -, -, -⟩ := Sl.pr HV.out hx
        have HC0 := Lib.hid hcx
        have c0 : wr.cell? ⟨b, off + i * 26, none⟩ = some (.int .i64 x.pid) := (hcx.below hbw hb) 0 _ (by rw [show (prV x).cells = prC x from rfl]; simpa using prC0 x)
        have hbl : b < wr.heap.size := Nat.lt_of_lt_of_le hb hbw.size
        have g0 := cell_rg c0 hbl
        have g1 := cell_rg d0 KB.out.lt
        have HX := Lib.hid hx
        clear hx hcx
        rcases hcase with ⟨hin, rfl, hown⟩ | ⟨hin, rfl, hown⟩
        · have HO := Lib.hid hown
          have htk : (l.take i).length = i := by simp; omega
          clear hown
          by_cases hnn : i < n
          · have hnp := HTA.out i x HX.out hnn
            have hd1 : decide (p.pid < x.pid) = false := by simpa using hnp
            have HT := Lib.hid (show prs (l.take (i + 1)) = prs (l.take i) ++ [prV x] by rw [take_step HX.out]; simp)
            clear hnp
            go_wp2_with fail
            ((refine wp_region_quiet_below (by kernel_rfl) (by kernel_rfl) ?_); (repeat (go_big_quiet_step (fail))); (refine wpQuiet_nil ?_); (intro _ hw'); (obtain ⟨⟨dq, osq⟩, hw''⟩ := hw'); (subst hw''); (have hb7 := below_regrown wr dq osq); (generalize Go.Sort.grow (redrawn wr dq) osq = w7 at *); (have hz7 := hb7.size))
            have HO7 := Lib.hid (HO.out.kept hb7)
            have hbx7 : Below w1.heap.size w1 w7 := hbx.trans (hb7.mono hws)
            have HC7 := Lib.hid (HC0.out.below (hbw.trans (hb7.mono hbw.size)) hb)
            clear g0 g1
            go_wp2_with (first | ((with_reducible refine at_ld 33 ?_); (refine wpList_load_val rfl 33 _ rfl b (off + i * 26) ?_ (prV x) ty_proc (pr_val x) HC7.out ?_; (focus (solve | simp [Act.eval, Act.put])))) | ((with_reducible refine at_bs 22 ?_); (refine wpList_build_one rfl 22 _ rfl ty_proc (by decide) i0 (.agg #[.int .i64 0, .int .i64 0, .int .i64 0, .int .u32 0, .int .u32 0, .int .u32 0, .int .u32 0, .int .u32 0, .int .u32 0, .int .u32 0, .int .u32 0, .int .u32 0, .string ⟨#[]⟩, .int .i64 0, .int .i64 0, .bool false, .int .i64 0, .bool false, .int .i64 0, .bool false, .int .i64 0, .bool false, .int .u32 0, .int .u32 0, .int .u32 0, .int .u32 0]) Try.underlying22 HI.out.1 HI.out.2.1 HI.out.2.2.1 (prV x) ?_ (pr_val x) ?_; (focus (solve | simp [Act.eval, Act.put])))) | ((with_reducible refine at_app ?_); (refine wpList_append_sl (v := s) (xs := prs (l.take i)) (base := w1.heap.size) rfl _ _ 22 rfl ty_proc i0 (.agg #[.int .i64 0, .int .i64 0, .int .i64 0, .int .u32 0, .int .u32 0, .int .u32 0, .int .u32 0, .int .u32 0, .int .u32 0, .int .u32 0, .int .u32 0, .int .u32 0, .string ⟨#[]⟩, .int .i64 0, .int .i64 0, .bool false, .int .i64 0, .bool false, .int .i64 0, .bool false, .int .i64 0, .bool false, .int .u32 0, .int .u32 0, .int .u32 0, .int .u32 0]) 168 Try.underlying22 HI.out.1 HI.out.2.1 HI.out.2.2.1 HI.out.2.2.2 rfl ?_ ?_ (.slice (some ⟨w7.heap.size, 0, none⟩) 1 1) ([prV x]) ?_ ?_ ?_ ?_ ?_ ?_; (focus (solve | simp [Act.eval, Act.put])); (focus (exact (HO7.out.kept (by (repeat (first | with_reducible assumption | with_reducible exact Below.refl _ _ | with_reducible refine Below.setCell ?_ ?_ _ | with_reducible refine Below.alloc ?_ ?_ _ | with_reducible refine below_drewN' ?_ _ | with_reducible refine Below.drew ?_ | with_reducible refine Below.trans ?_ (Below.mono (by assumption) ?_) | omega | (dsimp only; omega) | (simp only [drew_heap', drewN_heap', World.size_alloc, World.size_setCell]; omega) | (solve | simp) | (solve | (simp; omega)))))))); (focus (solve | simp [Act.eval, Act.put])); (focus (exact (Sl.made1 (pr_val x) rfl))); (focus (first | (simp [maxLen]; omega) | (solve | simp [maxLen]))); (focus (first | (simp; omega) | (solve | simp))); (focus (first | omega | (simp only [World.size_alloc, World.size_setCell]; omega))); (intro v4 w4 ho4 hg4 hf4; (have hb4 : Below w1.heap.size w1 w4 := (HO7.out.kept (by (repeat (first | with_reducible assumption | with_reducible exact Below.refl _ _ | with_reducible refine Below.setCell ?_ ?_ _ | with_reducible refine Below.alloc ?_ ?_ _ | with_reducible refine below_drewN' ?_ _ | with_reducible refine Below.drew ?_ | with_reducible refine Below.trans ?_ (Below.mono (by assumption) ?_) | omega | (dsimp only; omega) | (simp only [drew_heap', drewN_heap', World.size_alloc, World.size_setCell]; omega) | (solve | simp) | (solve | (simp; omega)))))).below hg4 (by (repeat (first | with_reducible assumption | with_reducible exact Below.refl _ _ | with_reducible refine Below.setCell ?_ ?_ _ | with_reducible refine Below.alloc ?_ ?_ _ | with_reducible refine below_drewN' ?_ _ | with_reducible refine Below.drew ?_ | with_reducible refine Below.trans ?_ (Below.mono (by assumption) ?_) | omega | (dsimp only; omega) | (simp only [drew_heap', drewN_heap', World.size_alloc, World.size_setCell]; omega) | (solve | simp) | (solve | (simp; omega))))) (Nat.le_refl _) (by simp only [World.size_alloc]; omega)); (have HO4 := Lib.hid ho4); (clear ho4 hg4 hf4)))) | fail)
            go_roundw
            case rel => exact ⟨i + 1, _, by omega, rfl, by go_num, hb4, .inl ⟨by omega, rfl, by rw [HT.out]; exact HO4.out⟩⟩
            case measure => simp [intOf]; omega
          · obtain rfl : i = n := by omega
            have hnp := HTS.out x HX.out
            have hd1 : decide (p.pid < x.pid) = true := by simpa using hnp
            have HT := Lib.hid (show prs (l.take i ++ p :: (l.drop i).take (i + 1 - i)) = prs (l.take i) ++ [prV p] ++ [prV x] by
              rw [show i + 1 - i = 0 + 1 by omega, take_step (x := x) (by rw [List.getElem?_drop]; exact HX.out)]; simp)
            clear hnp
            go_wp2_with fail
            ((refine wp_region_quiet_below (by kernel_rfl) (by kernel_rfl) ?_); (repeat (go_big_quiet_step (fail))); (refine wpQuiet_nil ?_); (intro _ hw'); (obtain ⟨⟨dq, osq⟩, hw''⟩ := hw'); (subst hw''); (have hb7 := below_regrown wr dq osq); (generalize Go.Sort.grow (redrawn wr dq) osq = w7 at *); (have hz7 := hb7.size))
            have HO7 := Lib.hid (HO.out.kept hb7)
            have hbx7 : Below w1.heap.size w1 w7 := hbx.trans (hb7.mono hws)
            have hbw7 : Below w.heap.size w w7 := hbw.trans (hb7.mono hbw.size)
            have KB7 := Lib.hid (KB.out.below hb7 KB.out.lt)
            clear g0 g1
            go_wp2_with (first | ((with_reducible refine at_dst (some 34) ?_); (refine wpList_load_boxG 33 _ rfl (prC p) ty_proc (pr_val p) KB7.out ?_ ?_ ?_; (focus (solve | simp [Act.eval, Act.put])); (focus rfl))) | ((with_reducible refine at_ld 33 ?_); (refine wpList_load_val rfl 33 _ rfl b (off + i * 26) ?_ (prV x) ty_proc (pr_val x) HC4.out ?_; (focus (solve | simp [Act.eval, Act.put])))) | ((with_reducible refine at_bs 22 ?_); (refine wpList_build_one rfl 22 _ rfl ty_proc (by decide) i0 (.agg #[.int .i64 0, .int .i64 0, .int .i64 0, .int .u32 0, .int .u32 0, .int .u32 0, .int .u32 0, .int .u32 0, .int .u32 0, .int .u32 0, .int .u32 0, .int .u32 0, .string ⟨#[]⟩, .int .i64 0, .int .i64 0, .bool false, .int .i64 0, .bool false, .int .i64 0, .bool false, .int .i64 0, .bool false, .int .u32 0, .int .u32 0, .int .u32 0, .int .u32 0]) Try.underlying22 HI.out.1 HI.out.2.1 HI.out.2.2.1 (prV p) ?_ (pr_val p) ?_; (focus (solve | simp [Act.eval, Act.put])))) | ((with_reducible refine at_bs 22 ?_); (refine wpList_build_one rfl 22 _ rfl ty_proc (by decide) i0 (.agg #[.int .i64 0, .int .i64 0, .int .i64 0, .int .u32 0, .int .u32 0, .int .u32 0, .int .u32 0, .int .u32 0, .int .u32 0, .int .u32 0, .int .u32 0, .int .u32 0, .string ⟨#[]⟩, .int .i64 0, .int .i64 0, .bool false, .int .i64 0, .bool false, .int .i64 0, .bool false, .int .i64 0, .bool false, .int .u32 0, .int .u32 0, .int .u32 0, .int .u32 0]) Try.underlying22 HI.out.1 HI.out.2.1 HI.out.2.2.1 (prV x) ?_ (pr_val x) ?_; (focus (solve | simp [Act.eval, Act.put])))) | ((with_reducible refine at_app ?_); (refine wpList_append_sl (v := s) (xs := prs (l.take i)) (base := w1.heap.size) rfl _ _ 22 rfl ty_proc i0 (.agg #[.int .i64 0, .int .i64 0, .int .i64 0, .int .u32 0, .int .u32 0, .int .u32 0, .int .u32 0, .int .u32 0, .int .u32 0, .int .u32 0, .int .u32 0, .int .u32 0, .string ⟨#[]⟩, .int .i64 0, .int .i64 0, .bool false, .int .i64 0, .bool false, .int .i64 0, .bool false, .int .i64 0, .bool false, .int .u32 0, .int .u32 0, .int .u32 0, .int .u32 0]) 168 Try.underlying22 HI.out.1 HI.out.2.1 HI.out.2.2.1 HI.out.2.2.2 rfl ?_ ?_ (.slice (some ⟨w7.heap.size, 0, none⟩) 1 1) ([prV p]) ?_ ?_ ?_ ?_ ?_ ?_; (focus (solve | simp [Act.eval, Act.put])); (focus (exact (HO7.out.kept (by (repeat (first | with_reducible assumption | with_reducible exact Below.refl _ _ | with_reducible refine Below.setCell ?_ ?_ _ | with_reducible refine Below.alloc ?_ ?_ _ | with_reducible refine below_drewN' ?_ _ | with_reducible refine Below.drew ?_ | with_reducible refine Below.trans ?_ (Below.mono (by assumption) ?_) | omega | (dsimp only; omega) | (simp only [drew_heap', drewN_heap', World.size_alloc, World.size_setCell]; omega) | (solve | simp) | (solve | (simp; omega)))))))); (focus (solve | simp [Act.eval, Act.put])); (focus (exact (Sl.made1 (pr_val p) rfl))); (focus (first | (simp [maxLen]; omega) | (solve | simp [maxLen]))); (focus (first | (simp; omega) | (solve | simp))); (focus (first | omega | (simp only [World.size_alloc, World.size_setCell]; omega))); (intro v4 w4 ho4 hg4 hf4; (have hb4 : Below w1.heap.size w1 w4 := (HO7.out.kept (by (repeat (first | with_reducible assumption | with_reducible exact Below.refl _ _ | with_reducible refine Below.setCell ?_ ?_ _ | with_reducible refine Below.alloc ?_ ?_ _ | with_reducible refine below_drewN' ?_ _ | with_reducible refine Below.drew ?_ | with_reducible refine Below.trans ?_ (Below.mono (by assumption) ?_) | omega | (dsimp only; omega) | (simp only [drew_heap', drewN_heap', World.size_alloc, World.size_setCell]; omega) | (solve | simp) | (solve | (simp; omega)))))).below hg4 (by (repeat (first | with_reducible assumption | with_reducible exact Below.refl _ _ | with_reducible refine Below.setCell ?_ ?_ _ | with_reducible refine Below.alloc ?_ ?_ _ | with_reducible refine below_drewN' ?_ _ | with_reducible refine Below.drew ?_ | with_reducible refine Below.trans ?_ (Below.mono (by assumption) ?_) | omega | (dsimp only; omega) | (simp only [drew_heap', drewN_heap', World.size_alloc, World.size_setCell]; omega) | (solve | simp) | (solve | (simp; omega))))) (Nat.le_refl _) (by simp only [World.size_alloc]; omega)); (have HO4 := Lib.hid ho4); (have HC4 := Lib.hid (HC0.out.below (hbw1.trans (hb4.mono hbw1.size)) hb)); (have hz4 := hb4.size); (obtain ⟨zs, hzs, hzl⟩ : ∃ zs, zs = prs (l.take i) ++ [prV p] ∧ zs.length ≤ i + 1 := ⟨_, rfl, (by rw [List.length_append, prs_len, htk]; exact Nat.le_refl _)⟩); (rw [← hzs] at HO4); (have HZS := Lib.hid hzs); (clear hzs); (clear ho4 hg4 hf4)))) | ((with_reducible refine at_app ?_); (refine wpList_append_sl (v := v4) (xs := zs) (base := w1.heap.size) rfl _ _ 22 rfl ty_proc i0 (.agg #[.int .i64 0, .int .i64 0, .int .i64 0, .int .u32 0, .int .u32 0, .int .u32 0, .int .u32 0, .int .u32 0, .int .u32 0, .int .u32 0, .int .u32 0, .int .u32 0, .string ⟨#[]⟩, .int .i64 0, .int .i64 0, .bool false, .int .i64 0, .bool false, .int .i64 0, .bool false, .int .i64 0, .bool false, .int .u32 0, .int .u32 0, .int .u32 0, .int .u32 0]) 168 Try.underlying22 HI.out.1 HI.out.2.1 HI.out.2.2.1 HI.out.2.2.2 rfl ?_ ?_ (.slice (some ⟨w4.heap.size, 0, none⟩) 1 1) ([prV x]) ?_ ?_ ?_ ?_ ?_ ?_; (focus (solve | simp [Act.eval, Act.put])); (focus (exact (HO4.out.kept (by (repeat (first | with_reducible assumption | with_reducible exact Below.refl _ _ | with_reducible refine Below.setCell ?_ ?_ _ | with_reducible refine Below.alloc ?_ ?_ _ | with_reducible refine below_drewN' ?_ _ | with_reducible refine Below.drew ?_ | with_reducible refine Below.trans ?_ (Below.mono (by assumption) ?_) | omega | (dsimp only; omega) | (simp only [drew_heap', drewN_heap', World.size_alloc, World.size_setCell]; omega) | (solve | simp) | (solve | (simp; omega)))))))); (focus (solve | simp [Act.eval, Act.put])); (focus (exact (Sl.made1 (pr_val x) rfl))); (focus (first | (simp [maxLen]; omega) | (solve | simp [maxLen]))); (focus (first | (simp; omega) | (solve | simp))); (focus (first | omega | (simp only [World.size_alloc, World.size_setCell]; omega))); (intro v5 w5 ho5 hg5 hf5; (have hb5 : Below w1.heap.size w1 w5 := (HO4.out.kept (by (repeat (first | with_reducible assumption | with_reducible exact Below.refl _ _ | with_reducible refine Below.setCell ?_ ?_ _ | with_reducible refine Below.alloc ?_ ?_ _ | with_reducible refine below_drewN' ?_ _ | with_reducible refine Below.drew ?_ | with_reducible refine Below.trans ?_ (Below.mono (by assumption) ?_) | omega | (dsimp only; omega) | (simp only [drew_heap', drewN_heap', World.size_alloc, World.size_setCell]; omega) | (solve | simp) | (solve | (simp; omega)))))).below hg5 (by (repeat (first | with_reducible assumption | with_reducible exact Below.refl _ _ | with_reducible refine Below.setCell ?_ ?_ _ | with_reducible refine Below.alloc ?_ ?_ _ | with_reducible refine below_drewN' ?_ _ | with_reducible refine Below.drew ?_ | with_reducible refine Below.trans ?_ (Below.mono (by assumption) ?_) | omega | (dsimp only; omega) | (simp only [drew_heap', drewN_heap', World.size_alloc, World.size_setCell]; omega) | (solve | simp) | (solve | (simp; omega))))) (Nat.le_refl _) (by simp only [World.size_alloc]; omega)); (have HO5 := Lib.hid ho5); (clear ho5 hg5 hf5)))) | fail)
            go_roundw
            case rel => exact ⟨i + 1, _, by omega, rfl, by go_num, hb5, .inr ⟨by omega, rfl, by rw [HT.out, ← HZS.out]; exact HO5.out⟩⟩
            case measure => simp [intOf]; omega
        · have HO := Lib.hid hown
          have htk : (l.take n ++ p :: (l.drop n).take (i - n)).length = i + 1 := by simp; omega
          have HT := Lib.hid (show prs (l.take n ++ p :: (l.drop n).take (i + 1 - n)) = prs (l.take n ++ p :: (l.drop n).take (i - n)) ++ [prV x] by
            rw [show i + 1 - n = (i - n) + 1 by omega, take_step (x := x) (by rw [List.getElem?_drop, show n + (i - n) = i by omega]; exact HX.out)]; simp)
          clear hown
          generalize l.take n ++ p :: (l.drop n).take (i - n) = out at *
          go_wp2_with fail
          ((refine wp_region_quiet_below (by kernel_rfl) (by kernel_rfl) ?_); (repeat (go_big_quiet_step (fail))); (refine wpQuiet_nil ?_); (intro _ hw'); (obtain ⟨⟨dq, osq⟩, hw''⟩ := hw'); (subst hw''); (have hb7 := below_regrown wr dq osq); (generalize Go.Sort.grow (redrawn wr dq) osq = w7 at *); (have hz7 := hb7.size))
          have HO7 := Lib.hid (HO.out.kept hb7)
          have hbx7 : Below w1.heap.size w1 w7 := hbx.trans (hb7.mono hws)
          have HC7 := Lib.hid (HC0.out.below (hbw.trans (hb7.mono hbw.size)) hb)
          clear g0 g1
          go_wp2_with (first | ((with_reducible refine at_ld 33 ?_); (refine wpList_load_val rfl 33 _ rfl b (off + i * 26) ?_ (prV x) ty_proc (pr_val x) HC7.out ?_; (focus (solve | simp [Act.eval, Act.put])))) | ((with_reducible refine at_bs 22 ?_); (refine wpList_build_one rfl 22 _ rfl ty_proc (by decide) i0 (.agg #[.int .i64 0, .int .i64 0, .int .i64 0, .int .u32 0, .int .u32 0, .int .u32 0, .int .u32 0, .int .u32 0, .int .u32 0, .int .u32 0, .int .u32 0, .int .u32 0, .string ⟨#[]⟩, .int .i64 0, .int .i64 0, .bool false, .int .i64 0, .bool false, .int .i64 0, .bool false, .int .i64 0, .bool false, .int .u32 0, .int .u32 0, .int .u32 0, .int .u32 0]) Try.underlying22 HI.out.1 HI.out.2.1 HI.out.2.2.1 (prV x) ?_ (pr_val x) ?_; (focus (solve | simp [Act.eval, Act.put])))) | ((with_reducible refine at_app ?_); (refine wpList_append_sl (v := s) (xs := prs out) (base := w1.heap.size) rfl _ _ 22 rfl ty_proc i0 (.agg #[.int .i64 0, .int .i64 0, .int .i64 0, .int .u32 0, .int .u32 0, .int .u32 0, .int .u32 0, .int .u32 0, .int .u32 0, .int .u32 0, .int .u32 0, .int .u32 0, .string ⟨#[]⟩, .int .i64 0, .int .i64 0, .bool false, .int .i64 0, .bool false, .int .i64 0, .bool false, .int .i64 0, .bool false, .int .u32 0, .int .u32 0, .int .u32 0, .int .u32 0]) 168 Try.underlying22 HI.out.1 HI.out.2.1 HI.out.2.2.1 HI.out.2.2.2 rfl ?_ ?_ (.slice (some ⟨w7.heap.size, 0, none⟩) 1 1) ([prV x]) ?_ ?_ ?_ ?_ ?_ ?_; (focus (solve | simp [Act.eval, Act.put])); (focus (exact (HO7.out.kept (by (repeat (first | with_reducible assumption | with_reducible exact Below.refl _ _ | with_reducible refine Below.setCell ?_ ?_ _ | with_reducible refine Below.alloc ?_ ?_ _ | with_reducible refine below_drewN' ?_ _ | with_reducible refine Below.drew ?_ | with_reducible refine Below.trans ?_ (Below.mono (by assumption) ?_) | omega | (dsimp only; omega) | (simp only [drew_heap', drewN_heap', World.size_alloc, World.size_setCell]; omega) | (solve | simp) | (solve | (simp; omega)))))))); (focus (solve | simp [Act.eval, Act.put])); (focus (exact (Sl.made1 (pr_val x) rfl))); (focus (first | (simp [maxLen]; omega) | (solve | simp [maxLen]))); (focus (first | (simp; omega) | (solve | simp))); (focus (first | omega | (simp only [World.size_alloc, World.size_setCell]; omega))); (intro v4 w4 ho4 hg4 hf4; (have hb4 : Below w1.heap.size w1 w4 := (HO7.out.kept (by (repeat (first | with_reducible assumption | with_reducible exact Below.refl _ _ | with_reducible refine Below.setCell ?_ ?_ _ | with_reducible refine Below.alloc ?_ ?_ _ | with_reducible refine below_drewN' ?_ _ | with_reducible refine Below.drew ?_ | with_reducible refine Below.trans ?_ (Below.mono (by assumption) ?_) | omega | (dsimp only; omega) | (simp only [drew_heap', drewN_heap', World.size_alloc, World.size_setCell]; omega) | (solve | simp) | (solve | (simp; omega)))))).below hg4 (by (repeat (first | with_reducible assumption | with_reducible exact Below.refl _ _ | with_reducible refine Below.setCell ?_ ?_ _ | with_reducible refine Below.alloc ?_ ?_ _ | with_reducible refine below_drewN' ?_ _ | with_reducible refine Below.drew ?_ | with_reducible refine Below.trans ?_ (Below.mono (by assumption) ?_) | omega | (dsimp only; omega) | (simp only [drew_heap', drewN_heap', World.size_alloc, World.size_setCell]; omega) | (solve | simp) | (solve | (simp; omega))))) (Nat.le_refl _) (by simp only [World.size_alloc]; omega)); (have HO4 := Lib.hid ho4); (clear ho4 hg4 hf4)))) | fail)
          go_roundw
          case rel => exact ⟨i + 1, _, by omega, rfl, by go_num, hb4, .inr ⟨by omega, rfl, by rw [HT.out]; exact HO4.out⟩⟩
          case measure => simp [intOf]; omega
      · obtain rfl : i = l.length := by omega
        rcases hcase with ⟨hin, rfl, hown⟩ | ⟨hin, rfl, hown⟩
        · obtain rfl : n = l.length := by omega
          rw [List.take_length] at hown
          have HO := Lib.hid hown
          clear hown
          go_wp2_with (first | ((with_reducible refine at_dst (some 54) ?_); (refine wpList_load_boxG 33 _ rfl (prC p) ty_proc (pr_val p) KB.out ?_ ?_ ?_; (focus (solve | simp [Act.eval, Act.put])); (focus rfl))) | ((with_reducible refine at_bs 22 ?_); (refine wpList_build_one rfl 22 _ rfl ty_proc (by decide) i0 (.agg #[.int .i64 0, .int .i64 0, .int .i64 0, .int .u32 0, .int .u32 0, .int .u32 0, .int .u32 0, .int .u32 0, .int .u32 0, .int .u32 0, .int .u32 0, .int .u32 0, .string ⟨#[]⟩, .int .i64 0, .int .i64 0, .bool false, .int .i64 0, .bool false, .int .i64 0, .bool false, .int .i64 0, .bool false, .int .u32 0, .int .u32 0, .int .u32 0, .int .u32 0]) Try.underlying22 HI.out.1 HI.out.2.1 HI.out.2.2.1 (prV p) ?_ (pr_val p) ?_; (focus (solve | simp [Act.eval, Act.put])))) | ((with_reducible refine at_app ?_); (refine wpList_append_sl (v := s) (xs := prs l) (base := w1.heap.size) rfl _ _ 22 rfl ty_proc i0 (.agg #[.int .i64 0, .int .i64 0, .int .i64 0, .int .u32 0, .int .u32 0, .int .u32 0, .int .u32 0, .int .u32 0, .int .u32 0, .int .u32 0, .int .u32 0, .int .u32 0, .string ⟨#[]⟩, .int .i64 0, .int .i64 0, .bool false, .int .i64 0, .bool false, .int .i64 0, .bool false, .int .i64 0, .bool false, .int .u32 0, .int .u32 0, .int .u32 0, .int .u32 0]) 168 Try.underlying22 HI.out.1 HI.out.2.1 HI.out.2.2.1 HI.out.2.2.2 rfl ?_ ?_ (.slice (some ⟨wr.heap.size, 0, none⟩) 1 1) ([prV p]) ?_ ?_ ?_ ?_ ?_ ?_; (focus (solve | simp [Act.eval, Act.put])); (focus (exact (HO.out.kept (by (repeat (first | with_reducible assumption | with_reducible exact Below.refl _ _ | with_reducible refine Below.setCell ?_ ?_ _ | with_reducible refine Below.alloc ?_ ?_ _ | with_reducible refine below_drewN' ?_ _ | with_reducible refine Below.drew ?_ | with_reducible refine Below.trans ?_ (Below.mono (by assumption) ?_) | omega | (dsimp only; omega) | (simp only [drew_heap', drewN_heap', World.size_alloc, World.size_setCell]; omega) | (solve | simp) | (solve | (simp; omega)))))))); (focus (solve | simp [Act.eval, Act.put])); (focus (exact (Sl.made1 (pr_val p) rfl))); (focus (first | (simp [maxLen]; omega) | (solve | simp [maxLen]))); (focus (first | (simp; omega) | (solve | simp))); (focus (first | omega | (simp only [World.size_alloc, World.size_setCell]; omega))); (intro v4 w4 ho4 hg4 hf4; (have hb4 : Below w1.heap.size w1 w4 := (HO.out.kept (by (repeat (first | with_reducible assumption | with_reducible exact Below.refl _ _ | with_reducible refine Below.setCell ?_ ?_ _ | with_reducible refine Below.alloc ?_ ?_ _ | with_reducible refine below_drewN' ?_ _ | with_reducible refine Below.drew ?_ | with_reducible refine Below.trans ?_ (Below.mono (by assumption) ?_) | omega | (dsimp only; omega) | (simp only [drew_heap', drewN_heap', World.size_alloc, World.size_setCell]; omega) | (solve | simp) | (solve | (simp; omega)))))).below hg4 (by (repeat (first | with_reducible assumption | with_reducible exact Below.refl _ _ | with_reducible refine Below.setCell ?_ ?_ _ | with_reducible refine Below.alloc ?_ ?_ _ | with_reducible refine below_drewN' ?_ _ | with_reducible refine Below.drew ?_ | with_reducible refine Below.trans ?_ (Below.mono (by assumption) ?_) | omega | (dsimp only; omega) | (simp only [drew_heap', drewN_heap', World.size_alloc, World.size_setCell]; omega) | (solve | simp) | (solve | (simp; omega))))) (Nat.le_refl _) (by simp only [World.size_alloc]; omega)); (have HO4 := Lib.hid ho4); (clear ho4 hg4 hf4)))) | fail)
          go_ret
          refine ⟨_, rfl, ?_, hbw1.trans (hb4.mono hbw1.size)⟩
          have h := HO4.out.sl
          rw [HP.out, List.take_length, List.drop_length]
          simpa using h
        · have HO := Lib.hid hown
          clear hown
          go_wp2_with fail
          go_ret
          refine ⟨_, rfl, ?_, hbw⟩
          have h := HO.out.sl
          rw [List.take_of_length_le (l := l.drop n) (i := l.length - n) (by rw [List.length_drop]; exact Nat.le_refl _), ← HP.out] at h
          exact h
  · rw [hi] at HA
    have HP := Lib.hid (putS_some hx0 hp0 hno)
    have hk := (List.getElem?_eq_some_iff.1 hx0).1
    clear hi hno hx0 hp0
    have hk0 : ¬ (k : Int) < 0 := by omega
    go_enter Try.func24, Try.ntmps24
    go_wp2_with fail
    have hb0 := Box.new w (prC p) 33
    with_reducible refine (HA.out _ (HV.out.below ?_)).mono ?_
    focus (repeat (first | with_reducible assumption | with_reducible exact Below.refl _ _ | with_reducible refine Below.setCell ?_ ?_ _ | with_reducible refine Below.alloc ?_ ?_ _ | with_reducible refine below_drewN' ?_ _ | with_reducible refine Below.drew ?_ | with_reducible refine Below.trans ?_ (Below.mono (by assumption) ?_) | omega | (dsimp only; omega) | (simp only [drew_heap', drewN_heap', World.size_alloc, World.size_setCell]; omega) | (solve | simp) | (solve | (simp; omega))))
    rintro e w1 ⟨rfl, hb1⟩
    have hz1 := hb1.size
    simp only [World.size_alloc] at hz1
    (have b1 : Box w1 w.heap.size (prC p) 33 := (by (try have k1 := (Lib.hid hb0).out); ((apply Box.cast); (repeat (first | with_reducible assumption | ((with_reducible apply Box.new1); (first | with_reducible rfl | rfl | (solve | simp))) | with_reducible apply Box.drewN | with_reducible apply Box.drew | with_reducible apply Box.set | with_reducible apply Box.other | with_reducible apply Box.alloc | (with_reducible apply Box.below; rotate_left; with_reducible assumption; rotate_right) | with_reducible rfl | omega | (dsimp only; omega) | (simp only [drew_heap', drewN_heap', World.size_alloc, World.size_setCell]; omega) | rfl | (solve | simp) | (solve | (simp; omega))))))); (obtain ⟨hc1, hf1, hl1, hn1, hm1⟩ := b1.rules); (have K1 := Lib.hid b1); (clear b1)
    have hbw1 : Below w.heap.size w w1 := by (repeat (first | with_reducible assumption | with_reducible exact Below.refl _ _ | with_reducible refine Below.setCell ?_ ?_ _ | with_reducible refine Below.alloc ?_ ?_ _ | with_reducible refine below_drewN' ?_ _ | with_reducible refine Below.drew ?_ | with_reducible refine Below.trans ?_ (Below.mono (by assumption) ?_) | omega | (dsimp only; omega) | (simp only [drew_heap', drewN_heap', World.size_alloc, World.size_setCell]; omega) | (solve | simp) | (solve | (simp; omega))))
    clear hb0 hb1 hc1 hf1 hn1 hm1
    go_wp2_with fail
    go_loopw [6, 7, 8] (fun u dn t W => ∃ (i : Nat) (s : Value), i ≤ l.length ∧ s = u ∧ dn = .bool true ∧ t = .int .i64 i ∧ Below w1.heap.size w1 W ∧ Owned W w1.heap.size 33 true 26 u (prs ((l.set k p).take i))) (fun _ _ t _ => l.length - (intOf t).toNat)
    case atStart => exact ⟨0, _, Nat.zero_le _, rfl, rfl, rfl, Below.refl _ _, Owned.nil⟩
    case round =>
      obtain ⟨i, s, hi, rfl, rfl, rfl, hbx, hown⟩ := hrel
      have hws := hbx.size
      have hbw : Below w.heap.size w wr := hbw1.trans (hbx.mono hbw1.size)
      have hwr : IntKind.i64.wrap ((i : Int) + 1) = i + 1 := IntWalk.i64_in _ (by omega)
      have KB := Lib.hid (K1.out.below hbx K1.out.lt)
      have HO := Lib.hid hown
      have htk : ((l.set k p).take i).length = i := by simp; omega
      clear hown
      by_cases hlt : i < l.length
      · obtain ⟨x, hx⟩ : ∃ x, l[i]? = some x := ⟨_, List.getElem?_eq_getElem hlt⟩
        obtain ⟨b, off, rfl, hb, hcx, -, -, -⟩ := Sl.pr HV.out hx
        have HC0 := Lib.hid hcx
        have HX := Lib.hid hx
        clear hx hcx
        by_cases hik : i = k
        · have HT := Lib.hid (show prs ((l.set k p).take (i + 1)) = prs ((l.set k p).take i) ++ [prV p] by
            rw [take_step (x := p) (by rw [List.getElem?_set]; simp [hik, hk])]; simp)
          have hikb : ((i : Int) == (k : Int)) = true := by rw [hik]; simp
          clear hik
          generalize (l.set k p).take i = out at *
          go_wp2_with fail
          ((refine wp_region_quiet_below (by kernel_rfl) (by kernel_rfl) ?_); (repeat (go_big_quiet_step (fail))); (refine wpQuiet_nil ?_); (intro _ hw'); (obtain ⟨⟨dq, osq⟩, hw''⟩ := hw'); (subst hw''); (have hb7 := below_regrown wr dq osq); (generalize Go.Sort.grow (redrawn wr dq) osq = w7 at *); (have hz7 := hb7.size))
          have HO7 := Lib.hid (HO.out.kept hb7)
          have hbx7 : Below w1.heap.size w1 w7 := hbx.trans (hb7.mono hws)
          have KB7 := Lib.hid (KB.out.below hb7 KB.out.lt)
          go_wp2_with (first | ((with_reducible refine at_dst (some 41) ?_); (refine wpList_load_boxG 33 _ rfl (prC p) ty_proc (pr_val p) KB7.out ?_ ?_ ?_; (focus (solve | simp [Act.eval, Act.put])); (focus rfl))) | ((with_reducible refine at_bs 22 ?_); (refine wpList_build_one rfl 22 _ rfl ty_proc (by decide) i0 (.agg #[.int .i64 0, .int .i64 0, .int .i64 0, .int .u32 0, .int .u32 0, .int .u32 0, .int .u32 0, .int .u32 0, .int .u32 0, .int .u32 0, .int .u32 0, .int .u32 0, .string ⟨#[]⟩, .int .i64 0, .int .i64 0, .bool false, .int .i64 0, .bool false, .int .i64 0, .bool false, .int .i64 0, .bool false, .int .u32 0, .int .u32 0, .int .u32 0, .int .u32 0]) Try.underlying22 HI.out.1 HI.out.2.1 HI.out.2.2.1 (prV p) ?_ (pr_val p) ?_; (focus (solve | simp [Act.eval, Act.put])))) | ((with_reducible refine at_app ?_); (refine wpList_append_sl (v := s) (xs := prs out) (base := w1.heap.size) rfl _ _ 22 rfl ty_proc i0 (.agg #[.int .i64 0, .int .i64 0, .int .i64 0, .int .u32 0, .int .u32 0, .int .u32 0, .int .u32 0, .int .u32 0, .int .u32 0, .int .u32 0, .int .u32 0, .int .u32 0, .string ⟨#[]⟩, .int .i64 0, .int .i64 0, .bool false, .int .i64 0, .bool false, .int .i64 0, .bool false, .int .i64 0, .bool false, .int .u32 0, .int .u32 0, .int .u32 0, .int .u32 0]) 168 Try.underlying22 HI.out.1 HI.out.2.1 HI.out.2.2.1 HI.out.2.2.2 rfl ?_ ?_ (.slice (some ⟨w7.heap.size, 0, none⟩) 1 1) ([prV p]) ?_ ?_ ?_ ?_ ?_ ?_; (focus (solve | simp [Act.eval, Act.put])); (focus (exact (HO7.out.kept (by (repeat (first | with_reducible assumption | with_reducible exact Below.refl _ _ | with_reducible refine Below.setCell ?_ ?_ _ | with_reducible refine Below.alloc ?_ ?_ _ | with_reducible refine below_drewN' ?_ _ | with_reducible refine Below.drew ?_ | with_reducible refine Below.trans ?_ (Below.mono (by assumption) ?_) | omega | (dsimp only; omega) | (simp only [drew_heap', drewN_heap', World.size_alloc, World.size_setCell]; omega) | (solve | simp) | (solve | (simp; omega)))))))); (focus (solve | simp [Act.eval, Act.put])); (focus (exact (Sl.made1 (pr_val p) rfl))); (focus (first | (simp [maxLen]; omega) | (solve | simp [maxLen]))); (focus (first | (simp; omega) | (solve | simp))); (focus (first | omega | (simp only [World.size_alloc, World.size_setCell]; omega))); (intro v4 w4 ho4 hg4 hf4; (have hb4 : Below w1.heap.size w1 w4 := (HO7.out.kept (by (repeat (first | with_reducible assumption | with_reducible exact Below.refl _ _ | with_reducible refine Below.setCell ?_ ?_ _ | with_reducible refine Below.alloc ?_ ?_ _ | with_reducible refine below_drewN' ?_ _ | with_reducible refine Below.drew ?_ | with_reducible refine Below.trans ?_ (Below.mono (by assumption) ?_) | omega | (dsimp only; omega) | (simp only [drew_heap', drewN_heap', World.size_alloc, World.size_setCell]; omega) | (solve | simp) | (solve | (simp; omega)))))).below hg4 (by (repeat (first | with_reducible assumption | with_reducible exact Below.refl _ _ | with_reducible refine Below.setCell ?_ ?_ _ | with_reducible refine Below.alloc ?_ ?_ _ | with_reducible refine below_drewN' ?_ _ | with_reducible refine Below.drew ?_ | with_reducible refine Below.trans ?_ (Below.mono (by assumption) ?_) | omega | (dsimp only; omega) | (simp only [drew_heap', drewN_heap', World.size_alloc, World.size_setCell]; omega) | (solve | simp) | (solve | (simp; omega))))) (Nat.le_refl _) (by simp only [World.size_alloc]; omega)); (have HO4 := Lib.hid ho4); (clear ho4 hg4 hf4)))) | fail)
          go_roundw
          case rel => exact ⟨i + 1, _, by omega, rfl, rfl, by go_num, hb4, by rw [HT.out]; exact HO4.out⟩
          case measure => simp [intOf]; omega
        · have HT := Lib.hid (show prs ((l.set k p).take (i + 1)) = prs ((l.set k p).take i) ++ [prV x] by
            rw [take_step (x := x) (by rw [List.getElem?_set_ne (by omega)]; exact HX.out)]; simp)
          have hikb : ((i : Int) == (k : Int)) = false := by rw [beq_eq_false_iff_ne]; omega
          clear hik
          generalize (l.set k p).take i = out at *
          go_wp2_with fail
          ((refine wp_region_quiet_below (by kernel_rfl) (by kernel_rfl) ?_); (repeat (go_big_quiet_step (fail))); (refine wpQuiet_nil ?_); (intro _ hw'); (obtain ⟨⟨dq, osq⟩, hw''⟩ := hw'); (subst hw''); (have hb7 := below_regrown wr dq osq); (generalize Go.Sort.grow (redrawn wr dq) osq = w7 at *); (have hz7 := hb7.size))
          have HO7 := Lib.hid (HO.out.kept hb7)
          have hbx7 : Below w1.heap.size w1 w7 := hbx.trans (hb7.mono hws)
          have HC7 := Lib.hid (HC0.out.below (hbw.trans (hb7.mono hbw.size)) hb)
          go_wp2_with (first | ((with_reducible refine at_ld 33 ?_); (refine wpList_load_val rfl 33 _ rfl b (off + i * 26) ?_ (prV x) ty_proc (pr_val x) HC7.out ?_; (focus (solve | simp [Act.eval, Act.put])))) | ((with_reducible refine at_bs 22 ?_); (refine wpList_build_one rfl 22 _ rfl ty_proc (by decide) i0 (.agg #[.int .i64 0, .int .i64 0, .int .i64 0, .int .u32 0, .int .u32 0, .int .u32 0, .int .u32 0, .int .u32 0, .int .u32 0, .int .u32 0, .int .u32 0, .int .u32 0, .string ⟨#[]⟩, .int .i64 0, .int .i64 0, .bool false, .int .i64 0, .bool false, .int .i64 0, .bool false, .int .i64 0, .bool false, .int .u32 0, .int .u32 0, .int .u32 0, .int .u32 0]) Try.underlying22 HI.out.1 HI.out.2.1 HI.out.2.2.1 (prV x) ?_ (pr_val x) ?_; (focus (solve | simp [Act.eval, Act.put])))) | ((with_reducible refine at_app ?_); (refine wpList_append_sl (v := s) (xs := prs out) (base := w1.heap.size) rfl _ _ 22 rfl ty_proc i0 (.agg #[.int .i64 0, .int .i64 0, .int .i64 0, .int .u32 0, .int .u32 0, .int .u32 0, .int .u32 0, .int .u32 0, .int .u32 0, .int .u32 0, .int .u32 0, .int .u32 0, .string ⟨#[]⟩, .int .i64 0, .int .i64 0, .bool false, .int .i64 0, .bool false, .int .i64 0, .bool false, .int .i64 0, .bool false, .int .u32 0, .int .u32 0, .int .u32 0, .int .u32 0]) 168 Try.underlying22 HI.out.1 HI.out.2.1 HI.out.2.2.1 HI.out.2.2.2 rfl ?_ ?_ (.slice (some ⟨w7.heap.size, 0, none⟩) 1 1) ([prV x]) ?_ ?_ ?_ ?_ ?_ ?_; (focus (solve | simp [Act.eval, Act.put])); (focus (exact (HO7.out.kept (by (repeat (first | with_reducible assumption | with_reducible exact Below.refl _ _ | with_reducible refine Below.setCell ?_ ?_ _ | with_reducible refine Below.alloc ?_ ?_ _ | with_reducible refine below_drewN' ?_ _ | with_reducible refine Below.drew ?_ | with_reducible refine Below.trans ?_ (Below.mono (by assumption) ?_) | omega | (dsimp only; omega) | (simp only [drew_heap', drewN_heap', World.size_alloc, World.size_setCell]; omega) | (solve | simp) | (solve | (simp; omega)))))))); (focus (solve | simp [Act.eval, Act.put])); (focus (exact (Sl.made1 (pr_val x) rfl))); (focus (first | (simp [maxLen]; omega) | (solve | simp [maxLen]))); (focus (first | (simp; omega) | (solve | simp))); (focus (first | omega | (simp only [World.size_alloc, World.size_setCell]; omega))); (intro v4 w4 ho4 hg4 hf4; (have hb4 : Below w1.heap.size w1 w4 := (HO7.out.kept (by (repeat (first | with_reducible assumption | with_reducible exact Below.refl _ _ | with_reducible refine Below.setCell ?_ ?_ _ | with_reducible refine Below.alloc ?_ ?_ _ | with_reducible refine below_drewN' ?_ _ | with_reducible refine Below.drew ?_ | with_reducible refine Below.trans ?_ (Below.mono (by assumption) ?_) | omega | (dsimp only; omega) | (simp only [drew_heap', drewN_heap', World.size_alloc, World.size_setCell]; omega) | (solve | simp) | (solve | (simp; omega)))))).below hg4 (by (repeat (first | with_reducible assumption | with_reducible exact Below.refl _ _ | with_reducible refine Below.setCell ?_ ?_ _ | with_reducible refine Below.alloc ?_ ?_ _ | with_reducible refine below_drewN' ?_ _ | with_reducible refine Below.drew ?_ | with_reducible refine Below.trans ?_ (Below.mono (by assumption) ?_) | omega | (dsimp only; omega) | (simp only [drew_heap', drewN_heap', World.size_alloc, World.size_setCell]; omega) | (solve | simp) | (solve | (simp; omega))))) (Nat.le_refl _) (by simp only [World.size_alloc]; omega)); (have HO4 := Lib.hid ho4); (clear ho4 hg4 hf4)))) | fail)
          go_roundw
          case rel => exact ⟨i + 1, _, by omega, rfl, rfl, by go_num, hb4, by rw [HT.out]; exact HO4.out⟩
          case measure => simp [intOf]; omega
      · obtain rfl : i = l.length := by omega
        go_wp2_with fail
        go_ret
        refine ⟨_, rfl, ?_, hbw⟩
        have h := HO.out.sl
        rw [List.take_of_length_le (by simp), ← HP.out] at h
        exact h
end Go.Proofs.Ytianochlnbehnaa
