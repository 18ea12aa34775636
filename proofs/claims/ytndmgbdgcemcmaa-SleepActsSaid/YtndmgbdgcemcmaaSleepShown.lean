/- The document's example of package sleep; the laws SleepTime and SleepWakes: their walks. Conditions: what came in is shaped. -/
import Derived.Test.YtndmgbdgcemcmaaSleepRef
namespace Go.Proofs.Ytndmgbdgcemcmaa
open Go Go.RowKit Go.Tm
set_option linter.unusedVariables false
set_option linter.unusedSimpArgs false

theorem Sl.int {w : World} {a : Option Addr} {n cap : Nat} {l : List Int} (h : Sl w false 1 (.slice a n cap) (ints l)) {i : Nat} {x : Int} (hx : l[i]? = some x) :
    ∃ b off, a = some ⟨b, off, none⟩ ∧ b < w.heap.size ∧ w.cell? ⟨b, off + i, none⟩ = some (.int .i64 x) := by
  obtain ⟨b, off, ha, hb, hcell⟩ := h.at (ints_get hx)
  have := hcell 0 _ rfl
  exact ⟨b, off, ha, hb, by simpa using this⟩

set_option maxHeartbeats 2000000 in
theorem shown_any (w : World) : Calls Try.prog 9 #[] w fun e w' => e = .returned (.bool true) ∧ Below w.heap.size w w' := by
  have hA1 := fun W => add_any (.slice none 0 0) [] (5, 1) W (Sl.nil _ _ _) (by decide)
  have hA2 := fun v W h => add_any v [(5, 1)] (3, 2) W h (by decide)
  rw [show addS [] (5, 1) = [(5, 1)] from rfl] at hA1
  rw [show addS [(5, 1)] (3, 2) = [(3, 2), (5, 1)] from by decide] at hA2
  have HA1 := Lib.hid hA1
  have HA2 := Lib.hid hA2
  clear hA1 hA2
  go_enter Try.func9, Try.ntmps9
  go_wp2_with fail
  with_reducible refine (HA1.out _).mono ?_
  rintro e w1 ⟨v1, rfl, hs1, hb1⟩
  have hz1 := hb1.size
  have HS1 := Lib.hid hs1
  clear hs1
  go_wp2_with fail
  with_reducible refine (HA2.out _ _ HS1.out).mono ?_
  rintro e w2 ⟨v2, rfl, hs2, hb2⟩
  have hz2 := hb2.size
  have hD1 := fun W h => due_any v2 [(3, 2), (5, 1)] 3 W h (by decide)
  have hD2 := fun W h => due_any v2 [(3, 2), (5, 1)] 5 W h (by decide)
  rw [show dueP [(3, 2), (5, 1)] 3 = [2] from by decide] at hD1
  rw [show dueP [(3, 2), (5, 1)] 5 = [2, 1] from by decide] at hD2
  have HD1 := Lib.hid hD1
  have HD2 := Lib.hid hD2
  have HS2 := Lib.hid hs2
  clear hs2 hD1 hD2
  go_wp2_with fail
  with_reducible refine (HD1.out _ HS2.out).mono ?_
  rintro e w3 ⟨p1, r1, rfl, ho3, _, hb3⟩
  have hz3 := hb3.size
  have HP1 := Lib.hid ho3.sl
  clear ho3
  go_wp2_with fail
  with_reducible refine (HD2.out _ (HS2.out.below (by (repeat (first | with_reducible assumption | with_reducible exact Below.refl _ _ | with_reducible refine Below.setCell ?_ ?_ _ | with_reducible refine Below.alloc ?_ ?_ _ | with_reducible refine below_drewN' ?_ _ | with_reducible refine Below.drew ?_ | with_reducible refine Below.trans ?_ (Below.mono (by assumption) ?_) | omega | (dsimp only; omega) | (simp only [drew_heap', drewN_heap', World.size_alloc, World.size_setCell]; omega) | (solve | simp) | (solve | (simp; omega))))))).mono ?_
  rintro e w4 ⟨p2, r2, rfl, ho4, _, hb4⟩
  have hz4 := hb4.size
  have hp1 := HP1.out.below hb4
  have hp2 := ho4.sl
  clear ho4
  obtain ⟨a1, c1, hv1, _⟩ := hp1.shape
  obtain ⟨a2, c2, hv2, _⟩ := hp2.shape
  replace hv1 : p1 = .slice a1 1 c1 := hv1
  replace hv2 : p2 = .slice a2 2 c2 := hv2
  subst hv1 hv2
  obtain ⟨b1, o1, rfl, _, e1⟩ := Sl.int hp1 (i := 0) (x := 2) rfl
  obtain ⟨b2, o2, rfl, _, f0⟩ := Sl.int hp2 (i := 0) (x := 2) rfl
  obtain ⟨_, _, he, _, f1⟩ := Sl.int hp2 (i := 1) (x := 1) rfl
  simp only [Option.some.injEq, Addr.mk.injEq, and_true] at he
  obtain ⟨rfl, rfl⟩ := he
  rw [Nat.add_zero] at e1 f0
  clear hp1 hp2
  go_wp2_with fail
  go_ret
  exact ⟨by simp, by (repeat (first | with_reducible assumption | with_reducible exact Below.refl _ _ | with_reducible refine Below.setCell ?_ ?_ _ | with_reducible refine Below.alloc ?_ ?_ _ | with_reducible refine below_drewN' ?_ _ | with_reducible refine Below.drew ?_ | with_reducible refine Below.trans ?_ (Below.mono (by assumption) ?_) | omega | (dsimp only; omega) | (simp only [drew_heap', drewN_heap', World.size_alloc, World.size_setCell]; omega) | (solve | simp) | (solve | (simp; omega))))⟩

set_option maxHeartbeats 2000000 in
theorem sleepTime_walk (now n : Int) (w : World) (h1 : 0 ≤ now ∧ now ≤ 18446744073709551615) (h2 : 0 ≤ n ∧ n ≤ 4294967295) :
    Calls Try.prog 5 #[.int .u64 now, .int .u32 n] w fun e w' => e = .returned (.bool true) ∧ Below w.heap.size w w' := by
  have hU := fun W => until_any now n W h1 h2
  have hwn : IntKind.u64.wrap n = n := by rw [IntKind.wrap_u64]; omega
  by_cases hle : n ≤ 18446744073709551615 - now
  · have hmin : now + min n (18446744073709551615 - now) = now + n := by omega
    rw [hmin] at hU
    have hsub : IntKind.u64.wrap (now + n - now) = n := by rw [IntKind.wrap_u64]; omega
    have hge : now ≤ now + n := by omega
    go_enter Try.func5, Try.ntmps5
    ((go_wp2_with fail); (with_reducible refine (shown_any _).mono ?_); (rintro e w1 ⟨rfl, hb1⟩); (have hz1 := hb1.size); (try simp only [World.size_alloc, World.size_setCell] at hz1))
    ((go_wp2_with fail); (with_reducible refine (hU _).mono ?_); (rintro e w2 ⟨rfl, hb2⟩); (have hz2 := hb2.size); (try simp only [World.size_alloc, World.size_setCell] at hz2))
    go_wp2_with fail
    go_ret
    exact ⟨by simp, by (repeat (first | with_reducible assumption | with_reducible exact Below.refl _ _ | with_reducible refine Below.setCell ?_ ?_ _ | with_reducible refine Below.alloc ?_ ?_ _ | with_reducible refine below_drewN' ?_ _ | with_reducible refine Below.drew ?_ | with_reducible refine Below.trans ?_ (Below.mono (by assumption) ?_) | omega | (dsimp only; omega) | (simp only [drew_heap', drewN_heap', World.size_alloc, World.size_setCell]; omega) | (solve | simp) | (solve | (simp; omega))))⟩
  · have hmin : now + min n (18446744073709551615 - now) = 18446744073709551615 := by omega
    rw [hmin] at hU
    have hsub : IntKind.u64.wrap (18446744073709551615 - now) = 18446744073709551615 - now := by rw [IntKind.wrap_u64]; omega
    have hne : (18446744073709551615 - now == n) = false := by rw [beq_eq_false_iff_ne]; omega
    have hge : now ≤ 18446744073709551615 := by omega
    go_enter Try.func5, Try.ntmps5
    ((go_wp2_with fail); (with_reducible refine (shown_any _).mono ?_); (rintro e w1 ⟨rfl, hb1⟩); (have hz1 := hb1.size); (try simp only [World.size_alloc, World.size_setCell] at hz1))
    ((go_wp2_with fail); (with_reducible refine (hU _).mono ?_); (rintro e w2 ⟨rfl, hb2⟩); (have hz2 := hb2.size); (try simp only [World.size_alloc, World.size_setCell] at hz2))
    go_wp2_with fail
    go_ret
    exact ⟨by simp, by (repeat (first | with_reducible assumption | with_reducible exact Below.refl _ _ | with_reducible refine Below.setCell ?_ ?_ _ | with_reducible refine Below.alloc ?_ ?_ _ | with_reducible refine below_drewN' ?_ _ | with_reducible refine Below.drew ?_ | with_reducible refine Below.trans ?_ (Below.mono (by assumption) ?_) | omega | (dsimp only; omega) | (simp only [drew_heap', drewN_heap', World.size_alloc, World.size_setCell]; omega) | (solve | simp) | (solve | (simp; omega))))⟩

theorem rises {l : List Al} (h : RightP l) {j : Nat} {a b : Al} (ha : l[j]? = some a) (hb : l[j + 1]? = some b) : a.1 ≤ b.1 := by
  have := h j a b ha hb
  simp [behind] at this
  omega
theorem right_rest {l : List Al} (h : RightP l) {now : Int} {i : Nat} {x : Al} (hi : dueN l now ≤ i) (hx : l[i]? = some x) : now < x.1 := by
  induction i generalizing x with
  | zero =>
    have : dueN l now = 0 := by omega
    exact due_stop (by rw [this]; exact hx)
  | succ i ih =>
    by_cases he : dueN l now = i + 1
    · exact due_stop (by rw [he]; exact hx)
    · have hlt := (List.getElem?_eq_some_iff.1 hx).1
      obtain ⟨y, hy⟩ : ∃ y, l[i]? = some y := ⟨_, List.getElem?_eq_getElem (by omega)⟩
      have h1 := ih (by omega) hy
      have h2 := rises h hy hx
      omega
theorem dueP_get {l : List Al} {now : Int} {i : Nat} {x : Al} (hx : l[i]? = some x) (h : i < dueN l now) : (dueP l now)[i]? = some x.2 := by
  rw [dueP_eq, List.getElem?_map, List.getElem?_take, if_pos h, hx]; rfl
theorem dueR_get {l : List Al} {now : Int} {i : Nat} : (dueR l now)[i]? = l[dueN l now + i]? := by
  rw [dueR_eq, List.getElem?_drop]
theorem dueR_len (l : List Al) (now : Int) : (dueR l now).length = l.length - dueN l now := by rw [dueR_eq, List.length_drop]

set_option maxHeartbeats 4000000 in
theorem sleepWakes_walk (v : Value) (l : List Al) (now : Int) (w : World) (hv : Sl w true 2 v (als l)) (hby : l.length * 16 ≤ 140737488355328) :
    Calls Try.prog 3 #[v, .int .u64 now] w fun e w' => e = .returned (.bool true) ∧ Below w.heap.size w w' := by
  have HV := Lib.hid hv
  have hR := fun W h => refRight_any v l W h
  have hD := fun W h => due_any v l now W h hby
  obtain ⟨a, cap, rfl, hl⟩ := hv.shape
  rw [als_len] at hl HV hR hD ⊢
  clear hv
  have HD := Lib.hid hD
  clear hD
  by_cases hr : RightP l
  · rw [rightB_true hr] at hR
    have HR := Lib.hid hR
    have hkl := dueN_le l now
    clear hR
    go_enter Try.func3, Try.ntmps3
    ((go_wp2_with fail); (with_reducible refine (shown_any _).mono ?_); (rintro e w1 ⟨rfl, hb1⟩); (have hz1 := hb1.size); (try simp only [World.size_alloc, World.size_setCell] at hz1))
    ((go_wp2_with fail); (with_reducible refine (HR.out _ (HV.out.below (by (repeat (first | with_reducible assumption | with_reducible exact Below.refl _ _ | with_reducible refine Below.setCell ?_ ?_ _ | with_reducible refine Below.alloc ?_ ?_ _ | with_reducible refine below_drewN' ?_ _ | with_reducible refine Below.drew ?_ | with_reducible refine Below.trans ?_ (Below.mono (by assumption) ?_) | omega | (dsimp only; omega) | (simp only [drew_heap', drewN_heap', World.size_alloc, World.size_setCell]; omega) | (solve | simp) | (solve | (simp; omega))))))).mono ?_); (rintro e w2 ⟨rfl, hb2⟩); (have hz2 := hb2.size); (try simp only [World.size_alloc, World.size_setCell] at hz2))
    have hbw2 : Below w.heap.size w w2 := by (repeat (first | with_reducible assumption | with_reducible exact Below.refl _ _ | with_reducible refine Below.setCell ?_ ?_ _ | with_reducible refine Below.alloc ?_ ?_ _ | with_reducible refine below_drewN' ?_ _ | with_reducible refine Below.drew ?_ | with_reducible refine Below.trans ?_ (Below.mono (by assumption) ?_) | omega | (dsimp only; omega) | (simp only [drew_heap', drewN_heap', World.size_alloc, World.size_setCell]; omega) | (solve | simp) | (solve | (simp; omega))))
    go_wp2_with fail
    with_reducible refine (HD.out _ (HV.out.below hbw2)).mono ?_
    rintro e w3 ⟨p3, r3, rfl, ho3, hs3, hb3⟩
    have hz3 := hb3.size
    have HP3 := Lib.hid ho3.sl
    have HS3 := Lib.hid hs3
    obtain ⟨ap, cp, rfl, _⟩ := ho3.sl.shape
    obtain ⟨ar, cr, rfl, _⟩ := hs3.shape
    rw [ints_len, dueP_len] at HP3 ⊢
    rw [als_len, dueR_len] at HS3 ⊢
    have hbw3 : Below w.heap.size w w3 := by (repeat (first | with_reducible assumption | with_reducible exact Below.refl _ _ | with_reducible refine Below.setCell ?_ ?_ _ | with_reducible refine Below.alloc ?_ ?_ _ | with_reducible refine below_drewN' ?_ _ | with_reducible refine Below.drew ?_ | with_reducible refine Below.trans ?_ (Below.mono (by assumption) ?_) | omega | (dsimp only; omega) | (simp only [drew_heap', drewN_heap', World.size_alloc, World.size_setCell]; omega) | (solve | simp) | (solve | (simp; omega))))
    clear ho3 hs3 hb1 hb2 hb3 hbw2
    have hk2 : l.length - dueN l now + dueN l now = l.length := by omega
    go_wp2_with fail
    go_loopw [9, 10] (fun s t W => ∃ i : Nat, i ≤ l.length ∧ t = .int .i64 i ∧ s = .int .i64 ((min i (dueN l now) : Nat) : Int) ∧ Below w3.heap.size w3 W) (fun _ t _ => l.length - (intOf t).toNat)
    case atStart => exact ⟨0, Nat.zero_le _, rfl, by simp, Below.refl _ _⟩
    case round =>
      obtain ⟨i, hi, rfl, rfl, hbx⟩ := hrel
      have hws := hbx.size
      have hbw : Below w.heap.size w wr := hbw3.trans (hbx.mono hbw3.size)
      have hwr : IntKind.i64.wrap ((i : Int) + 1) = i + 1 := IntWalk.i64_in _ (by omega)
      by_cases hlt : i < l.length
      · obtain ⟨x, hx⟩ : ∃ x, l[i]? = some x := ⟨_, List.getElem?_eq_getElem hlt⟩
        obtain ⟨b, off, rfl, hb, c0, c1⟩ := Sl.al (HV.out.below hbw) hx
        by_cases hk : i < dueN l now
        · have hle := due_at hx hk
          rw [show min i (dueN l now) = i by omega]
          obtain ⟨b2, off2, rfl, hb2, e0⟩ := Sl.int (HP3.out.below hbx) (dueP_get hx hk)
          have hg1 : decide ((dueN l now : Int) ≤ i) = false := by simp; omega
          have hg2 : decide (dueN l now ≤ i) = false := by simp; omega
          have HMN := Lib.hid (show ((min (i + 1) (dueN l now) : Nat) : Int) = i + 1 by omega)
          clear hx
          generalize dueN l now = k at *
          go_wp2_with fail
          have g1 := cell_rg c1 hb
          have g2 := cell_rg e0 hb2
          ((refine wp_region_quiet_below (by kernel_rfl) (by kernel_rfl) ?_); (repeat (go_big_quiet_step (fail))); (refine wpQuiet_nil ?_); (intro _ hw'); (obtain ⟨⟨dq, osq⟩, hw''⟩ := hw'); (subst hw''); (have hb7 := below_regrown wr dq osq); (generalize Go.Sort.grow (redrawn wr dq) osq = w7 at *); (have hz7 := hb7.size))
          go_wp2_with fail
          go_roundw
          case rel => exact ⟨i + 1, by omega, by go_num, by rw [HMN.out], hbx.trans (hb7.mono hws)⟩
          case measure => simp [intOf]; omega
        · have hgt := right_rest hr (now := now) (i := i) (by omega) hx
          have hgt' : ¬ x.1 ≤ now := by omega
          have HMN := Lib.hid (show ((min (i + 1) (dueN l now) : Nat) : Int) = (min i (dueN l now) : Nat) by omega)
          clear hx
          generalize dueN l now = k at *
          go_wp2_with fail
          go_roundw
          case rel => exact ⟨i + 1, by omega, by go_num, by rw [HMN.out], hbx⟩
          case measure => simp [intOf]; omega
      · obtain rfl : i = l.length := by omega
        rw [show min l.length (dueN l now) = dueN l now by omega]
        obtain ⟨wx, hwx⟩ : ∃ wx, wx = wr := ⟨_, rfl⟩
        subst hwx
        have HN := Lib.hid (fun j x (h : (dueR l now)[j]? = some x) => right_rest hr (i := dueN l now + j) (Nat.le_add_right _ _) (by rw [← dueR_get]; exact h))
        have hsub : IntKind.i64.wrap ((l.length : Int) - (dueN l now : Int)) = ((l.length - dueN l now : Nat) : Int) := by rw [IntWalk.i64_in _ (by omega)]; omega
        go_wp2_with fail
        go_loopw [11] (fun t W => ∃ j : Nat, j ≤ l.length - dueN l now ∧ t = .int .i64 j ∧ Below wx.heap.size wx W) (fun t _ => l.length - dueN l now - (intOf t).toNat)
        case atStart => exact ⟨0, Nat.zero_le _, rfl, Below.refl _ _⟩
        case round =>
          obtain ⟨j, hj, rfl, hby⟩ := hrel
          have hwj : IntKind.i64.wrap ((j : Int) + 1) = j + 1 := IntWalk.i64_in _ (by omega)
          by_cases hjl : j < l.length - dueN l now
          · obtain ⟨x, hx⟩ : ∃ x, (dueR l now)[j]? = some x := ⟨_, List.getElem?_eq_getElem (by rw [dueR_len]; exact hjl)⟩
            have hgt := HN.out j x hx
            have hgt' : ¬ x.1 ≤ now := by omega
            obtain ⟨b2, off2, rfl, hb2, e0, e1⟩ := Sl.al (HS3.out.below (hbx.trans (hby.mono hws))) hx
            clear hx
            generalize dueN l now = k at *
            have hjl' : (j : Int) < ((l.length - k : Nat) : Int) := by omega
            go_wp2_with fail
            go_roundw
            case rel => exact ⟨j + 1, by omega, by go_num, hby⟩
            case measure => simp [intOf]; omega
          · have hjl' : ¬ (j : Int) < ((l.length - dueN l now : Nat) : Int) := by omega
            generalize dueN l now = k at *
            go_wp2_with fail
            go_ret
            exact ⟨by simp, hbw.trans (hby.mono hbw.size)⟩
  · rw [rightB_false hr] at hR
    go_enter Try.func3, Try.ntmps3
    ((go_wp2_with fail); (with_reducible refine (shown_any _).mono ?_); (rintro e w1 ⟨rfl, hb1⟩); (have hz1 := hb1.size); (try simp only [World.size_alloc, World.size_setCell] at hz1))
    ((go_wp2_with fail); (with_reducible refine (hR _ (HV.out.below (by (repeat (first | with_reducible assumption | with_reducible exact Below.refl _ _ | with_reducible refine Below.setCell ?_ ?_ _ | with_reducible refine Below.alloc ?_ ?_ _ | with_reducible refine below_drewN' ?_ _ | with_reducible refine Below.drew ?_ | with_reducible refine Below.trans ?_ (Below.mono (by assumption) ?_) | omega | (dsimp only; omega) | (simp only [drew_heap', drewN_heap', World.size_alloc, World.size_setCell]; omega) | (solve | simp) | (solve | (simp; omega))))))).mono ?_); (rintro e w2 ⟨rfl, hb2⟩); (have hz2 := hb2.size); (try simp only [World.size_alloc, World.size_setCell] at hz2))
    go_wp2_with fail
    go_ret
    exact ⟨by simp, by (repeat (first | with_reducible assumption | with_reducible exact Below.refl _ _ | with_reducible refine Below.setCell ?_ ?_ _ | with_reducible refine Below.alloc ?_ ?_ _ | with_reducible refine below_drewN' ?_ _ | with_reducible refine Below.drew ?_ | with_reducible refine Below.trans ?_ (Below.mono (by assumption) ?_) | omega | (dsimp only; omega) | (simp only [drew_heap', drewN_heap', World.size_alloc, World.size_setCell]; omega) | (solve | simp) | (solve | (simp; omega))))⟩
end Go.Proofs.Ytndmgbdgcemcmaa
