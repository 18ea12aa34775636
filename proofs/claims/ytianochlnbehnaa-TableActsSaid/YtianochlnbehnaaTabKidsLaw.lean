/- The laws TableKids, TableAdopts: their walks. Conditions: what came in is shaped. -/
import Derived.Test.YtianochlnbehnaaTabShown
namespace Go.Proofs.Ytianochlnbehnaa
open Go Go.RowKit Go.Tm
set_option linter.unusedVariables false
set_option linter.unusedSimpArgs false

theorem filter_at {α : Type} {l : List α} {i : Nat} {x : α} (h : l[i]? = some x) (q : α → Bool) (hq : q x = true) : (l.filter q)[((l.take i).filter q).length]? = some x := by
  have e : l = l.take i ++ x :: l.drop (i + 1) := by
    obtain ⟨hl, hx⟩ := List.getElem?_eq_some_iff.1 h
    rw [← hx]
    simp
  conv => lhs; arg 1; rw [e]
  rw [List.filter_append, List.filter_cons, if_pos hq]
  simp
theorem Sl.int {w : World} {a : Option Addr} {n cap : Nat} {l : List Int} (h : Sl w false 1 (.slice a n cap) (ints l)) {i : Nat} {x : Int} (hx : l[i]? = some x) :
    ∃ b off, a = some ⟨b, off, none⟩ ∧ b < w.heap.size ∧ w.cell? ⟨b, off + i, none⟩ = some (.int .i64 x) := by
  obtain ⟨b, off, ha, hb, hcell⟩ := h.at (ints_get hx)
  have := hcell 0 _ rfl
  exact ⟨b, off, ha, hb, by simpa using this⟩
theorem kids_at {l : List Prc} {pid : Int} {i : Nat} {x : Prc} (h : l[i]? = some x) (hp : x.par = pid) : (kidI l pid)[(kidsP (l.take i) pid).length]? = some x.pid := by
  have := filter_at h (fun x => decide (x.par = pid)) (by simpa using hp)
  unfold kidI kidsP
  rw [List.getElem?_map, this]; rfl
theorem kids_step {l : List Prc} {pid : Int} {i : Nat} {x : Prc} (h : l[i]? = some x) : kidsP (l.take (i + 1)) pid = kidsP (l.take i) pid ++ if x.par = pid then [x] else [] := by
  unfold kidsP
  rw [filter_take_step h]
  by_cases hx : x.par = pid <;> simp [hx]
theorem kids_le (l : List Prc) (pid : Int) (i : Nat) : (kidsP (l.take i) pid).length ≤ i := filter_take_le l i _
theorem dead_skip {l : List Prc} {pid : Int} {i : Nat} {x : Prc} (h : l[i]? = some x) (hp : x.par ≠ pid) : deadS (l.take (i + 1)) pid = deadS (l.take i) pid := by
  unfold deadS
  rw [kids_step h, if_neg hp, List.append_nil]
theorem dead_live {l : List Prc} {pid : Int} {i : Nat} {x : Prc} (h : l[i]? = some x) (hp : x.st ≠ 4) : deadS (l.take (i + 1)) pid = deadS (l.take i) pid := by
  unfold deadS
  rw [kids_step h]
  by_cases hx : x.par = pid
  · rw [if_pos hx, List.find?_append, List.find?_cons_of_neg (by simpa [deadB] using hp)]
    simp
  · rw [if_neg hx, List.append_nil]
theorem dead_had {l : List Prc} {pid : Int} {i : Nat} {x : Prc} (h : l[i]? = some x) (hd : (deadS (l.take i) pid).2 = true) : deadS (l.take (i + 1)) pid = deadS (l.take i) pid := by
  unfold deadS at hd ⊢
  rw [kids_step h, List.find?_append]
  cases hf : (kidsP (l.take i) pid).find? deadB with
  | none => rw [hf] at hd; simp at hd
  | some y => simp
theorem dead_new {l : List Prc} {pid : Int} {i : Nat} {x : Prc} (h : l[i]? = some x) (hp : x.par = pid) (hs : x.st = 4) (hd : (deadS (l.take i) pid).2 = false) : deadS (l.take (i + 1)) pid = (x.pid, true) := by
  unfold deadS at hd ⊢
  rw [kids_step h, if_pos hp, List.find?_append]
  cases hf : (kidsP (l.take i) pid).find? deadB with
  | none => simp [deadB, hs]
  | some y => rw [hf] at hd; simp at hd

set_option maxHeartbeats 8000000 in
theorem tableKids_walk (v : Value) (l : List Prc) (pid : Int) (w : World) (hv : Sl w true 26 v (prs l)) (hby : l.length * 168 ≤ 140737488351232) (hw : ∀ x ∈ l, PrWf x) :
    Calls Try.prog 5 #[v, .int .i64 pid] w fun e w' => e = .returned (.bool true) ∧ Below w.heap.size w w' := by
  have HV := Lib.hid hv
  have HC := Lib.hid (fun W h => children_int v l pid W h (by omega))
  have HD := Lib.hid (fun W h => dead_any v l pid W h)
  obtain ⟨a, cap, rfl, hl⟩ := hv.shape
  rw [prs_len] at hl HV HC HD ⊢
  clear hv hw
  go_enter Try.func5, Try.ntmps5
  ((go_wp2_with fail); (with_reducible refine (shown_any _).mono ?_); (rintro e w1 ⟨rfl, hb1⟩); (have hz1 := hb1.size); (try simp only [World.size_alloc, World.size_setCell] at hz1))
  have hbw1 : Below w.heap.size w w1 := by (repeat (first | with_reducible assumption | with_reducible exact Below.refl _ _ | with_reducible refine Below.setCell ?_ ?_ _ | with_reducible refine Below.alloc ?_ ?_ _ | with_reducible refine below_drewN' ?_ _ | with_reducible refine Below.drew ?_ | with_reducible refine Below.trans ?_ (Below.mono (by assumption) ?_) | omega | (dsimp only; omega) | (simp only [drew_heap', drewN_heap', World.size_alloc, World.size_setCell]; omega) | (solve | simp) | (solve | (simp; omega))))
  go_wp2_with fail
  with_reducible refine (HC.out _ (HV.out.below hbw1)).mono ?_
  rintro e w2 ⟨v2, rfl, ho2, hb2⟩
  have hbw2 : Below w.heap.size w w2 := hbw1.trans (hb2.mono hbw1.size)
  have hs2 := ho2.sl
  obtain ⟨a2, cap2, rfl, _⟩ := hs2.shape
  rw [ints_len] at hs2 ⊢
  have HK := Lib.hid hs2
  have hkl : (kidI l pid).length ≤ l.length := by
    have := kids_le l pid l.length
    rw [List.take_length] at this
    simpa [kidI] using this
  have HKA := Lib.hid (fun i x (h : l[i]? = some x) => kids_at (pid := pid) h)
  have HKE := Lib.hid (show (kidsP (l.take l.length) pid).length = (kidI l pid).length by rw [List.take_length]; simp [kidI])
  clear hb1 hb2 hbw1 ho2 hs2
  generalize kidI l pid = k at *
  go_wp2_with fail
  go_loopw [7, 8, 9, 10] (fun at' d h t W => ∃ i : Nat, i ≤ l.length ∧ t = .int .i64 i ∧ at' = .int .i64 ((kidsP (l.take i) pid).length : Nat) ∧ d = .int .i64 (deadS (l.take i) pid).1 ∧ h = .bool (deadS (l.take i) pid).2 ∧ Below w2.heap.size w2 W) (fun _ _ _ t _ => l.length - (intOf t).toNat)
  case atStart => exact ⟨0, Nat.zero_le _, rfl, rfl, rfl, rfl, Below.refl _ _⟩
  case round =>
    obtain ⟨i, hi, rfl, rfl, rfl, rfl, hbx⟩ := hrel
    have hws := hbx.size
    have hbw : Below w.heap.size w wr := hbw2.trans (hbx.mono hbw2.size)
    by_cases hlt : i < l.length
    · obtain ⟨x, hx⟩ : ∃ x, l[i]? = some x := ⟨_, List.getElem?_eq_getElem hlt⟩
      obtain ⟨b, off, rfl, hb, -, c0, c1, c2⟩ := Sl.pr (HV.out.below hbw) hx
      have hwr : IntKind.i64.wrap ((i : Int) + 1) = i + 1 := IntWalk.i64_in _ (by omega)
      have hki := kids_le l pid i
      have HX := Lib.hid hx
      by_cases hp : x.par = pid
      · have hpb : (x.par != pid) = false := by simpa using hp
        have hka := HKA.out i x hx hp
        have HKS := Lib.hid (show ((kidsP (l.take (i + 1)) pid).length : Int) = (kidsP (l.take i) pid).length + 1 by rw [kids_step hx, if_pos hp]; simp)
        have hkk := (List.getElem?_eq_some_iff.1 hka).1
        obtain ⟨b2, off2, rfl, hb2, e0⟩ := Sl.int (HK.out.below hbx) hka
        have hq1 : decide ((k.length : Int) ≤ ((kidsP (l.take i) pid).length : Int)) = false := by simp; omega
        have hq2 : decide (k.length ≤ (kidsP (l.take i) pid).length) = false := by simp; omega
        have hwc : IntKind.i64.wrap (((kidsP (l.take i) pid).length : Int) + 1) = (kidsP (l.take i) pid).length + 1 := IntWalk.i64_in _ (by omega)
        have HP := Lib.hid hp
        have g0 := cell_rg c0 hb
        have g1 := cell_rg e0 hb2
        clear hx hka hp hki
        generalize (kidsP (l.take i) pid).length = n at *
        by_cases hs : x.st = 4
        · cases hd : (deadS (l.take i) pid).2
          · have HDN := Lib.hid (dead_new HX.out HP.out hs hd)
            have hsb : (x.st == 4) = true := by simpa using hs
            generalize (deadS (l.take i) pid).1 = d1 at *
            clear hs hd
            go_wp2_with fail
            ((refine wp_region_quiet_below (by kernel_rfl) (by kernel_rfl) ?_); (repeat (go_big_quiet_step (fail))); (refine wpQuiet_nil ?_); (intro _ hw'); (obtain ⟨⟨dq, osq⟩, hw''⟩ := hw'); (subst hw''); (have hb7 := below_regrown wr dq osq); (generalize Go.Sort.grow (redrawn wr dq) osq = w7 at *); (have hz7 := hb7.size))
            have c0' := (hb7.cell (p := ⟨b, off + i * 26, none⟩) hb).trans c0
            have c2' := (hb7.cell (p := ⟨b, off + i * 26 + 2, none⟩) hb).trans c2
            clear g0 g1
            go_wp2_with fail
            go_roundw
            case rel => exact ⟨i + 1, by omega, by go_num, by rw [HKS.out], by rw [HDN.out], by rw [HDN.out], hbx.trans (hb7.mono hws)⟩
            case measure => simp [intOf]; omega
          · have HDA := Lib.hid (congrArg Prod.fst (dead_had HX.out hd)); have HDB := Lib.hid (congrArg Prod.snd (dead_had HX.out hd))
            have HD1 := Lib.hid hd
            have hsb : (x.st == 4) = true := by simpa using hs
            generalize (deadS (l.take i) pid).1 = d1 at *
            clear hs hd
            go_wp2_with fail
            ((refine wp_region_quiet_below (by kernel_rfl) (by kernel_rfl) ?_); (repeat (go_big_quiet_step (fail))); (refine wpQuiet_nil ?_); (intro _ hw'); (obtain ⟨⟨dq, osq⟩, hw''⟩ := hw'); (subst hw''); (have hb7 := below_regrown wr dq osq); (generalize Go.Sort.grow (redrawn wr dq) osq = w7 at *); (have hz7 := hb7.size))
            have c2' := (hb7.cell (p := ⟨b, off + i * 26 + 2, none⟩) hb).trans c2
            clear g0 g1
            go_wp2_with fail
            go_roundw
            case rel => exact ⟨i + 1, by omega, by go_num, by rw [HKS.out], by rw [HDA.out], by rw [HDB.out, HD1.out], hbx.trans (hb7.mono hws)⟩
            case measure => simp [intOf]; omega
        · have HDA := Lib.hid (congrArg Prod.fst (dead_live (pid := pid) HX.out hs)); have HDB := Lib.hid (congrArg Prod.snd (dead_live (pid := pid) HX.out hs))
          have hsb : (x.st == 4) = false := by simpa using hs
          generalize (deadS (l.take i) pid).1 = d1 at *
          generalize (deadS (l.take i) pid).2 = d2 at *
          clear hs
          go_wp2_with fail
          ((refine wp_region_quiet_below (by kernel_rfl) (by kernel_rfl) ?_); (repeat (go_big_quiet_step (fail))); (refine wpQuiet_nil ?_); (intro _ hw'); (obtain ⟨⟨dq, osq⟩, hw''⟩ := hw'); (subst hw''); (have hb7 := below_regrown wr dq osq); (generalize Go.Sort.grow (redrawn wr dq) osq = w7 at *); (have hz7 := hb7.size))
          have c2' := (hb7.cell (p := ⟨b, off + i * 26 + 2, none⟩) hb).trans c2
          clear g0 g1
          go_wp2_with fail
          go_roundw
          case rel => exact ⟨i + 1, by omega, by go_num, by rw [HKS.out], by rw [HDA.out], by rw [HDB.out], hbx.trans (hb7.mono hws)⟩
          case measure => simp [intOf]; omega
      · have hpb : (x.par != pid) = true := by simpa using hp
        have HKS := Lib.hid (show (kidsP (l.take (i + 1)) pid).length = (kidsP (l.take i) pid).length by rw [kids_step hx, if_neg hp, List.append_nil])
        have HDA := Lib.hid (congrArg Prod.fst (dead_skip hx hp)); have HDB := Lib.hid (congrArg Prod.snd (dead_skip hx hp))
        clear hx hp hki
        generalize (kidsP (l.take i) pid).length = n at *
        generalize (deadS (l.take i) pid).1 = d1 at *
        generalize (deadS (l.take i) pid).2 = d2 at *
        go_wp2_with fail
        go_roundw
        case rel => exact ⟨i + 1, by omega, by go_num, by rw [HKS.out], by rw [HDA.out], by rw [HDB.out], hbx⟩
        case measure => simp [intOf]; omega
    · obtain rfl : i = l.length := by omega
      rw [HKE.out, List.take_length]
      have hbw : Below w.heap.size w wr := hbw2.trans (hbx.mono hbw2.size)
      generalize (deadS l pid).1 = d1 at *
      generalize (deadS l pid).2 = d2 at *
      go_wp2_with fail
      with_reducible refine (HD.out _ (HV.out.below hbw)).mono ?_
      rintro e w5 ⟨rfl, hb5⟩
      have hbw5 : Below w.heap.size w w5 := hbw.trans (hb5.mono hbw.size)
      go_wp2_with fail
      go_ret
      exact ⟨by simp, hbw5⟩
end Go.Proofs.Ytianochlnbehnaa
