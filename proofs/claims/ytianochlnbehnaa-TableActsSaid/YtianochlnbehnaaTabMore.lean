/- table.Remove, Next, Adopt, Right, Same: what they answer. Conditions: lengths within the reach; for Same: numbers within their kinds. -/
import Derived.Test.YtianochlnbehnaaTabPut
namespace Go.Proofs.Ytianochlnbehnaa
open Go Go.RowKit Go.Tm
set_option linter.unusedVariables false
set_option linter.unusedSimpArgs false

def removeS (l : List Prc) (pid : Int) : List Prc := l.filter fun x => !decide (x.pid = pid)
theorem removeS_prs (l : List Prc) (pid : Int) : (prs l).filter (fun x => !pidP pid x) = prs (removeS l pid) := by
  unfold removeS
  induction l with
  | nil => rfl
  | cons x r ih =>
    rw [prs, List.map_cons, List.filter_cons, List.filter_cons, pidP_pr]
    rw [prs] at ih
    split
    · rw [ih]; rfl
    · rw [ih]
theorem removeS_le (l : List Prc) (pid : Int) : (removeS l pid).length ≤ l.length := List.length_filter_le _ _

set_option maxHeartbeats 1000000 in
theorem remove_any (v : Value) (l : List Prc) (pid : Int) (w : World) (hv : Sl w true 26 v (prs l)) (hby : l.length * 168 ≤ 140737488355328) :
    Calls Try.prog 17 #[v, .int .i64 pid] w fun e w' => ∃ v', e = .returned v' ∧ Sl w' true 26 v' (prs (removeS l pid)) ∧ Below w.heap.size w w' := by
  have HV := Lib.hid hv
  have HE := Lib.hid (removeS_prs l pid)
  clear hv
  go_enter Try.func17, Try.ntmps17
  go_wp2_with fail
  with_reducible refine (clone_proc v (prs l) _ (HV.out.below (by (repeat (first | with_reducible assumption | with_reducible exact Below.refl _ _ | with_reducible refine Below.setCell ?_ ?_ _ | with_reducible refine Below.alloc ?_ ?_ _ | with_reducible refine below_drewN' ?_ _ | with_reducible refine Below.drew ?_ | with_reducible refine Below.trans ?_ (Below.mono (by assumption) ?_) | omega | (dsimp only; omega) | (simp only [drew_heap', drewN_heap', World.size_alloc, World.size_setCell]; omega) | (solve | simp) | (solve | (simp; omega)))))) (by rw [prs_len]; exact hby)).mono ?_
  rintro e w2 ⟨v2, rfl, ho2, hb2⟩
  have hz2 := hb2.size
  simp only [World.size_alloc] at hz2
  (have b1 : Box w2 w.heap.size #[.int .i64 pid] 3 := (by (try have k1 := (Lib.hid True.intro).out); ((apply Box.cast); (repeat (first | with_reducible assumption | ((with_reducible apply Box.new1); (first | with_reducible rfl | rfl | (solve | simp))) | with_reducible apply Box.drewN | with_reducible apply Box.drew | with_reducible apply Box.set | with_reducible apply Box.other | with_reducible apply Box.alloc | (with_reducible apply Box.below; rotate_left; with_reducible assumption; rotate_right) | with_reducible rfl | omega | (dsimp only; omega) | (simp only [drew_heap', drewN_heap', World.size_alloc, World.size_setCell]; omega) | rfl | (solve | simp) | (solve | (simp; omega))))))); (obtain ⟨hc1, hf1, hl1, hn1, hm1⟩ := b1.rules); (have K1 := Lib.hid b1); (clear b1)
  have HO2 := Lib.hid (ho2.le (base' := w.heap.size + 1) (by simp only [World.size_alloc]; omega))
  have hB2 : some w.heap.size ≠ v2.ownBlock := fun h => by have := HO2.out.own_ge _ h.symm; omega
  have hDel := deleteFunc_proc v2 (prs l) 38 #[.pointer (some ⟨w.heap.size, 0, none⟩)] (pidP pid) w2 (w.heap.size + 1) (fun x hx => by obtain ⟨a, _, rfl⟩ := List.mem_map.1 hx; exact ⟨_, rfl, prC_size a⟩) HO2.out (pred_cell rem1_body pid l w.heap.size w2 hl1 (hc1 0) v2.ownBlock hB2 (fun x w' => rem1_any x pid w.heap.size w'))
  rw [HE.out] at hDel
  have HD := Lib.hid hDel
  have hbw : Below w.heap.size w w2 := by (repeat (first | with_reducible assumption | with_reducible exact Below.refl _ _ | with_reducible refine Below.setCell ?_ ?_ _ | with_reducible refine Below.alloc ?_ ?_ _ | with_reducible refine below_drewN' ?_ _ | with_reducible refine Below.drew ?_ | with_reducible refine Below.trans ?_ (Below.mono (by assumption) ?_) | omega | (dsimp only; omega) | (simp only [drew_heap', drewN_heap', World.size_alloc, World.size_setCell]; omega) | (solve | simp) | (solve | (simp; omega))))
  clear ho2 hDel hc1 hf1 hl1 hn1 hm1
  go_wp2_with fail
  with_reducible refine HD.out.mono ?_
  rintro e w4 ⟨v4, rfl, hs4, _, hg4⟩
  have HS4 := Lib.hid hs4
  have hb4 : Below w.heap.size w w4 := HO2.out.below hg4 hbw (by omega) (by omega)
  clear hs4 hg4
  go_wp2_with fail
  go_ret
  exact ⟨_, rfl, HS4.out, hb4⟩

/-- The greatest number, or 0. -/
def mostS (l : List Prc) : Int := l.foldl (fun m x => max m x.pid) 0
theorem mostS_step {l : List Prc} {i : Nat} {x : Prc} (h : l[i]? = some x) : mostS (l.take (i + 1)) = max (mostS (l.take i)) x.pid := by
  unfold mostS; rw [take_step h, List.foldl_append]; rfl
set_option maxHeartbeats 1000000 in
theorem next_any (v : Value) (l : List Prc) (w : World) (hv : Sl w true 26 v (prs l)) :
    Calls Try.prog 14 #[v] w fun e w' => e = .returned (.int .i64 (wrap64 (mostS l + 1))) ∧ Below w.heap.size w w' := by
  have HV := Lib.hid hv
  obtain ⟨a, cap, rfl, hl⟩ := hv.shape
  rw [prs_len] at hl HV ⊢
  clear hv
  go_enter Try.func14, Try.ntmps14
  go_wp2_with fail
  go_loopw [3, 8] (fun m t W => ∃ i : Nat, i ≤ l.length ∧ t = .int .i64 i ∧ m = .int .i64 (mostS (l.take i)) ∧ Below w.heap.size w W) (fun _ t _ => l.length - (intOf t).toNat)
  case atStart => exact ⟨0, Nat.zero_le _, rfl, rfl, Below.refl _ _⟩
  case round =>
    obtain ⟨i, hi, rfl, rfl, hbw⟩ := hrel
    have hws := hbw.size
    by_cases hlt : i < l.length
    · obtain ⟨x, hx⟩ : ∃ x, l[i]? = some x := ⟨_, List.getElem?_eq_getElem hlt⟩
      obtain ⟨b, off, rfl, hb, hcells, c0, c1, c2⟩ := Sl.pr (HV.out.below hbw) hx
      have hst := mostS_step hx
      have HST := Lib.hid hst
      have HCE := Lib.hid hcells
      have q0 := prC0 x
      have HVX := Lib.hid (pr_val x)
      have hwr : IntKind.i64.wrap ((i : Int) + 1) = i + 1 := IntWalk.i64_in _ (by omega)
      clear hx hst hcells
      generalize mostS (l.take i) = m at *
      go_wp2_with (first | (refine wpList_load_val rfl 33 _ rfl b (off + i * 26) (by simp [Act.eval]) (prV x) ty_proc HVX.out HCE.out ?_) | (refine wpList_store_freshA rfl 33 _ _ rfl (prC x) ty_proc HVX.out (by rfl) (by simp [Act.eval, Act.put]) (by simp [Act.eval, Act.put]) ?_) | fail)
      go_roundw
      case rel => exact ⟨i + 1, by omega, by go_num, by rw [HST.out]; first | rfl | (refine congrArg (Value.int .i64) ?_; split <;> omega) | (refine congrArg (Value.int .i64) ?_; omega), by (repeat (first | with_reducible assumption | with_reducible exact Below.refl _ _ | with_reducible refine Below.setCell ?_ ?_ _ | with_reducible refine Below.alloc ?_ ?_ _ | with_reducible refine below_drewN' ?_ _ | with_reducible refine Below.drew ?_ | with_reducible refine Below.trans ?_ (Below.mono (by assumption) ?_) | omega | (dsimp only; omega) | (simp only [drew_heap', drewN_heap', World.size_alloc, World.size_setCell]; omega) | (solve | simp) | (solve | (simp; omega))))⟩
      case measure => simp [intOf]; omega
    · obtain rfl : i = l.length := by omega
      rw [List.take_length]
      go_wp2_with fail
      go_ret
      exact ⟨by simp, hbw⟩

/-- One's children are given to another one. -/
def adopt1 (a b : Int) (x : Prc) : Prc := if x.par = a then { x with par := b } else x
def adoptS (l : List Prc) (a b : Int) : List Prc := l.map (adopt1 a b)
def adoptTo (l : List Prc) (a b : Int) (i : Nat) : List Prc := (l.take i).map (adopt1 a b) ++ l.drop i
theorem adoptTo_len (l : List Prc) (a b : Int) (i : Nat) : (adoptTo l a b i).length = l.length := by
  unfold adoptTo; simp; omega
theorem adoptTo_at {l : List Prc} {a b : Int} {i : Nat} {x : Prc} (h : l[i]? = some x) : (adoptTo l a b i)[i]? = some x := by
  unfold adoptTo
  have hi := (List.getElem?_eq_some_iff.1 h).1
  rw [List.getElem?_append_right (by simp; omega), List.getElem?_drop]
  rw [show i + (i - ((l.take i).map (adopt1 a b)).length) = i by simp; omega]
  exact h
theorem adoptTo_step {l : List Prc} {a b : Int} {i : Nat} {x : Prc} (h : l[i]? = some x) : adoptTo l a b (i + 1) = (adoptTo l a b i).set i (adopt1 a b x) := by
  have hi := (List.getElem?_eq_some_iff.1 h).1
  have hd : l.drop i = x :: l.drop (i + 1) := by
    rw [List.drop_eq_getElem_cons hi]
    rw [List.getElem?_eq_getElem hi] at h
    rw [Option.some.inj h]
  unfold adoptTo
  rw [take_step h, List.map_append, hd, List.set_append_right _ _ (by simp; omega)]
  rw [show i - ((l.take i).map (adopt1 a b)).length = 0 by simp; omega]
  simp
theorem adoptTo_zero (l : List Prc) (a b : Int) : adoptTo l a b 0 = l := by simp [adoptTo]
theorem adoptTo_all (l : List Prc) (a b : Int) : adoptTo l a b l.length = adoptS l a b := by simp [adoptTo, adoptS]
theorem adoptS_len (l : List Prc) (a b : Int) : (adoptS l a b).length = l.length := by simp [adoptS]

set_option maxHeartbeats 4000000 in
theorem adopt_any (v : Value) (l : List Prc) (fr to : Int) (w : World) (hv : Sl w true 26 v (prs l)) (hby : l.length * 168 ≤ 140737488355328) :
    Calls Try.prog 18 #[v, .int .i64 fr, .int .i64 to] w fun e w' => ∃ v', e = .returned v' ∧ Sl w' true 26 v' (prs (adoptS l fr to)) ∧ Below w.heap.size w w' := by
  have HV := Lib.hid hv
  have hl63 : l.length ≤ 9223372036854775807 := by obtain ⟨a, cap, rfl, hl⟩ := hv.shape; rw [prs_len] at hl; exact hl
  clear hv
  go_enter Try.func18, Try.ntmps18
  go_wp2_with fail
  with_reducible refine (clone_proc v (prs l) _ HV.out (by rw [prs_len]; exact hby)).mono ?_
  rintro e w1 ⟨v1, rfl, ho1, hb1⟩
  have hz1 := hb1.size
  obtain ⟨a, cap, rfl, _⟩ := ho1.sl.shape
  have HO1 := Lib.hid ho1
  rw [prs_len] at HO1 ⊢
  have HZ := Lib.hid (adoptTo_all l fr to)
  clear ho1
  go_wp2_with fail
  go_loopw [12] (fun t W => ∃ i : Nat, i ≤ l.length ∧ t = .int .i64 i ∧ Below w.heap.size w W ∧ Owned W w.heap.size 33 true 26 (.slice a l.length cap) (prs (adoptTo l fr to i))) (fun t _ => l.length - (intOf t).toNat)
  case atStart => exact ⟨0, Nat.zero_le _, rfl, hb1, by rw [adoptTo_zero]; exact HO1.out⟩
  case round =>
    obtain ⟨i, hi, rfl, hbw, hown⟩ := hrel
    have hws := hbw.size
    have hwr : IntKind.i64.wrap ((i : Int) + 1) = i + 1 := IntWalk.i64_in _ (by omega)
    have HO := Lib.hid hown
    by_cases hlt : i < l.length
    · obtain ⟨x, hx⟩ : ∃ x, l[i]? = some x := ⟨_, List.getElem?_eq_getElem hlt⟩
      have HX := Lib.hid (prs_get (adoptTo_at (a := fr) (b := to) hx))
      have HST := Lib.hid (adoptTo_step (a := fr) (b := to) hx)
      obtain ⟨g, cap', he, hlc, hcm, hbg, hgw, hfz, hcells⟩ := hown.form (by rw [prs_len, adoptTo_len]; omega)
      simp only [Value.slice.injEq] at he
      obtain ⟨rfl, -, rfl⟩ := he
      have c1 : wr.cell? ⟨g, i * 26 + 1, none⟩ = some (.int .i64 x.par) := hcells i _ HX.out 1 _ (by rw [show (prV x).cells = prC x from rfl]; simpa using prC1 x)
      clear hx hcells hown
      by_cases hp : x.par = fr
      · have hpb : (x.par == fr) = true := by simpa using hp
        have HA := Lib.hid (show adopt1 fr to x = { x with par := to } by unfold adopt1; rw [if_pos hp])
        clear hp
        go_wp2_with fail
        go_roundw
        case rel =>
          have hset := HO.out.cellSet (j := 1) (u := .int .i64 to) HX.out (by decide) rfl
          refine ⟨i + 1, by omega, by go_num, hbw.setCell (p := ⟨g, i * 26 + 1, none⟩) hbg _, ?_⟩
          have h := hset.1
          rw [prC_par, prs_set] at h
          rw [HST.out, HA.out]
          exact h
        case measure => simp [intOf]; omega
      · have hpb : (x.par == fr) = false := by simpa using hp
        have HA := Lib.hid (show adopt1 fr to x = x by unfold adopt1; rw [if_neg hp])
        clear hp
        go_wp2_with fail
        go_roundw
        case rel =>
          refine ⟨i + 1, by omega, by go_num, hbw, ?_⟩
          rw [HST.out, HA.out, ← prs_set, set_self HX.out]
          exact HO.out
        case measure => simp [intOf]; omega
    · obtain rfl : i = l.length := by omega
      rw [HZ.out] at HO
      clear hown
      go_wp2_with fail
      go_ret
      exact ⟨_, rfl, HO.out.sl, hbw⟩

/-- A right table: numbers from 1 on, each above the one ahead of it. -/
def lastP (l : List Prc) (i : Nat) : Int := match i with | 0 => 0 | k + 1 => match l[k]? with | some x => x.pid | none => 0
def RightT (l : List Prc) : Prop := ∀ (i : Nat) (x : Prc), l[i]? = some x → lastP l i < x.pid
open Classical in
noncomputable def rightT (l : List Prc) : Bool := decide (RightT l)
theorem rightT_true {l : List Prc} (h : RightT l) : rightT l = true := by unfold rightT; simp [h]
theorem rightT_false {l : List Prc} (h : ¬ RightT l) : rightT l = false := by unfold rightT; simp [h]
set_option maxHeartbeats 1000000 in
theorem right_any (v : Value) (l : List Prc) (w : World) (hv : Sl w true 26 v (prs l)) :
    Calls Try.prog 30 #[v] w fun e w' => e = .returned (.bool (rightT l)) ∧ Below w.heap.size w w' := by
  have HV := Lib.hid hv
  obtain ⟨a, cap, rfl, hl⟩ := hv.shape
  rw [prs_len] at hl HV ⊢
  clear hv
  go_enter Try.func30, Try.ntmps30
  go_wp2_with fail
  go_loopw [3, 8] (fun m t W => ∃ i : Nat, i ≤ l.length ∧ t = .int .i64 i ∧ m = .int .i64 (lastP l i) ∧ Below w.heap.size w W ∧ ∀ (j : Nat) (x : Prc), j < i → l[j]? = some x → lastP l j < x.pid) (fun _ t _ => l.length - (intOf t).toNat)
  case atStart => exact ⟨0, Nat.zero_le _, rfl, rfl, Below.refl _ _, by intro j x h; omega⟩
  case round =>
    obtain ⟨i, hi, rfl, rfl, hbw, hprev⟩ := hrel
    have hws := hbw.size
    have HP := Lib.hid hprev
    clear hprev
    by_cases hlt : i < l.length
    · obtain ⟨x, hx⟩ : ∃ x, l[i]? = some x := ⟨_, List.getElem?_eq_getElem hlt⟩
      obtain ⟨b, off, rfl, hb, hcells, c0, c1, c2⟩ := Sl.pr (HV.out.below hbw) hx
      have HX := Lib.hid hx
      have HST := Lib.hid (show lastP l (i + 1) = x.pid by simp only [lastP, hx])
      have HCE := Lib.hid hcells
      have q0 := prC0 x
      have HVX := Lib.hid (pr_val x)
      have hwr : IntKind.i64.wrap ((i : Int) + 1) = i + 1 := IntWalk.i64_in _ (by omega)
      clear hx hcells
      by_cases hle : x.pid ≤ lastP l i
      · have HN := Lib.hid (rightT_false (l := l) (fun h => by have := h i x HX.out; omega))
        generalize lastP l i = m at *
        go_wp2_with (first | (refine wpList_load_val rfl 33 _ rfl b (off + i * 26) (by simp [Act.eval]) (prV x) ty_proc HVX.out HCE.out ?_) | (refine wpList_store_freshA rfl 33 _ _ rfl (prC x) ty_proc HVX.out (by rfl) (by simp [Act.eval, Act.put]) (by simp [Act.eval, Act.put]) ?_) | fail)
        go_ret
        exact ⟨by rw [HN.out]; rfl, by (repeat (first | with_reducible assumption | with_reducible exact Below.refl _ _ | with_reducible refine Below.setCell ?_ ?_ _ | with_reducible refine Below.alloc ?_ ?_ _ | with_reducible refine below_drewN' ?_ _ | with_reducible refine Below.drew ?_ | with_reducible refine Below.trans ?_ (Below.mono (by assumption) ?_) | omega | (dsimp only; omega) | (simp only [drew_heap', drewN_heap', World.size_alloc, World.size_setCell]; omega) | (solve | simp) | (solve | (simp; omega))))⟩
      · have HP2 := Lib.hid (show ∀ (j : Nat) (y : Prc), j < i + 1 → l[j]? = some y → lastP l j < y.pid from fun j y hj hy => by
          rcases Nat.lt_succ_iff_lt_or_eq.1 hj with hj | rfl
          · exact HP.out j y hj hy
          · rw [HX.out] at hy; cases hy; omega)
        generalize lastP l i = m at *
        go_wp2_with (first | (refine wpList_load_val rfl 33 _ rfl b (off + i * 26) (by simp [Act.eval]) (prV x) ty_proc HVX.out HCE.out ?_) | (refine wpList_store_freshA rfl 33 _ _ rfl (prC x) ty_proc HVX.out (by rfl) (by simp [Act.eval, Act.put]) (by simp [Act.eval, Act.put]) ?_) | fail)
        go_roundw
        case rel => exact ⟨i + 1, by omega, by go_num, by rw [HST.out], by (repeat (first | with_reducible assumption | with_reducible exact Below.refl _ _ | with_reducible refine Below.setCell ?_ ?_ _ | with_reducible refine Below.alloc ?_ ?_ _ | with_reducible refine below_drewN' ?_ _ | with_reducible refine Below.drew ?_ | with_reducible refine Below.trans ?_ (Below.mono (by assumption) ?_) | omega | (dsimp only; omega) | (simp only [drew_heap', drewN_heap', World.size_alloc, World.size_setCell]; omega) | (solve | simp) | (solve | (simp; omega)))), HP2.out⟩
        case measure => simp [intOf]; omega
    · obtain rfl : i = l.length := by omega
      have HN := Lib.hid (rightT_true (l := l) (fun j x hx => HP.out j x (List.getElem?_eq_some_iff.1 hx).1 hx))
      go_wp2_with fail
      go_ret
      exact ⟨by rw [HN.out]; rfl, hbw⟩
end Go.Proofs.Ytianochlnbehnaa
