/- The library's functions on rows of ints, as turn calls them. Conditions: lengths within the reach. -/
import Derived.Test.YtbehjbiicopgpaaRows
import Derived.Test.YtbehjbiicopgpaaChecked
import Derived.Test.YtbehjbiicopgpaaLib5
import Derived.RegionTactic
import Derived.BigRegion
namespace Go.Proofs.Ytbehjbiicopgpaa
open Go Go.RowKit Go.Tm
set_option linter.unusedVariables false
set_option linter.unusedSimpArgs false


theorem ty_int : Ty Try.prog 3 1 false := ⟨by kernel_rfl, by kernel_rfl, by decide, by kernel_rfl⟩


theorem ty_ints : Ty Try.prog 22 1 false := ⟨by kernel_rfl, by kernel_rfl, by decide, by kernel_rfl⟩


set_option maxHeartbeats 1000000 in
theorem indexFunc_int (v : Value) (xs : List Value) (fid : FuncId) (caps : Array Value) (p : Value → Bool) (w : World) (hsl : Sl w false 1 v xs) (hp : Pred Try.prog w none fid caps p xs) :
    Calls Try.prog 19 #[v, .func (.func fid) #[] caps] w fun e w' => e = .returned (.int .i64 (idx p xs)) ∧ Below w.heap.size w w' := by
  obtain ⟨hsz, a, cap, rfl, hl, hm, hform⟩ := hsl
  unfold maxLen at hm
  have hlen : xs.length ≤ 9223372036854775807 := by omega
  go_enter Try.func19, Try.ntmps19
  go_wp2_with fail
  go_loopw [8] (fun t wr => ∃ i : Nat, i ≤ xs.length ∧ t = .int .i64 i ∧ Below w.heap.size w wr ∧ ∀ j y, j < i → xs[j]? = some y → p y = false) (fun t _ => xs.length - (intOf t).toNat)
  case atStart => exact ⟨0, Nat.zero_le _, rfl, Below.refl _ _, by intro j y h; omega⟩
  case round =>
    obtain ⟨i, hi, rfl, hbw, hprev⟩ := hrel
    have HP := Lib.hid hprev
    clear hprev
    by_cases hlt : i < xs.length
    · obtain ⟨x, hx⟩ : ∃ x, xs[i]? = some x := ⟨_, List.getElem?_eq_getElem hlt⟩
      have hmem : x ∈ xs := List.mem_of_getElem? hx
      have HV := Lib.hid (hsz _ hmem)
      obtain ⟨b, off, rfl, hb, hcell⟩ : ∃ b off, a = some ⟨b, off, none⟩ ∧ b < w.heap.size ∧ Cells wr b (off + i * 1) x.cells.toList := by
        rcases hform with h0 | ⟨b, off, ha, hb, hc⟩
        · subst h0; simp at hlt
        · exact ⟨b, off, ha, hb, (hc i _ hx).below hbw hb⟩
      have HX := Lib.hid hx
      have HCE := Lib.hid hcell
      clear hx hcell hform hsz
      have hcall := hp.asks wr (grown_of_below hbw none) _ hmem
      have hbody := hp.body
      unfold Body at hbody
      have HC := Lib.hid hcall
      clear hcall hp
      cases hpx : p x
      · have HPX := Lib.hid hpx
        rw [hpx] at HC
        clear hpx
        go_wp2_with (first | (refine wpList_load_val rfl 3 _ rfl b (off + i * 1) (by simp [Act.eval]) x ty_int HV.out HCE.out ?_) | fail)
        refine HC.out.mono ?_
        rintro e w1 ⟨rfl, hb1⟩
        go_wp2_with fail
        go_roundw
        case rel =>
          refine ⟨i + 1, by omega, by go_num, hbw.trans (hb1.mono hbw.size), ?_⟩
          intro j y hj hy
          rcases Nat.lt_succ_iff_lt_or_eq.1 hj with hj | rfl
          · exact HP.out j y hj hy
          · rw [HX.out] at hy; cases hy; exact HPX.out
        case measure => simp [intOf]; omega
      · have HPX := Lib.hid hpx
        rw [hpx] at HC
        clear hpx
        go_wp2_with (first | (refine wpList_load_val rfl 3 _ rfl b (off + i * 1) (by simp [Act.eval]) x ty_int HV.out HCE.out ?_) | fail)
        refine HC.out.mono ?_
        rintro e w1 ⟨rfl, hb1⟩
        go_wp2_with fail
        go_ret
        exact ⟨by rw [idx_some HX.out HPX.out HP.out]; rfl, hbw.trans (hb1.mono hbw.size)⟩
    · go_wp2_with fail
      go_ret
      refine ⟨?_, hbw⟩
      rw [idx_none ?_]; · rfl
      intro x hx
      obtain ⟨j, hj, hxj⟩ := List.getElem_of_mem hx
      exact HP.out j x (by omega) (by rw [← hxj]; exact List.getElem?_eq_getElem hj)


theorem info_int : (Try.prog.info? 3).map (fun i => (i.zero, i.size, i.bytes)) = some (some (.int .i64 0), 1, 8) := by kernel_rfl

set_option maxHeartbeats 1000000 in
theorem clone_int (v : Value) (xs : List Value) (w : World) (hsl : Sl w false 1 v xs) (hbytes : xs.length * 8 ≤ 140737488355328) :
    Calls Try.prog 22 #[v] w fun e w' => ∃ v', e = .returned v' ∧ Owned w' w.heap.size 3 false 1 v' xs ∧ Below w.heap.size w w' := by
  have hsl0 := Lib.hid hsl
  obtain ⟨hsz, a, cap, rfl, hl, hm, hform⟩ := hsl
  have hlen : xs.length ≤ maxLen := by omega
  cases a with
  | none =>
    have h0 : xs = [] := by
      rcases hform with h0 | ⟨b, off, hb, _⟩
      · exact h0
      · cases hb
    subst h0
    have hnil := fun (n c : Nat) (w : World) => run_eql_slice_none Try.prog (t := 22) (n := n) (c := c) Try.underlying22 w
    clear hform hsz hl hm hlen
    go_enter Try.func22, Try.ntmps22
    go_wp2_with fail
    go_ret
    exact ⟨_, rfl, ⟨World.ownsRow_nil _ _ _ _, by simp⟩, Below.refl _ _⟩
  | some a =>
    have hnil := fun (n c : Nat) (w : World) => run_eql_slice_some Try.prog (t := 22) (a := a) (n := n) (c := c) Try.underlying22 w
    obtain ⟨i0, hi, hz0, hz1, hz2⟩ := info_parts info_int
    have HI := Lib.hid hi
    have HZ := Lib.hid (And.intro hz0 (And.intro hz1 hz2))
    have HS := Lib.hid hsz
    clear hi hz0 hz1 hz2 hform hl hm hsz
    go_enter Try.func22, Try.ntmps22
    go_wp2_with (first | (refine wpList_append_own _ rfl _ _ 22 rfl w.heap.size 3 i0 (.int .i64 0) 1 8 Try.underlying22 HI.out HZ.out.1 HZ.out.2.1 HZ.out.2.2 rfl (by decide) (.slice (some ⟨w.heap.size, 0, none⟩) 0 0) 0 [] (by simp [Act.eval]) (World.ownsRow_made w #[] 0 (Nat.le_refl _) (Nat.zero_le _) rfl) a xs.length cap (flat xs) (by simp [Act.eval]) ?c1 ?c2 ?c3 ?c4 ?c5 ?c6 ?_) | fail)
    case c1 => exact flat_len HS.out
    case c2 => exact (hsl0.out.below ((Below.refl _ _).alloc (Nat.le_refl _) _)).news
    case c3 => exact flat_one HS.out
    case c4 => omega
    case c5 => omega
    case c6 => simp
    intro v' w1 hown hgrow _
    try simp only [Nat.zero_add, List.nil_append] at hown
    have HO := Lib.hid hown
    have HG := Lib.hid hgrow
    clear hown hgrow
    go_wp2_with fail
    go_ret
    exact ⟨_, rfl, ⟨HO.out, HS.out⟩, ((Below.refl _ _).alloc (Nat.le_refl _) _).grown HG.out (by simp) (by intro k hk; simp [Value.ownBlock] at hk; omega)⟩


set_option maxHeartbeats 1000000 in
theorem equal_int (v u : Value) (l m : List Int) (w : World) (hv : Sl w false 1 v (ints l)) (hu : Sl w false 1 u (ints m)) :
    Calls Try.prog 17 #[v, u] w fun e w' => e = .returned (.bool (decide (l = m))) ∧ Below w.heap.size w w' := by
  have HV := Lib.hid hv
  have HU := Lib.hid hu
  obtain ⟨a, cap, rfl, hl⟩ := hv.shape
  obtain ⟨a2, cap2, rfl, hl2⟩ := hu.shape
  rw [ints_len] at hl hl2
  clear hv hu
  rw [ints_len, ints_len]
  rw [ints_len] at HV HU
  by_cases hlm : l.length = m.length
  · go_enter Try.func17, Try.ntmps17
    rw [← hlm] at HU ⊢
    have HLM := Lib.hid hlm
    clear hlm hl2
    go_wp2_with fail
    go_loopw [13] (fun t W => ∃ i : Nat, i ≤ l.length ∧ t = .int .i64 i ∧ Below w.heap.size w W ∧ ∀ j, j < i → l[j]? = m[j]?) (fun t _ => l.length - (intOf t).toNat)
    case atStart => exact ⟨0, Nat.zero_le _, rfl, Below.refl _ _, by intro j h; omega⟩
    case round =>
      obtain ⟨i, hi, rfl, hbw, hprev⟩ := hrel
      have HP := Lib.hid hprev
      have hws := hbw.size
      clear hprev
      by_cases hlt : i < l.length
      · obtain ⟨x, hx⟩ : ∃ x, l[i]? = some x := ⟨_, List.getElem?_eq_getElem hlt⟩
        obtain ⟨y, hy⟩ : ∃ y, m[i]? = some y := ⟨_, List.getElem?_eq_getElem (by rw [← HLM.out]; exact hlt)⟩
        obtain ⟨b, off, rfl, hb, hcell⟩ := (HV.out.below hbw).at (ints_get hx)
        obtain ⟨b2, off2, rfl, hb2, hcell2⟩ := (HU.out.below hbw).at (ints_get hy)
        have c0 : wr.cell? ⟨b, off + i, none⟩ = some (.int .i64 x) := by have := hcell 0 _ rfl; simpa using this
        have e0 : wr.cell? ⟨b2, off2 + i, none⟩ = some (.int .i64 y) := by have := hcell2 0 _ rfl; simpa using this
        have hwr : IntKind.i64.wrap ((i : Int) + 1) = i + 1 := IntWalk.i64_in _ (by omega)
        have HX := Lib.hid hx
        have HY := Lib.hid hy
        clear hcell hcell2 hx hy
        by_cases hxy : x = y
        · subst hxy
          go_wp2_with fail
          go_region
          go_wp2_with fail
          go_roundw
          case rel =>
            refine ⟨i + 1, by omega, by go_num, by (repeat (first | with_reducible assumption | with_reducible exact Below.refl _ _ | with_reducible refine Below.setCell ?_ ?_ _ | with_reducible refine Below.alloc ?_ ?_ _ | with_reducible refine below_drewN' ?_ _ | with_reducible refine Below.drew ?_ | with_reducible refine Below.trans ?_ (Below.mono (by assumption) ?_) | omega | (dsimp only; omega) | (simp only [drew_heap', drewN_heap', World.size_alloc, World.size_setCell]; omega) | (solve | simp) | (solve | (simp; omega)))), ?_⟩
            intro j hj
            rcases Nat.lt_succ_iff_lt_or_eq.1 hj with hj | rfl
            · exact HP.out j hj
            · rw [HX.out, HY.out]
          case measure => simp [intOf]; omega
        · have n1 : (x != y) = true := by simpa using hxy
          go_wp2_with fail
          go_region
          go_wp2_with fail
          go_ret
          refine ⟨?_, by (repeat (first | with_reducible assumption | with_reducible exact Below.refl _ _ | with_reducible refine Below.setCell ?_ ?_ _ | with_reducible refine Below.alloc ?_ ?_ _ | with_reducible refine below_drewN' ?_ _ | with_reducible refine Below.drew ?_ | with_reducible refine Below.trans ?_ (Below.mono (by assumption) ?_) | omega | (dsimp only; omega) | (simp only [drew_heap', drewN_heap', World.size_alloc, World.size_setCell]; omega) | (solve | simp) | (solve | (simp; omega))))⟩
          have : ¬ l = m := by
            rintro rfl
            have h := HX.out.symm.trans HY.out
            exact hxy (Option.some.inj h)
          simp [this]
      · go_wp2_with fail
        go_ret
        refine ⟨?_, hbw⟩
        have : l = m := by
          apply List.ext_getElem?
          intro j
          by_cases hj : j < i
          · exact HP.out j hj
          · rw [List.getElem?_eq_none (by omega), List.getElem?_eq_none (by rw [← HLM.out]; omega)]
        simp [this]
  · have hne : ¬ l = m := fun h => hlm (by rw [h])
    have hb : (((l.length : Int)) != (m.length : Int)) = true := by simp; omega
    go_enter Try.func17, Try.ntmps17
    go_wp2_with fail
    go_ret
    exact ⟨by simp [hne], by (repeat (first | with_reducible assumption | with_reducible exact Below.refl _ _ | with_reducible refine Below.setCell ?_ ?_ _ | with_reducible refine Below.alloc ?_ ?_ _ | with_reducible refine below_drewN' ?_ _ | with_reducible refine Below.drew ?_ | with_reducible refine Below.trans ?_ (Below.mono (by assumption) ?_) | omega | (dsimp only; omega) | (simp only [drew_heap', drewN_heap', World.size_alloc, World.size_setCell]; omega) | (solve | simp) | (solve | (simp; omega))))⟩

/-- The place of x in a row; -1: none. -/
def placeI (l : List Int) (x : Int) : Int := idx (fun v => match v with | .int _ n => decide (n = x) | _ => false) (ints l)
theorem placeI_some {l : List Int} {i : Nat} {x : Int} (h : l[i]? = some x) (hp : ∀ j, j < i → l[j]? ≠ some x) : placeI l x = i := by
  unfold placeI
  refine idx_some (x := .int .i64 x) (by simp [h]) (by simp) ?_
  intro j y hj hy
  rw [List.getElem?_map] at hy
  cases hl : l[j]? with
  | none => rw [hl] at hy; simp at hy
  | some z =>
    rw [hl] at hy
    simp at hy
    subst hy
    have := hp j hj
    rw [hl] at this
    simp at this
    simp [this]
theorem placeI_none {l : List Int} {x : Int} (h : x ∉ l) : placeI l x = -1 := by
  unfold placeI
  refine idx_none ?_
  intro y hy
  obtain ⟨n, hn, rfl⟩ := List.mem_map.1 hy
  simp
  rintro rfl
  exact h hn

set_option maxHeartbeats 1000000 in
theorem index_int (v : Value) (l : List Int) (x : Int) (w : World) (hv : Sl w false 1 v (ints l)) :
    Calls Try.prog 25 #[v, .int .i64 x] w fun e w' => e = .returned (.int .i64 (placeI l x)) ∧ Below w.heap.size w w' := by
  have HV := Lib.hid hv
  obtain ⟨a, cap, rfl, hl⟩ := hv.shape
  clear hv
  rw [ints_len] at hl HV ⊢
  go_enter Try.func25, Try.ntmps25
  go_wp2_with fail
  go_loopw [8] (fun t W => ∃ i : Nat, i ≤ l.length ∧ t = .int .i64 i ∧ Below w.heap.size w W ∧ ∀ j, j < i → l[j]? ≠ some x) (fun t _ => l.length - (intOf t).toNat)
  case atStart => exact ⟨0, Nat.zero_le _, rfl, Below.refl _ _, by intro j h; omega⟩
  case round =>
    obtain ⟨i, hi, rfl, hbw, hprev⟩ := hrel
    have HP := Lib.hid hprev
    have hws := hbw.size
    clear hprev
    by_cases hlt : i < l.length
    · obtain ⟨y, hy⟩ : ∃ y, l[i]? = some y := ⟨_, List.getElem?_eq_getElem hlt⟩
      obtain ⟨b, off, rfl, hb, hcell⟩ := (HV.out.below hbw).at (ints_get hy)
      have c0 : wr.cell? ⟨b, off + i, none⟩ = some (.int .i64 y) := by have := hcell 0 _ rfl; simpa using this
      have hwr : IntKind.i64.wrap ((i : Int) + 1) = i + 1 := IntWalk.i64_in _ (by omega)
      have HY := Lib.hid hy
      clear hcell hy
      by_cases hxy : x = y
      · subst hxy
        go_wp2_with fail
        try go_region
        go_wp2_with fail
        go_ret
        exact ⟨by rw [placeI_some HY.out HP.out]; rfl, by (repeat (first | with_reducible assumption | with_reducible exact Below.refl _ _ | with_reducible refine Below.setCell ?_ ?_ _ | with_reducible refine Below.alloc ?_ ?_ _ | with_reducible refine below_drewN' ?_ _ | with_reducible refine Below.drew ?_ | with_reducible refine Below.trans ?_ (Below.mono (by assumption) ?_) | omega | (dsimp only; omega) | (simp only [drew_heap', drewN_heap', World.size_alloc, World.size_setCell]; omega) | (solve | simp) | (solve | (simp; omega))))⟩
      · have n1 : (x == y) = false := by simpa using hxy
        have n2 : (x != y) = true := by simpa using hxy
        go_wp2_with fail
        try go_region
        go_wp2_with fail
        go_roundw
        case rel =>
          refine ⟨i + 1, by omega, by go_num, by (repeat (first | with_reducible assumption | with_reducible exact Below.refl _ _ | with_reducible refine Below.setCell ?_ ?_ _ | with_reducible refine Below.alloc ?_ ?_ _ | with_reducible refine below_drewN' ?_ _ | with_reducible refine Below.drew ?_ | with_reducible refine Below.trans ?_ (Below.mono (by assumption) ?_) | omega | (dsimp only; omega) | (simp only [drew_heap', drewN_heap', World.size_alloc, World.size_setCell]; omega) | (solve | simp) | (solve | (simp; omega)))), ?_⟩
          intro j hj
          rcases Nat.lt_succ_iff_lt_or_eq.1 hj with hj | rfl
          · exact HP.out j hj
          · rw [HY.out]; intro h; exact hxy (Option.some.inj h).symm
        case measure => simp [intOf]; omega
    · go_wp2_with fail
      go_ret
      refine ⟨?_, hbw⟩
      rw [placeI_none]; · rfl
      intro hm
      obtain ⟨j, hj, hxj⟩ := List.getElem_of_mem hm
      exact HP.out j (by omega) (by rw [← hxj]; exact List.getElem?_eq_getElem hj)

theorem placeI_iff (l : List Int) (x : Int) : (placeI l x = -1 ∧ x ∉ l) ∨ (∃ i : Nat, placeI l x = i ∧ x ∈ l ∧ i < l.length) := by
  unfold placeI idx
  cases h : (ints l).findIdx? _ with
  | none =>
    refine .inl ⟨rfl, fun hm => ?_⟩
    rw [List.findIdx?_eq_none_iff] at h
    have := h (.int .i64 x) (List.mem_map.2 ⟨x, hm, rfl⟩)
    simp at this
  | some i =>
    rw [List.findIdx?_eq_some_iff_getElem] at h
    obtain ⟨hi, hp, _⟩ := h
    refine .inr ⟨i, rfl, ?_, by simpa using hi⟩
    simp at hp
    rw [← hp]
    exact List.getElem_mem _

theorem contains_int (v : Value) (l : List Int) (x : Int) (w : World) (hv : Sl w false 1 v (ints l)) :
    Calls Try.prog 18 #[v, .int .i64 x] w fun e w' => e = .returned (.bool (decide (x ∈ l))) ∧ Below w.heap.size w w' := by
  have hI := fun W h => index_int v l x W h
  have HV := Lib.hid hv
  obtain ⟨a, cap, rfl, hl⟩ := hv.shape
  clear hv
  rw [ints_len] at hl HV hI ⊢
  rcases placeI_iff l x with ⟨hp, hm⟩ | ⟨i, hp, hm, _⟩
  all_goals
    rw [hp] at hI
    go_enter Try.func18, Try.ntmps18
    go_wp2_with fail
    with_reducible refine (hI _ (HV.out)).mono ?_
    rintro e w1 ⟨rfl, hb1⟩
    go_wp2_with fail
    go_ret
    exact ⟨by simp [hm], by (repeat (first | with_reducible assumption | with_reducible exact Below.refl _ _ | with_reducible refine Below.setCell ?_ ?_ _ | with_reducible refine Below.alloc ?_ ?_ _ | with_reducible refine below_drewN' ?_ _ | with_reducible refine Below.drew ?_ | with_reducible refine Below.trans ?_ (Below.mono (by assumption) ?_) | omega | (dsimp only; omega) | (simp only [drew_heap', drewN_heap', World.size_alloc, World.size_setCell]; omega) | (solve | simp) | (solve | (simp; omega))))⟩

set_option maxHeartbeats 1000000 in
theorem grow_int (n : Nat) (w : World) (hn : n * 8 ≤ 140737488355328) :
    Calls Try.prog 26 #[.slice none 0 0, .int .i64 n] w fun e w' => ∃ v', e = .returned v' ∧ Owned w' w.heap.size 3 false 1 v' [] ∧ Below w.heap.size w w' := by
  obtain ⟨i0, hi0, hq0, hq1, hq2⟩ := info_parts info_int
  have HI := Lib.hid (And.intro hi0 (And.intro hq0 (And.intro hq1 hq2)))
  clear hi0 hq0 hq1 hq2
  by_cases h0 : n = 0
  · subst h0
    go_enter Try.func26, Try.ntmps26
    go_wp2_with fail
    go_ret
    exact ⟨_, rfl, Owned.nil, by (repeat (first | with_reducible assumption | with_reducible exact Below.refl _ _ | with_reducible refine Below.setCell ?_ ?_ _ | with_reducible refine Below.alloc ?_ ?_ _ | with_reducible refine below_drewN' ?_ _ | with_reducible refine Below.drew ?_ | with_reducible refine Below.trans ?_ (Below.mono (by assumption) ?_) | omega | (dsimp only; omega) | (simp only [drew_heap', drewN_heap', World.size_alloc, World.size_setCell]; omega) | (solve | simp) | (solve | (simp; omega))))⟩
  · go_enter Try.func26, Try.ntmps26
    go_wp2_with (first | (refine wpList_append_zeros (base := w.heap.size) (E := 3) (ag := false) (k := 1) rfl _ _ 22 3 rfl ty_int i0 (.int .i64 0) .i64 8 Try.underlying22 Try.underlying3 HI.out.1 HI.out.2.1 HI.out.2.2.1 HI.out.2.2.2 rfl ?_ n (by omega) ?_ ?_ (by omega) (Nat.le_refl _) ?_; (focus (simp [Act.eval])); (focus (simp [Act.eval])); (focus (unfold maxLen; omega)); (intro cap2 w2 hc2 ho2 hg2; (have hb2 : Below w.heap.size w w2 := below_of_grown hg2); (have HO2 := Lib.hid ho2); clear ho2 hg2)) | fail)
    go_ret
    exact ⟨_, rfl, HO2.out, hb2⟩

set_option maxHeartbeats 2000000 in
/-- slices.Concat of two rows. -/
theorem concat_int (v1 v2 : Value) (l1 l2 : List Int) (B : Nat) (w : World) (h1 : Sl w false 1 v1 (ints l1)) (h2 : Sl w false 1 v2 (ints l2)) (hB : B < w.heap.size)
    (c0 : w.cell? ⟨B, 0, none⟩ = some v1) (c1 : w.cell? ⟨B, 1, none⟩ = some v2) (hby : (l1.length + l2.length) * 8 ≤ 140737488355328) :
    Calls Try.prog 24 #[.slice (some ⟨B, 0, none⟩) 2 2] w fun e w' => ∃ v', e = .returned v' ∧ Owned w' w.heap.size 3 false 1 v' (ints (l1 ++ l2)) ∧ Below w.heap.size w w' := by
  have H1 := Lib.hid h1
  have H2 := Lib.hid h2
  obtain ⟨a1, cap1, rfl, hl1⟩ := h1.shape
  obtain ⟨a2, cap2, rfl, hl2⟩ := h2.shape
  obtain ⟨i0, hi0, hq0, hq1, hq2⟩ := info_parts info_int
  have HI := Lib.hid (And.intro hi0 (And.intro hq0 (And.intro hq1 hq2)))
  clear hi0 hq0 hq1 hq2 h1 h2
  rw [ints_len] at hl1 hl2 c0 c1 H1 H2
  go_enter Try.func24, Try.ntmps24
  go_wp2_with fail
  go_loopw [3, 11] (fun s t W => ∃ i : Nat, i ≤ 2 ∧ t = .int .i64 i ∧ Below w.heap.size w W ∧ s = .int .i64 ((if 0 < i then (l1.length : Int) else 0) + (if 1 < i then (l2.length : Int) else 0))) (fun _ t _ => 2 - (intOf t).toNat)
  case atStart => exact ⟨0, by omega, rfl, Below.refl _ _, rfl⟩
  case round =>
    obtain ⟨i, hi, rfl, hbw, rfl⟩ := hrel
    have hws := hbw.size
    have d0 : wr.cell? ⟨B, 0, none⟩ = some (.slice a1 l1.length cap1) := (hbw.cell (p := ⟨B, 0, none⟩) hB).trans c0
    have d1 : wr.cell? ⟨B, 1, none⟩ = some (.slice a2 l2.length cap2) := (hbw.cell (p := ⟨B, 1, none⟩) hB).trans c1
    have C0 := Lib.hid c0
    have C1 := Lib.hid c1
    clear c0 c1
    have hs1 : IntKind.i64.wrap (0 + (l1.length : Int)) = l1.length := by rw [IntWalk.i64_in _ (by omega)]; omega
    have hs2 : IntKind.i64.wrap ((l1.length : Int) + l2.length) = l1.length + l2.length := IntWalk.i64_in _ (by omega)
    obtain rfl | rfl | rfl : i = 0 ∨ i = 1 ∨ i = 2 := by omega
    · go_wp2_with fail
      go_roundw
      case rel => exact ⟨1, by omega, rfl, hbw, by simp⟩
      case measure => simp [intOf]
    · go_wp2_with fail
      go_roundw
      case rel => exact ⟨2, by omega, rfl, hbw, by simp⟩
      case measure => simp [intOf]
    · have hsum : ((if 0 < 2 then (l1.length : Int) else 0) + (if 1 < 2 then (l2.length : Int) else 0)) = ((l1.length + l2.length : Nat) : Int) := by simp
      rw [hsum]
      have hG := grow_int (l1.length + l2.length) wr hby
      simp only [Int.natCast_add] at hG ⊢
      clear hsum hs1 hs2
      go_wp2_with fail
      with_reducible refine hG.mono ?_
      rintro e w2 ⟨v2, rfl, ho2, hb2⟩
      have hz2 := hb2.size
      have HO2 := Lib.hid (ho2.le hws)
      clear ho2 hG
      go_wp2_with fail
      go_loopw [6, 27] (fun u t W => ∃ (i : Nat) (tv : Value), i ≤ 2 ∧ tv = u ∧ t = .int .i64 i ∧ Below w.heap.size w W ∧ Owned W w.heap.size 3 false 1 u (if i = 0 then [] else if i = 1 then ints l1 else ints l1 ++ ints l2)) (fun _ t _ => 2 - (intOf t).toNat)
      case atStart => exact ⟨0, _, by omega, rfl, rfl, by (repeat (first | with_reducible assumption | with_reducible exact Below.refl _ _ | with_reducible refine Below.setCell ?_ ?_ _ | with_reducible refine Below.alloc ?_ ?_ _ | with_reducible refine below_drewN' ?_ _ | with_reducible refine Below.drew ?_ | with_reducible refine Below.trans ?_ (Below.mono (by assumption) ?_) | omega | (dsimp only; omega) | (simp only [drew_heap', drewN_heap', World.size_alloc, World.size_setCell]; omega) | (solve | simp) | (solve | (simp; omega)))), HO2.out⟩
      case round =>
        obtain ⟨i, tv, hi, rfl, rfl, hbw2, hown⟩ := hrel
        have d0 : wr.cell? ⟨B, 0, none⟩ = some (.slice a1 l1.length cap1) := (hbw2.cell (p := ⟨B, 0, none⟩) hB).trans C0.out
        have d1 : wr.cell? ⟨B, 1, none⟩ = some (.slice a2 l2.length cap2) := (hbw2.cell (p := ⟨B, 1, none⟩) hB).trans C1.out
        have hws2 := hbw2.size
        have HO := Lib.hid hown
        clear hown
        have G1 := Lib.hid (H1.out.below hbw2)
        have G2 := Lib.hid (H2.out.below hbw2)
        obtain rfl | rfl | rfl : i = 0 ∨ i = 1 ∨ i = 2 := by omega
        · have HO := Lib.hid (show Owned wr w.heap.size 3 false 1 tv [] from HO.out)
          go_wp2_with (first | (refine wpList_append_sl (v := tv) (xs := []) (base := w.heap.size) rfl _ _ 22 rfl ty_int i0 (.int .i64 0) 8 Try.underlying22 HI.out.1 HI.out.2.1 HI.out.2.2.1 HI.out.2.2.2 rfl ?_ ?_ (.slice a1 l1.length cap1) (ints l1) ?_ ?_ ?_ ?_ ?_ ?_; (focus (simp [Act.eval])); (focus (exact HO.out)); (focus (simp [Act.eval])); (focus (exact G1.out)); (focus (first | (simp [maxLen]; omega) | (solve | simp [maxLen]))); (focus (first | (simp; omega) | (solve | simp))); (focus (first | omega | (simp only [World.size_alloc, World.size_setCell]; omega))); (intro v4 w4 ho4 hg4 hf4; (have hb4 : Below w.heap.size w w4 := HO.out.below hg4 (by (repeat (first | with_reducible assumption | with_reducible exact Below.refl _ _ | with_reducible refine Below.setCell ?_ ?_ _ | with_reducible refine Below.alloc ?_ ?_ _ | with_reducible refine below_drewN' ?_ _ | with_reducible refine Below.drew ?_ | with_reducible refine Below.trans ?_ (Below.mono (by assumption) ?_) | omega | (dsimp only; omega) | (simp only [drew_heap', drewN_heap', World.size_alloc, World.size_setCell]; omega) | (solve | simp) | (solve | (simp; omega))))) (by omega) (by omega)); (have HO4 := Lib.hid ho4); (clear ho4 hg4 hf4))) | fail)
          go_roundw
          case rel => exact ⟨1, _, by omega, rfl, rfl, hb4, HO4.out⟩
          case measure => simp [intOf]
        · have HO := Lib.hid (show Owned wr w.heap.size 3 false 1 tv (ints l1) from HO.out)
          go_wp2_with (first | (refine wpList_append_sl (v := tv) (xs := ints l1) (base := w.heap.size) rfl _ _ 22 rfl ty_int i0 (.int .i64 0) 8 Try.underlying22 HI.out.1 HI.out.2.1 HI.out.2.2.1 HI.out.2.2.2 rfl ?_ ?_ (.slice a2 l2.length cap2) (ints l2) ?_ ?_ ?_ ?_ ?_ ?_; (focus (simp [Act.eval])); (focus (exact HO.out)); (focus (simp [Act.eval])); (focus (exact G2.out)); (focus (first | (simp [maxLen]; omega) | (solve | simp [maxLen]))); (focus (first | (simp; omega) | (solve | simp))); (focus (first | omega | (simp only [World.size_alloc, World.size_setCell]; omega))); (intro v4 w4 ho4 hg4 hf4; (have hb4 : Below w.heap.size w w4 := HO.out.below hg4 (by (repeat (first | with_reducible assumption | with_reducible exact Below.refl _ _ | with_reducible refine Below.setCell ?_ ?_ _ | with_reducible refine Below.alloc ?_ ?_ _ | with_reducible refine below_drewN' ?_ _ | with_reducible refine Below.drew ?_ | with_reducible refine Below.trans ?_ (Below.mono (by assumption) ?_) | omega | (dsimp only; omega) | (simp only [drew_heap', drewN_heap', World.size_alloc, World.size_setCell]; omega) | (solve | simp) | (solve | (simp; omega))))) (by omega) (by omega)); (have HO4 := Lib.hid ho4); (clear ho4 hg4 hf4))) | fail)
          go_roundw
          case rel => exact ⟨2, _, by omega, rfl, rfl, hb4, HO4.out⟩
          case measure => simp [intOf]
        · have HO := Lib.hid (show Owned wr w.heap.size 3 false 1 tv (ints l1 ++ ints l2) from HO.out)
          go_wp2_with fail
          go_ret
          exact ⟨_, rfl, by rw [ints, List.map_append]; exact HO.out, hbw2⟩
end Go.Proofs.Ytbehjbiicopgpaa
