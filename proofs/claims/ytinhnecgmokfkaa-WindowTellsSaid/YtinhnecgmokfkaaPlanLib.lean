/- Plans: what they look like; the library's functions on their rows; plan.part, window, channel. Conditions: what came in is shaped. -/
import Derived.Test.YtinhnecgmokfkaaRows
import Derived.Test.YtinhnecgmokfkaaChecked
import Derived.Test.YtinhnecgmokfkaaLib6
import Derived.Test.YtinhnecgmokfkaaQTail
import Derived.StillTail
import Derived.RegionTactic
import Derived.BigRegion
namespace Go.Proofs.Ytinhnecgmokfkaa
open Go Go.RowKit Go.Tm
set_option linter.unusedVariables false
set_option linter.unusedSimpArgs false


theorem ty_int : Ty Try.prog 3 1 false := ⟨by kernel_rfl, by kernel_rfl, by decide, by kernel_rfl⟩


theorem ty_part : Ty Try.prog 52 4 true := ⟨by kernel_rfl, by kernel_rfl, by decide, by kernel_rfl⟩


theorem ty_win : Ty Try.prog 48 3 true := ⟨by kernel_rfl, by kernel_rfl, by decide, by kernel_rfl⟩


theorem ty_wins : Ty Try.prog 46 1 false := ⟨by kernel_rfl, by kernel_rfl, by decide, by kernel_rfl⟩


theorem ty_chan : Ty Try.prog 54 5 true := ⟨by kernel_rfl, by kernel_rfl, by decide, by kernel_rfl⟩

theorem any_idx (p : Value → Bool) (xs : List Value) : decide (0 ≤ idx p xs) = xs.any p := by
  rcases idx_cases p xs with ⟨h, hn⟩ | ⟨i, x, h, hx, hp, _⟩
  · rw [h]
    have : xs.any p = false := by rw [List.any_eq_false]; intro x hx; rw [hn x hx]; simp
    rw [this]; rfl
  · rw [h]
    have : xs.any p = true := by rw [List.any_eq_true]; exact ⟨x, List.mem_of_getElem? hx, hp⟩
    rw [this]; simp

set_option maxHeartbeats 1000000 in
theorem indexFunc_int (v : Value) (xs : List Value) (fid : FuncId) (caps : Array Value) (p : Value → Bool) (w : World) (hsl : Sl w false 1 v xs) (hp : Pred Try.prog w none fid caps p xs) :
    Calls Try.prog 42 #[v, .func (.func fid) #[] caps] w fun e w' => e = .returned (.int .i64 (idx p xs)) ∧ Below w.heap.size w w' := by
  obtain ⟨hsz, a, cap, rfl, hl, hm, hform⟩ := hsl
  unfold maxLen at hm
  have hlen : xs.length ≤ 9223372036854775807 := by omega
  go_enter Try.func42, Try.ntmps42
  go_wp2_with fail
  go_loopw [8] (fun t wr => ∃ i : Nat, i ≤ xs.length ∧ t = .int .i64 i ∧ Below w.heap.size w wr ∧ ∀ j y, j < i → xs[j]? = some y → p y = false) (fun t _ => xs.length - (intOf t).toNat)
  case atStart => exact ⟨0, Nat.zero_le _, rfl, Below.refl _ _, by intro j y h; omega⟩
  case round =>
    obtain ⟨i, hi, rfl, hbw, hprev⟩ := hrel
    have HP := Lib.hid hprev
    clear hprev
    by_cases hlt : i < xs.length
    · obtain ⟨x, hx⟩ : ∃ x, xs[i]? = some x := ⟨_, List.getElem?_eq_getElem hlt⟩
      have hmem : x ∈ xs := List.mem_of_getElem? hx
      have HV := Lib.hid (hsz _ hmem)
      obtain ⟨b, off, rfl, hb, hcell⟩ : ∃ b off, a = some ⟨b, off, none⟩ ∧ b < w.heap.size ∧ Cells wr b (off + i * 1) x.cells.toList := by
        rcases hform with h0 | ⟨b, off, ha, hb, hc⟩
        · subst h0; simp at hlt
        · exact ⟨b, off, ha, hb, (hc i _ hx).below hbw hb⟩
      have HX := Lib.hid hx
      have HCE := Lib.hid hcell
      clear hx hcell hform hsz
      have hcall := hp.asks wr (grown_of_below hbw none) _ hmem
      have hbody := hp.body
      unfold Body at hbody
      have HC := Lib.hid hcall
      clear hcall hp
      cases hpx : p x
      · have HPX := Lib.hid hpx
        rw [hpx] at HC
        clear hpx
        go_wp2_with (first | (refine wpList_load_val rfl 3 _ rfl b (off + i * 1) (by simp [Act.eval]) x ty_int HV.out HCE.out ?_) | fail)
        refine HC.out.mono ?_
        rintro e w1 ⟨rfl, hb1⟩
        go_wp2_with fail
        go_roundw
        case rel =>
          refine ⟨i + 1, by omega, by go_num, hbw.trans (hb1.mono hbw.size), ?_⟩
          intro j y hj hy
          rcases Nat.lt_succ_iff_lt_or_eq.1 hj with hj | rfl
          · exact HP.out j y hj hy
          · rw [HX.out] at hy; cases hy; exact HPX.out
        case measure => simp [intOf]; omega
      · have HPX := Lib.hid hpx
        rw [hpx] at HC
        clear hpx
        go_wp2_with (first | (refine wpList_load_val rfl 3 _ rfl b (off + i * 1) (by simp [Act.eval]) x ty_int HV.out HCE.out ?_) | fail)
        refine HC.out.mono ?_
        rintro e w1 ⟨rfl, hb1⟩
        go_wp2_with fail
        go_ret
        exact ⟨by rw [idx_some HX.out HPX.out HP.out]; rfl, hbw.trans (hb1.mono hbw.size)⟩
    · go_wp2_with fail
      go_ret
      refine ⟨?_, hbw⟩
      rw [idx_none ?_]; · rfl
      intro x hx
      obtain ⟨j, hj, hxj⟩ := List.getElem_of_mem hx
      exact HP.out j x (by omega) (by rw [← hxj]; exact List.getElem?_eq_getElem hj)


set_option maxHeartbeats 1000000 in
theorem indexFunc_part (v : Value) (xs : List Value) (fid : FuncId) (caps : Array Value) (p : Value → Bool) (w : World) (hsl : Sl w true 4 v xs) (hp : Pred Try.prog w none fid caps p xs) :
    Calls Try.prog 38 #[v, .func (.func fid) #[] caps] w fun e w' => e = .returned (.int .i64 (idx p xs)) ∧ Below w.heap.size w w' := by
  obtain ⟨hsz, a, cap, rfl, hl, hm, hform⟩ := hsl
  unfold maxLen at hm
  have hlen : xs.length ≤ 9223372036854775807 := by omega
  go_enter Try.func38, Try.ntmps38
  go_wp2_with fail
  go_loopw [8] (fun t wr => ∃ i : Nat, i ≤ xs.length ∧ t = .int .i64 i ∧ Below w.heap.size w wr ∧ ∀ j y, j < i → xs[j]? = some y → p y = false) (fun t _ => xs.length - (intOf t).toNat)
  case atStart => exact ⟨0, Nat.zero_le _, rfl, Below.refl _ _, by intro j y h; omega⟩
  case round =>
    obtain ⟨i, hi, rfl, hbw, hprev⟩ := hrel
    have HP := Lib.hid hprev
    clear hprev
    by_cases hlt : i < xs.length
    · obtain ⟨x, hx⟩ : ∃ x, xs[i]? = some x := ⟨_, List.getElem?_eq_getElem hlt⟩
      have hmem : x ∈ xs := List.mem_of_getElem? hx
      have HV := Lib.hid (hsz _ hmem)
      obtain ⟨b, off, rfl, hb, hcell⟩ : ∃ b off, a = some ⟨b, off, none⟩ ∧ b < w.heap.size ∧ Cells wr b (off + i * 4) x.cells.toList := by
        rcases hform with h0 | ⟨b, off, ha, hb, hc⟩
        · subst h0; simp at hlt
        · exact ⟨b, off, ha, hb, (hc i _ hx).below hbw hb⟩
      have HX := Lib.hid hx
      have HCE := Lib.hid hcell
      clear hx hcell hform hsz
      have hcall := hp.asks wr (grown_of_below hbw none) _ hmem
      have hbody := hp.body
      unfold Body at hbody
      have HC := Lib.hid hcall
      clear hcall hp
      cases hpx : p x
      · have HPX := Lib.hid hpx
        rw [hpx] at HC
        clear hpx
        go_wp2_with (first | (refine wpList_load_val rfl 52 _ rfl b (off + i * 4) (by simp [Act.eval]) x ty_part HV.out HCE.out ?_) | fail)
        refine HC.out.mono ?_
        rintro e w1 ⟨rfl, hb1⟩
        go_wp2_with fail
        go_roundw
        case rel =>
          refine ⟨i + 1, by omega, by go_num, hbw.trans (hb1.mono hbw.size), ?_⟩
          intro j y hj hy
          rcases Nat.lt_succ_iff_lt_or_eq.1 hj with hj | rfl
          · exact HP.out j y hj hy
          · rw [HX.out] at hy; cases hy; exact HPX.out
        case measure => simp [intOf]; omega
      · have HPX := Lib.hid hpx
        rw [hpx] at HC
        clear hpx
        go_wp2_with (first | (refine wpList_load_val rfl 52 _ rfl b (off + i * 4) (by simp [Act.eval]) x ty_part HV.out HCE.out ?_) | fail)
        refine HC.out.mono ?_
        rintro e w1 ⟨rfl, hb1⟩
        go_wp2_with fail
        go_ret
        exact ⟨by rw [idx_some HX.out HPX.out HP.out]; rfl, hbw.trans (hb1.mono hbw.size)⟩
    · go_wp2_with fail
      go_ret
      refine ⟨?_, hbw⟩
      rw [idx_none ?_]; · rfl
      intro x hx
      obtain ⟨j, hj, hxj⟩ := List.getElem_of_mem hx
      exact HP.out j x (by omega) (by rw [← hxj]; exact List.getElem?_eq_getElem hj)


set_option maxHeartbeats 1000000 in
theorem indexFunc_wins (v : Value) (xs : List Value) (fid : FuncId) (caps : Array Value) (p : Value → Bool) (w : World) (hsl : Sl w false 1 v xs) (hp : Pred Try.prog w none fid caps p xs) :
    Calls Try.prog 37 #[v, .func (.func fid) #[] caps] w fun e w' => e = .returned (.int .i64 (idx p xs)) ∧ Below w.heap.size w w' := by
  obtain ⟨hsz, a, cap, rfl, hl, hm, hform⟩ := hsl
  unfold maxLen at hm
  have hlen : xs.length ≤ 9223372036854775807 := by omega
  go_enter Try.func37, Try.ntmps37
  go_wp2_with fail
  go_loopw [8] (fun t wr => ∃ i : Nat, i ≤ xs.length ∧ t = .int .i64 i ∧ Below w.heap.size w wr ∧ ∀ j y, j < i → xs[j]? = some y → p y = false) (fun t _ => xs.length - (intOf t).toNat)
  case atStart => exact ⟨0, Nat.zero_le _, rfl, Below.refl _ _, by intro j y h; omega⟩
  case round =>
    obtain ⟨i, hi, rfl, hbw, hprev⟩ := hrel
    have HP := Lib.hid hprev
    clear hprev
    by_cases hlt : i < xs.length
    · obtain ⟨x, hx⟩ : ∃ x, xs[i]? = some x := ⟨_, List.getElem?_eq_getElem hlt⟩
      have hmem : x ∈ xs := List.mem_of_getElem? hx
      have HV := Lib.hid (hsz _ hmem)
      obtain ⟨b, off, rfl, hb, hcell⟩ : ∃ b off, a = some ⟨b, off, none⟩ ∧ b < w.heap.size ∧ Cells wr b (off + i * 1) x.cells.toList := by
        rcases hform with h0 | ⟨b, off, ha, hb, hc⟩
        · subst h0; simp at hlt
        · exact ⟨b, off, ha, hb, (hc i _ hx).below hbw hb⟩
      have HX := Lib.hid hx
      have HCE := Lib.hid hcell
      clear hx hcell hform hsz
      have hcall := hp.asks wr (grown_of_below hbw none) _ hmem
      have hbody := hp.body
      unfold Body at hbody
      have HC := Lib.hid hcall
      clear hcall hp
      cases hpx : p x
      · have HPX := Lib.hid hpx
        rw [hpx] at HC
        clear hpx
        go_wp2_with (first | (refine wpList_load_val rfl 46 _ rfl b (off + i * 1) (by simp [Act.eval]) x ty_wins HV.out HCE.out ?_) | fail)
        refine HC.out.mono ?_
        rintro e w1 ⟨rfl, hb1⟩
        go_wp2_with fail
        go_roundw
        case rel =>
          refine ⟨i + 1, by omega, by go_num, hbw.trans (hb1.mono hbw.size), ?_⟩
          intro j y hj hy
          rcases Nat.lt_succ_iff_lt_or_eq.1 hj with hj | rfl
          · exact HP.out j y hj hy
          · rw [HX.out] at hy; cases hy; exact HPX.out
        case measure => simp [intOf]; omega
      · have HPX := Lib.hid hpx
        rw [hpx] at HC
        clear hpx
        go_wp2_with (first | (refine wpList_load_val rfl 46 _ rfl b (off + i * 1) (by simp [Act.eval]) x ty_wins HV.out HCE.out ?_) | fail)
        refine HC.out.mono ?_
        rintro e w1 ⟨rfl, hb1⟩
        go_wp2_with fail
        go_ret
        exact ⟨by rw [idx_some HX.out HPX.out HP.out]; rfl, hbw.trans (hb1.mono hbw.size)⟩
    · go_wp2_with fail
      go_ret
      refine ⟨?_, hbw⟩
      rw [idx_none ?_]; · rfl
      intro x hx
      obtain ⟨j, hj, hxj⟩ := List.getElem_of_mem hx
      exact HP.out j x (by omega) (by rw [← hxj]; exact List.getElem?_eq_getElem hj)


set_option maxHeartbeats 1000000 in
theorem indexFunc_chan (v : Value) (xs : List Value) (fid : FuncId) (caps : Array Value) (p : Value → Bool) (w : World) (hsl : Sl w true 5 v xs) (hp : Pred Try.prog w none fid caps p xs) :
    Calls Try.prog 41 #[v, .func (.func fid) #[] caps] w fun e w' => e = .returned (.int .i64 (idx p xs)) ∧ Below w.heap.size w w' := by
  obtain ⟨hsz, a, cap, rfl, hl, hm, hform⟩ := hsl
  unfold maxLen at hm
  have hlen : xs.length ≤ 9223372036854775807 := by omega
  go_enter Try.func41, Try.ntmps41
  go_wp2_with fail
  go_loopw [8] (fun t wr => ∃ i : Nat, i ≤ xs.length ∧ t = .int .i64 i ∧ Below w.heap.size w wr ∧ ∀ j y, j < i → xs[j]? = some y → p y = false) (fun t _ => xs.length - (intOf t).toNat)
  case atStart => exact ⟨0, Nat.zero_le _, rfl, Below.refl _ _, by intro j y h; omega⟩
  case round =>
    obtain ⟨i, hi, rfl, hbw, hprev⟩ := hrel
    have HP := Lib.hid hprev
    clear hprev
    by_cases hlt : i < xs.length
    · obtain ⟨x, hx⟩ : ∃ x, xs[i]? = some x := ⟨_, List.getElem?_eq_getElem hlt⟩
      have hmem : x ∈ xs := List.mem_of_getElem? hx
      have HV := Lib.hid (hsz _ hmem)
      obtain ⟨b, off, rfl, hb, hcell⟩ : ∃ b off, a = some ⟨b, off, none⟩ ∧ b < w.heap.size ∧ Cells wr b (off + i * 5) x.cells.toList := by
        rcases hform with h0 | ⟨b, off, ha, hb, hc⟩
        · subst h0; simp at hlt
        · exact ⟨b, off, ha, hb, (hc i _ hx).below hbw hb⟩
      have HX := Lib.hid hx
      have HCE := Lib.hid hcell
      clear hx hcell hform hsz
      have hcall := hp.asks wr (grown_of_below hbw none) _ hmem
      have hbody := hp.body
      unfold Body at hbody
      have HC := Lib.hid hcall
      clear hcall hp
      cases hpx : p x
      · have HPX := Lib.hid hpx
        rw [hpx] at HC
        clear hpx
        go_wp2_with (first | (refine wpList_load_val rfl 54 _ rfl b (off + i * 5) (by simp [Act.eval]) x ty_chan HV.out HCE.out ?_) | fail)
        refine HC.out.mono ?_
        rintro e w1 ⟨rfl, hb1⟩
        go_wp2_with fail
        go_roundw
        case rel =>
          refine ⟨i + 1, by omega, by go_num, hbw.trans (hb1.mono hbw.size), ?_⟩
          intro j y hj hy
          rcases Nat.lt_succ_iff_lt_or_eq.1 hj with hj | rfl
          · exact HP.out j y hj hy
          · rw [HX.out] at hy; cases hy; exact HPX.out
        case measure => simp [intOf]; omega
      · have HPX := Lib.hid hpx
        rw [hpx] at HC
        clear hpx
        go_wp2_with (first | (refine wpList_load_val rfl 54 _ rfl b (off + i * 5) (by simp [Act.eval]) x ty_chan HV.out HCE.out ?_) | fail)
        refine HC.out.mono ?_
        rintro e w1 ⟨rfl, hb1⟩
        go_wp2_with fail
        go_ret
        exact ⟨by rw [idx_some HX.out HPX.out HP.out]; rfl, hbw.trans (hb1.mono hbw.size)⟩
    · go_wp2_with fail
      go_ret
      refine ⟨?_, hbw⟩
      rw [idx_none ?_]; · rfl
      intro x hx
      obtain ⟨j, hj, hxj⟩ := List.getElem_of_mem hx
      exact HP.out j x (by omega) (by rw [← hxj]; exact List.getElem?_eq_getElem hj)


set_option maxHeartbeats 1000000 in
theorem containsFunc_int (v : Value) (xs : List Value) (fid : FuncId) (caps : Array Value) (p : Value → Bool) (w : World) (hsl : Sl w false 1 v xs) (hp : Pred Try.prog w none fid caps p xs) :
    Calls Try.prog 40 #[v, .func (.func fid) #[] caps] w fun e w' => e = .returned (.bool (xs.any p)) ∧ Below w.heap.size w w' := by
  have HI := Lib.hid (indexFunc_int v xs fid caps p w hsl hp)
  have ha := any_idx p xs
  obtain ⟨a, cap, rfl, _⟩ := hsl.shape
  generalize idx p xs = i at *
  generalize xs.any p = r at *
  clear hsl hp
  go_enter Try.func40, Try.ntmps40
  go_wp2_with fail
  with_reducible refine HI.out.mono ?_
  rintro e w1 ⟨rfl, hb1⟩
  go_wp2_with fail
  go_ret
  exact ⟨rfl, hb1⟩


set_option maxHeartbeats 1000000 in
theorem containsFunc_part (v : Value) (xs : List Value) (fid : FuncId) (caps : Array Value) (p : Value → Bool) (w : World) (hsl : Sl w true 4 v xs) (hp : Pred Try.prog w none fid caps p xs) :
    Calls Try.prog 30 #[v, .func (.func fid) #[] caps] w fun e w' => e = .returned (.bool (xs.any p)) ∧ Below w.heap.size w w' := by
  have HI := Lib.hid (indexFunc_part v xs fid caps p w hsl hp)
  have ha := any_idx p xs
  obtain ⟨a, cap, rfl, _⟩ := hsl.shape
  generalize idx p xs = i at *
  generalize xs.any p = r at *
  clear hsl hp
  go_enter Try.func30, Try.ntmps30
  go_wp2_with fail
  with_reducible refine HI.out.mono ?_
  rintro e w1 ⟨rfl, hb1⟩
  go_wp2_with fail
  go_ret
  exact ⟨rfl, hb1⟩


set_option maxHeartbeats 1000000 in
theorem containsFunc_wins (v : Value) (xs : List Value) (fid : FuncId) (caps : Array Value) (p : Value → Bool) (w : World) (hsl : Sl w false 1 v xs) (hp : Pred Try.prog w none fid caps p xs) :
    Calls Try.prog 29 #[v, .func (.func fid) #[] caps] w fun e w' => e = .returned (.bool (xs.any p)) ∧ Below w.heap.size w w' := by
  have HI := Lib.hid (indexFunc_wins v xs fid caps p w hsl hp)
  have ha := any_idx p xs
  obtain ⟨a, cap, rfl, _⟩ := hsl.shape
  generalize idx p xs = i at *
  generalize xs.any p = r at *
  clear hsl hp
  go_enter Try.func29, Try.ntmps29
  go_wp2_with fail
  with_reducible refine HI.out.mono ?_
  rintro e w1 ⟨rfl, hb1⟩
  go_wp2_with fail
  go_ret
  exact ⟨rfl, hb1⟩


set_option maxHeartbeats 1000000 in
theorem containsFunc_chan (v : Value) (xs : List Value) (fid : FuncId) (caps : Array Value) (p : Value → Bool) (w : World) (hsl : Sl w true 5 v xs) (hp : Pred Try.prog w none fid caps p xs) :
    Calls Try.prog 34 #[v, .func (.func fid) #[] caps] w fun e w' => e = .returned (.bool (xs.any p)) ∧ Below w.heap.size w w' := by
  have HI := Lib.hid (indexFunc_chan v xs fid caps p w hsl hp)
  have ha := any_idx p xs
  obtain ⟨a, cap, rfl, _⟩ := hsl.shape
  generalize idx p xs = i at *
  generalize xs.any p = r at *
  clear hsl hp
  go_enter Try.func34, Try.ntmps34
  go_wp2_with fail
  with_reducible refine HI.out.mono ?_
  rintro e w1 ⟨rfl, hb1⟩
  go_wp2_with fail
  go_ret
  exact ⟨rfl, hb1⟩


/-- A partition: its memory, what is done at its end. -/
abbrev Pt := Int × Int × Int × Int
/-- A window: whose, from where on, how long. -/
abbrev Wn := Int × Int × Int
/-- A channel: its kind, from whom, to whom, size, depth. -/
abbrev Ch := Int × Int × Int × Int × Int
abbrev ptV (x : Pt) : Value := .agg #[.int .i64 x.1, .int .i64 x.2.1, .int .i64 x.2.2.1, .int .i64 x.2.2.2]
abbrev wnV (x : Wn) : Value := .agg #[.int .i64 x.1, .int .i64 x.2.1, .int .i64 x.2.2]
abbrev chV (x : Ch) : Value := .agg #[.int .i64 x.1, .int .i64 x.2.1, .int .i64 x.2.2.1, .int .i64 x.2.2.2.1, .int .i64 x.2.2.2.2]
theorem pt_val (x : Pt) : Val true 4 (ptV x) := ⟨_, rfl, rfl, by intro c hc; simp at hc; rcases hc with rfl | rfl | rfl | rfl <;> rfl⟩
theorem wn_val (x : Wn) : Val true 3 (wnV x) := ⟨_, rfl, rfl, by intro c hc; simp at hc; rcases hc with rfl | rfl | rfl <;> rfl⟩
theorem ch_val (x : Ch) : Val true 5 (chV x) := ⟨_, rfl, rfl, by intro c hc; simp at hc; rcases hc with rfl | rfl | rfl | rfl | rfl <;> rfl⟩
structure Pln where
  parts : List Pt
  frame : Int
  wins : List (List Wn)
  chans : List Ch

/-- A row of rows of windows. -/
structure WinsIs (W : World) (v : Value) (ls : List (List Wn)) : Prop where
  row : ∃ vs, Sl W false 1 v vs ∧ vs.length = ls.length ∧ ∀ (i : Nat) (u : Value) (l : List Wn), vs[i]? = some u → ls[i]? = some l → Sl W true 3 u (l.map wnV)
theorem WinsIs.below {w w' : World} {v : Value} {ls : List (List Wn)} (h : WinsIs w v ls) (hb : Below w.heap.size w w') : WinsIs w' v ls := by
  obtain ⟨vs, h1, h2, h3⟩ := h.row
  exact ⟨vs, h1.below hb, h2, fun i u l hu hl => (h3 i u l hu hl).below hb⟩
theorem WinsIs.shape {w : World} {v : Value} {ls : List (List Wn)} (h : WinsIs w v ls) : ∃ a cap, v = .slice a ls.length cap ∧ ls.length ≤ 9223372036854775807 := by
  obtain ⟨vs, h1, h2, h3⟩ := h.row
  obtain ⟨a, cap, rfl, hl⟩ := h1.shape
  exact ⟨a, cap, by rw [h2], by omega⟩
/-- One of its rows. -/
theorem WinsIs.at {w : World} {a : Option Addr} {n cap : Nat} {ls : List (List Wn)} (h : WinsIs w (.slice a n cap) ls) {i : Nat} {l : List Wn} (hl : ls[i]? = some l) :
    ∃ b off a2 cap2, a = some ⟨b, off, none⟩ ∧ b < w.heap.size ∧ w.cell? ⟨b, off + i, none⟩ = some (.slice a2 l.length cap2) ∧ l.length ≤ 9223372036854775807 ∧ Sl w true 3 (.slice a2 l.length cap2) (l.map wnV) := by
  obtain ⟨vs, h1, h2, h3⟩ := h.row
  have hi : i < vs.length := by rw [h2]; exact (List.getElem?_eq_some_iff.1 hl).1
  have hu := List.getElem?_eq_getElem hi
  obtain ⟨b, off, ha, hb, hc⟩ := h1.at hu
  have hs := h3 i _ l hu hl
  obtain ⟨a2, cap2, he, hle⟩ := hs.shape
  have hv := hc 0 (.slice a2 l.length cap2) (by rw [he]; simp [Value.cells])
  rw [he] at hs
  simp only [List.length_map] at hs hle
  exact ⟨b, off, a2, cap2, ha, hb, by simpa using hv, hle, hs⟩

structure PlanIs (W : World) (pv wv cv : Value) (p : Pln) : Prop where
  parts : Sl W true 4 pv (p.parts.map ptV)
  wins : WinsIs W wv p.wins
  chans : Sl W true 5 cv (p.chans.map chV)
theorem PlanIs.below {w w' : World} {pv wv cv : Value} {p : Pln} (h : PlanIs w pv wv cv p) (hb : Below w.heap.size w w') : PlanIs w' pv wv cv p :=
  ⟨h.parts.below hb, h.wins.below hb, h.chans.below hb⟩
abbrev planV (pv wv cv : Value) (p : Pln) : Value := .agg #[pv, .int .i64 p.frame, wv, cv]
theorem PlanIs.shape {w : World} {pv wv cv : Value} {p : Pln} (h : PlanIs w pv wv cv p) :
    ∃ a1 c1 a2 c2 a3 c3, pv = .slice a1 p.parts.length c1 ∧ wv = .slice a2 p.wins.length c2 ∧ cv = .slice a3 p.chans.length c3 ∧
      p.parts.length ≤ 9223372036854775807 ∧ p.wins.length ≤ 9223372036854775807 ∧ p.chans.length ≤ 9223372036854775807 := by
  obtain ⟨a1, c1, h1, l1⟩ := h.parts.shape
  obtain ⟨a2, c2, h2, l2⟩ := h.wins.shape
  obtain ⟨a3, c3, h3, l3⟩ := h.chans.shape
  simp only [List.length_map] at h1 h3 l1 l3
  exact ⟨a1, c1, a2, c2, a3, c3, h1, h2, h3, l1, l2, l3⟩

theorem Sl.pt {w : World} {a : Option Addr} {n cap : Nat} {l : List Pt} (h : Sl w true 4 (.slice a n cap) (l.map ptV)) {i : Nat} {x : Pt} (hx : l[i]? = some x) :
    ∃ b off, a = some ⟨b, off, none⟩ ∧ b < w.heap.size ∧ w.cell? ⟨b, off + i * 4, none⟩ = some (.int .i64 x.1) ∧ w.cell? ⟨b, off + i * 4 + 1, none⟩ = some (.int .i64 x.2.1) ∧
      w.cell? ⟨b, off + i * 4 + 2, none⟩ = some (.int .i64 x.2.2.1) ∧ w.cell? ⟨b, off + i * 4 + 3, none⟩ = some (.int .i64 x.2.2.2) := by
  obtain ⟨b, off, ha, hb, hcell⟩ := h.at (show (l.map ptV)[i]? = some (ptV x) by simp [hx])
  exact ⟨b, off, ha, hb, hcell 0 _ rfl, hcell 1 _ rfl, hcell 2 _ rfl, hcell 3 _ rfl⟩
theorem Sl.wn {w : World} {a : Option Addr} {n cap : Nat} {l : List Wn} (h : Sl w true 3 (.slice a n cap) (l.map wnV)) {i : Nat} {x : Wn} (hx : l[i]? = some x) :
    ∃ b off, a = some ⟨b, off, none⟩ ∧ b < w.heap.size ∧ w.cell? ⟨b, off + i * 3, none⟩ = some (.int .i64 x.1) ∧ w.cell? ⟨b, off + i * 3 + 1, none⟩ = some (.int .i64 x.2.1) ∧
      w.cell? ⟨b, off + i * 3 + 2, none⟩ = some (.int .i64 x.2.2) := by
  obtain ⟨b, off, ha, hb, hcell⟩ := h.at (show (l.map wnV)[i]? = some (wnV x) by simp [hx])
  exact ⟨b, off, ha, hb, hcell 0 _ rfl, hcell 1 _ rfl, hcell 2 _ rfl⟩
theorem Sl.ch {w : World} {a : Option Addr} {n cap : Nat} {l : List Ch} (h : Sl w true 5 (.slice a n cap) (l.map chV)) {i : Nat} {x : Ch} (hx : l[i]? = some x) :
    ∃ b off, a = some ⟨b, off, none⟩ ∧ b < w.heap.size ∧ w.cell? ⟨b, off + i * 5, none⟩ = some (.int .i64 x.1) ∧ w.cell? ⟨b, off + i * 5 + 1, none⟩ = some (.int .i64 x.2.1) ∧
      w.cell? ⟨b, off + i * 5 + 2, none⟩ = some (.int .i64 x.2.2.1) ∧ w.cell? ⟨b, off + i * 5 + 3, none⟩ = some (.int .i64 x.2.2.2.1) ∧ w.cell? ⟨b, off + i * 5 + 4, none⟩ = some (.int .i64 x.2.2.2.2) := by
  obtain ⟨b, off, ha, hb, hcell⟩ := h.at (show (l.map chV)[i]? = some (chV x) by simp [hx])
  exact ⟨b, off, ha, hb, hcell 0 _ rfl, hcell 1 _ rfl, hcell 2 _ rfl, hcell 3 _ rfl, hcell 4 _ rfl⟩

/-! ### plan.Check's parts -/
def longP : Value → Bool := fun v => match v with | .slice _ n _ => decide (8 < n) | _ => false
theorem check1_body : Body Try.prog 28 := body_of Try.func28 (by kernel_rfl) (by kernel_rfl)
theorem check1_any (a : Option Addr) (n cap : Nat) (w : World) : Calls Try.prog 28 #[.slice a n cap] w fun e w' => e = .returned (.bool (decide (8 < n))) ∧ Below w.heap.size w w' := by
  go_enter Try.func28, Try.ntmps28
  go_wp2_with fail
  go_ret
  exact ⟨by simp; omega, by (repeat (first | with_reducible assumption | with_reducible exact Below.refl _ _ | with_reducible refine Below.setCell ?_ ?_ _ | with_reducible refine Below.alloc ?_ ?_ _ | with_reducible refine below_drewN' ?_ _ | with_reducible refine Below.drew ?_ | with_reducible refine Below.trans ?_ (Below.mono (by assumption) ?_) | omega | (dsimp only; omega) | (simp only [drew_heap', drewN_heap', World.size_alloc, World.size_setCell]; omega) | (solve | simp) | (solve | (simp; omega))))⟩

def oddP : Value → Bool := fun v => match v with | .int _ n => decide (n < 1 ∨ 3 < n) | _ => false
theorem part1_body : Body Try.prog 39 := body_of Try.func39 (by kernel_rfl) (by kernel_rfl)
theorem part1_any (n : Int) (w : World) : Calls Try.prog 39 #[.int .i64 n] w fun e w' => e = .returned (.bool (decide (n < 1 ∨ 3 < n))) ∧ Below w.heap.size w w' := by
  by_cases h : n < 1
  · go_enter Try.func39, Try.ntmps39
    go_wp2_with fail
    go_ret
    exact ⟨by simp [h], by (repeat (first | with_reducible assumption | with_reducible exact Below.refl _ _ | with_reducible refine Below.setCell ?_ ?_ _ | with_reducible refine Below.alloc ?_ ?_ _ | with_reducible refine below_drewN' ?_ _ | with_reducible refine Below.drew ?_ | with_reducible refine Below.trans ?_ (Below.mono (by assumption) ?_) | omega | (dsimp only; omega) | (simp only [drew_heap', drewN_heap', World.size_alloc, World.size_setCell]; omega) | (solve | simp) | (solve | (simp; omega))))⟩
  · rw [show decide (n < 1 ∨ 3 < n) = decide (3 < n) by simp [h]]
    go_enter Try.func39, Try.ntmps39
    go_wp2_with fail
    go_ret
    exact ⟨rfl, by (repeat (first | with_reducible assumption | with_reducible exact Below.refl _ _ | with_reducible refine Below.setCell ?_ ?_ _ | with_reducible refine Below.alloc ?_ ?_ _ | with_reducible refine below_drewN' ?_ _ | with_reducible refine Below.drew ?_ | with_reducible refine Below.trans ?_ (Below.mono (by assumption) ?_) | omega | (dsimp only; omega) | (simp only [drew_heap', drewN_heap', World.size_alloc, World.size_setCell]; omega) | (solve | simp) | (solve | (simp; omega))))⟩
theorem odd_pred (l : List Int) (w : World) : Pred Try.prog w none 39 #[] oddP (ints l) :=
  ⟨part1_body, fun w' _ x hm => by
    obtain ⟨n, _, rfl⟩ := List.mem_map.1 hm
    exact part1_any n w'⟩
def PartOk (x : Pt) : Prop := 64 ≤ x.1 ∧ x.1 ≤ 1024 ∧ x.1 % 4 = 0 ∧ 1 ≤ x.2.1 ∧ x.2.1 ≤ 3 ∧ 1 ≤ x.2.2.1 ∧ x.2.2.1 ≤ 3 ∧ 1 ≤ x.2.2.2 ∧ x.2.2.2 ≤ 3
instance (x : Pt) : Decidable (PartOk x) := by unfold PartOk; infer_instance

theorem acts_sl (m a b c : Int) (w : World) (t : TypeId) : Sl (w.alloc (.cells #[.int .i64 m, .int .i64 a, .int .i64 b, .int .i64 c] t)) false 1 (.slice (some ⟨w.heap.size, 1, none⟩) 3 3) (ints [a, b, c]) := by
  have hr := (Box.new w #[.int .i64 m, .int .i64 a, .int .i64 b, .int .i64 c] t).rules.1
  refine ⟨ints_val _, some ⟨w.heap.size, 1, none⟩, 3, rfl, Nat.le_refl _, by decide, .inr ⟨w.heap.size, 1, rfl, by simp, ?_⟩⟩
  intro i x hx j v hj
  match i, hx with
  | 0, hx => cases hx; match j, hj with | 0, hj => cases hj; exact hr 1
  | 1, hx => cases hx; match j, hj with | 0, hj => cases hj; exact hr 2
  | 2, hx => cases hx; match j, hj with | 0, hj => cases hj; exact hr 3

set_option maxHeartbeats 1000000 in
theorem part_any (x : Pt) (w : World) : Calls Try.prog 32 #[ptV x] w fun e w' => e = .returned (.bool (decide (PartOk x))) ∧ Below w.heap.size w w' := by
  obtain ⟨m, a, b, c⟩ := x
  unfold PartOk
  dsimp only
  by_cases h1 : 64 ≤ m
  case neg =>
    rw [show decide (64 ≤ m ∧ m ≤ 1024 ∧ m % 4 = 0 ∧ 1 ≤ a ∧ a ≤ 3 ∧ 1 ≤ b ∧ b ≤ 3 ∧ 1 ≤ c ∧ c ≤ 3) = false by simp [h1]]
    go_enter Try.func32, Try.ntmps32
    go_wp2_with fail
    go_ret
    exact ⟨rfl, by (repeat (first | with_reducible assumption | with_reducible exact Below.refl _ _ | with_reducible refine Below.setCell ?_ ?_ _ | with_reducible refine Below.alloc ?_ ?_ _ | with_reducible refine below_drewN' ?_ _ | with_reducible refine Below.drew ?_ | with_reducible refine Below.trans ?_ (Below.mono (by assumption) ?_) | omega | (dsimp only; omega) | (simp only [drew_heap', drewN_heap', World.size_alloc, World.size_setCell]; omega) | (solve | simp) | (solve | (simp; omega))))⟩
  by_cases h2 : m ≤ 1024
  case neg =>
    rw [show decide (64 ≤ m ∧ m ≤ 1024 ∧ m % 4 = 0 ∧ 1 ≤ a ∧ a ≤ 3 ∧ 1 ≤ b ∧ b ≤ 3 ∧ 1 ≤ c ∧ c ≤ 3) = false by simp [h2]]
    go_enter Try.func32, Try.ntmps32
    go_wp2_with fail
    go_ret
    exact ⟨rfl, by (repeat (first | with_reducible assumption | with_reducible exact Below.refl _ _ | with_reducible refine Below.setCell ?_ ?_ _ | with_reducible refine Below.alloc ?_ ?_ _ | with_reducible refine below_drewN' ?_ _ | with_reducible refine Below.drew ?_ | with_reducible refine Below.trans ?_ (Below.mono (by assumption) ?_) | omega | (dsimp only; omega) | (simp only [drew_heap', drewN_heap', World.size_alloc, World.size_setCell]; omega) | (solve | simp) | (solve | (simp; omega))))⟩
  by_cases h3 : m % 4 = 0
  case neg =>
    rw [show decide (64 ≤ m ∧ m ≤ 1024 ∧ m % 4 = 0 ∧ 1 ≤ a ∧ a ≤ 3 ∧ 1 ≤ b ∧ b ≤ 3 ∧ 1 ≤ c ∧ c ≤ 3) = false by simp [h3]]
    have h3' : (m % 4 == 0) = false := by simpa using h3
    have h3t : m.tmod 4 = m % 4 := Int.tmod_eq_emod_of_nonneg (by omega)
    go_enter Try.func32, Try.ntmps32
    go_wp2_with fail
    go_ret
    exact ⟨rfl, by (repeat (first | with_reducible assumption | with_reducible exact Below.refl _ _ | with_reducible refine Below.setCell ?_ ?_ _ | with_reducible refine Below.alloc ?_ ?_ _ | with_reducible refine below_drewN' ?_ _ | with_reducible refine Below.drew ?_ | with_reducible refine Below.trans ?_ (Below.mono (by assumption) ?_) | omega | (dsimp only; omega) | (simp only [drew_heap', drewN_heap', World.size_alloc, World.size_setCell]; omega) | (solve | simp) | (solve | (simp; omega))))⟩
  have h3t : m.tmod 4 = m % 4 := Int.tmod_eq_emod_of_nonneg (by omega)
  have HC := Lib.hid (containsFunc_int _ (ints [a, b, c]) 39 #[] oddP _ (acts_sl m a b c w 52) (odd_pred [a, b, c] _))
  have hany : (!((ints [a, b, c]).any oddP)) = decide (64 ≤ m ∧ m ≤ 1024 ∧ m % 4 = 0 ∧ 1 ≤ a ∧ a ≤ 3 ∧ 1 ≤ b ∧ b ≤ 3 ∧ 1 ≤ c ∧ c ≤ 3) := by
    rw [Bool.eq_iff_iff]
    simp [oddP, h1, h2, h3]
    omega
  have HN := Lib.hid hany
  generalize (ints [a, b, c]).any oddP = r at *
  clear hany
  go_enter Try.func32, Try.ntmps32
  go_wp2_with fail
  with_reducible refine HC.out.mono ?_
  rintro e w1 ⟨rfl, hb1⟩
  have hbw : Below w.heap.size w w1 := by (repeat (first | with_reducible assumption | with_reducible exact Below.refl _ _ | with_reducible refine Below.setCell ?_ ?_ _ | with_reducible refine Below.alloc ?_ ?_ _ | with_reducible refine below_drewN' ?_ _ | with_reducible refine Below.drew ?_ | with_reducible refine Below.trans ?_ (Below.mono (by assumption) ?_) | omega | (dsimp only; omega) | (simp only [drew_heap', drewN_heap', World.size_alloc, World.size_setCell]; omega) | (solve | simp) | (solve | (simp; omega))))
  go_wp2_with fail
  go_ret
  exact ⟨by rw [← HN.out]; simp, hbw⟩

/-! ### plan.window, plan.channel -/
def WinOk (n : Nat) (frame : Int) (x : Wn) : Prop := 0 ≤ x.1 ∧ x.1 < n ∧ 0 ≤ x.2.1 ∧ 2 < x.2.2 ∧ x.2.2 ≤ frame ∧ x.2.1 ≤ frame - x.2.2
instance (n : Nat) (frame : Int) (x : Wn) : Decidable (WinOk n frame x) := by unfold WinOk; infer_instance
def winE (n : Nat) (frame : Int) (x : Wn) (behind : Int) : Int := if WinOk n frame x then (if x.2.1 < behind then 9 else 0) else 1
theorem winE_zero {n : Nat} {frame : Int} {x : Wn} {behind : Int} : winE n frame x behind = 0 ↔ WinOk n frame x ∧ behind ≤ x.2.1 := by
  unfold winE
  by_cases h : WinOk n frame x
  · by_cases h2 : x.2.1 < behind
    · simp [h, h2]
    · simp [h, h2]; omega
  · simp [h]
set_option maxHeartbeats 4000000 in
theorem window_any (a1 : Option Addr) (n c1 : Nat) (frame : Int) (wv cv : Value) (x : Wn) (behind : Int) (w : World) (hf : 1 ≤ frame) (hf2 : frame ≤ 4096) :
    Calls Try.prog 33 #[.agg #[.slice a1 n c1, .int .i64 frame, wv, cv], wnV x, .int .i64 behind] w fun e w' => e = .returned (.int .i64 (winE n frame x behind)) ∧ Below w.heap.size w w' := by
  obtain ⟨p, f, l⟩ := x
  have h0 : ¬ WinOk n frame (p, f, l) → winE n frame (p, f, l) behind = 1 := fun h => if_neg h
  unfold WinOk at h0
  dsimp only at h0 ⊢
  by_cases p0 : 0 ≤ p
  case neg =>
    rw [h0 (by intro h; omega)]
    clear h0
    go_enter Try.func33, Try.ntmps33
    go_wp2_with fail
    go_ret
    exact ⟨rfl, by (repeat (first | with_reducible assumption | with_reducible exact Below.refl _ _ | with_reducible refine Below.setCell ?_ ?_ _ | with_reducible refine Below.alloc ?_ ?_ _ | with_reducible refine below_drewN' ?_ _ | with_reducible refine Below.drew ?_ | with_reducible refine Below.trans ?_ (Below.mono (by assumption) ?_) | omega | (dsimp only; omega) | (simp only [drew_heap', drewN_heap', World.size_alloc, World.size_setCell]; omega) | (solve | simp) | (solve | (simp; omega))))⟩
  by_cases p1 : p < n
  case neg =>
    rw [h0 (by intro h; omega)]
    clear h0
    go_enter Try.func33, Try.ntmps33
    go_wp2_with fail
    go_ret
    exact ⟨rfl, by (repeat (first | with_reducible assumption | with_reducible exact Below.refl _ _ | with_reducible refine Below.setCell ?_ ?_ _ | with_reducible refine Below.alloc ?_ ?_ _ | with_reducible refine below_drewN' ?_ _ | with_reducible refine Below.drew ?_ | with_reducible refine Below.trans ?_ (Below.mono (by assumption) ?_) | omega | (dsimp only; omega) | (simp only [drew_heap', drewN_heap', World.size_alloc, World.size_setCell]; omega) | (solve | simp) | (solve | (simp; omega))))⟩
  by_cases p2 : 0 ≤ f
  case neg =>
    rw [h0 (by intro h; omega)]
    clear h0
    go_enter Try.func33, Try.ntmps33
    go_wp2_with fail
    go_ret
    exact ⟨rfl, by (repeat (first | with_reducible assumption | with_reducible exact Below.refl _ _ | with_reducible refine Below.setCell ?_ ?_ _ | with_reducible refine Below.alloc ?_ ?_ _ | with_reducible refine below_drewN' ?_ _ | with_reducible refine Below.drew ?_ | with_reducible refine Below.trans ?_ (Below.mono (by assumption) ?_) | omega | (dsimp only; omega) | (simp only [drew_heap', drewN_heap', World.size_alloc, World.size_setCell]; omega) | (solve | simp) | (solve | (simp; omega))))⟩
  by_cases p3 : 2 < l
  case neg =>
    rw [h0 (by intro h; omega)]
    clear h0
    go_enter Try.func33, Try.ntmps33
    go_wp2_with fail
    go_ret
    exact ⟨rfl, by (repeat (first | with_reducible assumption | with_reducible exact Below.refl _ _ | with_reducible refine Below.setCell ?_ ?_ _ | with_reducible refine Below.alloc ?_ ?_ _ | with_reducible refine below_drewN' ?_ _ | with_reducible refine Below.drew ?_ | with_reducible refine Below.trans ?_ (Below.mono (by assumption) ?_) | omega | (dsimp only; omega) | (simp only [drew_heap', drewN_heap', World.size_alloc, World.size_setCell]; omega) | (solve | simp) | (solve | (simp; omega))))⟩
  by_cases p4 : l ≤ frame
  case neg =>
    rw [h0 (by intro h; omega)]
    clear h0
    go_enter Try.func33, Try.ntmps33
    go_wp2_with fail
    go_ret
    exact ⟨rfl, by (repeat (first | with_reducible assumption | with_reducible exact Below.refl _ _ | with_reducible refine Below.setCell ?_ ?_ _ | with_reducible refine Below.alloc ?_ ?_ _ | with_reducible refine below_drewN' ?_ _ | with_reducible refine Below.drew ?_ | with_reducible refine Below.trans ?_ (Below.mono (by assumption) ?_) | omega | (dsimp only; omega) | (simp only [drew_heap', drewN_heap', World.size_alloc, World.size_setCell]; omega) | (solve | simp) | (solve | (simp; omega))))⟩
  by_cases p5 : f ≤ frame - l
  case neg =>
    rw [h0 (by intro h; omega)]
    have hw : IntKind.i64.wrap (frame - l) = frame - l := IntWalk.i64_in _ (by omega)
    clear h0
    go_enter Try.func33, Try.ntmps33
    go_wp2_with fail
    go_ret
    exact ⟨rfl, by (repeat (first | with_reducible assumption | with_reducible exact Below.refl _ _ | with_reducible refine Below.setCell ?_ ?_ _ | with_reducible refine Below.alloc ?_ ?_ _ | with_reducible refine below_drewN' ?_ _ | with_reducible refine Below.drew ?_ | with_reducible refine Below.trans ?_ (Below.mono (by assumption) ?_) | omega | (dsimp only; omega) | (simp only [drew_heap', drewN_heap', World.size_alloc, World.size_setCell]; omega) | (solve | simp) | (solve | (simp; omega))))⟩
  have hw : IntKind.i64.wrap (frame - l) = frame - l := IntWalk.i64_in _ (by omega)
  by_cases p6 : f < behind
  · rw [show winE n frame (p, f, l) behind = 9 by unfold winE; rw [if_pos (by unfold WinOk; exact ⟨p0, p1, p2, p3, p4, p5⟩), if_pos p6]]
    clear h0
    go_enter Try.func33, Try.ntmps33
    go_wp2_with fail
    go_ret
    exact ⟨rfl, by (repeat (first | with_reducible assumption | with_reducible exact Below.refl _ _ | with_reducible refine Below.setCell ?_ ?_ _ | with_reducible refine Below.alloc ?_ ?_ _ | with_reducible refine below_drewN' ?_ _ | with_reducible refine Below.drew ?_ | with_reducible refine Below.trans ?_ (Below.mono (by assumption) ?_) | omega | (dsimp only; omega) | (simp only [drew_heap', drewN_heap', World.size_alloc, World.size_setCell]; omega) | (solve | simp) | (solve | (simp; omega))))⟩
  · rw [show winE n frame (p, f, l) behind = 0 by unfold winE; rw [if_pos (by unfold WinOk; exact ⟨p0, p1, p2, p3, p4, p5⟩), if_neg p6]]
    clear h0
    go_enter Try.func33, Try.ntmps33
    go_wp2_with fail
    go_ret
    exact ⟨rfl, by (repeat (first | with_reducible assumption | with_reducible exact Below.refl _ _ | with_reducible refine Below.setCell ?_ ?_ _ | with_reducible refine Below.alloc ?_ ?_ _ | with_reducible refine below_drewN' ?_ _ | with_reducible refine Below.drew ?_ | with_reducible refine Below.trans ?_ (Below.mono (by assumption) ?_) | omega | (dsimp only; omega) | (simp only [drew_heap', drewN_heap', World.size_alloc, World.size_setCell]; omega) | (solve | simp) | (solve | (simp; omega))))⟩

def ChanOk (n : Nat) (c : Ch) : Prop := (c.1 = 1 ∨ c.1 = 2) ∧ 0 ≤ c.2.1 ∧ c.2.1 < n ∧ 0 ≤ c.2.2.1 ∧ c.2.2.1 < n ∧ c.2.1 ≠ c.2.2.1 ∧ 1 ≤ c.2.2.2.1 ∧ c.2.2.2.1 ≤ 32 ∧ 1 ≤ c.2.2.2.2 ∧ c.2.2.2.2 ≤ 8 ∧ (c.1 = 1 → c.2.2.2.2 ≤ 1)
instance (n : Nat) (c : Ch) : Decidable (ChanOk n c) := by unfold ChanOk; infer_instance
set_option maxHeartbeats 4000000 in
theorem channel_any (a1 : Option Addr) (n c1 : Nat) (frame : Int) (wv cv : Value) (x : Ch) (w : World) :
    Calls Try.prog 36 #[.agg #[.slice a1 n c1, .int .i64 frame, wv, cv], chV x] w fun e w' => e = .returned (.bool (decide (ChanOk n x))) ∧ Below w.heap.size w w' := by
  obtain ⟨k, f, t, s, d⟩ := x
  have h0 : ¬ ChanOk n (k, f, t, s, d) → decide (ChanOk n (k, f, t, s, d)) = false := fun h => decide_eq_false h
  have h1 : ChanOk n (k, f, t, s, d) → decide (ChanOk n (k, f, t, s, d)) = true := fun h => decide_eq_true h
  generalize hr : decide (ChanOk n (k, f, t, s, d)) = r at *
  clear hr
  unfold ChanOk at h0 h1
  dsimp only at h0 h1
  by_cases k1 : k = 1
  case pos =>
    subst k1
    by_cases q0 : 0 ≤ f
    case neg =>
      rw [h0 (by intro h; omega)]
      clear h0 h1
      go_enter Try.func36, Try.ntmps36
      go_wp2_with fail
      go_ret
      exact ⟨rfl, by (repeat (first | with_reducible assumption | with_reducible exact Below.refl _ _ | with_reducible refine Below.setCell ?_ ?_ _ | with_reducible refine Below.alloc ?_ ?_ _ | with_reducible refine below_drewN' ?_ _ | with_reducible refine Below.drew ?_ | with_reducible refine Below.trans ?_ (Below.mono (by assumption) ?_) | omega | (dsimp only; omega) | (simp only [drew_heap', drewN_heap', World.size_alloc, World.size_setCell]; omega) | (solve | simp) | (solve | (simp; omega))))⟩
    by_cases q1 : f < n
    case neg =>
      rw [h0 (by intro h; omega)]
      clear h0 h1
      go_enter Try.func36, Try.ntmps36
      go_wp2_with fail
      go_ret
      exact ⟨rfl, by (repeat (first | with_reducible assumption | with_reducible exact Below.refl _ _ | with_reducible refine Below.setCell ?_ ?_ _ | with_reducible refine Below.alloc ?_ ?_ _ | with_reducible refine below_drewN' ?_ _ | with_reducible refine Below.drew ?_ | with_reducible refine Below.trans ?_ (Below.mono (by assumption) ?_) | omega | (dsimp only; omega) | (simp only [drew_heap', drewN_heap', World.size_alloc, World.size_setCell]; omega) | (solve | simp) | (solve | (simp; omega))))⟩
    by_cases q2 : 0 ≤ t
    case neg =>
      rw [h0 (by intro h; omega)]
      clear h0 h1
      go_enter Try.func36, Try.ntmps36
      go_wp2_with fail
      go_ret
      exact ⟨rfl, by (repeat (first | with_reducible assumption | with_reducible exact Below.refl _ _ | with_reducible refine Below.setCell ?_ ?_ _ | with_reducible refine Below.alloc ?_ ?_ _ | with_reducible refine below_drewN' ?_ _ | with_reducible refine Below.drew ?_ | with_reducible refine Below.trans ?_ (Below.mono (by assumption) ?_) | omega | (dsimp only; omega) | (simp only [drew_heap', drewN_heap', World.size_alloc, World.size_setCell]; omega) | (solve | simp) | (solve | (simp; omega))))⟩
    by_cases q3 : t < n
    case neg =>
      rw [h0 (by intro h; omega)]
      clear h0 h1
      go_enter Try.func36, Try.ntmps36
      go_wp2_with fail
      go_ret
      exact ⟨rfl, by (repeat (first | with_reducible assumption | with_reducible exact Below.refl _ _ | with_reducible refine Below.setCell ?_ ?_ _ | with_reducible refine Below.alloc ?_ ?_ _ | with_reducible refine below_drewN' ?_ _ | with_reducible refine Below.drew ?_ | with_reducible refine Below.trans ?_ (Below.mono (by assumption) ?_) | omega | (dsimp only; omega) | (simp only [drew_heap', drewN_heap', World.size_alloc, World.size_setCell]; omega) | (solve | simp) | (solve | (simp; omega))))⟩
    by_cases q4 : f ≠ t
    case neg =>
      rw [h0 (by intro h; omega)]
      clear h0 h1
      have e4 : (f != t) = false := by simpa using q4
      go_enter Try.func36, Try.ntmps36
      go_wp2_with fail
      go_ret
      exact ⟨rfl, by (repeat (first | with_reducible assumption | with_reducible exact Below.refl _ _ | with_reducible refine Below.setCell ?_ ?_ _ | with_reducible refine Below.alloc ?_ ?_ _ | with_reducible refine below_drewN' ?_ _ | with_reducible refine Below.drew ?_ | with_reducible refine Below.trans ?_ (Below.mono (by assumption) ?_) | omega | (dsimp only; omega) | (simp only [drew_heap', drewN_heap', World.size_alloc, World.size_setCell]; omega) | (solve | simp) | (solve | (simp; omega))))⟩
    have e4 : (f != t) = true := by simpa using q4
    by_cases q5 : 1 ≤ s
    case neg =>
      rw [h0 (by intro h; omega)]
      clear h0 h1
      go_enter Try.func36, Try.ntmps36
      go_wp2_with fail
      go_ret
      exact ⟨rfl, by (repeat (first | with_reducible assumption | with_reducible exact Below.refl _ _ | with_reducible refine Below.setCell ?_ ?_ _ | with_reducible refine Below.alloc ?_ ?_ _ | with_reducible refine below_drewN' ?_ _ | with_reducible refine Below.drew ?_ | with_reducible refine Below.trans ?_ (Below.mono (by assumption) ?_) | omega | (dsimp only; omega) | (simp only [drew_heap', drewN_heap', World.size_alloc, World.size_setCell]; omega) | (solve | simp) | (solve | (simp; omega))))⟩
    by_cases q6 : s ≤ 32
    case neg =>
      rw [h0 (by intro h; omega)]
      clear h0 h1
      go_enter Try.func36, Try.ntmps36
      go_wp2_with fail
      go_ret
      exact ⟨rfl, by (repeat (first | with_reducible assumption | with_reducible exact Below.refl _ _ | with_reducible refine Below.setCell ?_ ?_ _ | with_reducible refine Below.alloc ?_ ?_ _ | with_reducible refine below_drewN' ?_ _ | with_reducible refine Below.drew ?_ | with_reducible refine Below.trans ?_ (Below.mono (by assumption) ?_) | omega | (dsimp only; omega) | (simp only [drew_heap', drewN_heap', World.size_alloc, World.size_setCell]; omega) | (solve | simp) | (solve | (simp; omega))))⟩
    by_cases q7 : 1 ≤ d
    case neg =>
      rw [h0 (by intro h; omega)]
      clear h0 h1
      go_enter Try.func36, Try.ntmps36
      go_wp2_with fail
      go_ret
      exact ⟨rfl, by (repeat (first | with_reducible assumption | with_reducible exact Below.refl _ _ | with_reducible refine Below.setCell ?_ ?_ _ | with_reducible refine Below.alloc ?_ ?_ _ | with_reducible refine below_drewN' ?_ _ | with_reducible refine Below.drew ?_ | with_reducible refine Below.trans ?_ (Below.mono (by assumption) ?_) | omega | (dsimp only; omega) | (simp only [drew_heap', drewN_heap', World.size_alloc, World.size_setCell]; omega) | (solve | simp) | (solve | (simp; omega))))⟩
    by_cases q8 : d ≤ 1
    case neg =>
      rw [h0 (by intro h; omega)]
      clear h0 h1
      go_enter Try.func36, Try.ntmps36
      go_wp2_with fail
      go_ret
      exact ⟨rfl, by (repeat (first | with_reducible assumption | with_reducible exact Below.refl _ _ | with_reducible refine Below.setCell ?_ ?_ _ | with_reducible refine Below.alloc ?_ ?_ _ | with_reducible refine below_drewN' ?_ _ | with_reducible refine Below.drew ?_ | with_reducible refine Below.trans ?_ (Below.mono (by assumption) ?_) | omega | (dsimp only; omega) | (simp only [drew_heap', drewN_heap', World.size_alloc, World.size_setCell]; omega) | (solve | simp) | (solve | (simp; omega))))⟩
    rw [h1 (by omega)]
    clear h0 h1
    go_enter Try.func36, Try.ntmps36
    go_wp2_with fail
    go_ret
    exact ⟨rfl, by (repeat (first | with_reducible assumption | with_reducible exact Below.refl _ _ | with_reducible refine Below.setCell ?_ ?_ _ | with_reducible refine Below.alloc ?_ ?_ _ | with_reducible refine below_drewN' ?_ _ | with_reducible refine Below.drew ?_ | with_reducible refine Below.trans ?_ (Below.mono (by assumption) ?_) | omega | (dsimp only; omega) | (simp only [drew_heap', drewN_heap', World.size_alloc, World.size_setCell]; omega) | (solve | simp) | (solve | (simp; omega))))⟩
  by_cases k2 : k = 2
  case pos =>
    subst k2
    by_cases q0 : 0 ≤ f
    case neg =>
      rw [h0 (by intro h; omega)]
      clear h0 h1
      go_enter Try.func36, Try.ntmps36
      go_wp2_with fail
      go_ret
      exact ⟨rfl, by (repeat (first | with_reducible assumption | with_reducible exact Below.refl _ _ | with_reducible refine Below.setCell ?_ ?_ _ | with_reducible refine Below.alloc ?_ ?_ _ | with_reducible refine below_drewN' ?_ _ | with_reducible refine Below.drew ?_ | with_reducible refine Below.trans ?_ (Below.mono (by assumption) ?_) | omega | (dsimp only; omega) | (simp only [drew_heap', drewN_heap', World.size_alloc, World.size_setCell]; omega) | (solve | simp) | (solve | (simp; omega))))⟩
    by_cases q1 : f < n
    case neg =>
      rw [h0 (by intro h; omega)]
      clear h0 h1
      go_enter Try.func36, Try.ntmps36
      go_wp2_with fail
      go_ret
      exact ⟨rfl, by (repeat (first | with_reducible assumption | with_reducible exact Below.refl _ _ | with_reducible refine Below.setCell ?_ ?_ _ | with_reducible refine Below.alloc ?_ ?_ _ | with_reducible refine below_drewN' ?_ _ | with_reducible refine Below.drew ?_ | with_reducible refine Below.trans ?_ (Below.mono (by assumption) ?_) | omega | (dsimp only; omega) | (simp only [drew_heap', drewN_heap', World.size_alloc, World.size_setCell]; omega) | (solve | simp) | (solve | (simp; omega))))⟩
    by_cases q2 : 0 ≤ t
    case neg =>
      rw [h0 (by intro h; omega)]
      clear h0 h1
      go_enter Try.func36, Try.ntmps36
      go_wp2_with fail
      go_ret
      exact ⟨rfl, by (repeat (first | with_reducible assumption | with_reducible exact Below.refl _ _ | with_reducible refine Below.setCell ?_ ?_ _ | with_reducible refine Below.alloc ?_ ?_ _ | with_reducible refine below_drewN' ?_ _ | with_reducible refine Below.drew ?_ | with_reducible refine Below.trans ?_ (Below.mono (by assumption) ?_) | omega | (dsimp only; omega) | (simp only [drew_heap', drewN_heap', World.size_alloc, World.size_setCell]; omega) | (solve | simp) | (solve | (simp; omega))))⟩
    by_cases q3 : t < n
    case neg =>
      rw [h0 (by intro h; omega)]
      clear h0 h1
      go_enter Try.func36, Try.ntmps36
      go_wp2_with fail
      go_ret
      exact ⟨rfl, by (repeat (first | with_reducible assumption | with_reducible exact Below.refl _ _ | with_reducible refine Below.setCell ?_ ?_ _ | with_reducible refine Below.alloc ?_ ?_ _ | with_reducible refine below_drewN' ?_ _ | with_reducible refine Below.drew ?_ | with_reducible refine Below.trans ?_ (Below.mono (by assumption) ?_) | omega | (dsimp only; omega) | (simp only [drew_heap', drewN_heap', World.size_alloc, World.size_setCell]; omega) | (solve | simp) | (solve | (simp; omega))))⟩
    by_cases q4 : f ≠ t
    case neg =>
      rw [h0 (by intro h; omega)]
      clear h0 h1
      have e4 : (f != t) = false := by simpa using q4
      go_enter Try.func36, Try.ntmps36
      go_wp2_with fail
      go_ret
      exact ⟨rfl, by (repeat (first | with_reducible assumption | with_reducible exact Below.refl _ _ | with_reducible refine Below.setCell ?_ ?_ _ | with_reducible refine Below.alloc ?_ ?_ _ | with_reducible refine below_drewN' ?_ _ | with_reducible refine Below.drew ?_ | with_reducible refine Below.trans ?_ (Below.mono (by assumption) ?_) | omega | (dsimp only; omega) | (simp only [drew_heap', drewN_heap', World.size_alloc, World.size_setCell]; omega) | (solve | simp) | (solve | (simp; omega))))⟩
    have e4 : (f != t) = true := by simpa using q4
    by_cases q5 : 1 ≤ s
    case neg =>
      rw [h0 (by intro h; omega)]
      clear h0 h1
      go_enter Try.func36, Try.ntmps36
      go_wp2_with fail
      go_ret
      exact ⟨rfl, by (repeat (first | with_reducible assumption | with_reducible exact Below.refl _ _ | with_reducible refine Below.setCell ?_ ?_ _ | with_reducible refine Below.alloc ?_ ?_ _ | with_reducible refine below_drewN' ?_ _ | with_reducible refine Below.drew ?_ | with_reducible refine Below.trans ?_ (Below.mono (by assumption) ?_) | omega | (dsimp only; omega) | (simp only [drew_heap', drewN_heap', World.size_alloc, World.size_setCell]; omega) | (solve | simp) | (solve | (simp; omega))))⟩
    by_cases q6 : s ≤ 32
    case neg =>
      rw [h0 (by intro h; omega)]
      clear h0 h1
      go_enter Try.func36, Try.ntmps36
      go_wp2_with fail
      go_ret
      exact ⟨rfl, by (repeat (first | with_reducible assumption | with_reducible exact Below.refl _ _ | with_reducible refine Below.setCell ?_ ?_ _ | with_reducible refine Below.alloc ?_ ?_ _ | with_reducible refine below_drewN' ?_ _ | with_reducible refine Below.drew ?_ | with_reducible refine Below.trans ?_ (Below.mono (by assumption) ?_) | omega | (dsimp only; omega) | (simp only [drew_heap', drewN_heap', World.size_alloc, World.size_setCell]; omega) | (solve | simp) | (solve | (simp; omega))))⟩
    by_cases q7 : 1 ≤ d
    case neg =>
      rw [h0 (by intro h; omega)]
      clear h0 h1
      go_enter Try.func36, Try.ntmps36
      go_wp2_with fail
      go_ret
      exact ⟨rfl, by (repeat (first | with_reducible assumption | with_reducible exact Below.refl _ _ | with_reducible refine Below.setCell ?_ ?_ _ | with_reducible refine Below.alloc ?_ ?_ _ | with_reducible refine below_drewN' ?_ _ | with_reducible refine Below.drew ?_ | with_reducible refine Below.trans ?_ (Below.mono (by assumption) ?_) | omega | (dsimp only; omega) | (simp only [drew_heap', drewN_heap', World.size_alloc, World.size_setCell]; omega) | (solve | simp) | (solve | (simp; omega))))⟩
    by_cases q8 : d ≤ 8
    case neg =>
      rw [h0 (by intro h; omega)]
      clear h0 h1
      go_enter Try.func36, Try.ntmps36
      go_wp2_with fail
      go_ret
      exact ⟨rfl, by (repeat (first | with_reducible assumption | with_reducible exact Below.refl _ _ | with_reducible refine Below.setCell ?_ ?_ _ | with_reducible refine Below.alloc ?_ ?_ _ | with_reducible refine below_drewN' ?_ _ | with_reducible refine Below.drew ?_ | with_reducible refine Below.trans ?_ (Below.mono (by assumption) ?_) | omega | (dsimp only; omega) | (simp only [drew_heap', drewN_heap', World.size_alloc, World.size_setCell]; omega) | (solve | simp) | (solve | (simp; omega))))⟩
    rw [h1 (by omega)]
    clear h0 h1
    go_enter Try.func36, Try.ntmps36
    go_wp2_with fail
    go_ret
    exact ⟨rfl, by (repeat (first | with_reducible assumption | with_reducible exact Below.refl _ _ | with_reducible refine Below.setCell ?_ ?_ _ | with_reducible refine Below.alloc ?_ ?_ _ | with_reducible refine below_drewN' ?_ _ | with_reducible refine Below.drew ?_ | with_reducible refine Below.trans ?_ (Below.mono (by assumption) ?_) | omega | (dsimp only; omega) | (simp only [drew_heap', drewN_heap', World.size_alloc, World.size_setCell]; omega) | (solve | simp) | (solve | (simp; omega))))⟩
  have k1' : (k == 1) = false := by simpa using k1
  have k2' : (k == 2) = false := by simpa using k2
  rw [h0 (by intro h; omega)]
  clear h0 h1
  by_cases q0 : 0 ≤ f
  case neg =>
    go_enter Try.func36, Try.ntmps36
    go_wp2_with fail
    go_ret
    exact ⟨rfl, by (repeat (first | with_reducible assumption | with_reducible exact Below.refl _ _ | with_reducible refine Below.setCell ?_ ?_ _ | with_reducible refine Below.alloc ?_ ?_ _ | with_reducible refine below_drewN' ?_ _ | with_reducible refine Below.drew ?_ | with_reducible refine Below.trans ?_ (Below.mono (by assumption) ?_) | omega | (dsimp only; omega) | (simp only [drew_heap', drewN_heap', World.size_alloc, World.size_setCell]; omega) | (solve | simp) | (solve | (simp; omega))))⟩
  by_cases q1 : f < n
  case neg =>
    go_enter Try.func36, Try.ntmps36
    go_wp2_with fail
    go_ret
    exact ⟨rfl, by (repeat (first | with_reducible assumption | with_reducible exact Below.refl _ _ | with_reducible refine Below.setCell ?_ ?_ _ | with_reducible refine Below.alloc ?_ ?_ _ | with_reducible refine below_drewN' ?_ _ | with_reducible refine Below.drew ?_ | with_reducible refine Below.trans ?_ (Below.mono (by assumption) ?_) | omega | (dsimp only; omega) | (simp only [drew_heap', drewN_heap', World.size_alloc, World.size_setCell]; omega) | (solve | simp) | (solve | (simp; omega))))⟩
  by_cases q2 : 0 ≤ t
  case neg =>
    go_enter Try.func36, Try.ntmps36
    go_wp2_with fail
    go_ret
    exact ⟨rfl, by (repeat (first | with_reducible assumption | with_reducible exact Below.refl _ _ | with_reducible refine Below.setCell ?_ ?_ _ | with_reducible refine Below.alloc ?_ ?_ _ | with_reducible refine below_drewN' ?_ _ | with_reducible refine Below.drew ?_ | with_reducible refine Below.trans ?_ (Below.mono (by assumption) ?_) | omega | (dsimp only; omega) | (simp only [drew_heap', drewN_heap', World.size_alloc, World.size_setCell]; omega) | (solve | simp) | (solve | (simp; omega))))⟩
  by_cases q3 : t < n
  case neg =>
    go_enter Try.func36, Try.ntmps36
    go_wp2_with fail
    go_ret
    exact ⟨rfl, by (repeat (first | with_reducible assumption | with_reducible exact Below.refl _ _ | with_reducible refine Below.setCell ?_ ?_ _ | with_reducible refine Below.alloc ?_ ?_ _ | with_reducible refine below_drewN' ?_ _ | with_reducible refine Below.drew ?_ | with_reducible refine Below.trans ?_ (Below.mono (by assumption) ?_) | omega | (dsimp only; omega) | (simp only [drew_heap', drewN_heap', World.size_alloc, World.size_setCell]; omega) | (solve | simp) | (solve | (simp; omega))))⟩
  by_cases q4 : f ≠ t
  case neg =>
    have e4 : (f != t) = false := by simpa using q4
    go_enter Try.func36, Try.ntmps36
    go_wp2_with fail
    go_ret
    exact ⟨rfl, by (repeat (first | with_reducible assumption | with_reducible exact Below.refl _ _ | with_reducible refine Below.setCell ?_ ?_ _ | with_reducible refine Below.alloc ?_ ?_ _ | with_reducible refine below_drewN' ?_ _ | with_reducible refine Below.drew ?_ | with_reducible refine Below.trans ?_ (Below.mono (by assumption) ?_) | omega | (dsimp only; omega) | (simp only [drew_heap', drewN_heap', World.size_alloc, World.size_setCell]; omega) | (solve | simp) | (solve | (simp; omega))))⟩
  have e4 : (f != t) = true := by simpa using q4
  go_enter Try.func36, Try.ntmps36
  go_wp2_with fail
  go_ret
  exact ⟨rfl, by (repeat (first | with_reducible assumption | with_reducible exact Below.refl _ _ | with_reducible refine Below.setCell ?_ ?_ _ | with_reducible refine Below.alloc ?_ ?_ _ | with_reducible refine below_drewN' ?_ _ | with_reducible refine Below.drew ?_ | with_reducible refine Below.trans ?_ (Below.mono (by assumption) ?_) | omega | (dsimp only; omega) | (simp only [drew_heap', drewN_heap', World.size_alloc, World.size_setCell]; omega) | (solve | simp) | (solve | (simp; omega))))⟩
end Go.Proofs.Ytinhnecgmokfkaa
