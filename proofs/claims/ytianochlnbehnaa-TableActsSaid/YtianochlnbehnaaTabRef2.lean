/- The references of package table, the others: what they answer. Conditions: lengths within the reach. -/
import Derived.Test.YtianochlnbehnaaTabRef
import Derived.Test.YtianochlnbehnaaTabKidsLaw
namespace Go.Proofs.Ytianochlnbehnaa
open Go Go.RowKit Go.Tm
set_option linter.unusedVariables false
set_option linter.unusedSimpArgs false


theorem ty_int : Ty Try.prog 3 1 false := ⟨by kernel_rfl, by kernel_rfl, by decide, by kernel_rfl⟩

theorem int_val (n : Int) : Val false 1 (.int .i64 n) := ⟨rfl, rfl⟩
theorem adopt_step {l : List Prc} {i : Nat} {x : Prc} (h : l[i]? = some x) (a b : Int) : prs (adoptS (l.take (i + 1)) a b) = prs (adoptS (l.take i) a b) ++ [prV (adopt1 a b x)] := by
  unfold adoptS
  rw [take_step h]; simp
theorem kidI_step {l : List Prc} {pid : Int} {i : Nat} {x : Prc} (h : l[i]? = some x) : ints (kidI (l.take (i + 1)) pid) = ints (kidI (l.take i) pid) ++ if x.par = pid then [.int .i64 x.pid] else [] := by
  unfold kidI
  rw [kids_step h]
  by_cases hx : x.par = pid <;> simp [hx]
theorem kidI_le (l : List Prc) (pid : Int) (i : Nat) : (kidI (l.take i) pid).length ≤ i := by
  have := kids_le l pid i
  simpa [kidI] using this
theorem dead_hit {l : List Prc} {pid : Int} {i : Nat} {x : Prc} (h : l[i]? = some x) (hp : x.par = pid) (hs : x.st = 4) (hd : deadS (l.take i) pid = (0, false)) : deadS l pid = (x.pid, true) := by
  have h1 := dead_new h hp hs (by rw [hd])
  have e : kidsP l pid = kidsP (l.take (i + 1)) pid ++ kidsP (l.drop (i + 1)) pid := by
    unfold kidsP
    rw [← List.filter_append, List.take_append_drop]
  unfold deadS at h1 ⊢
  rw [e, List.find?_append]
  cases hf : (kidsP (l.take (i + 1)) pid).find? deadB with
  | none => rw [hf] at h1; simp at h1
  | some y => rw [hf] at h1; simpa using h1

set_option maxHeartbeats 4000000 in
theorem refAdopt_any (v : Value) (l : List Prc) (fr to : Int) (w : World) (hv : Sl w true 26 v (prs l)) (hby : l.length * 168 ≤ 140737488355328) :
    Calls Try.prog 26 #[v, .int .i64 fr, .int .i64 to] w fun e w' => ∃ v', e = .returned v' ∧ Sl w' true 26 v' (prs (adoptS l fr to)) ∧ Below w.heap.size w w' := by
  have HV := Lib.hid hv
  obtain ⟨i0, hi0, hq0, hq1, hq2⟩ := info_parts info_proc
  have HI := Lib.hid (And.intro hi0 (And.intro hq0 (And.intro hq1 hq2)))
  clear hi0 hq0 hq1 hq2
  obtain ⟨a, cap, rfl, hl⟩ := hv.shape
  rw [prs_len] at hl HV ⊢
  clear hv
  go_enter Try.func26, Try.ntmps26
  go_wp2_with fail
  go_loopw [7, 8] (fun u t W => ∃ (i : Nat) (s : Value), i ≤ l.length ∧ s = u ∧ t = .int .i64 i ∧ Below w.heap.size w W ∧ Owned W w.heap.size 33 true 26 u (prs (adoptS (l.take i) fr to))) (fun _ t _ => l.length - (intOf t).toNat)
  case atStart => exact ⟨0, _, Nat.zero_le _, rfl, rfl, Below.refl _ _, Owned.nil⟩
  case round =>
    obtain ⟨i, s, hi, rfl, rfl, hbw, hown⟩ := hrel
    have hws := hbw.size
    have HO := Lib.hid hown
    clear hown
    have hwr : IntKind.i64.wrap ((i : Int) + 1) = i + 1 := IntWalk.i64_in _ (by omega)
    by_cases hil : i < l.length
    · obtain ⟨x, hx⟩ : ∃ x, l[i]? = some x := ⟨_, List.getElem?_eq_getElem hil⟩
      obtain ⟨b, off, rfl, hb, hcx, -, -, -⟩ := Sl.pr (HV.out.below hbw) hx
      have HCX := Lib.hid hcx
      have hst := adopt_step hx fr to
      have hle : (adoptS (l.take i) fr to).length = i := by rw [adoptS_len]; simp; omega
      have q1 := prC1 x
      clear hx hcx
      by_cases hp : x.par = fr
      · have e1 : adopt1 fr to x = { x with par := to } := by unfold adopt1; rw [if_pos hp]
        have hpb : (x.par == fr) = true := by simpa using hp
        have hps := prC_par x to
        rw [e1] at hst
        obtain ⟨y, hy⟩ : ∃ y : Prc, y = { x with par := to } := ⟨_, rfl⟩
        rw [← hy] at hst hps
        have HT := Lib.hid hst
        have KB := Lib.hid (Box.new wr (prC y) 33)
        clear hst hp e1 hy
        go_wp2_with (first | ((with_reducible refine at_ld 33 ?_); (refine wpList_load_val rfl 33 _ rfl b (off + i * 26) ?_ (prV x) ty_proc (pr_val x) HCX.out ?_; (focus (solve | simp [Act.eval, Act.put])))) | ((with_reducible refine at_st 33 ?_); (refine wpList_store_freshA rfl 33 _ _ rfl (prC x) ty_proc (pr_val x) (by rfl) ?_ ?_ ?_; (focus (solve | simp [Act.eval, Act.put])); (focus (solve | simp [Act.eval, Act.put])))) | ((with_reducible refine at_dst (some 27) ?_); (refine wpList_load_boxG 33 _ rfl (prC y) ty_proc (pr_val y) KB.out ?_ ?_ ?_; (focus (solve | simp [Act.eval, Act.put])); (focus rfl))) | ((with_reducible refine at_bs 22 ?_); (refine wpList_build_one rfl 22 _ rfl ty_proc (by decide) i0 (.agg #[.int .i64 0, .int .i64 0, .int .i64 0, .int .u32 0, .int .u32 0, .int .u32 0, .int .u32 0, .int .u32 0, .int .u32 0, .int .u32 0, .int .u32 0, .int .u32 0, .string ⟨#[]⟩, .int .i64 0, .int .i64 0, .bool false, .int .i64 0, .bool false, .int .i64 0, .bool false, .int .i64 0, .bool false, .int .u32 0, .int .u32 0, .int .u32 0, .int .u32 0]) Try.underlying22 HI.out.1 HI.out.2.1 HI.out.2.2.1 (prV y) ?_ (pr_val y) ?_; (focus (solve | simp [Act.eval, Act.put])))) | (refine wpList_append_sl (v := s) (xs := prs (adoptS (l.take i) fr to)) (base := w.heap.size) rfl _ _ 22 rfl ty_proc i0 (.agg #[.int .i64 0, .int .i64 0, .int .i64 0, .int .u32 0, .int .u32 0, .int .u32 0, .int .u32 0, .int .u32 0, .int .u32 0, .int .u32 0, .int .u32 0, .int .u32 0, .string ⟨#[]⟩, .int .i64 0, .int .i64 0, .bool false, .int .i64 0, .bool false, .int .i64 0, .bool false, .int .i64 0, .bool false, .int .u32 0, .int .u32 0, .int .u32 0, .int .u32 0]) 168 Try.underlying22 HI.out.1 HI.out.2.1 HI.out.2.2.1 HI.out.2.2.2 rfl ?_ ?_ (.slice (some ⟨wr.heap.size + 1, 0, none⟩) 1 1) ([prV y]) ?_ ?_ ?_ ?_ ?_ ?_; (focus (solve | simp [Act.eval, Act.put])); (focus (exact (HO.out.kept (by (repeat (first | with_reducible assumption | with_reducible exact Below.refl _ _ | with_reducible refine Below.setCell ?_ ?_ _ | with_reducible refine Below.alloc ?_ ?_ _ | with_reducible refine below_drewN' ?_ _ | with_reducible refine Below.drew ?_ | with_reducible refine Below.trans ?_ (Below.mono (by assumption) ?_) | omega | (dsimp only; omega) | (simp only [drew_heap', drewN_heap', World.size_alloc, World.size_setCell]; omega) | (solve | simp) | (solve | (simp; omega)))))))); (focus (solve | simp [Act.eval, Act.put])); (focus (exact (Sl.made1 (pr_val y) (by simp)))); (focus (first | (simp [maxLen]; omega) | (solve | simp [maxLen]))); (focus (first | (simp; omega) | (solve | simp))); (focus (first | omega | (simp only [World.size_alloc, World.size_setCell]; omega))); (intro v4 w4 ho4 hg4 hf4; (have hb4 : Below w.heap.size w w4 := (HO.out.kept (by (repeat (first | with_reducible assumption | with_reducible exact Below.refl _ _ | with_reducible refine Below.setCell ?_ ?_ _ | with_reducible refine Below.alloc ?_ ?_ _ | with_reducible refine below_drewN' ?_ _ | with_reducible refine Below.drew ?_ | with_reducible refine Below.trans ?_ (Below.mono (by assumption) ?_) | omega | (dsimp only; omega) | (simp only [drew_heap', drewN_heap', World.size_alloc, World.size_setCell]; omega) | (solve | simp) | (solve | (simp; omega)))))).below hg4 (by (repeat (first | with_reducible assumption | with_reducible exact Below.refl _ _ | with_reducible refine Below.setCell ?_ ?_ _ | with_reducible refine Below.alloc ?_ ?_ _ | with_reducible refine below_drewN' ?_ _ | with_reducible refine Below.drew ?_ | with_reducible refine Below.trans ?_ (Below.mono (by assumption) ?_) | omega | (dsimp only; omega) | (simp only [drew_heap', drewN_heap', World.size_alloc, World.size_setCell]; omega) | (solve | simp) | (solve | (simp; omega))))) (Nat.le_refl _) (by simp only [World.size_alloc]; omega)); (have HO4 := Lib.hid ho4); (clear ho4 hg4 hf4))) | fail)
        go_roundw
        case rel => exact ⟨i + 1, _, by omega, rfl, by go_num, hb4, by rw [HT.out]; exact HO4.out⟩
        case measure => simp [intOf]; omega
      · have e1 : adopt1 fr to x = x := by unfold adopt1; rw [if_neg hp]
        have hpb : (x.par == fr) = false := by simpa using hp
        rw [e1] at hst
        have HT := Lib.hid hst
        have KB := Lib.hid (Box.new wr (prC x) 33)
        clear hst hp e1
        go_wp2_with (first | ((with_reducible refine at_ld 33 ?_); (refine wpList_load_val rfl 33 _ rfl b (off + i * 26) ?_ (prV x) ty_proc (pr_val x) HCX.out ?_; (focus (solve | simp [Act.eval, Act.put])))) | ((with_reducible refine at_st 33 ?_); (refine wpList_store_freshA rfl 33 _ _ rfl (prC x) ty_proc (pr_val x) (by rfl) ?_ ?_ ?_; (focus (solve | simp [Act.eval, Act.put])); (focus (solve | simp [Act.eval, Act.put])))) | ((with_reducible refine at_dst (some 27) ?_); (refine wpList_load_boxG 33 _ rfl (prC x) ty_proc (pr_val x) KB.out ?_ ?_ ?_; (focus (solve | simp [Act.eval, Act.put])); (focus rfl))) | ((with_reducible refine at_bs 22 ?_); (refine wpList_build_one rfl 22 _ rfl ty_proc (by decide) i0 (.agg #[.int .i64 0, .int .i64 0, .int .i64 0, .int .u32 0, .int .u32 0, .int .u32 0, .int .u32 0, .int .u32 0, .int .u32 0, .int .u32 0, .int .u32 0, .int .u32 0, .string ⟨#[]⟩, .int .i64 0, .int .i64 0, .bool false, .int .i64 0, .bool false, .int .i64 0, .bool false, .int .i64 0, .bool false, .int .u32 0, .int .u32 0, .int .u32 0, .int .u32 0]) Try.underlying22 HI.out.1 HI.out.2.1 HI.out.2.2.1 (prV x) ?_ (pr_val x) ?_; (focus (solve | simp [Act.eval, Act.put])))) | (refine wpList_append_sl (v := s) (xs := prs (adoptS (l.take i) fr to)) (base := w.heap.size) rfl _ _ 22 rfl ty_proc i0 (.agg #[.int .i64 0, .int .i64 0, .int .i64 0, .int .u32 0, .int .u32 0, .int .u32 0, .int .u32 0, .int .u32 0, .int .u32 0, .int .u32 0, .int .u32 0, .int .u32 0, .string ⟨#[]⟩, .int .i64 0, .int .i64 0, .bool false, .int .i64 0, .bool false, .int .i64 0, .bool false, .int .i64 0, .bool false, .int .u32 0, .int .u32 0, .int .u32 0, .int .u32 0]) 168 Try.underlying22 HI.out.1 HI.out.2.1 HI.out.2.2.1 HI.out.2.2.2 rfl ?_ ?_ (.slice (some ⟨wr.heap.size + 1, 0, none⟩) 1 1) ([prV x]) ?_ ?_ ?_ ?_ ?_ ?_; (focus (solve | simp [Act.eval, Act.put])); (focus (exact (HO.out.kept (by (repeat (first | with_reducible assumption | with_reducible exact Below.refl _ _ | with_reducible refine Below.setCell ?_ ?_ _ | with_reducible refine Below.alloc ?_ ?_ _ | with_reducible refine below_drewN' ?_ _ | with_reducible refine Below.drew ?_ | with_reducible refine Below.trans ?_ (Below.mono (by assumption) ?_) | omega | (dsimp only; omega) | (simp only [drew_heap', drewN_heap', World.size_alloc, World.size_setCell]; omega) | (solve | simp) | (solve | (simp; omega)))))))); (focus (solve | simp [Act.eval, Act.put])); (focus (exact (Sl.made1 (pr_val x) (by simp)))); (focus (first | (simp [maxLen]; omega) | (solve | simp [maxLen]))); (focus (first | (simp; omega) | (solve | simp))); (focus (first | omega | (simp only [World.size_alloc, World.size_setCell]; omega))); (intro v4 w4 ho4 hg4 hf4; (have hb4 : Below w.heap.size w w4 := (HO.out.kept (by (repeat (first | with_reducible assumption | with_reducible exact Below.refl _ _ | with_reducible refine Below.setCell ?_ ?_ _ | with_reducible refine Below.alloc ?_ ?_ _ | with_reducible refine below_drewN' ?_ _ | with_reducible refine Below.drew ?_ | with_reducible refine Below.trans ?_ (Below.mono (by assumption) ?_) | omega | (dsimp only; omega) | (simp only [drew_heap', drewN_heap', World.size_alloc, World.size_setCell]; omega) | (solve | simp) | (solve | (simp; omega)))))).below hg4 (by (repeat (first | with_reducible assumption | with_reducible exact Below.refl _ _ | with_reducible refine Below.setCell ?_ ?_ _ | with_reducible refine Below.alloc ?_ ?_ _ | with_reducible refine below_drewN' ?_ _ | with_reducible refine Below.drew ?_ | with_reducible refine Below.trans ?_ (Below.mono (by assumption) ?_) | omega | (dsimp only; omega) | (simp only [drew_heap', drewN_heap', World.size_alloc, World.size_setCell]; omega) | (solve | simp) | (solve | (simp; omega))))) (Nat.le_refl _) (by simp only [World.size_alloc]; omega)); (have HO4 := Lib.hid ho4); (clear ho4 hg4 hf4))) | fail)
        go_roundw
        case rel => exact ⟨i + 1, _, by omega, rfl, by go_num, hb4, by rw [HT.out]; exact HO4.out⟩
        case measure => simp [intOf]; omega
    · obtain rfl : i = l.length := by omega
      go_wp2_with fail
      go_ret
      refine ⟨_, rfl, ?_, hbw⟩
      have h := HO.out.sl
      rw [List.take_length] at h
      exact h

set_option maxHeartbeats 4000000 in
theorem refDead_any (v : Value) (l : List Prc) (pid : Int) (w : World) (hv : Sl w true 26 v (prs l)) :
    Calls Try.prog 22 #[v, .int .i64 pid] w fun e w' => e = .returned (.tuple #[.int .i64 (deadS l pid).1, .bool (deadS l pid).2]) ∧ Below w.heap.size w w' := by
  have HV := Lib.hid hv
  obtain ⟨a, cap, rfl, hl⟩ := hv.shape
  rw [prs_len] at hl HV ⊢
  clear hv
  go_enter Try.func22, Try.ntmps22
  go_wp2_with fail
  go_loopw [6] (fun t W => ∃ i : Nat, i ≤ l.length ∧ t = .int .i64 i ∧ Below w.heap.size w W ∧ Hid (deadS (l.take i) pid = (0, false))) (fun t _ => l.length - (intOf t).toNat)
  case atStart => exact ⟨0, Nat.zero_le _, rfl, Below.refl _ _, Lib.hid rfl⟩
  case round =>
    obtain ⟨i, hi, rfl, hbw, HD⟩ := hrel
    have hws := hbw.size
    by_cases hlt : i < l.length
    · obtain ⟨x, hx⟩ : ∃ x, l[i]? = some x := ⟨_, List.getElem?_eq_getElem hlt⟩
      obtain ⟨b, off, rfl, hb, -, c0, c1, c2⟩ := Sl.pr (HV.out.below hbw) hx
      have hwr : IntKind.i64.wrap ((i : Int) + 1) = i + 1 := IntWalk.i64_in _ (by omega)
      have HX := Lib.hid hx
      clear hx
      by_cases hp : x.par = pid
      · have hpb : (x.par == pid) = true := by simpa using hp
        by_cases hs : x.st = 4
        · have hsb : (x.st == 4) = true := by simpa using hs
          have HH := Lib.hid (dead_hit HX.out hp hs HD.out)
          clear hp hs
          go_wp2_with fail
          exact bodyPost_ret (v := .tuple #[.int .i64 x.pid, .bool true]) (by simp [results, Try.results22, go_sem]) rfl ⟨by rw [HH.out], hbw⟩
        · have hsb : (x.st == 4) = false := by simpa using hs
          have HH := Lib.hid ((dead_live (pid := pid) HX.out hs).trans HD.out)
          clear hp hs
          go_wp2_with fail
          go_roundw
          case rel => exact ⟨i + 1, by omega, by go_num, hbw, HH⟩
          case measure => simp [intOf]; omega
      · have hpb : (x.par == pid) = false := by simpa using hp
        have HH := Lib.hid ((dead_skip HX.out hp).trans HD.out)
        clear hp
        go_wp2_with fail
        go_roundw
        case rel => exact ⟨i + 1, by omega, by go_num, hbw, HH⟩
        case measure => simp [intOf]; omega
    · obtain rfl : i = l.length := by omega
      go_wp2_with fail
      refine bodyPost_ret (v := .tuple #[.int .i64 0, .bool false]) (by simp [results, Try.results22, go_sem]) rfl ⟨?_, hbw⟩
      have h := HD.out
      rw [List.take_length] at h
      rw [h]

set_option maxHeartbeats 4000000 in
theorem refChildren_any (v : Value) (l : List Prc) (pid : Int) (w : World) (hv : Sl w true 26 v (prs l)) (hby : l.length * 168 ≤ 140737488355328) :
    Calls Try.prog 28 #[v, .int .i64 pid] w fun e w' => ∃ v', e = .returned v' ∧ Sl w' false 1 v' (ints (kidI l pid)) ∧ Below w.heap.size w w' := by
  have HV := Lib.hid hv
  obtain ⟨i0, hi0, hq0, hq1, hq2⟩ := info_parts info_int
  have HI := Lib.hid (And.intro hi0 (And.intro hq0 (And.intro hq1 hq2)))
  clear hi0 hq0 hq1 hq2
  obtain ⟨a, cap, rfl, hl⟩ := hv.shape
  rw [prs_len] at hl HV ⊢
  clear hv
  go_enter Try.func28, Try.ntmps28
  go_wp2_with fail
  go_loopw [5, 6] (fun u t W => ∃ (i : Nat) (s : Value), i ≤ l.length ∧ s = u ∧ t = .int .i64 i ∧ Below w.heap.size w W ∧ Owned W w.heap.size 3 false 1 u (ints (kidI (l.take i) pid))) (fun _ t _ => l.length - (intOf t).toNat)
  case atStart => exact ⟨0, _, Nat.zero_le _, rfl, rfl, Below.refl _ _, Owned.nil⟩
  case round =>
    obtain ⟨i, s, hi, rfl, rfl, hbw, hown⟩ := hrel
    have hws := hbw.size
    have HO := Lib.hid hown
    clear hown
    have hwr : IntKind.i64.wrap ((i : Int) + 1) = i + 1 := IntWalk.i64_in _ (by omega)
    by_cases hil : i < l.length
    · obtain ⟨x, hx⟩ : ∃ x, l[i]? = some x := ⟨_, List.getElem?_eq_getElem hil⟩
      obtain ⟨b, off, rfl, hb, -, c0, c1, -⟩ := Sl.pr (HV.out.below hbw) hx
      have hst := kidI_step (pid := pid) hx
      have hle := kidI_le l pid i
      clear hx
      by_cases hp : x.par = pid
      · rw [if_pos hp] at hst
        have hpb : (x.par == pid) = true := by simpa using hp
        have HT := Lib.hid hst
        clear hst hp
        generalize kidI (l.take i) pid = kk at *
        go_wp2_with (first | (refine wpList_append_sl (v := s) (xs := ints kk) (base := w.heap.size) rfl _ _ 41 rfl ty_int i0 (.int .i64 0) 8 Try.underlying41 HI.out.1 HI.out.2.1 HI.out.2.2.1 HI.out.2.2.2 rfl ?_ ?_ (.slice (some ⟨wr.heap.size, 0, none⟩) 1 1) ([.int .i64 x.pid]) ?_ ?_ ?_ ?_ ?_ ?_; (focus (solve | simp [Act.eval, Act.put])); (focus (exact (HO.out.kept (by (repeat (first | with_reducible assumption | with_reducible exact Below.refl _ _ | with_reducible refine Below.setCell ?_ ?_ _ | with_reducible refine Below.alloc ?_ ?_ _ | with_reducible refine below_drewN' ?_ _ | with_reducible refine Below.drew ?_ | with_reducible refine Below.trans ?_ (Below.mono (by assumption) ?_) | omega | (dsimp only; omega) | (simp only [drew_heap', drewN_heap', World.size_alloc, World.size_setCell]; omega) | (solve | simp) | (solve | (simp; omega)))))))); (focus (solve | simp [Act.eval, Act.put])); (focus (exact (Sl.made1 (int_val x.pid) rfl))); (focus (first | (simp [maxLen]; omega) | (solve | simp [maxLen]))); (focus (first | (simp; omega) | (solve | simp))); (focus (first | omega | (simp only [World.size_alloc, World.size_setCell]; omega))); (intro v4 w4 ho4 hg4 hf4; (have hb4 : Below w.heap.size w w4 := (HO.out.kept (by (repeat (first | with_reducible assumption | with_reducible exact Below.refl _ _ | with_reducible refine Below.setCell ?_ ?_ _ | with_reducible refine Below.alloc ?_ ?_ _ | with_reducible refine below_drewN' ?_ _ | with_reducible refine Below.drew ?_ | with_reducible refine Below.trans ?_ (Below.mono (by assumption) ?_) | omega | (dsimp only; omega) | (simp only [drew_heap', drewN_heap', World.size_alloc, World.size_setCell]; omega) | (solve | simp) | (solve | (simp; omega)))))).below hg4 (by (repeat (first | with_reducible assumption | with_reducible exact Below.refl _ _ | with_reducible refine Below.setCell ?_ ?_ _ | with_reducible refine Below.alloc ?_ ?_ _ | with_reducible refine below_drewN' ?_ _ | with_reducible refine Below.drew ?_ | with_reducible refine Below.trans ?_ (Below.mono (by assumption) ?_) | omega | (dsimp only; omega) | (simp only [drew_heap', drewN_heap', World.size_alloc, World.size_setCell]; omega) | (solve | simp) | (solve | (simp; omega))))) (Nat.le_refl _) (by simp only [World.size_alloc]; omega)); (have HO4 := Lib.hid ho4); (clear ho4 hg4 hf4))) | fail)
        go_roundw
        case rel => exact ⟨i + 1, _, by omega, rfl, by go_num, hb4, by rw [HT.out]; exact HO4.out⟩
        case measure => simp [intOf]; omega
      · rw [if_neg hp, List.append_nil] at hst
        have hpb : (x.par == pid) = false := by simpa using hp
        have HT := Lib.hid hst
        clear hst hp
        go_wp2_with fail
        go_roundw
        case rel => exact ⟨i + 1, _, by omega, rfl, by go_num, hbw, by rw [HT.out]; exact HO.out⟩
        case measure => simp [intOf]; omega
    · obtain rfl : i = l.length := by omega
      go_wp2_with fail
      go_ret
      refine ⟨_, rfl, ?_, hbw⟩
      have h := HO.out.sl
      rw [List.take_length] at h
      exact h
end Go.Proofs.Ytianochlnbehnaa
