/- sleep.behind, Add, Drop: what they answer. Conditions: lengths within the reach. -/
import Derived.Test.YtndmgbdgcemcmaaSleepLib
import Derived.Deep.RegionHeld3
namespace Go.Proofs.Ytndmgbdgcemcmaa
open Go Go.RowKit Go.Tm
set_option linter.unusedVariables false
set_option linter.unusedSimpArgs false


set_option maxHeartbeats 1000000 in
theorem indexFunc_alarm (v : Value) (xs : List Value) (fid : FuncId) (caps : Array Value) (p : Value → Bool) (w : World) (hsl : Sl w true 2 v xs) (hp : Pred Try.prog w none fid caps p xs) :
    Calls Try.prog 22 #[v, .func (.func fid) #[] caps] w fun e w' => e = .returned (.int .i64 (idx p xs)) ∧ Below w.heap.size w w' := by
  obtain ⟨hsz, a, cap, rfl, hl, hm, hform⟩ := hsl
  unfold maxLen at hm
  have hlen : xs.length ≤ 9223372036854775807 := by omega
  go_enter Try.func22, Try.ntmps22
  go_wp2_with fail
  go_loopw [8] (fun t wr => ∃ i : Nat, i ≤ xs.length ∧ t = .int .i64 i ∧ Below w.heap.size w wr ∧ ∀ j y, j < i → xs[j]? = some y → p y = false) (fun t _ => xs.length - (intOf t).toNat)
  case atStart => exact ⟨0, Nat.zero_le _, rfl, Below.refl _ _, by intro j y h; omega⟩
  case round =>
    obtain ⟨i, hi, rfl, hbw, hprev⟩ := hrel
    have HP := Lib.hid hprev
    clear hprev
    by_cases hlt : i < xs.length
    · obtain ⟨x, hx⟩ : ∃ x, xs[i]? = some x := ⟨_, List.getElem?_eq_getElem hlt⟩
      have hmem : x ∈ xs := List.mem_of_getElem? hx
      have HV := Lib.hid (hsz _ hmem)
      obtain ⟨b, off, rfl, hb, hcell⟩ : ∃ b off, a = some ⟨b, off, none⟩ ∧ b < w.heap.size ∧ Cells wr b (off + i * 2) x.cells.toList := by
        rcases hform with h0 | ⟨b, off, ha, hb, hc⟩
        · subst h0; simp at hlt
        · exact ⟨b, off, ha, hb, (hc i _ hx).below hbw hb⟩
      have HX := Lib.hid hx
      have HCE := Lib.hid hcell
      clear hx hcell hform hsz
      have hcall := hp.asks wr (grown_of_below hbw none) _ hmem
      have hbody := hp.body
      unfold Body at hbody
      have HC := Lib.hid hcall
      clear hcall hp
      cases hpx : p x
      · have HPX := Lib.hid hpx
        rw [hpx] at HC
        clear hpx
        go_wp2_with (first | (refine wpList_load_val rfl 30 _ rfl b (off + i * 2) (by simp [Act.eval]) x ty_alarm HV.out HCE.out ?_) | fail)
        refine HC.out.mono ?_
        rintro e w1 ⟨rfl, hb1⟩
        go_wp2_with fail
        go_roundw
        case rel =>
          refine ⟨i + 1, by omega, by go_num, hbw.trans (hb1.mono hbw.size), ?_⟩
          intro j y hj hy
          rcases Nat.lt_succ_iff_lt_or_eq.1 hj with hj | rfl
          · exact HP.out j y hj hy
          · rw [HX.out] at hy; cases hy; exact HPX.out
        case measure => simp [intOf]; omega
      · have HPX := Lib.hid hpx
        rw [hpx] at HC
        clear hpx
        go_wp2_with (first | (refine wpList_load_val rfl 30 _ rfl b (off + i * 2) (by simp [Act.eval]) x ty_alarm HV.out HCE.out ?_) | fail)
        refine HC.out.mono ?_
        rintro e w1 ⟨rfl, hb1⟩
        go_wp2_with fail
        go_ret
        exact ⟨by rw [idx_some HX.out HPX.out HP.out]; rfl, hbw.trans (hb1.mono hbw.size)⟩
    · go_wp2_with fail
      go_ret
      refine ⟨?_, hbw⟩
      rw [idx_none ?_]; · rfl
      intro x hx
      obtain ⟨j, hj, hxj⟩ := List.getElem_of_mem hx
      exact HP.out j x (by omega) (by rw [← hxj]; exact List.getElem?_eq_getElem hj)

def AlForm (x : Value) : Prop := ∃ (fa fb : Int), x = .agg #[.int .u64 fa, .int .i64 fb]

set_option maxHeartbeats 4000000 in
theorem deleteFunc_alarm (v : Value) (xs : List Value) (fid : FuncId) (caps : Array Value) (p : Value → Bool) (w : World) (base : Nat) (hform : ∀ x ∈ xs, AlForm x) (ho : Owned w base 30 true 2 v xs) (hp : Pred Try.prog w v.ownBlock fid caps p xs) :
    Calls Try.prog 27 #[v, .func (.func fid) #[] caps] w fun e w' => ∃ v', e = .returned v' ∧ Sl w' true 2 v' (xs.filter fun x => !p x) ∧ v'.ownBlock = v.ownBlock ∧ w.grownBy w' v.ownBlock := by
  have hI := indexFunc_alarm v xs fid caps p w ho.sl ⟨hp.body, fun w' hg x hx => hp.asks w' ⟨hg.os, hg.tape, hg.output, hg.size, fun b hb _ => hg.block b hb (by simp)⟩ x hx⟩
  rcases idx_cases p xs with ⟨hi, hall⟩ | ⟨i0, x0, hi, hx0, hpx0, hprev⟩
  · rw [hi] at hI
    have HF := Lib.hid (show xs.filter (fun x => !p x) = xs from List.filter_eq_self.2 (fun x hx => by rw [hall x hx]; rfl))
    have HO := Lib.hid ho
    clear hp ho hall
    go_enter Try.func27, Try.ntmps27
    go_wp2_with fail
    with_reducible refine hI.mono ?_
    rintro e w1 ⟨rfl, hb1⟩
    go_wp2_with fail
    go_ret
    exact ⟨_, rfl, by rw [HF.out]; exact (HO.out.kept hb1).sl, rfl, grown_of_below hb1 _⟩
  · rw [hi] at hI
    have hlt0 : i0 < xs.length := (List.getElem?_eq_some_iff.1 hx0).1
    obtain ⟨g, cap, rfl, hlc, hcm, hbg, hgw, hfz, _⟩ := ho.form (by omega)
    have hlen : xs.length ≤ 9223372036854775807 := by unfold maxLen at hcm; omega
    have hob : (Value.slice (some ⟨g, 0, none⟩) xs.length cap).ownBlock = some g := rfl
    rw [hob] at hp ⊢
    obtain ⟨i1, hi0, hq0, hq1, hq2⟩ := info_parts info_alarm
    have hzv : ∀ w, (zeroValue 30).run Try.prog w = .ok (.agg #[.int .u64 0, .int .i64 0]) w := fun w => by simp [zeroValue, typeInfo, hi0, hq0]
    have HZV := Lib.hid hzv
    clear hi0 hq0 hq1 hq2 hzv hfz
    have HO0 := Lib.hid ho
    have HPR := Lib.hid hp
    have hbody := hp.body
    unfold Body at hbody
    have hst0 : xs.take i0 = (xs.take (i0 + 1)).filter (fun x => !p x) := by
      rw [take_step hx0, List.filter_append]
      have h1 : (xs.take i0).filter (fun x => !p x) = xs.take i0 := List.filter_eq_self.2 (fun x hx => by
        obtain ⟨j, hj, rfl⟩ := List.getElem_of_mem hx
        have hj' : j < i0 := by rw [List.length_take] at hj; omega
        rw [List.getElem_take, hprev j _ hj' (List.getElem?_eq_getElem (by omega))]; rfl)
      rw [h1]
      simp [hpx0]
    have HST0 := Lib.hid hst0
    have hwr0 : IntKind.i64.wrap ((i0 : Int) + 1) = i0 + 1 := IntWalk.i64_in _ (by omega)
    have hne1 : ((i0 : Int) == -1) = false := by rw [beq_eq_false_iff_ne]; omega
    clear ho hp hprev hst0 hx0 hpx0
    go_enter Try.func27, Try.ntmps27
    go_wp2_with fail
    with_reducible refine hI.mono ?_
    rintro e w1 ⟨rfl, hb1⟩
    have hz1 := hb1.size
    go_wp2_with fail
    go_loopw [5, 6] (fun u t W => ∃ (i j : Nat) (zs : List Value), i < j ∧ j ≤ xs.length ∧ u = .int .i64 i ∧ t = .int .i64 j ∧ zs.length = xs.length ∧ Owned W base 30 true 2 (.slice (some ⟨g, 0, none⟩) xs.length cap) zs ∧ w.grownBy W (some g) ∧
      zs.take i = (xs.take j).filter (fun x => !p x) ∧ ∀ r, j ≤ r → zs[r]? = xs[r]?) (fun _ t _ => xs.length - (intOf t).toNat)
    case atStart => exact ⟨i0, i0 + 1, xs, by omega, by omega, rfl, by go_num, rfl, HO0.out.kept hb1, grown_of_below hb1 _, HST0.out, fun _ _ => rfl⟩
    case round =>
      obtain ⟨i, j, zs, hij, hj, rfl, rfl, hzl, how, hgw, htk, hdr⟩ := hrel
      have HO := Lib.hid how
      have HZL := Lib.hid hzl
      have HTK := Lib.hid htk
      have HDR := Lib.hid hdr
      have HG := Lib.hid hgw
      clear how hzl htk hdr hgw
      by_cases hlt : j < xs.length
      · obtain ⟨x, hx⟩ : ∃ x, xs[j]? = some x := ⟨_, List.getElem?_eq_getElem hlt⟩
        have hzx : zs[j]? = some x := (HDR.out j (Nat.le_refl _)).trans hx
        obtain ⟨b', off', hbo, hblt, hcell⟩ := HO.out.sl.at hzx
        simp only [Option.some.injEq, Addr.mk.injEq, and_true] at hbo
        obtain ⟨rfl, rfl⟩ := hbo
        rw [Nat.zero_add] at hcell
        have HCE := Lib.hid hcell
        have HV := Lib.hid (HO.out.val x (List.mem_of_getElem? hzx))
        have HC := Lib.hid (fun W h => HPR.out.asks W h x (List.mem_of_getElem? hx))
        obtain ⟨fa, fb, rfl⟩ := hform x (List.mem_of_getElem? hx)
        have HX := Lib.hid hx
        have hwj : IntKind.i64.wrap ((j : Int) + 1) = j + 1 := IntWalk.i64_in _ (by omega)
        have hwi : IntKind.i64.wrap ((i : Int) + 1) = i + 1 := IntWalk.i64_in _ (by omega)
        clear hx hzx hcell
        cases hpx : p (.agg #[.int .u64 fa, .int .i64 fb])
        · have HPX := Lib.hid hpx
          rw [hpx] at HC
          clear hpx
          have hizs : i < zs.length := by rw [HZL.out]; omega
          go_wp2_with (first | (refine wpList_load_val rfl 30 _ rfl g (j * 2) (by simp [Act.eval]) (.agg #[.int .u64 fa, .int .i64 fb]) ty_alarm HV.out HCE.out ?_) | ((with_reducible refine (HC.out _ ?_).mono ?_); (focus exact grown_trans HG.out (World.grownBy_alloc _ _ _)); rintro e w2 ⟨rfl, hb2⟩; (have hz2 := hb2.size); (simp only [World.size_alloc] at hz2); (have hb2' : Below wr.heap.size wr w2 := ((Below.refl wr.heap.size wr).alloc (Nat.le_refl _) _).trans (hb2.mono (by simp only [World.size_alloc]; omega))); (have HO2 := Lib.hid (HO.out.kept hb2')); (have bx2 : Box w2 wr.heap.size #[.int .u64 fa, .int .i64 fb] 30 := Box.below (Box.new wr _ _) hb2 (by simp only [World.size_alloc]; omega)); (obtain ⟨hcx, hfx, hlx, hnx, hmx⟩ := bx2.rules); (clear bx2)) | (refine wpList_store_own (base := base) rfl _ _ rfl ty_alarm g xs.length cap HO2.out i hizs ?_ (.agg #[.int .u64 fa, .int .i64 fb]) ?_ HV.out ?_; (focus (simp [Act.eval])); (focus (simp [Act.eval])); (intro w3 ho3 hg3; (have HO3 := Lib.hid ho3); (have hg3' := grown_trans HG.out (grown_trans (grown_of_below hb2' (some g)) hg3)); (have HG3 := Lib.hid hg3'); clear ho3 hg3 hg3')) | fail)
          go_roundw
          case rel =>
            refine ⟨i + 1, j + 1, _, by omega, by omega, by go_num, by go_num, ?_, HO3.out, HG3.out, ?_, ?_⟩
            · rw [List.length_set]; exact HZL.out
            · rw [take_step HX.out, List.filter_append, ← HTK.out, take_step (i := i) (x := .agg #[.int .u64 fa, .int .i64 fb]) (by rw [List.getElem?_set]; simp [hizs]), List.take_set_of_le (Nat.le_refl _)]
              simp [HPX.out]
            · intro r hr
              rw [List.getElem?_set_ne (by omega)]
              exact HDR.out r (by omega)
          case measure => simp [intOf]; omega
        · have HPX := Lib.hid hpx
          rw [hpx] at HC
          clear hpx
          go_wp2_with (first | (refine wpList_load_val rfl 30 _ rfl g (j * 2) (by simp [Act.eval]) (.agg #[.int .u64 fa, .int .i64 fb]) ty_alarm HV.out HCE.out ?_) | ((with_reducible refine (HC.out _ ?_).mono ?_); (focus exact grown_trans HG.out (World.grownBy_alloc _ _ _)); rintro e w2 ⟨rfl, hb2⟩; (have hz2 := hb2.size); (simp only [World.size_alloc] at hz2); (have hb2' : Below wr.heap.size wr w2 := ((Below.refl wr.heap.size wr).alloc (Nat.le_refl _) _).trans (hb2.mono (by simp only [World.size_alloc]; omega))); (have HO2 := Lib.hid (HO.out.kept hb2')); (have bx2 : Box w2 wr.heap.size #[.int .u64 fa, .int .i64 fb] 30 := Box.below (Box.new wr _ _) hb2 (by simp only [World.size_alloc]; omega)); (obtain ⟨hcx, hfx, hlx, hnx, hmx⟩ := bx2.rules); (clear bx2)) | fail)
          go_roundw
          case rel =>
            refine ⟨i, j + 1, zs, by omega, by omega, rfl, by go_num, HZL.out, HO2.out, grown_trans HG.out (grown_of_below hb2' (some g)), ?_, fun r hr => HDR.out r (by omega)⟩
            rw [take_step HX.out, List.filter_append, ← HTK.out]
            simp [HPX.out]
          case measure => simp [intOf]; omega
      · have hjl : j = xs.length := by omega
        subst hjl
        have hizs : i < zs.length := by rw [HZL.out]; omega
        have hsub : zs.length - i = xs.length - i := by rw [HZL.out]
        go_wp2_with (first | (refine wpList_clear_own (base := base) rfl _ 22 rfl ty_alarm Try.underlying22 HZV.out zero_alarm g xs.length cap (cap - i) HO.out i hizs ?_ ?_; (focus (rw [hsub]; simp [Act.eval])); (intro w3 ho3 hg3; (have HO3 := Lib.hid ho3); (have HG3 := Lib.hid (grown_trans HG.out hg3)); clear ho3 hg3)) | fail)
        go_ret
        refine ⟨_, rfl, ?_, rfl, HG3.out⟩
        have h := HO3.out.sl
        rw [HTK.out, List.take_of_length_le (Nat.le_refl _)] at h
        exact h


/-- An alarm: its time, whose it is. -/
abbrev Al := Int × Int
abbrev alV (a : Al) : Value := .agg #[.int .u64 a.1, .int .i64 a.2]
abbrev als (l : List Al) : List Value := l.map alV
theorem al_val (a : Al) : Val true 2 (alV a) := ⟨_, rfl, rfl, by intro c hc; simp at hc; rcases hc with rfl | rfl <;> rfl⟩
theorem als_len (l : List Al) : (als l).length = l.length := by simp
theorem als_get {l : List Al} {i : Nat} {a : Al} (h : l[i]? = some a) : (als l)[i]? = some (alV a) := by simp [h]
theorem Sl.al {w : World} {a : Option Addr} {n cap : Nat} {l : List Al} (h : Sl w true 2 (.slice a n cap) (als l)) {i : Nat} {x : Al} (hx : l[i]? = some x) :
    ∃ b off, a = some ⟨b, off, none⟩ ∧ b < w.heap.size ∧ w.cell? ⟨b, off + i * 2, none⟩ = some (.int .u64 x.1) ∧ w.cell? ⟨b, off + i * 2 + 1, none⟩ = some (.int .i64 x.2) := by
  obtain ⟨b, off, ha, hb, hcell⟩ := h.at (als_get hx)
  exact ⟨b, off, ha, hb, hcell 0 _ rfl, hcell 1 _ rfl⟩

def behind (a b : Al) : Bool := decide (b.1 < a.1) || (decide (a.1 = b.1) && decide (b.2 < a.2))
set_option maxHeartbeats 1000000 in
theorem behind_any (a b : Al) (w : World) : Calls Try.prog 24 #[alV a, alV b] w fun e w' => e = .returned (.bool (behind a b)) ∧ Below w.heap.size w w' := by
  obtain ⟨t, p⟩ := a
  obtain ⟨s, q⟩ := b
  unfold behind
  dsimp only
  by_cases h1 : s < t
  · go_enter Try.func24, Try.ntmps24
    go_wp2_with fail
    go_ret
    exact ⟨by simp [h1], by (repeat (first | with_reducible assumption | with_reducible exact Below.refl _ _ | with_reducible refine Below.setCell ?_ ?_ _ | with_reducible refine Below.alloc ?_ ?_ _ | with_reducible refine below_drewN' ?_ _ | with_reducible refine Below.drew ?_ | with_reducible refine Below.trans ?_ (Below.mono (by assumption) ?_) | omega | (dsimp only; omega) | (simp only [drew_heap', drewN_heap', World.size_alloc, World.size_setCell]; omega) | (solve | simp) | (solve | (simp; omega))))⟩
  by_cases h2 : t = s
  · subst h2
    by_cases h3 : q < p
    · go_enter Try.func24, Try.ntmps24
      go_wp2_with fail
      go_ret
      exact ⟨by simp [h3], by (repeat (first | with_reducible assumption | with_reducible exact Below.refl _ _ | with_reducible refine Below.setCell ?_ ?_ _ | with_reducible refine Below.alloc ?_ ?_ _ | with_reducible refine below_drewN' ?_ _ | with_reducible refine Below.drew ?_ | with_reducible refine Below.trans ?_ (Below.mono (by assumption) ?_) | omega | (dsimp only; omega) | (simp only [drew_heap', drewN_heap', World.size_alloc, World.size_setCell]; omega) | (solve | simp) | (solve | (simp; omega))))⟩
    · go_enter Try.func24, Try.ntmps24
      go_wp2_with fail
      go_ret
      exact ⟨by simp [h3], by (repeat (first | with_reducible assumption | with_reducible exact Below.refl _ _ | with_reducible refine Below.setCell ?_ ?_ _ | with_reducible refine Below.alloc ?_ ?_ _ | with_reducible refine below_drewN' ?_ _ | with_reducible refine Below.drew ?_ | with_reducible refine Below.trans ?_ (Below.mono (by assumption) ?_) | omega | (dsimp only; omega) | (simp only [drew_heap', drewN_heap', World.size_alloc, World.size_setCell]; omega) | (solve | simp) | (solve | (simp; omega))))⟩
  · have h2' : (t == s) = false := by simpa using h2
    go_enter Try.func24, Try.ntmps24
    go_wp2_with fail
    go_ret
    exact ⟨by simp [h1, h2], by (repeat (first | with_reducible assumption | with_reducible exact Below.refl _ _ | with_reducible refine Below.setCell ?_ ?_ _ | with_reducible refine Below.alloc ?_ ?_ _ | with_reducible refine below_drewN' ?_ _ | with_reducible refine Below.drew ?_ | with_reducible refine Below.trans ?_ (Below.mono (by assumption) ?_) | omega | (dsimp only; omega) | (simp only [drew_heap', drewN_heap', World.size_alloc, World.size_setCell]; omega) | (solve | simp) | (solve | (simp; omega))))⟩

def behP (a : Al) : Value → Bool := fun v => match v with | .agg cs => (match cs.toList with | [.int _ t, .int _ p] => behind (t, p) a | _ => false) | _ => false
theorem behP_al (a x : Al) : behP a (alV x) = behind x a := rfl
theorem add1_body : Body Try.prog 23 := body_of Try.func23 (by kernel_rfl) (by kernel_rfl)
theorem add1_any (x a : Al) (B : Nat) (w : World) (hB : B < w.heap.size) (hc0 : w.cell? ⟨B, 0, none⟩ = some (.int .u64 a.1)) (hc1 : w.cell? ⟨B, 1, none⟩ = some (.int .i64 a.2)) :
    Calls Try.prog 23 #[alV x, .pointer (some ⟨B, 0, none⟩)] w fun e w' => e = .returned (.bool (behP a (alV x))) ∧ Below w.heap.size w w' := by
  rw [behP_al]
  have hb := fun W => behind_any x a W
  generalize behind x a = r at *
  obtain ⟨s, q⟩ := a
  dsimp only at hc0 hc1
  have hne : ¬ B = w.heap.size := by omega
  go_enter Try.func23, Try.ntmps23
  ((go_wp2_with fail); (with_reducible refine (hb _).mono ?_); (rintro e w1 ⟨rfl, hb1⟩); (have hz1 := hb1.size); (try simp only [World.size_alloc, World.size_setCell] at hz1))
  go_wp2_with fail
  go_ret
  exact ⟨rfl, by (repeat (first | with_reducible assumption | with_reducible exact Below.refl _ _ | with_reducible refine Below.setCell ?_ ?_ _ | with_reducible refine Below.alloc ?_ ?_ _ | with_reducible refine below_drewN' ?_ _ | with_reducible refine Below.drew ?_ | with_reducible refine Below.trans ?_ (Below.mono (by assumption) ?_) | omega | (dsimp only; omega) | (simp only [drew_heap', drewN_heap', World.size_alloc, World.size_setCell]; omega) | (solve | simp) | (solve | (simp; omega))))⟩
theorem add1_pred (l : List Al) (a : Al) (B : Nat) (w : World) (hB : B < w.heap.size) (hc0 : w.cell? ⟨B, 0, none⟩ = some (.int .u64 a.1)) (hc1 : w.cell? ⟨B, 1, none⟩ = some (.int .i64 a.2)) (g : Option Nat) (hg : some B ≠ g) :
    Pred Try.prog w g 23 #[.pointer (some ⟨B, 0, none⟩)] (behP a) (als l) :=
  ⟨add1_body, fun w' hw x hm => by
    obtain ⟨n, _, rfl⟩ := List.mem_map.1 hm
    exact add1_any n a B w' (Nat.lt_of_lt_of_le hB hw.size) ((World.cell?_of_block (a := ⟨B, 0, none⟩) (hw.block B hB hg)).trans hc0) ((World.cell?_of_block (a := ⟨B, 1, none⟩) (hw.block B hB hg)).trans hc1)⟩

def whoP (pid : Int) : Value → Bool := fun v => match v with | .agg cs => (match cs.toList with | [_, .int _ p] => decide (p = pid) | _ => false) | _ => false
theorem whoP_al (pid : Int) (x : Al) : whoP pid (alV x) = decide (x.2 = pid) := rfl
theorem drop1_body : Body Try.prog 28 := body_of Try.func28 (by kernel_rfl) (by kernel_rfl)
theorem drop1_any (x : Al) (pid : Int) (B : Nat) (w : World) (hB : B < w.heap.size) (hc0 : w.cell? ⟨B, 0, none⟩ = some (.int .i64 pid)) :
    Calls Try.prog 28 #[alV x, .pointer (some ⟨B, 0, none⟩)] w fun e w' => e = .returned (.bool (whoP pid (alV x))) ∧ Below w.heap.size w w' := by
  rw [whoP_al]
  have hne : ¬ B = w.heap.size := by omega
  obtain ⟨t, p⟩ := x
  dsimp only
  by_cases h : p = pid
  · subst h
    go_enter Try.func28, Try.ntmps28
    go_wp2_with fail
    go_ret
    exact ⟨by simp, by (repeat (first | with_reducible assumption | with_reducible exact Below.refl _ _ | with_reducible refine Below.setCell ?_ ?_ _ | with_reducible refine Below.alloc ?_ ?_ _ | with_reducible refine below_drewN' ?_ _ | with_reducible refine Below.drew ?_ | with_reducible refine Below.trans ?_ (Below.mono (by assumption) ?_) | omega | (dsimp only; omega) | (simp only [drew_heap', drewN_heap', World.size_alloc, World.size_setCell]; omega) | (solve | simp) | (solve | (simp; omega))))⟩
  · have h' : (p == pid) = false := by simpa using h
    go_enter Try.func28, Try.ntmps28
    go_wp2_with fail
    go_ret
    exact ⟨by simp [h], by (repeat (first | with_reducible assumption | with_reducible exact Below.refl _ _ | with_reducible refine Below.setCell ?_ ?_ _ | with_reducible refine Below.alloc ?_ ?_ _ | with_reducible refine below_drewN' ?_ _ | with_reducible refine Below.drew ?_ | with_reducible refine Below.trans ?_ (Below.mono (by assumption) ?_) | omega | (dsimp only; omega) | (simp only [drew_heap', drewN_heap', World.size_alloc, World.size_setCell]; omega) | (solve | simp) | (solve | (simp; omega))))⟩
theorem drop1_pred (l : List Al) (pid : Int) (B : Nat) (w : World) (hB : B < w.heap.size) (hc0 : w.cell? ⟨B, 0, none⟩ = some (.int .i64 pid)) (g : Option Nat) (hg : some B ≠ g) :
    Pred Try.prog w g 28 #[.pointer (some ⟨B, 0, none⟩)] (whoP pid) (als l) :=
  ⟨drop1_body, fun w' hw x hm => by
    obtain ⟨n, _, rfl⟩ := List.mem_map.1 hm
    exact drop1_any n pid B w' (Nat.lt_of_lt_of_le hB hw.size) ((World.cell?_of_block (a := ⟨B, 0, none⟩) (hw.block B hB hg)).trans hc0)⟩

def dropS (l : List Al) (pid : Int) : List Al := l.filter fun a => decide (a.2 ≠ pid)
theorem dropS_als (l : List Al) (pid : Int) : (als l).filter (fun v => !whoP pid v) = als (dropS l pid) := by
  rw [als, als, List.filter_map]
  congr 1
  apply List.filter_congr
  intro y _
  simp [whoP_al]

set_option maxHeartbeats 1000000 in
theorem drop_any (v : Value) (l : List Al) (pid : Int) (w : World) (hv : Sl w true 2 v (als l)) (hby : l.length * 16 ≤ 140737488355328) :
    Calls Try.prog 16 #[v, .int .i64 pid] w fun e w' => ∃ v', e = .returned v' ∧ Sl w' true 2 v' (als (dropS l pid)) ∧ Below w.heap.size w w' := by
  have HV := Lib.hid hv
  have HE := Lib.hid (dropS_als l pid)
  clear hv
  go_enter Try.func16, Try.ntmps16
  go_wp2_with fail
  with_reducible refine (clone_alarm v (als l) _ (HV.out.below (by (repeat (first | with_reducible assumption | with_reducible exact Below.refl _ _ | with_reducible refine Below.setCell ?_ ?_ _ | with_reducible refine Below.alloc ?_ ?_ _ | with_reducible refine below_drewN' ?_ _ | with_reducible refine Below.drew ?_ | with_reducible refine Below.trans ?_ (Below.mono (by assumption) ?_) | omega | (dsimp only; omega) | (simp only [drew_heap', drewN_heap', World.size_alloc, World.size_setCell]; omega) | (solve | simp) | (solve | (simp; omega)))))) (by rw [als_len]; exact hby)).mono ?_
  rintro e w2 ⟨v2, rfl, ho2, hb2⟩
  have hz2 := hb2.size
  simp only [World.size_alloc] at hz2
  (have b1 : Box w2 w.heap.size #[.int .i64 pid] 3 := (by (try have k1 := (Lib.hid True.intro).out); ((apply Box.cast); (repeat (first | with_reducible assumption | ((with_reducible apply Box.new1); (first | with_reducible rfl | rfl | (solve | simp))) | with_reducible apply Box.drewN | with_reducible apply Box.drew | with_reducible apply Box.set | with_reducible apply Box.other | with_reducible apply Box.alloc | (with_reducible apply Box.below; rotate_left; with_reducible assumption; rotate_right) | with_reducible rfl | omega | (dsimp only; omega) | (simp only [drew_heap', drewN_heap', World.size_alloc, World.size_setCell]; omega) | rfl | (solve | simp) | (solve | (simp; omega))))))); (obtain ⟨hc1, hf1, hl1, hn1, hm1⟩ := b1.rules); (have K1 := Lib.hid b1); (clear b1)
  have HO2 := Lib.hid (ho2.le (base' := w.heap.size + 1) (by simp only [World.size_alloc]; omega))
  have hB2 : some w.heap.size ≠ v2.ownBlock := fun h => by have := HO2.out.own_ge _ h.symm; omega
  have hDel := deleteFunc_alarm v2 (als l) 28 #[.pointer (some ⟨w.heap.size, 0, none⟩)] (whoP pid) w2 (w.heap.size + 1) (fun x hx => by obtain ⟨a, _, rfl⟩ := List.mem_map.1 hx; exact ⟨_, _, rfl⟩) HO2.out (drop1_pred l pid w.heap.size w2 hl1 (hc1 0) v2.ownBlock hB2)
  rw [HE.out] at hDel
  have HD := Lib.hid hDel
  have hbw : Below w.heap.size w w2 := by (repeat (first | with_reducible assumption | with_reducible exact Below.refl _ _ | with_reducible refine Below.setCell ?_ ?_ _ | with_reducible refine Below.alloc ?_ ?_ _ | with_reducible refine below_drewN' ?_ _ | with_reducible refine Below.drew ?_ | with_reducible refine Below.trans ?_ (Below.mono (by assumption) ?_) | omega | (dsimp only; omega) | (simp only [drew_heap', drewN_heap', World.size_alloc, World.size_setCell]; omega) | (solve | simp) | (solve | (simp; omega))))
  clear ho2 hDel hc1 hf1 hl1 hn1 hm1
  go_wp2_with fail
  with_reducible refine HD.out.mono ?_
  rintro e w4 ⟨v4, rfl, hs4, _, hg4⟩
  have HS4 := Lib.hid hs4
  have hb4 : Below w.heap.size w w4 := HO2.out.below hg4 hbw (by omega) (by omega)
  clear hs4 hg4
  go_wp2_with fail
  go_ret
  exact ⟨_, rfl, HS4.out, hb4⟩
end Go.Proofs.Ytndmgbdgcemcmaa
