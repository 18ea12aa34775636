/- Channels; the library's functions on rows of channels; a plan in memory. Conditions: lengths within the reach. -/
import Derived.Test.YtmcaeahjnhkbcaaRows
import Derived.Test.YtmcaeahjnhkbcaaChecked
import Derived.Test.YtmcaeahjnhkbcaaLib14
import Derived.Test.YtmcaeahjnhkbcaaLib13
import Derived.Test.YtmcaeahjnhkbcaaQTail
import Derived.Test.YtmcaeahjnhkbcaaRoutePure
import Derived.StillTail
import Derived.RegionTactic
import Derived.BigRegion
namespace Go.Proofs.Ytmcaeahjnhkbcaa
open Go Go.RowKit Go.Tm
set_option linter.unusedVariables false
set_option linter.unusedSimpArgs false

abbrev chV (a : Ch) : Value := .agg #[.int .i64 a.1, .int .i64 a.2.1, .int .i64 a.2.2.1, .int .i64 a.2.2.2.1, .int .i64 a.2.2.2.2]
abbrev chs (l : List Ch) : List Value := l.map chV
theorem ch_val (a : Ch) : Val true 5 (chV a) := ⟨_, rfl, rfl, by intro c hc; simp at hc; rcases hc with rfl | rfl | rfl | rfl | rfl <;> rfl⟩
theorem chs_len (l : List Ch) : (chs l).length = l.length := by simp
theorem chs_get {l : List Ch} {i : Nat} {a : Ch} (h : l[i]? = some a) : (chs l)[i]? = some (chV a) := by simp [h]
theorem Sl.ch {w : World} {a : Option Addr} {n cap : Nat} {l : List Ch} (h : Sl w true 5 (.slice a n cap) (chs l)) {i : Nat} {x : Ch} (hx : l[i]? = some x) :
    ∃ b off, a = some ⟨b, off, none⟩ ∧ b < w.heap.size ∧ w.cell? ⟨b, off + i * 5, none⟩ = some (.int .i64 x.1) ∧ w.cell? ⟨b, off + i * 5 + 1, none⟩ = some (.int .i64 x.2.1) ∧ w.cell? ⟨b, off + i * 5 + 2, none⟩ = some (.int .i64 x.2.2.1) ∧ w.cell? ⟨b, off + i * 5 + 3, none⟩ = some (.int .i64 x.2.2.2.1) ∧ w.cell? ⟨b, off + i * 5 + 4, none⟩ = some (.int .i64 x.2.2.2.2) := by
  obtain ⟨b, off, ha, hb, hcell⟩ := h.at (chs_get hx)
  exact ⟨b, off, ha, hb, hcell 0 _ rfl, hcell 1 _ rfl, hcell 2 _ rfl, hcell 3 _ rfl, hcell 4 _ rfl⟩
def ChWf (x : Ch) : Prop := (Lit.int .i64 x.1).wf = true ∧ (Lit.int .i64 x.2.1).wf = true ∧ (Lit.int .i64 x.2.2.1).wf = true ∧ (Lit.int .i64 x.2.2.2.1).wf = true ∧ (Lit.int .i64 x.2.2.2.2).wf = true


theorem ty_chan : Ty Try.prog 40 5 true := ⟨by kernel_rfl, by kernel_rfl, by decide, by kernel_rfl⟩


theorem info_chan : (Try.prog.info? 40).map (fun i => (i.zero, i.size, i.bytes)) = some (some (.agg #[.int .i64 0, .int .i64 0, .int .i64 0, .int .i64 0, .int .i64 0]), 5, 40) := by kernel_rfl

set_option maxHeartbeats 1000000 in
theorem clone_chan (v : Value) (xs : List Value) (w : World) (hsl : Sl w true 5 v xs) (hbytes : xs.length * 40 ≤ 140737488355328) :
    Calls Try.prog 28 #[v] w fun e w' => ∃ v', e = .returned v' ∧ Owned w' w.heap.size 40 true 5 v' xs ∧ Below w.heap.size w w' := by
  have hsl0 := Lib.hid hsl
  obtain ⟨hsz, a, cap, rfl, hl, hm, hform⟩ := hsl
  have hlen : xs.length ≤ maxLen := by omega
  cases a with
  | none =>
    have h0 : xs = [] := by
      rcases hform with h0 | ⟨b, off, hb, _⟩
      · exact h0
      · cases hb
    subst h0
    have hnil := fun (n c : Nat) (w : World) => run_eql_slice_none Try.prog (t := 24) (n := n) (c := c) Try.underlying24 w
    clear hform hsz hl hm hlen
    go_enter Try.func28, Try.ntmps28
    go_wp2_with fail
    go_ret
    exact ⟨_, rfl, ⟨World.ownsRow_nil _ _ _ _, by simp⟩, Below.refl _ _⟩
  | some a =>
    have hnil := fun (n c : Nat) (w : World) => run_eql_slice_some Try.prog (t := 24) (a := a) (n := n) (c := c) Try.underlying24 w
    obtain ⟨i0, hi, hz0, hz1, hz2⟩ := info_parts info_chan
    have HI := Lib.hid hi
    have HZ := Lib.hid (And.intro hz0 (And.intro hz1 hz2))
    have HS := Lib.hid hsz
    clear hi hz0 hz1 hz2 hform hl hm hsz
    go_enter Try.func28, Try.ntmps28
    go_wp2_with (first | (refine wpList_append_own _ rfl _ _ 24 rfl w.heap.size 40 i0 (.agg #[.int .i64 0, .int .i64 0, .int .i64 0, .int .i64 0, .int .i64 0]) 5 40 Try.underlying24 HI.out HZ.out.1 HZ.out.2.1 HZ.out.2.2 rfl (by decide) (.slice (some ⟨w.heap.size, 0, none⟩) 0 0) 0 [] (by simp [Act.eval]) (World.ownsRow_made w #[] 0 (Nat.le_refl _) (Nat.zero_le _) rfl) a xs.length cap (flat xs) (by simp [Act.eval]) ?c1 ?c2 ?c3 ?c4 ?c5 ?c6 ?_) | fail)
    case c1 => exact flat_len HS.out
    case c2 => exact (hsl0.out.below ((Below.refl _ _).alloc (Nat.le_refl _) _)).news
    case c3 => exact flat_one HS.out
    case c4 => omega
    case c5 => omega
    case c6 => simp
    intro v' w1 hown hgrow _
    try simp only [Nat.zero_add, List.nil_append] at hown
    have HO := Lib.hid hown
    have HG := Lib.hid hgrow
    clear hown hgrow
    go_wp2_with fail
    go_ret
    exact ⟨_, rfl, ⟨HO.out, HS.out⟩, ((Below.refl _ _).alloc (Nat.le_refl _) _).grown HG.out (by simp) (by intro k hk; simp [Value.ownBlock] at hk; omega)⟩

theorem zero_chan : Val true 5 (.agg #[.int .i64 0, .int .i64 0, .int .i64 0, .int .i64 0, .int .i64 0]) := ch_val (0, 0, 0, 0, 0)
def ChForm (x : Value) : Prop := ∃ (fa fb fc fd fe : Int), x = .agg #[.int .i64 fa, .int .i64 fb, .int .i64 fc, .int .i64 fd, .int .i64 fe]
theorem chs_form {l : List Ch} : ∀ x ∈ chs l, ChForm x := fun x hx => by
  obtain ⟨a, _, rfl⟩ := List.mem_map.1 hx
  exact ⟨_, _, _, _, _, rfl⟩

set_option maxHeartbeats 1000000 in
theorem indexFunc_chan (v : Value) (xs : List Value) (fid : FuncId) (caps : Array Value) (p : Value → Bool) (w : World) (hsl : Sl w true 5 v xs) (hp : Pred Try.prog w none fid caps p xs) :
    Calls Try.prog 33 #[v, .func (.func fid) #[] caps] w fun e w' => e = .returned (.int .i64 (idx p xs)) ∧ Below w.heap.size w w' := by
  obtain ⟨hsz, a, cap, rfl, hl, hm, hform⟩ := hsl
  unfold maxLen at hm
  have hlen : xs.length ≤ 9223372036854775807 := by omega
  go_enter Try.func33, Try.ntmps33
  go_wp2_with fail
  go_loopw [8] (fun t wr => ∃ i : Nat, i ≤ xs.length ∧ t = .int .i64 i ∧ Below w.heap.size w wr ∧ ∀ j y, j < i → xs[j]? = some y → p y = false) (fun t _ => xs.length - (intOf t).toNat)
  case atStart => exact ⟨0, Nat.zero_le _, rfl, Below.refl _ _, by intro j y h; omega⟩
  case round =>
    obtain ⟨i, hi, rfl, hbw, hprev⟩ := hrel
    have HP := Lib.hid hprev
    clear hprev
    by_cases hlt : i < xs.length
    · obtain ⟨x, hx⟩ : ∃ x, xs[i]? = some x := ⟨_, List.getElem?_eq_getElem hlt⟩
      have hmem : x ∈ xs := List.mem_of_getElem? hx
      have HV := Lib.hid (hsz _ hmem)
      obtain ⟨b, off, rfl, hb, hcell⟩ : ∃ b off, a = some ⟨b, off, none⟩ ∧ b < w.heap.size ∧ Cells wr b (off + i * 5) x.cells.toList := by
        rcases hform with h0 | ⟨b, off, ha, hb, hc⟩
        · subst h0; simp at hlt
        · exact ⟨b, off, ha, hb, (hc i _ hx).below hbw hb⟩
      have HX := Lib.hid hx
      have HCE := Lib.hid hcell
      clear hx hcell hform hsz
      have hcall := hp.asks wr (grown_of_below hbw none) _ hmem
      have hbody := hp.body
      unfold Body at hbody
      have HC := Lib.hid hcall
      clear hcall hp
      cases hpx : p x
      · have HPX := Lib.hid hpx
        rw [hpx] at HC
        clear hpx
        go_wp2_with (first | (refine wpList_load_val rfl 40 _ rfl b (off + i * 5) (by simp [Act.eval]) x ty_chan HV.out HCE.out ?_) | fail)
        refine HC.out.mono ?_
        rintro e w1 ⟨rfl, hb1⟩
        go_wp2_with fail
        go_roundw
        case rel =>
          refine ⟨i + 1, by omega, by go_num, hbw.trans (hb1.mono hbw.size), ?_⟩
          intro j y hj hy
          rcases Nat.lt_succ_iff_lt_or_eq.1 hj with hj | rfl
          · exact HP.out j y hj hy
          · rw [HX.out] at hy; cases hy; exact HPX.out
        case measure => simp [intOf]; omega
      · have HPX := Lib.hid hpx
        rw [hpx] at HC
        clear hpx
        go_wp2_with (first | (refine wpList_load_val rfl 40 _ rfl b (off + i * 5) (by simp [Act.eval]) x ty_chan HV.out HCE.out ?_) | fail)
        refine HC.out.mono ?_
        rintro e w1 ⟨rfl, hb1⟩
        go_wp2_with fail
        go_ret
        exact ⟨by rw [idx_some HX.out HPX.out HP.out]; rfl, hbw.trans (hb1.mono hbw.size)⟩
    · go_wp2_with fail
      go_ret
      refine ⟨?_, hbw⟩
      rw [idx_none ?_]; · rfl
      intro x hx
      obtain ⟨j, hj, hxj⟩ := List.getElem_of_mem hx
      exact HP.out j x (by omega) (by rw [← hxj]; exact List.getElem?_eq_getElem hj)


set_option maxHeartbeats 4000000 in
theorem deleteFunc_chan (v : Value) (xs : List Value) (fid : FuncId) (caps : Array Value) (p : Value → Bool) (w : World) (base : Nat) (hform : ∀ x ∈ xs, ChForm x) (ho : Owned w base 40 true 5 v xs) (hp : Pred Try.prog w v.ownBlock fid caps p xs) :
    Calls Try.prog 27 #[v, .func (.func fid) #[] caps] w fun e w' => ∃ v', e = .returned v' ∧ Sl w' true 5 v' (xs.filter fun x => !p x) ∧ v'.ownBlock = v.ownBlock ∧ w.grownBy w' v.ownBlock := by
  have hI := indexFunc_chan v xs fid caps p w ho.sl ⟨hp.body, fun w' hg x hx => hp.asks w' ⟨hg.os, hg.tape, hg.output, hg.size, fun b hb _ => hg.block b hb (by simp)⟩ x hx⟩
  rcases idx_cases p xs with ⟨hi, hall⟩ | ⟨i0, x0, hi, hx0, hpx0, hprev⟩
  · rw [hi] at hI
    have HF := Lib.hid (show xs.filter (fun x => !p x) = xs from List.filter_eq_self.2 (fun x hx => by rw [hall x hx]; rfl))
    have HO := Lib.hid ho
    clear hp ho hall
    go_enter Try.func27, Try.ntmps27
    go_wp2_with fail
    with_reducible refine hI.mono ?_
    rintro e w1 ⟨rfl, hb1⟩
    go_wp2_with fail
    go_ret
    exact ⟨_, rfl, by rw [HF.out]; exact (HO.out.kept hb1).sl, rfl, grown_of_below hb1 _⟩
  · rw [hi] at hI
    have hlt0 : i0 < xs.length := (List.getElem?_eq_some_iff.1 hx0).1
    obtain ⟨g, cap, rfl, hlc, hcm, hbg, hgw, hfz, _⟩ := ho.form (by omega)
    have hlen : xs.length ≤ 9223372036854775807 := by unfold maxLen at hcm; omega
    have hob : (Value.slice (some ⟨g, 0, none⟩) xs.length cap).ownBlock = some g := rfl
    rw [hob] at hp ⊢
    obtain ⟨i1, hi0, hq0, hq1, hq2⟩ := info_parts info_chan
    have hzv : ∀ w, (zeroValue 40).run Try.prog w = .ok (.agg #[.int .i64 0, .int .i64 0, .int .i64 0, .int .i64 0, .int .i64 0]) w := fun w => by simp [zeroValue, typeInfo, hi0, hq0]
    have HZV := Lib.hid hzv
    clear hi0 hq0 hq1 hq2 hzv hfz
    have HO0 := Lib.hid ho
    have HPR := Lib.hid hp
    have hbody := hp.body
    unfold Body at hbody
    have hst0 : xs.take i0 = (xs.take (i0 + 1)).filter (fun x => !p x) := by
      rw [take_step hx0, List.filter_append]
      have h1 : (xs.take i0).filter (fun x => !p x) = xs.take i0 := List.filter_eq_self.2 (fun x hx => by
        obtain ⟨j, hj, rfl⟩ := List.getElem_of_mem hx
        have hj' : j < i0 := by rw [List.length_take] at hj; omega
        rw [List.getElem_take, hprev j _ hj' (List.getElem?_eq_getElem (by omega))]; rfl)
      rw [h1]
      simp [hpx0]
    have HST0 := Lib.hid hst0
    have hwr0 : IntKind.i64.wrap ((i0 : Int) + 1) = i0 + 1 := IntWalk.i64_in _ (by omega)
    have hne1 : ((i0 : Int) == -1) = false := by rw [beq_eq_false_iff_ne]; omega
    clear ho hp hprev hst0 hx0 hpx0
    go_enter Try.func27, Try.ntmps27
    go_wp2_with fail
    with_reducible refine hI.mono ?_
    rintro e w1 ⟨rfl, hb1⟩
    have hz1 := hb1.size
    go_wp2_with fail
    go_loopw [5, 6] (fun u t W => ∃ (i j : Nat) (zs : List Value), i < j ∧ j ≤ xs.length ∧ u = .int .i64 i ∧ t = .int .i64 j ∧ zs.length = xs.length ∧ Owned W base 40 true 5 (.slice (some ⟨g, 0, none⟩) xs.length cap) zs ∧ w.grownBy W (some g) ∧
      zs.take i = (xs.take j).filter (fun x => !p x) ∧ ∀ r, j ≤ r → zs[r]? = xs[r]?) (fun _ t _ => xs.length - (intOf t).toNat)
    case atStart => exact ⟨i0, i0 + 1, xs, by omega, by omega, rfl, by go_num, rfl, HO0.out.kept hb1, grown_of_below hb1 _, HST0.out, fun _ _ => rfl⟩
    case round =>
      obtain ⟨i, j, zs, hij, hj, rfl, rfl, hzl, how, hgw, htk, hdr⟩ := hrel
      have HO := Lib.hid how
      have HZL := Lib.hid hzl
      have HTK := Lib.hid htk
      have HDR := Lib.hid hdr
      have HG := Lib.hid hgw
      clear how hzl htk hdr hgw
      by_cases hlt : j < xs.length
      · obtain ⟨x, hx⟩ : ∃ x, xs[j]? = some x := ⟨_, List.getElem?_eq_getElem hlt⟩
        have hzx : zs[j]? = some x := (HDR.out j (Nat.le_refl _)).trans hx
        obtain ⟨b', off', hbo, hblt, hcell⟩ := HO.out.sl.at hzx
        simp only [Option.some.injEq, Addr.mk.injEq, and_true] at hbo
        obtain ⟨rfl, rfl⟩ := hbo
        rw [Nat.zero_add] at hcell
        have HCE := Lib.hid hcell
        have HV := Lib.hid (HO.out.val x (List.mem_of_getElem? hzx))
        have HC := Lib.hid (fun W h => HPR.out.asks W h x (List.mem_of_getElem? hx))
        obtain ⟨fa, fb, fc, fd, fe, rfl⟩ := hform x (List.mem_of_getElem? hx)
        have HX := Lib.hid hx
        have hwj : IntKind.i64.wrap ((j : Int) + 1) = j + 1 := IntWalk.i64_in _ (by omega)
        have hwi : IntKind.i64.wrap ((i : Int) + 1) = i + 1 := IntWalk.i64_in _ (by omega)
        clear hx hzx hcell
        cases hpx : p (.agg #[.int .i64 fa, .int .i64 fb, .int .i64 fc, .int .i64 fd, .int .i64 fe])
        · have HPX := Lib.hid hpx
          rw [hpx] at HC
          clear hpx
          have hizs : i < zs.length := by rw [HZL.out]; omega
          go_wp2_with (first | (refine wpList_load_val rfl 40 _ rfl g (j * 5) (by simp [Act.eval]) (.agg #[.int .i64 fa, .int .i64 fb, .int .i64 fc, .int .i64 fd, .int .i64 fe]) ty_chan HV.out HCE.out ?_) | ((with_reducible refine (HC.out _ ?_).mono ?_); (focus exact grown_trans HG.out (World.grownBy_alloc _ _ _)); rintro e w2 ⟨rfl, hb2⟩; (have hz2 := hb2.size); (simp only [World.size_alloc] at hz2); (have hb2' : Below wr.heap.size wr w2 := ((Below.refl wr.heap.size wr).alloc (Nat.le_refl _) _).trans (hb2.mono (by simp only [World.size_alloc]; omega))); (have HO2 := Lib.hid (HO.out.kept hb2')); (have bx2 : Box w2 wr.heap.size #[.int .i64 fa, .int .i64 fb, .int .i64 fc, .int .i64 fd, .int .i64 fe] 40 := Box.below (Box.new wr _ _) hb2 (by simp only [World.size_alloc]; omega)); (obtain ⟨hcx, hfx, hlx, hnx, hmx⟩ := bx2.rules); (clear bx2)) | (refine wpList_store_own (base := base) rfl _ _ rfl ty_chan g xs.length cap HO2.out i hizs ?_ (.agg #[.int .i64 fa, .int .i64 fb, .int .i64 fc, .int .i64 fd, .int .i64 fe]) ?_ HV.out ?_; (focus (simp [Act.eval])); (focus (simp [Act.eval])); (intro w3 ho3 hg3; (have HO3 := Lib.hid ho3); (have hg3' := grown_trans HG.out (grown_trans (grown_of_below hb2' (some g)) hg3)); (have HG3 := Lib.hid hg3'); clear ho3 hg3 hg3')) | fail)
          go_roundw
          case rel =>
            refine ⟨i + 1, j + 1, _, by omega, by omega, by go_num, by go_num, ?_, HO3.out, HG3.out, ?_, ?_⟩
            · rw [List.length_set]; exact HZL.out
            · rw [take_step HX.out, List.filter_append, ← HTK.out, take_step (i := i) (x := .agg #[.int .i64 fa, .int .i64 fb, .int .i64 fc, .int .i64 fd, .int .i64 fe]) (by rw [List.getElem?_set]; simp [hizs]), List.take_set_of_le (Nat.le_refl _)]
              simp [HPX.out]
            · intro r hr
              rw [List.getElem?_set_ne (by omega)]
              exact HDR.out r (by omega)
          case measure => simp [intOf]; omega
        · have HPX := Lib.hid hpx
          rw [hpx] at HC
          clear hpx
          go_wp2_with (first | (refine wpList_load_val rfl 40 _ rfl g (j * 5) (by simp [Act.eval]) (.agg #[.int .i64 fa, .int .i64 fb, .int .i64 fc, .int .i64 fd, .int .i64 fe]) ty_chan HV.out HCE.out ?_) | ((with_reducible refine (HC.out _ ?_).mono ?_); (focus exact grown_trans HG.out (World.grownBy_alloc _ _ _)); rintro e w2 ⟨rfl, hb2⟩; (have hz2 := hb2.size); (simp only [World.size_alloc] at hz2); (have hb2' : Below wr.heap.size wr w2 := ((Below.refl wr.heap.size wr).alloc (Nat.le_refl _) _).trans (hb2.mono (by simp only [World.size_alloc]; omega))); (have HO2 := Lib.hid (HO.out.kept hb2')); (have bx2 : Box w2 wr.heap.size #[.int .i64 fa, .int .i64 fb, .int .i64 fc, .int .i64 fd, .int .i64 fe] 40 := Box.below (Box.new wr _ _) hb2 (by simp only [World.size_alloc]; omega)); (obtain ⟨hcx, hfx, hlx, hnx, hmx⟩ := bx2.rules); (clear bx2)) | fail)
          go_roundw
          case rel =>
            refine ⟨i, j + 1, zs, by omega, by omega, rfl, by go_num, HZL.out, HO2.out, grown_trans HG.out (grown_of_below hb2' (some g)), ?_, fun r hr => HDR.out r (by omega)⟩
            rw [take_step HX.out, List.filter_append, ← HTK.out]
            simp [HPX.out]
          case measure => simp [intOf]; omega
      · have hjl : j = xs.length := by omega
        subst hjl
        have hizs : i < zs.length := by rw [HZL.out]; omega
        have hsub : zs.length - i = xs.length - i := by rw [HZL.out]
        go_wp2_with (first | (refine wpList_clear_own (base := base) rfl _ 24 rfl ty_chan Try.underlying24 HZV.out zero_chan g xs.length cap (cap - i) HO.out i hizs ?_ ?_; (focus (rw [hsub]; simp [Act.eval])); (intro w3 ho3 hg3; (have HO3 := Lib.hid ho3); (have HG3 := Lib.hid (grown_trans HG.out hg3)); clear ho3 hg3)) | fail)
        go_ret
        refine ⟨_, rfl, ?_, rfl, HG3.out⟩
        have h := HO3.out.sl
        rw [HTK.out, List.take_of_length_le (Nat.le_refl _)] at h
        exact h

end Go.Proofs.Ytmcaeahjnhkbcaa
