/- slices.DeleteFunc on a row of ints that is the caller's own. Conditions: none. -/
import Derived.Test.YtbehjbiicopgpaaTurnLib
namespace Go.Proofs.Ytbehjbiicopgpaa
open Go Go.RowKit Go.Tm
set_option linter.unusedVariables false
set_option linter.unusedSimpArgs false
theorem zero_int : Val false 1 (.int .i64 0) := ⟨rfl, rfl⟩

set_option maxHeartbeats 4000000 in
theorem deleteFunc_int (v : Value) (xs : List Value) (fid : FuncId) (caps : Array Value) (p : Value → Bool) (w : World) (base : Nat) (ho : Owned w base 3 false 1 v xs) (hp : Pred Try.prog w v.ownBlock fid caps p xs) :
    Calls Try.prog 21 #[v, .func (.func fid) #[] caps] w fun e w' => ∃ v', e = .returned v' ∧ Sl w' false 1 v' (xs.filter fun x => !p x) ∧ v'.ownBlock = v.ownBlock ∧ w.grownBy w' v.ownBlock := by
  have hI := indexFunc_int v xs fid caps p w ho.sl ⟨hp.body, fun w' hg x hx => hp.asks w' ⟨hg.os, hg.tape, hg.output, hg.size, fun b hb _ => hg.block b hb (by simp)⟩ x hx⟩
  rcases idx_cases p xs with ⟨hi, hall⟩ | ⟨i0, x0, hi, hx0, hpx0, hprev⟩
  · rw [hi] at hI
    have HF := Lib.hid (show xs.filter (fun x => !p x) = xs from List.filter_eq_self.2 (fun x hx => by rw [hall x hx]; rfl))
    have HO := Lib.hid ho
    clear hp ho hall
    go_enter Try.func21, Try.ntmps21
    go_wp2_with fail
    with_reducible refine hI.mono ?_
    rintro e w1 ⟨rfl, hb1⟩
    go_wp2_with fail
    go_ret
    exact ⟨_, rfl, by rw [HF.out]; exact (HO.out.kept hb1).sl, rfl, grown_of_below hb1 _⟩
  · rw [hi] at hI
    have hlt0 : i0 < xs.length := (List.getElem?_eq_some_iff.1 hx0).1
    obtain ⟨g, cap, rfl, hlc, hcm, hbg, hgw, hfz, _⟩ := ho.form (by omega)
    have hlen : xs.length ≤ 9223372036854775807 := by unfold maxLen at hcm; omega
    have hob : (Value.slice (some ⟨g, 0, none⟩) xs.length cap).ownBlock = some g := rfl
    rw [hob] at hp ⊢
    obtain ⟨i1, hi0, hq0, hq1, hq2⟩ := info_parts info_int
    have hzv : ∀ w, (zeroValue 3).run Try.prog w = .ok (.int .i64 0) w := fun w => by simp [zeroValue, typeInfo, hi0, hq0]
    have HZV := Lib.hid hzv
    clear hi0 hq0 hq1 hq2 hzv hfz
    have HO0 := Lib.hid ho
    have HPR := Lib.hid hp
    have hbody := hp.body
    unfold Body at hbody
    have hst0 : xs.take i0 = (xs.take (i0 + 1)).filter (fun x => !p x) := by
      rw [take_step hx0, List.filter_append]
      have h1 : (xs.take i0).filter (fun x => !p x) = xs.take i0 := List.filter_eq_self.2 (fun x hx => by
        obtain ⟨j, hj, rfl⟩ := List.getElem_of_mem hx
        have hj' : j < i0 := by rw [List.length_take] at hj; omega
        rw [List.getElem_take, hprev j _ hj' (List.getElem?_eq_getElem (by omega))]; rfl)
      rw [h1]
      simp [hpx0]
    have HST0 := Lib.hid hst0
    have hwr0 : IntKind.i64.wrap ((i0 : Int) + 1) = i0 + 1 := IntWalk.i64_in _ (by omega)
    have hne1 : ((i0 : Int) == -1) = false := by rw [beq_eq_false_iff_ne]; omega
    clear ho hp hprev hst0 hx0 hpx0
    go_enter Try.func21, Try.ntmps21
    go_wp2_with fail
    with_reducible refine hI.mono ?_
    rintro e w1 ⟨rfl, hb1⟩
    have hz1 := hb1.size
    go_wp2_with fail
    go_loopw [5, 6] (fun u t W => ∃ (i j : Nat) (zs : List Value), i < j ∧ j ≤ xs.length ∧ u = .int .i64 i ∧ t = .int .i64 j ∧ zs.length = xs.length ∧ Owned W base 3 false 1 (.slice (some ⟨g, 0, none⟩) xs.length cap) zs ∧ w.grownBy W (some g) ∧
      zs.take i = (xs.take j).filter (fun x => !p x) ∧ ∀ r, j ≤ r → zs[r]? = xs[r]?) (fun _ t _ => xs.length - (intOf t).toNat)
    case atStart => exact ⟨i0, i0 + 1, xs, by omega, by omega, rfl, by go_num, rfl, HO0.out.kept hb1, grown_of_below hb1 _, HST0.out, fun _ _ => rfl⟩
    case round =>
      obtain ⟨i, j, zs, hij, hj, rfl, rfl, hzl, how, hgw, htk, hdr⟩ := hrel
      have HO := Lib.hid how
      have HZL := Lib.hid hzl
      have HTK := Lib.hid htk
      have HDR := Lib.hid hdr
      have HG := Lib.hid hgw
      clear how hzl htk hdr hgw
      by_cases hlt : j < xs.length
      · obtain ⟨x, hx⟩ : ∃ x, xs[j]? = some x := ⟨_, List.getElem?_eq_getElem hlt⟩
        have hzx : zs[j]? = some x := (HDR.out j (Nat.le_refl _)).trans hx
        obtain ⟨b', off', hbo, hblt, hcell⟩ := HO.out.sl.at hzx
        simp only [Option.some.injEq, Addr.mk.injEq, and_true] at hbo
        obtain ⟨rfl, rfl⟩ := hbo
        rw [Nat.zero_add] at hcell
        have HCE := Lib.hid hcell
        have HV := Lib.hid (HO.out.val x (List.mem_of_getElem? hzx))
        have HC := Lib.hid (HPR.out.asks wr HG.out x (List.mem_of_getElem? hx))
        have HX := Lib.hid hx
        have hwj : IntKind.i64.wrap ((j : Int) + 1) = j + 1 := IntWalk.i64_in _ (by omega)
        have hwi : IntKind.i64.wrap ((i : Int) + 1) = i + 1 := IntWalk.i64_in _ (by omega)
        clear hx hzx hcell
        cases hpx : p x
        · have HPX := Lib.hid hpx
          rw [hpx] at HC
          clear hpx
          have hizs : i < zs.length := by rw [HZL.out]; omega
          go_wp2_with (first | (refine wpList_load_val rfl 3 _ rfl g (j * 1) (by simp [Act.eval]) x ty_int HV.out HCE.out ?_) | ((with_reducible refine HC.out.mono ?_); rintro e w2 ⟨rfl, hb2⟩; (have hz2 := hb2.size); (have HO2 := Lib.hid (HO.out.kept hb2))) | (refine wpList_store_own (base := base) rfl _ _ rfl ty_int g xs.length cap HO2.out i hizs ?_ x ?_ HV.out ?_; (focus (simp [Act.eval])); (focus (simp [Act.eval])); (intro w3 ho3 hg3; (have HO3 := Lib.hid ho3); (have hg3' := grown_trans HG.out (grown_trans (grown_of_below hb2 (some g)) hg3)); (have HG3 := Lib.hid hg3'); clear ho3 hg3 hg3')) | fail)
          go_roundw
          case rel =>
            refine ⟨i + 1, j + 1, _, by omega, by omega, by go_num, by go_num, ?_, HO3.out, HG3.out, ?_, ?_⟩
            · rw [List.length_set]; exact HZL.out
            · rw [take_step HX.out, List.filter_append, ← HTK.out, take_step (i := i) (x := x) (by rw [List.getElem?_set]; simp [hizs]), List.take_set_of_le (Nat.le_refl _)]
              simp [HPX.out]
            · intro r hr
              rw [List.getElem?_set_ne (by omega)]
              exact HDR.out r (by omega)
          case measure => simp [intOf]; omega
        · have HPX := Lib.hid hpx
          rw [hpx] at HC
          clear hpx
          go_wp2_with (first | (refine wpList_load_val rfl 3 _ rfl g (j * 1) (by simp [Act.eval]) x ty_int HV.out HCE.out ?_) | ((with_reducible refine HC.out.mono ?_); rintro e w2 ⟨rfl, hb2⟩; (have hz2 := hb2.size); (have HO2 := Lib.hid (HO.out.kept hb2))) | fail)
          go_roundw
          case rel =>
            refine ⟨i, j + 1, zs, by omega, by omega, rfl, by go_num, HZL.out, HO2.out, grown_trans HG.out (grown_of_below hb2 (some g)), ?_, fun r hr => HDR.out r (by omega)⟩
            rw [take_step HX.out, List.filter_append, ← HTK.out]
            simp [HPX.out]
          case measure => simp [intOf]; omega
      · have hjl : j = xs.length := by omega
        subst hjl
        have hizs : i < zs.length := by rw [HZL.out]; omega
        have hsub : zs.length - i = xs.length - i := by rw [HZL.out]
        go_wp2_with (first | (refine wpList_clear_own (base := base) rfl _ 22 rfl ty_int Try.underlying22 HZV.out zero_int g xs.length cap (cap - i) HO.out i hizs ?_ ?_; (focus (rw [hsub]; simp [Act.eval])); (intro w3 ho3 hg3; (have HO3 := Lib.hid ho3); (have HG3 := Lib.hid (grown_trans HG.out hg3)); clear ho3 hg3)) | fail)
        go_ret
        refine ⟨_, rfl, ?_, rfl, HG3.out⟩
        have h := HO3.out.sl
        rw [HTK.out, List.take_of_length_le (Nat.le_refl _)] at h
        exact h

end Go.Proofs.Ytbehjbiicopgpaa
