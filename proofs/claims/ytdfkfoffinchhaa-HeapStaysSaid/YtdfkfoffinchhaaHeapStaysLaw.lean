/- The law HeapStays: its walk. Conditions: what came in is shaped. -/
import Derived.Test.YtdfkfoffinchhaaHeapFacts
namespace Go.Proofs.Ytdfkfoffinchhaa
open Go Go.RowKit Go.Tm
set_option linter.unusedVariables false
set_option linter.unusedSimpArgs false

set_option maxRecDepth 100000 in
set_option maxHeartbeats 4000000 in
theorem heapStays_walk (size : Int) (v : Value) (l : List Sp) (n who : Int) (w : World) (hv : Sl w true 3 v (sps l)) (hs : (Lit.int .i64 size).wf = true) (hw : ∀ x ∈ l, SpWf x) (hn : (Lit.int .i64 n).wf = true) (hu : (Lit.int .i64 who).wf = true) (hby : (l.length + 1) * 24 ≤ 140737488355328) :
    Calls Try.prog 5 #[.agg #[.int .i64 size, v], .int .i64 n, .int .i64 who] w fun e w' => e = .returned (.bool true) ∧ Below w.heap.size w w' := by
  have HV := Lib.hid hv
  have HR := Lib.hid (fun W h => right_any size v l W h hs hw)
  have HT := Lib.hid (fun W h => take_any size v l n who W h hs hw hby)
  have HF := Lib.hid (fun W h => free_any size v l n W h (by omega))
  have HD := Lib.hid (fun W h => drop_any size v l who W h (by omega))
  have hsz := size_range hs
  have hnr := size_range hn
  obtain ⟨a, cap, rfl, hl⟩ := hv.shape
  rw [sps_len] at hl HV HR HT HF HD ⊢
  by_cases hr : RightP size l
  rotate_left
  · rw [rightB_false hr] at HR
    clear hv hs hw hn hu hr HT HF HD
    go_enter Try.func5, Try.ntmps5
    ((go_wp2_with fail); (with_reducible refine (shown_any _).mono ?_); (rintro e w1 ⟨rfl, hb1⟩); (have hz1 := hb1.size); (try simp only [World.size_alloc, World.size_setCell] at hz1))
    (have b1 : Box w1 w.heap.size #[.int .i64 size, .slice a l.length cap] 24 := (by (try have k1 := (Lib.hid True.intro).out); ((apply Box.cast); (repeat (first | with_reducible assumption | ((with_reducible apply Box.new1); (first | with_reducible rfl | rfl | (solve | simp))) | with_reducible apply Box.drewN | with_reducible apply Box.drew | with_reducible apply Box.set | with_reducible apply Box.other | with_reducible apply Box.alloc | (with_reducible apply Box.below; rotate_left; with_reducible assumption; rotate_right) | with_reducible rfl | omega | (dsimp only; omega) | (simp only [drew_heap', drewN_heap', World.size_alloc, World.size_setCell]; omega) | rfl | (solve | simp) | (solve | (simp; omega))))))); (obtain ⟨hc1, hf1, hl1, hn1, hm1⟩ := b1.rules); (have K1 := Lib.hid b1); (clear b1)
    have hbw1 : Below w.heap.size w w1 := by (repeat (first | with_reducible assumption | with_reducible exact Below.refl _ _ | with_reducible refine Below.setCell ?_ ?_ _ | with_reducible refine Below.alloc ?_ ?_ _ | with_reducible refine below_drewN' ?_ _ | with_reducible refine Below.drew ?_ | with_reducible refine Below.trans ?_ (Below.mono (by assumption) ?_) | omega | (dsimp only; omega) | (simp only [drew_heap', drewN_heap', World.size_alloc, World.size_setCell]; omega) | (solve | simp) | (solve | (simp; omega))))
    clear hb1
    go_wp2_with fail
    with_reducible refine (HR.out _ (HV.out.below hbw1)).mono ?_
    rintro e w2 ⟨rfl, hb2⟩
    go_wp2_with fail
    go_ret
    exact ⟨by simp, hbw1.trans (hb2.mono hbw1.size)⟩
  rw [rightB_true hr] at HR
  have hcases := take_cases size l n who
  have hkr := rightB_true (take_right hr n who)
  have hkw := take_wf (n := n) (who := who) hw hs hn hu
  have hfr := rightB_true (free_right hr n)
  have hfw := free_wf hw n
  have hdr := rightB_true (drop_right hr who)
  have hdw := drop_wf hw who
  obtain ⟨lk, ak, er, hek⟩ : ∃ lk ak er, takeS size l n who = (lk, ak, er) := ⟨_, _, _, rfl⟩
  obtain ⟨lf, ef, hef⟩ : ∃ lf ef, freeS l n = (lf, ef) := ⟨_, _, rfl⟩
  rw [hek] at HT hcases hkr hkw
  rw [hef] at HF hfr hfw
  dsimp only at HT HF hkr hkw hfr hfw
  generalize (if ef = true then (0 : Int) else 7) = ev at HF
  generalize dropS l who = ld at *
  have HRK := Lib.hid (fun u W h => right_any size u lk W h hs hkw)
  have HRF := Lib.hid (fun u W h => right_any size u lf W h hs hfw)
  have HRD := Lib.hid (fun u W h => right_any size u ld W h hs hdw)
  rw [hkr] at HRK
  rw [hfr] at HRF
  rw [hdr] at HRD
  have HCA := Lib.hid hcases
  have HRR := Lib.hid hr
  have HW := Lib.hid hw
  clear hv hs hw hn hu hkr hkw hfr hfw hdr hdw hek hef hcases hr
  go_enter Try.func5, Try.ntmps5
  ((go_wp2_with fail); (with_reducible refine (shown_any _).mono ?_); (rintro e w1 ⟨rfl, hb1⟩); (have hz1 := hb1.size); (try simp only [World.size_alloc, World.size_setCell] at hz1))
  (have b1 : Box w1 w.heap.size #[.int .i64 size, .slice a l.length cap] 24 := (by (try have k1 := (Lib.hid True.intro).out); ((apply Box.cast); (repeat (first | with_reducible assumption | ((with_reducible apply Box.new1); (first | with_reducible rfl | rfl | (solve | simp))) | with_reducible apply Box.drewN | with_reducible apply Box.drew | with_reducible apply Box.set | with_reducible apply Box.other | with_reducible apply Box.alloc | (with_reducible apply Box.below; rotate_left; with_reducible assumption; rotate_right) | with_reducible rfl | omega | (dsimp only; omega) | (simp only [drew_heap', drewN_heap', World.size_alloc, World.size_setCell]; omega) | rfl | (solve | simp) | (solve | (simp; omega))))))); (obtain ⟨hc1, hf1, hl1, hn1, hm1⟩ := b1.rules); (have K1 := Lib.hid b1); (clear b1)
  have hbw1 : Below w.heap.size w w1 := by (repeat (first | with_reducible assumption | with_reducible exact Below.refl _ _ | with_reducible refine Below.setCell ?_ ?_ _ | with_reducible refine Below.alloc ?_ ?_ _ | with_reducible refine below_drewN' ?_ _ | with_reducible refine Below.drew ?_ | with_reducible refine Below.trans ?_ (Below.mono (by assumption) ?_) | omega | (dsimp only; omega) | (simp only [drew_heap', drewN_heap', World.size_alloc, World.size_setCell]; omega) | (solve | simp) | (solve | (simp; omega))))
  clear hb1
  go_wp2_with fail
  with_reducible refine (HR.out _ (HV.out.below hbw1)).mono ?_
  rintro e w2 ⟨rfl, hb2⟩
  ((have b2 := K1.out.below hb2 K1.out.lt); (obtain ⟨hc2, hf2, hl2, hn2, hm2⟩ := b2.rules); (have K2 := Lib.hid b2); (clear b2))
  have hbw2 : Below w.heap.size w w2 := hbw1.trans (hb2.mono hbw1.size)
  have hz2 := hbw2.size
  clear hb2 K1 hc1 hf1 hl1 hn1 hm1
  go_wp2_with fail
  with_reducible refine (HT.out _ (HV.out.below hbw2)).mono ?_
  rintro e w3 ⟨v3, rfl, hs3, hr3, hb3⟩
  ((have b3 := K2.out.below hb3 K2.out.lt); (obtain ⟨hc3, hf3, hl3, hn3, hm3⟩ := b3.rules); (have K3 := Lib.hid b3); (clear b3))
  have hbw3 : Below w.heap.size w w3 := hbw2.trans (hb3.mono hbw2.size)
  have hz3 := hbw3.size
  obtain ⟨a3, k3, hv3, _⟩ := hs3.shape
  rw [sps_len] at hv3
  subst hv3
  have HK3 := Lib.hid hs3
  clear hb3 hs3 hr3 K2 hc2 hf2 hl2 hn2 hm2
  go_wp2_with fail
  have hbA : Below w3.heap.size w3 (w3.alloc (.cells #[.int .i64 size, .slice a3 lk.length k3] 24)) := (Below.refl _ _).alloc (Nat.le_refl _) _
  have X3 := Lib.hid (Box.new w3 #[.int .i64 size, .slice a3 lk.length k3] 24)
  with_reducible refine (HF.out _ (HV.out.below (hbw3.trans (hbA.mono hz3)))).mono ?_
  rintro e w4 ⟨v4, rfl, hs4, hr4, hb4⟩
  have hbA4 : Below w3.heap.size w3 w4 := hbA.trans (hb4.mono hbA.size)
  ((have b4 := K3.out.below hbA4 K3.out.lt); (obtain ⟨hc4, hf4, hl4, hn4, hm4⟩ := b4.rules); (have K4 := Lib.hid b4); (clear b4))
  ((have b5 := X3.out.below hb4 X3.out.lt); (obtain ⟨hc5, hf5, hl5, hn5, hm5⟩ := b5.rules); (have K5 := Lib.hid b5); (clear b5))
  have hbw4 : Below w.heap.size w w4 := hbw3.trans (hbA4.mono hz3)
  have hz4 := hbw4.size
  have HK4 := Lib.hid (HK3.out.below hbA4)
  obtain ⟨a4, k4, hv4, _⟩ := hs4.shape
  rw [sps_len] at hv4
  subst hv4
  have HF4 := Lib.hid hs4
  clear hb4 hs4 hr4 K3 hc3 hf3 hl3 hn3 hm3 X3 HK3 hbA4 hbA
  go_wp2_with fail
  have hbA : Below w4.heap.size w4 (w4.alloc (.cells #[.int .i64 size, .slice a4 lf.length k4] 24)) := (Below.refl _ _).alloc (Nat.le_refl _) _
  have Y4 := Lib.hid (Box.new w4 #[.int .i64 size, .slice a4 lf.length k4] 24)
  with_reducible refine (HRK.out _ _ (HK4.out.below hbA)).mono ?_
  rintro e w5 ⟨rfl, hb5⟩
  have hbA5 : Below w4.heap.size w4 w5 := hbA.trans (hb5.mono hbA.size)
  have KA := Lib.hid (K4.out.below hbA5 K4.out.lt)
  ((have b6 := Y4.out.below hb5 Y4.out.lt); (obtain ⟨hc6, hf6, hl6, hn6, hm6⟩ := b6.rules); (have K6 := Lib.hid b6); (clear b6))
  ((have b7 := K5.out.below hbA5 K5.out.lt); (obtain ⟨hc7, hf7, hl7, hn7, hm7⟩ := b7.rules); (have K7 := Lib.hid b7); (clear b7))
  have HF5 := Lib.hid (HF4.out.below hbA5)
  have hbw5 : Below w.heap.size w w5 := hbw4.trans (hbA5.mono hz4)
  have hz5 := hbw5.size
  clear hb5 hbA5 hbA Y4 K4 K5 HK4 HF4 hc4 hf4 hl4 hn4 hm4 hc5 hf5 hl5 hn5 hm5
  go_wp2_with fail
  with_reducible refine (HRF.out _ _ HF5.out).mono ?_
  rintro e w6 ⟨rfl, hb6⟩
  ((have b8 := KA.out.below hb6 KA.out.lt); (obtain ⟨hc8, hf8, hl8, hn8, hm8⟩ := b8.rules); (have K8 := Lib.hid b8); (clear b8))
  have X6 := Lib.hid (K7.out.below hb6 K7.out.lt)
  have hbw6 : Below w.heap.size w w6 := hbw5.trans (hb6.mono hz5)
  have hz6 := hbw6.size
  clear hb6 KA K6 K7 hc6 hf6 hl6 hn6 hm6 hc7 hf7 hl7 hn7 hm7 HF5
  go_wp2_with fail
  with_reducible refine (HD.out _ (HV.out.below hbw6)).mono ?_
  rintro e w7 ⟨v7, rfl, hs7, hb7⟩
  have KB := Lib.hid (K8.out.below hb7 K8.out.lt)
  have X7 := Lib.hid (X6.out.below hb7 X6.out.lt)
  have hbw7 : Below w.heap.size w w7 := hbw6.trans (hb7.mono hz6)
  have hz7 := hbw7.size
  have HD7 := Lib.hid hs7
  clear hb7 hs7 K8 X6 hc8 hf8 hl8 hn8 hm8
  go_wp2_with fail
  with_reducible refine (HRD.out _ _ HD7.out).mono ?_
  rintro e w8 ⟨rfl, hb8⟩
  ((have b9 := KB.out.below hb8 KB.out.lt); (obtain ⟨hc9, hf9, hl9, hn9, hm9⟩ := b9.rules); (have K9 := Lib.hid b9); (clear b9))
  ((have b10 := X7.out.below hb8 X7.out.lt); (obtain ⟨hc10, hf10, hl10, hn10, hm10⟩ := b10.rules); (have K10 := Lib.hid b10); (clear b10))
  have hbw8 : Below w.heap.size w w8 := hbw7.trans (hb8.mono hz7)
  have hz8 := hbw8.size
  have HV8 := Lib.hid (HV.out.below hbw8)
  clear hb8 HD7 KB X7
  rcases HCA.out with ⟨_, he⟩ | ⟨_, _, _, he⟩ | ⟨h1, h2, l1, l2, p, q, u, h3, h4, h5, he, h6, h7, h8, h9, h10, h11, _⟩
  · simp only [Prod.mk.injEq] at he
    obtain ⟨rfl, rfl, rfl⟩ := he
    go_wp2_with fail
    go_ret
    exact ⟨by simp, hbw8⟩
  · simp only [Prod.mk.injEq] at he
    obtain ⟨rfl, rfl, rfl⟩ := he
    go_wp2_with fail
    go_ret
    exact ⟨by simp, hbw8⟩
  · simp only [Prod.mk.injEq] at he
    obtain ⟨he1, rfl, rfl⟩ := he
    have hlk : lk.length = l.length + 1 := by rw [he1, h3]; simp; omega
    have HAP := Lib.hid h11
    have hwn : IntKind.i64.wrap (ak + n) = ak + n := IntWalk.i64_in _ (by omega)
    have hwl : IntKind.i64.wrap ((l.length : Int) + 1) = l.length + 1 := IntWalk.i64_in _ (by omega)
    have hws : IntKind.i64.wrap (size - n) = size - n := IntWalk.i64_in _ (by omega)
    clear h2 h3 h4 h6 h9 h10 h11 he1
    go_wp2_with fail
    go_loopw [13] (fun t W => ∃ i : Nat, i ≤ l.length ∧ t = .int .i64 i ∧ Below w8.heap.size w8 W) (fun t _ => l.length - (intOf t).toNat)
    case atStart => exact ⟨0, Nat.zero_le _, rfl, Below.refl _ _⟩
    case round =>
      obtain ⟨i, hi, rfl, hbw⟩ := hrel
      have hwz := hbw.size
      clear hc9 hf9 hl9 hn9 hm9 hc10 hf10 hl10 hn10 hm10
      ((have b11 := K9.out.below hbw K9.out.lt); (obtain ⟨hc11, hf11, hl11, hn11, hm11⟩ := b11.rules); (have K11 := Lib.hid b11); (clear b11))
      ((have b12 := K10.out.below hbw K10.out.lt); (obtain ⟨hc12, hf12, hl12, hn12, hm12⟩ := b12.rules); (have K12 := Lib.hid b12); (clear b12))
      by_cases hlt : i < l.length
      · obtain ⟨x, hx⟩ : ∃ x, l[i]? = some x := ⟨_, List.getElem?_eq_getElem hlt⟩
        obtain ⟨b, off, rfl, hb, c0, c1, c2⟩ := Sl.sp (HV8.out.below hbw) hx
        have hap := HAP.out x (List.mem_of_getElem? hx)
        have hxin := span_in HRR.out (List.mem_of_getElem? hx)
        have hwr : IntKind.i64.wrap ((i : Int) + 1) = i + 1 := IntWalk.i64_in _ (by omega)
        clear hx
        obtain ⟨zp, zq, zu⟩ := x
        dsimp only at hap hxin c0 c1
        have hw2 : IntKind.i64.wrap (zp + zq) = zp + zq := IntWalk.i64_in _ (by omega)
        have g0 := cell_rg c0 hb
        have g1 := cell_rg c1 hb
        have g2 := K11.out.regrown
        rcases hap with hap | hap
        · have hd1 : decide (zp < ak + n) = true := by simp; omega
          have hd2 : decide (ak < zp + zq) = false := by simp; omega
          go_wp2_with fail
          ((refine wp_region_quiet_below (by kernel_rfl) (by kernel_rfl) ?_); (repeat (go_big_quiet_step (fail))); (refine wpQuiet_nil ?_); (intro _ hw'); (obtain ⟨⟨dq, osq⟩, hw''⟩ := hw'); (subst hw''); (have hb9 := below_regrown wr dq osq); (generalize Go.Sort.grow (redrawn wr dq) osq = w9 at *); (have hz9 := hb9.size))
          clear g0 g1 g2
          go_wp2_with fail
          go_roundw
          case rel => exact ⟨i + 1, by omega, by go_num, hbw.trans (hb9.mono hwz)⟩
          case measure => simp [intOf]; omega
        · have hd1 : decide (zp < ak + n) = false := by simp; omega
          go_wp2_with fail
          ((refine wp_region_quiet_below (by kernel_rfl) (by kernel_rfl) ?_); (repeat (go_big_quiet_step (fail))); (refine wpQuiet_nil ?_); (intro _ hw'); (obtain ⟨⟨dq, osq⟩, hw''⟩ := hw'); (subst hw''); (have hb9 := below_regrown wr dq osq); (generalize Go.Sort.grow (redrawn wr dq) osq = w9 at *); (have hz9 := hb9.size))
          clear g0 g1 g2
          go_wp2_with fail
          go_roundw
          case rel => exact ⟨i + 1, by omega, by go_num, hbw.trans (hb9.mono hwz)⟩
          case measure => simp [intOf]; omega
      · obtain rfl : i = l.length := by omega
        have hd3 : decide (ak ≤ size - n) = true := by simp; omega
        have hd4 : decide (0 ≤ ak) = true := by simp; omega
        have hd5 : decide (1 ≤ n) = true := by simp; omega
        go_wp2_with fail
        go_ret
        exact ⟨by simp [hlk], hbw8.trans (hbw.mono hz8)⟩
end Go.Proofs.Ytdfkfoffinchhaa
