/- The law HeapHoles: its walk. Conditions: what came in is shaped. -/
import Derived.Test.YtdfkfoffinchhaaHeapShown
namespace Go.Proofs.Ytdfkfoffinchhaa
open Go Go.RowKit Go.Tm
set_option linter.unusedVariables false
set_option linter.unusedSimpArgs false

theorem sp_range {x : Sp} (h : SpWf x) : (-9223372036854775808 ≤ x.1 ∧ x.1 ≤ 9223372036854775807) ∧ (-9223372036854775808 ≤ x.2.1 ∧ x.2.1 ≤ 9223372036854775807) := by
  obtain ⟨h1, h2, _⟩ := h
  simp [Lit.wf, IntKind.min, IntKind.max, IntKind.bits, IntKind.signed] at h1 h2
  exact ⟨h1, h2⟩
theorem size_range {n : Int} (h : (Lit.int .i64 n).wf = true) : -9223372036854775808 ≤ n ∧ n ≤ 9223372036854775807 := by
  simpa [Lit.wf, IntKind.min, IntKind.max, IntKind.bits, IntKind.signed] using h
theorem sum_take {size : Int} {l : List Sp} (h : RightP size l) (i : Nat) : 0 ≤ sumN (l.take i) ∧ sumN (l.take i) ≤ size := by
  have h1 := rightG_take h.1 i
  have h2 := rightG_end h1 h.2
  have h3 := sumN_le h1
  exact ⟨sumN_nonneg h1, by omega⟩
theorem holes_take {size : Int} {l : List Sp} (h : RightP size l) (i : Nat) : 0 ≤ sumN ((holesS size l).take i) ∧ sumN l + sumN ((holesS size l).take i) ≤ size := by
  have h1 := sumN_pos (m := (holesS size l).take i) (fun x hx => holesG_pos (List.mem_of_mem_take hx))
  have h2 := sumN_pos (m := (holesS size l).drop i) (fun x hx => holesG_pos (List.mem_of_mem_drop hx))
  have h3 := sumN_append ((holesS size l).take i) ((holesS size l).drop i)
  rw [List.take_append_drop, sum_all h] at h3
  omega
/-- A hole is within the room. -/
theorem hole_in {size : Int} {l : List Sp} (h : RightP size l) {x : Sp} (hx : x ∈ holesS size l) : 0 ≤ x.1 ∧ 1 ≤ x.2.1 ∧ x.1 + x.2.1 ≤ size := by
  obtain ⟨l1, l2, e, h1, h2, h3, _⟩ := holes_split h.1 h.2 hx
  have hl1 : rightG size 0 l1 := by have := h.1; rw [e, rightG_append] at this; exact this.1
  have := rightG_end hl1 h.2
  omega
theorem span_in {size : Int} {l : List Sp} (h : RightP size l) {s : Sp} (hs : s ∈ l) : 0 ≤ s.1 ∧ 1 ≤ s.2.1 ∧ s.1 + s.2.1 ≤ size := by
  have h1 := rightG_mem h.1 hs
  have h2 := rightG_end h.1 h.2
  omega
theorem hole_apart {size : Int} {l : List Sp} (h : RightP size l) {x s : Sp} (hx : x ∈ holesS size l) (hs : s ∈ l) : s.1 + s.2.1 ≤ x.1 ∨ x.1 + x.2.1 ≤ s.1 := by
  obtain ⟨l1, l2, e, h1, h2, h3, h4, h5, h6, _⟩ := holes_split h.1 h.2 hx
  have hl1 : rightG size 0 l1 := by have := h.1; rw [e, rightG_append] at this; exact this.1
  rw [e] at hs
  rcases List.mem_append.1 hs with hs | hs
  · left; have := (rightG_mem hl1 hs).2.2; omega
  · right; exact (rightG_mem h4 hs).1
theorem hole_from {size a : Int} {l : List Sp} (h : rightG size a l) (ha : a ≤ size) {x : Sp} (hx : x ∈ holesG a (l ++ [(size, 0, 0)])) : a ≤ x.1 := by
  obtain ⟨l1, l2, e, h1, _⟩ := holes_split h ha hx
  have hl1 : rightG size a l1 := by rw [e, rightG_append] at h; exact h.1
  have := rightG_end hl1 ha
  omega
theorem holesE_gap {size a : Int} {l : List Sp} (h : rightG size a l) (ha : a ≤ size) {i : Nat} {x y : Sp} (hx : (holesG a (l ++ [(size, 0, 0)]))[i]? = some x) (hy : (holesG a (l ++ [(size, 0, 0)]))[i + 1]? = some y) : x.1 + x.2.1 < y.1 := by
  induction l generalizing a i with
  | nil =>
    have h1 := (List.getElem?_eq_some_iff.1 hy).1
    have h2 := holes_len a [(size, 0, 0)]
    simp only [List.nil_append] at h1
    simp only [List.length_cons, List.length_nil] at h2
    omega
  | cons s r ih =>
    obtain ⟨h1, h2, h3, h4, h5⟩ := h
    rw [List.cons_append, holesG] at hx hy
    by_cases hc : a < s.1
    · have e : hole a s = [(a, s.1 - a, 0)] := by unfold hole; rw [if_pos hc]
      rw [e] at hx hy
      cases i with
      | zero =>
        simp at hx hy
        subst hx
        have := hole_from h5 (by omega) (List.mem_of_getElem? (i := 0) (by simpa using hy))
        simp; omega
      | succ i => exact ih h5 (by omega) (i := i) (by simpa using hx) (by simpa using hy)
    · have e : hole a s = [] := by unfold hole; rw [if_neg hc]
      rw [e] at hx hy
      exact ih h5 (by omega) (by simpa using hx) (by simpa using hy)
theorem hole_gap {size : Int} {l : List Sp} (h : RightP size l) {i : Nat} {x y : Sp} (hx : (holesS size l)[i]? = some x) (hy : (holesS size l)[i + 1]? = some y) : x.1 + x.2.1 < y.1 := holesE_gap h.1 h.2 hx hy

set_option maxRecDepth 100000 in
set_option maxHeartbeats 4000000 in
theorem heapHoles_walk (size : Int) (v : Value) (l : List Sp) (w : World) (hv : Sl w true 3 v (sps l)) (hs : (Lit.int .i64 size).wf = true) (hw : ∀ x ∈ l, SpWf x) (hby : (l.length + 1) * 24 ≤ 140737488355328) :
    Calls Try.prog 4 #[.agg #[.int .i64 size, v]] w fun e w' => e = .returned (.bool true) ∧ Below w.heap.size w w' := by
  have HV := Lib.hid hv
  have HR := Lib.hid (fun W h => refRight_any size v l W h hs hw)
  have HC := Lib.hid (fun W h => holesC_any size v l W h hs hw hby)
  have hsz := size_range hs
  obtain ⟨a, cap, rfl, hl⟩ := hv.shape
  rw [sps_len] at hl HV HR HC ⊢
  clear hv hw hs
  go_enter Try.func4, Try.ntmps4
  ((go_wp2_with fail); (with_reducible refine (shown_any _).mono ?_); (rintro e w1 ⟨rfl, hb1⟩); (have hz1 := hb1.size); (try simp only [World.size_alloc, World.size_setCell] at hz1))
  (have b1 : Box w1 w.heap.size #[.int .i64 size, .slice a l.length cap] 24 := (by (try have k1 := (Lib.hid True.intro).out); ((apply Box.cast); (repeat (first | with_reducible assumption | ((with_reducible apply Box.new1); (first | with_reducible rfl | rfl | (solve | simp))) | with_reducible apply Box.drewN | with_reducible apply Box.drew | with_reducible apply Box.set | with_reducible apply Box.other | with_reducible apply Box.alloc | (with_reducible apply Box.below; rotate_left; with_reducible assumption; rotate_right) | with_reducible rfl | omega | (dsimp only; omega) | (simp only [drew_heap', drewN_heap', World.size_alloc, World.size_setCell]; omega) | rfl | (solve | simp) | (solve | (simp; omega))))))); (obtain ⟨hc1, hf1, hl1, hn1, hm1⟩ := b1.rules); (have K1 := Lib.hid b1); (clear b1)
  have hbw1 : Below w.heap.size w w1 := by (repeat (first | with_reducible assumption | with_reducible exact Below.refl _ _ | with_reducible refine Below.setCell ?_ ?_ _ | with_reducible refine Below.alloc ?_ ?_ _ | with_reducible refine below_drewN' ?_ _ | with_reducible refine Below.drew ?_ | with_reducible refine Below.trans ?_ (Below.mono (by assumption) ?_) | omega | (dsimp only; omega) | (simp only [drew_heap', drewN_heap', World.size_alloc, World.size_setCell]; omega) | (solve | simp) | (solve | (simp; omega))))
  clear hb1
  go_wp2_with fail
  with_reducible refine (HR.out _ (HV.out.below hbw1)).mono ?_
  rintro e w2 ⟨rfl, hb2⟩
  have hz2 := hb2.size
  (have b2 : Box w2 w.heap.size #[.int .i64 size, .slice a l.length cap] 24 := (by (try have k2 := K1.out); ((apply Box.cast); (repeat (first | with_reducible assumption | ((with_reducible apply Box.new1); (first | with_reducible rfl | rfl | (solve | simp))) | with_reducible apply Box.drewN | with_reducible apply Box.drew | with_reducible apply Box.set | with_reducible apply Box.other | with_reducible apply Box.alloc | (with_reducible apply Box.below; rotate_left; with_reducible assumption; rotate_right) | with_reducible rfl | omega | (dsimp only; omega) | (simp only [drew_heap', drewN_heap', World.size_alloc, World.size_setCell]; omega) | rfl | (solve | simp) | (solve | (simp; omega))))))); (obtain ⟨hc2, hf2, hl2, hn2, hm2⟩ := b2.rules); (have K2 := Lib.hid b2); (clear b2)
  have hbw2 : Below w.heap.size w w2 := hbw1.trans (hb2.mono hbw1.size)
  clear hb2 K1 hc1 hf1 hl1 hn1 hm1
  go_wp2_with fail
  with_reducible refine (HC.out _ (HV.out.below hbw2)).mono ?_
  rintro e w3 ⟨v3, rfl, ho3, hb3⟩
  have hz3 := hb3.size
  (have b3 : Box w3 w.heap.size #[.int .i64 size, .slice a l.length cap] 24 := (by (try have k3 := K2.out); ((apply Box.cast); (repeat (first | with_reducible assumption | ((with_reducible apply Box.new1); (first | with_reducible rfl | rfl | (solve | simp))) | with_reducible apply Box.drewN | with_reducible apply Box.drew | with_reducible apply Box.set | with_reducible apply Box.other | with_reducible apply Box.alloc | (with_reducible apply Box.below; rotate_left; with_reducible assumption; rotate_right) | with_reducible rfl | omega | (dsimp only; omega) | (simp only [drew_heap', drewN_heap', World.size_alloc, World.size_setCell]; omega) | rfl | (solve | simp) | (solve | (simp; omega))))))); (obtain ⟨hc3, hf3, hl3, hn3, hm3⟩ := b3.rules); (have K3 := Lib.hid b3); (clear b3)
  have hbw3 : Below w.heap.size w w3 := hbw2.trans (hb3.mono hbw2.size)
  obtain ⟨a3, k3, rfl, hml⟩ := ho3.sl.shape
  rw [sps_len] at hml ho3 ⊢
  have HM := Lib.hid ho3.sl
  clear hb3 ho3 K2 hc2 hf2 hl2 hn2 hm2
  by_cases hr : RightP size l
  rotate_left
  · have hm : (holesB size l).length = 0 := by rw [holesB_false hr]; rfl
    rw [rightB_false hr, hm]
    clear hr HM
    go_wp2_with fail
    go_ret
    exact ⟨by simp, hbw3⟩
  have HRR := Lib.hid hr
  rw [rightB_true hr]
  rw [holesB_true hr] at HM hml ⊢
  generalize hm : holesS size l = m at *
  have HEM := Lib.hid hm
  clear hm hr
  go_wp2_with fail
  go_loopw [6, 7] (fun s t W => ∃ i : Nat, i ≤ l.length ∧ t = .int .i64 i ∧ s = .int .i64 (sumN (l.take i)) ∧ Below w3.heap.size w3 W) (fun _ t _ => l.length - (intOf t).toNat)
  case atStart => exact ⟨0, Nat.zero_le _, rfl, rfl, Below.refl _ _⟩
  case round =>
    obtain ⟨i, hi, rfl, rfl, hbw⟩ := hrel
    have hwz := hbw.size
    ((have b4 := K3.out.below hbw K3.out.lt); (obtain ⟨hc4, hf4, hl4, hn4, hm4⟩ := b4.rules); (have K4 := Lib.hid b4); (clear b4))
    by_cases hlt : i < l.length
    · obtain ⟨x, hx⟩ : ∃ x, l[i]? = some x := ⟨_, List.getElem?_eq_getElem hlt⟩
      obtain ⟨b, off, rfl, hb, c0, c1, c2⟩ := Sl.sp (HV.out.below (hbw3.trans (hbw.mono hbw3.size))) hx
      have HN := Lib.hid (sumN_step hx)
      have h1 := sum_take HRR.out (i + 1)
      rw [HN.out] at h1
      have hwr : IntKind.i64.wrap ((i : Int) + 1) = i + 1 := IntWalk.i64_in _ (by omega)
      clear hx
      obtain ⟨p, q, u⟩ := x
      dsimp only at h1 c0 c1 c2
      have hws : IntKind.i64.wrap (sumN (l.take i) + q) = sumN (l.take i) + q := IntWalk.i64_in _ (by omega)
      go_wp2_with fail
      go_roundw
      case rel => exact ⟨i + 1, by omega, by go_num, by rw [HN.out], hbw⟩
      case measure => simp [intOf]; omega
    · obtain rfl : i = l.length := by omega
      rw [List.take_length]
      have hbwr : Below w.heap.size w wr := hbw3.trans (hbw.mono hbw3.size)
      have HVr := Lib.hid (HV.out.below hbwr)
      have HMr := Lib.hid (HM.out.below hbw)
      have hwrz := hbwr.size
      go_wp2_with fail
      clear hc4 hf4 hl4 hn4 hm4 K3 hc3 hf3 hl3 hn3 hm3 HV HM
      obtain ⟨wA, hwA⟩ : ∃ wA, wA = wr := ⟨_, rfl⟩
      subst hwA
      go_loopw [6, 8, 9] (fun s t _ W => ∃ i : Nat, i ≤ m.length ∧ t = .int .i64 i ∧ s = .int .i64 (sumN l + sumN (m.take i)) ∧ Below wA.heap.size wA W) (fun _ t _ _ => m.length - (intOf t).toNat)
      case atStart => exact ⟨0, Nat.zero_le _, rfl, by simp [sumN], Below.refl _ _⟩
      case round =>
        obtain ⟨i, hi, rfl, rfl, hbv⟩ := hrel
        have hvz := hbv.size
        ((have b5 := K4.out.below hbv K4.out.lt); (obtain ⟨hc5, hf5, hl5, hn5, hm5⟩ := b5.rules); (have K5 := Lib.hid b5); (clear b5))
        by_cases hlt : i < m.length
        · obtain ⟨x, hx⟩ : ∃ x, m[i]? = some x := ⟨_, List.getElem?_eq_getElem hlt⟩
          obtain ⟨b, off, rfl, hb, c0, c1, c2⟩ := Sl.sp (HMr.out.below hbv) hx
          have hxm : x ∈ holesS size l := by rw [HEM.out]; exact List.mem_of_getElem? hx
          have hxin := hole_in HRR.out hxm
          have HAP := Lib.hid (fun s hs => hole_apart HRR.out hxm (s := s) hs)
          have HN := Lib.hid (sumN_step hx)
          have h1 := holes_take HRR.out (i + 1)
          rw [HEM.out, HN.out] at h1
          have h0 := holes_take HRR.out i
          rw [HEM.out] at h0
          have hsl0 := sum_take HRR.out l.length
          rw [List.take_length] at hsl0
          have hwr : IntKind.i64.wrap ((i : Int) + 1) = i + 1 := IntWalk.i64_in _ (by omega)
          have HX := Lib.hid hx
          clear hx hxm
          obtain ⟨p, q, u⟩ := x
          dsimp only at h1 c0 c1 c2 hxin
          have hws : IntKind.i64.wrap (sumN l + sumN (m.take i) + q) = sumN l + sumN (m.take i) + q := IntWalk.i64_in _ (by omega)
          have hq1 : decide (q < 1) = false := by simp; omega
          have g0 := cell_rg c0 hb
          have g1 := cell_rg c1 hb
          by_cases hi0 : i = 0
          · have hgt : decide ((0 : Int) < (i : Int)) = false := by simp; omega
            have hgt2 : decide (0 < i) = false := by simp; omega
            clear hi0
            go_wp2_with fail
            ((refine wp_region_quiet_below (by kernel_rfl) (by kernel_rfl) ?_); (repeat (go_big_quiet_step (fail))); (refine wpQuiet_nil ?_); (intro _ hw'); (obtain ⟨⟨dq, osq⟩, hw''⟩ := hw'); (subst hw''); (have hb7 := below_regrown wr dq osq); (generalize Go.Sort.grow (redrawn wr dq) osq = w7 at *); (have hz7 := hb7.size))
            have hbv7 : Below wA.heap.size wA w7 := hbv.trans (hb7.mono hvz)
            have hv7z := hbv7.size
            ((have b7 := K5.out.below hb7 K5.out.lt); (obtain ⟨hc7, hf7, hl7, hn7, hm7⟩ := b7.rules); (have K7 := Lib.hid b7); (clear b7))
            clear hc5 hf5 hl5 hn5 hm5 g0 g1
            go_wp2_with fail
            go_loopw [9] (fun t W => ∃ j : Nat, j ≤ l.length ∧ t = .int .i64 j ∧ Below w7.heap.size w7 W) (fun t _ => l.length - (intOf t).toNat)
            case atStart => exact ⟨0, Nat.zero_le _, rfl, Below.refl _ _⟩
            case round =>
              obtain ⟨j, hj, rfl, hbu⟩ := hrel
              have huz := hbu.size
              have hbwu : Below wA.heap.size wA wr := hbv7.trans (hbu.mono hv7z)
              clear hc7 hf7 hl7 hn7 hm7
              ((have b8 := K7.out.below hbu K7.out.lt); (obtain ⟨hc8, hf8, hl8, hn8, hm8⟩ := b8.rules); (have K8 := Lib.hid b8); (clear b8))
              have e8 := K8.out.regrown
              obtain ⟨_, _, he3, hb3, d0, d1, -⟩ := Sl.sp (HMr.out.below hbwu) HX.out
              simp only [Option.some.injEq, Addr.mk.injEq, and_true] at he3
              obtain ⟨rfl, rfl⟩ := he3
              dsimp only at d0 d1
              have g0 := cell_rg d0 hb3
              have g1 := cell_rg d1 hb3
              by_cases hjl : j < l.length
              · obtain ⟨z, hz⟩ : ∃ z, l[j]? = some z := ⟨_, List.getElem?_eq_getElem hjl⟩
                obtain ⟨bz, oz, rfl, hbz, z0, z1, -⟩ := Sl.sp (HVr.out.below hbwu) hz
                have hap := HAP.out z (List.mem_of_getElem? hz)
                have hzin := span_in HRR.out (List.mem_of_getElem? hz)
                have hwj : IntKind.i64.wrap ((j : Int) + 1) = j + 1 := IntWalk.i64_in _ (by omega)
                clear hz
                obtain ⟨zp, zq, zu⟩ := z
                dsimp only at z0 z1 hap hzin
                have k2 := cell_rg z0 hbz
                have k3' := cell_rg z1 hbz
                have hw1 : IntKind.i64.wrap (p + q) = p + q := IntWalk.i64_in _ (by omega)
                have hw2 : IntKind.i64.wrap (zp + zq) = zp + zq := IntWalk.i64_in _ (by omega)
                rcases hap with hap | hap
                · have hd1 : decide (zp < p + q) = true := by simp; omega
                  have hd2 : decide (p < zp + zq) = false := by simp; omega
                  go_wp2_with fail
                  ((refine wp_region_quiet_below (by kernel_rfl) (by kernel_rfl) ?_); (repeat (go_big_quiet_step (fail))); (refine wpQuiet_nil ?_); (intro _ hw'); (obtain ⟨⟨dq, osq⟩, hw''⟩ := hw'); (subst hw''); (have hb9 := below_regrown wr dq osq); (generalize Go.Sort.grow (redrawn wr dq) osq = w9 at *); (have hz9 := hb9.size))
                  clear k2 k3' g0 g1 e8
                  go_wp2_with fail
                  go_roundw
                  case rel => exact ⟨j + 1, by omega, by go_num, hbu.trans (hb9.mono huz)⟩
                  case measure => simp [intOf]; omega
                · have hd1 : decide (zp < p + q) = false := by simp; omega
                  go_wp2_with fail
                  ((refine wp_region_quiet_below (by kernel_rfl) (by kernel_rfl) ?_); (repeat (go_big_quiet_step (fail))); (refine wpQuiet_nil ?_); (intro _ hw'); (obtain ⟨⟨dq, osq⟩, hw''⟩ := hw'); (subst hw''); (have hb9 := below_regrown wr dq osq); (generalize Go.Sort.grow (redrawn wr dq) osq = w9 at *); (have hz9 := hb9.size))
                  clear k2 k3' g0 g1 e8
                  go_wp2_with fail
                  go_roundw
                  case rel => exact ⟨j + 1, by omega, by go_num, hbu.trans (hb9.mono huz)⟩
                  case measure => simp [intOf]; omega
              · obtain rfl : j = l.length := by omega
                clear g0 g1 e8
                go_wp2_with fail
                go_roundw
                case rel => exact ⟨i + 1, by omega, by go_num, by rw [HN.out]; congr 1; (first | rfl | (congr 1; omega) | omega), hbwu⟩
                case measure => simp [intOf]; omega
          · obtain ⟨k, rfl⟩ : ∃ k, i = k + 1 := ⟨i - 1, by omega⟩
            obtain ⟨y, hy⟩ : ∃ y, m[k]? = some y := ⟨_, List.getElem?_eq_getElem (by omega)⟩
            have hgap := hole_gap HRR.out (i := k) (x := y) (y := (p, q, u)) (by rw [HEM.out]; exact hy) (by rw [HEM.out]; exact HX.out)
            have hyin := hole_in HRR.out (x := y) (by rw [HEM.out]; exact List.mem_of_getElem? hy)
            obtain ⟨_, _, he, hb2, e0, e1, -⟩ := Sl.sp (HMr.out.below hbv) hy
            simp only [Option.some.injEq, Addr.mk.injEq, and_true] at he
            obtain ⟨rfl, rfl⟩ := he
            clear hy
            obtain ⟨p', q', u'⟩ := y
            dsimp only at e0 e1 hgap hyin
            have hsum : IntKind.i64.wrap (p' + q') = p' + q' := IntWalk.i64_in _ (by omega)
            have hws1 : IntKind.i64.wrap ((k : Int) + 1 - 1) = k := by rw [IntWalk.i64_in _ (by omega)]; omega
            have hlt' : (k : Int) + 1 < m.length := by omega
            have hgt : decide ((0 : Int) < (k : Int) + 1) = true := decide_eq_true (by omega)
            have hgt2 : decide (0 < k + 1) = true := by simp
            have hd : decide (p ≤ p' + q') = false := by simp; omega
            have k0 := cell_rg e0 hb2
            have k1 := cell_rg e1 hb2
            go_wp2_with fail
            ((refine wp_region_quiet_below (by kernel_rfl) (by kernel_rfl) ?_); (repeat (go_big_quiet_step (fail))); (refine wpQuiet_nil ?_); (intro _ hw'); (obtain ⟨⟨dq, osq⟩, hw''⟩ := hw'); (subst hw''); (have hb7 := below_regrown wr dq osq); (generalize Go.Sort.grow (redrawn wr dq) osq = w7 at *); (have hz7 := hb7.size))
            clear k0 k1
            have hbv7 : Below wA.heap.size wA w7 := hbv.trans (hb7.mono hvz)
            have hv7z := hbv7.size
            ((have b7 := K5.out.below hb7 K5.out.lt); (obtain ⟨hc7, hf7, hl7, hn7, hm7⟩ := b7.rules); (have K7 := Lib.hid b7); (clear b7))
            clear hc5 hf5 hl5 hn5 hm5 g0 g1
            go_wp2_with fail
            go_loopw [9] (fun t W => ∃ j : Nat, j ≤ l.length ∧ t = .int .i64 j ∧ Below w7.heap.size w7 W) (fun t _ => l.length - (intOf t).toNat)
            case atStart => exact ⟨0, Nat.zero_le _, rfl, Below.refl _ _⟩
            case round =>
              obtain ⟨j, hj, rfl, hbu⟩ := hrel
              have huz := hbu.size
              have hbwu : Below wA.heap.size wA wr := hbv7.trans (hbu.mono hv7z)
              clear hc7 hf7 hl7 hn7 hm7
              ((have b8 := K7.out.below hbu K7.out.lt); (obtain ⟨hc8, hf8, hl8, hn8, hm8⟩ := b8.rules); (have K8 := Lib.hid b8); (clear b8))
              have e8 := K8.out.regrown
              obtain ⟨_, _, he3, hb3, d0, d1, -⟩ := Sl.sp (HMr.out.below hbwu) HX.out
              simp only [Option.some.injEq, Addr.mk.injEq, and_true] at he3
              obtain ⟨rfl, rfl⟩ := he3
              dsimp only at d0 d1
              have g0 := cell_rg d0 hb3
              have g1 := cell_rg d1 hb3
              by_cases hjl : j < l.length
              · obtain ⟨z, hz⟩ : ∃ z, l[j]? = some z := ⟨_, List.getElem?_eq_getElem hjl⟩
                obtain ⟨bz, oz, rfl, hbz, z0, z1, -⟩ := Sl.sp (HVr.out.below hbwu) hz
                have hap := HAP.out z (List.mem_of_getElem? hz)
                have hzin := span_in HRR.out (List.mem_of_getElem? hz)
                have hwj : IntKind.i64.wrap ((j : Int) + 1) = j + 1 := IntWalk.i64_in _ (by omega)
                clear hz
                obtain ⟨zp, zq, zu⟩ := z
                dsimp only at z0 z1 hap hzin
                have k2 := cell_rg z0 hbz
                have k3' := cell_rg z1 hbz
                have hw1 : IntKind.i64.wrap (p + q) = p + q := IntWalk.i64_in _ (by omega)
                have hw2 : IntKind.i64.wrap (zp + zq) = zp + zq := IntWalk.i64_in _ (by omega)
                rcases hap with hap | hap
                · have hd1 : decide (zp < p + q) = true := by simp; omega
                  have hd2 : decide (p < zp + zq) = false := by simp; omega
                  go_wp2_with fail
                  ((refine wp_region_quiet_below (by kernel_rfl) (by kernel_rfl) ?_); (repeat (go_big_quiet_step (fail))); (refine wpQuiet_nil ?_); (intro _ hw'); (obtain ⟨⟨dq, osq⟩, hw''⟩ := hw'); (subst hw''); (have hb9 := below_regrown wr dq osq); (generalize Go.Sort.grow (redrawn wr dq) osq = w9 at *); (have hz9 := hb9.size))
                  clear k2 k3' g0 g1 e8
                  go_wp2_with fail
                  go_roundw
                  case rel => exact ⟨j + 1, by omega, by go_num, hbu.trans (hb9.mono huz)⟩
                  case measure => simp [intOf]; omega
                · have hd1 : decide (zp < p + q) = false := by simp; omega
                  go_wp2_with fail
                  ((refine wp_region_quiet_below (by kernel_rfl) (by kernel_rfl) ?_); (repeat (go_big_quiet_step (fail))); (refine wpQuiet_nil ?_); (intro _ hw'); (obtain ⟨⟨dq, osq⟩, hw''⟩ := hw'); (subst hw''); (have hb9 := below_regrown wr dq osq); (generalize Go.Sort.grow (redrawn wr dq) osq = w9 at *); (have hz9 := hb9.size))
                  clear k2 k3' g0 g1 e8
                  go_wp2_with fail
                  go_roundw
                  case rel => exact ⟨j + 1, by omega, by go_num, hbu.trans (hb9.mono huz)⟩
                  case measure => simp [intOf]; omega
              · obtain rfl : j = l.length := by omega
                clear g0 g1 e8
                go_wp2_with fail
                go_roundw
                case rel => exact ⟨(k + 1) + 1, by omega, by go_num, by rw [HN.out]; congr 1; (first | rfl | (congr 1; omega) | omega), hbwu⟩
                case measure => simp [intOf]; omega
        · obtain rfl : i = m.length := by omega
          have hall := sum_all HRR.out
          rw [HEM.out] at hall
          have htot : (sumN l + sumN m == size) = true := by rw [beq_iff_eq]; omega
          rw [List.take_length]
          go_wp2_with fail
          go_ret
          exact ⟨by simp; omega, hbwr.trans (hbv.mono hwrz)⟩
end Go.Proofs.Ytdfkfoffinchhaa
