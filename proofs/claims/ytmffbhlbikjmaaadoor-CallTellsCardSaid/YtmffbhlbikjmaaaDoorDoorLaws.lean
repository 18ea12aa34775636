/- The laws CallKnown, CallTells: their walks; the table 'kinds' is a hypothesis. Conditions: arguments within their kinds. -/
import Derived.Test.YtmffbhlbikjmaaaDoorDoor0
namespace Go.Proofs.YtmffbhlbikjmaaaDoor
open Go Go.RowKit Go.Tm
set_option linter.unusedVariables false
set_option linter.unusedSimpArgs false

set_option maxHeartbeats 2000000 in
theorem callKnown_walk (a b c d : Int) (w : World) (hT : Tabbed w) (ha : (Lit.int .u32 a).wf = true) (hb : (Lit.int .u32 b).wf = true) (hc : (Lit.int .u32 c).wf = true) (hd : (Lit.int .u32 d).wf = true) :
    Calls Tryd.prog 3 #[.agg #[.int .u32 a, .int .u32 b, .int .u32 c, .int .u32 d]] w fun e w' => e = .returned (.bool true) ∧ Below w.heap.size w w' := by
  have h0 := (u32_range ha).1
  have HB := Lib.hid (fun W (h : Tabbed W) => blocks_any a b c d W h h0)
  have HK := Lib.hid (fun W (h : Tabbed W) => known_any a b c d W h ha hb hc hd)
  have HT := Lib.hid hT
  have hbk : blocksB a = true → knownB a = true := blocks_known
  have hka : knownB a = true → 1 ≤ a ∧ a ≤ 20 := fun h => by unfold knownB at h; simpa using h
  generalize knownB a = kb at *
  generalize blocksB a = bb at *
  clear hT ha hb hc hd
  cases kb
  · have hbf : bb = false := by cases bb; rfl; exact absurd (hbk rfl) (by simp)
    subst hbf
    clear hka hbk
    go_enter Tryd.func3, Tryd.ntmps3
    ((go_wp2_with fail); (with_reducible refine (shown_any _).mono ?_); (rintro e w1 ⟨rfl, hb1⟩); (have hz1 := hb1.size); (try simp only [World.size_alloc, World.size_setCell] at hz1))
    (have b1 : Box w1 w.heap.size #[.int .u32 a, .int .u32 b, .int .u32 c, .int .u32 d] 24 := (by (try have k1 := (Lib.hid True.intro).out); ((apply Box.cast); (repeat (first | with_reducible assumption | ((with_reducible apply Box.new1); (first | with_reducible rfl | rfl | (solve | simp))) | with_reducible apply Box.drewN | with_reducible apply Box.drew | with_reducible apply Box.set | with_reducible apply Box.other | with_reducible apply Box.alloc | (with_reducible apply Box.below; rotate_left; with_reducible assumption; rotate_right) | with_reducible rfl | omega | (dsimp only; omega) | (simp only [drew_heap', drewN_heap', World.size_alloc, World.size_setCell]; omega) | rfl | (solve | simp) | (solve | (simp; omega))))))); (obtain ⟨hc1, hf1, hl1, hn1, hm1⟩ := b1.rules); (have K1 := Lib.hid b1); (clear b1)
    have hx1 : Below w.heap.size w w1 := by (repeat (first | with_reducible assumption | with_reducible exact Below.refl _ _ | with_reducible refine Below.setCell ?_ ?_ _ | with_reducible refine Below.alloc ?_ ?_ _ | with_reducible refine below_drewN' ?_ _ | with_reducible refine Below.drew ?_ | with_reducible refine Below.trans ?_ (Below.mono (by assumption) ?_) | omega | (dsimp only; omega) | (simp only [drew_heap', drewN_heap', World.size_alloc, World.size_setCell]; omega) | (solve | simp) | (solve | (simp; omega))))
    go_wp2_with fail
    with_reducible refine (HB.out _ (HT.out.below hx1)).mono ?_
    rintro e w2 ⟨rfl, hb2⟩
    have hz2 := hb2.size
    (have b2 : Box w2 w.heap.size #[.int .u32 a, .int .u32 b, .int .u32 c, .int .u32 d] 24 := (by (try have k2 := K1.out); ((apply Box.cast); (repeat (first | with_reducible assumption | ((with_reducible apply Box.new1); (first | with_reducible rfl | rfl | (solve | simp))) | with_reducible apply Box.drewN | with_reducible apply Box.drew | with_reducible apply Box.set | with_reducible apply Box.other | with_reducible apply Box.alloc | (with_reducible apply Box.below; rotate_left; with_reducible assumption; rotate_right) | with_reducible rfl | omega | (dsimp only; omega) | (simp only [drew_heap', drewN_heap', World.size_alloc, World.size_setCell]; omega) | rfl | (solve | simp) | (solve | (simp; omega))))))); (obtain ⟨hc2, hf2, hl2, hn2, hm2⟩ := b2.rules); (have K2 := Lib.hid b2); (clear b2)
    have hx2 : Below w.heap.size w w2 := hx1.trans (hb2.mono hx1.size)
    go_wp2_with fail
    with_reducible refine (HK.out _ (HT.out.below hx2)).mono ?_
    rintro e w3 ⟨rfl, hb3⟩
    have hx3 : Below w.heap.size w w3 := hx2.trans (hb3.mono hx2.size)
    go_wp2_with fail
    go_ret
    exact ⟨rfl, hx3⟩
  · obtain ⟨h1, h2⟩ := hka rfl
    clear hka hbk
    cases bb
    · go_enter Tryd.func3, Tryd.ntmps3
      ((go_wp2_with fail); (with_reducible refine (shown_any _).mono ?_); (rintro e w1 ⟨rfl, hb1⟩); (have hz1 := hb1.size); (try simp only [World.size_alloc, World.size_setCell] at hz1))
      (have b1 : Box w1 w.heap.size #[.int .u32 a, .int .u32 b, .int .u32 c, .int .u32 d] 24 := (by (try have k1 := (Lib.hid True.intro).out); ((apply Box.cast); (repeat (first | with_reducible assumption | ((with_reducible apply Box.new1); (first | with_reducible rfl | rfl | (solve | simp))) | with_reducible apply Box.drewN | with_reducible apply Box.drew | with_reducible apply Box.set | with_reducible apply Box.other | with_reducible apply Box.alloc | (with_reducible apply Box.below; rotate_left; with_reducible assumption; rotate_right) | with_reducible rfl | omega | (dsimp only; omega) | (simp only [drew_heap', drewN_heap', World.size_alloc, World.size_setCell]; omega) | rfl | (solve | simp) | (solve | (simp; omega))))))); (obtain ⟨hc1, hf1, hl1, hn1, hm1⟩ := b1.rules); (have K1 := Lib.hid b1); (clear b1)
      have hx1 : Below w.heap.size w w1 := by (repeat (first | with_reducible assumption | with_reducible exact Below.refl _ _ | with_reducible refine Below.setCell ?_ ?_ _ | with_reducible refine Below.alloc ?_ ?_ _ | with_reducible refine below_drewN' ?_ _ | with_reducible refine Below.drew ?_ | with_reducible refine Below.trans ?_ (Below.mono (by assumption) ?_) | omega | (dsimp only; omega) | (simp only [drew_heap', drewN_heap', World.size_alloc, World.size_setCell]; omega) | (solve | simp) | (solve | (simp; omega))))
      go_wp2_with fail
      with_reducible refine (HB.out _ (HT.out.below hx1)).mono ?_
      rintro e w2 ⟨rfl, hb2⟩
      have hz2 := hb2.size
      (have b2 : Box w2 w.heap.size #[.int .u32 a, .int .u32 b, .int .u32 c, .int .u32 d] 24 := (by (try have k2 := K1.out); ((apply Box.cast); (repeat (first | with_reducible assumption | ((with_reducible apply Box.new1); (first | with_reducible rfl | rfl | (solve | simp))) | with_reducible apply Box.drewN | with_reducible apply Box.drew | with_reducible apply Box.set | with_reducible apply Box.other | with_reducible apply Box.alloc | (with_reducible apply Box.below; rotate_left; with_reducible assumption; rotate_right) | with_reducible rfl | omega | (dsimp only; omega) | (simp only [drew_heap', drewN_heap', World.size_alloc, World.size_setCell]; omega) | rfl | (solve | simp) | (solve | (simp; omega))))))); (obtain ⟨hc2, hf2, hl2, hn2, hm2⟩ := b2.rules); (have K2 := Lib.hid b2); (clear b2)
      have hx2 : Below w.heap.size w w2 := hx1.trans (hb2.mono hx1.size)
      go_wp2_with fail
      with_reducible refine (HK.out _ (HT.out.below hx2)).mono ?_
      rintro e w3 ⟨rfl, hb3⟩
      have hz3 := hb3.size
      (have b3 : Box w3 w.heap.size #[.int .u32 a, .int .u32 b, .int .u32 c, .int .u32 d] 24 := (by (try have k3 := K2.out); ((apply Box.cast); (repeat (first | with_reducible assumption | ((with_reducible apply Box.new1); (first | with_reducible rfl | rfl | (solve | simp))) | with_reducible apply Box.drewN | with_reducible apply Box.drew | with_reducible apply Box.set | with_reducible apply Box.other | with_reducible apply Box.alloc | (with_reducible apply Box.below; rotate_left; with_reducible assumption; rotate_right) | with_reducible rfl | omega | (dsimp only; omega) | (simp only [drew_heap', drewN_heap', World.size_alloc, World.size_setCell]; omega) | rfl | (solve | simp) | (solve | (simp; omega))))))); (obtain ⟨hc3, hf3, hl3, hn3, hm3⟩ := b3.rules); (have K3 := Lib.hid b3); (clear b3)
      have hx3 : Below w.heap.size w w3 := hx2.trans (hb3.mono hx2.size)
      go_wp2_with fail
      go_ret
      exact ⟨rfl, hx3⟩
    · go_enter Tryd.func3, Tryd.ntmps3
      ((go_wp2_with fail); (with_reducible refine (shown_any _).mono ?_); (rintro e w1 ⟨rfl, hb1⟩); (have hz1 := hb1.size); (try simp only [World.size_alloc, World.size_setCell] at hz1))
      (have b1 : Box w1 w.heap.size #[.int .u32 a, .int .u32 b, .int .u32 c, .int .u32 d] 24 := (by (try have k1 := (Lib.hid True.intro).out); ((apply Box.cast); (repeat (first | with_reducible assumption | ((with_reducible apply Box.new1); (first | with_reducible rfl | rfl | (solve | simp))) | with_reducible apply Box.drewN | with_reducible apply Box.drew | with_reducible apply Box.set | with_reducible apply Box.other | with_reducible apply Box.alloc | (with_reducible apply Box.below; rotate_left; with_reducible assumption; rotate_right) | with_reducible rfl | omega | (dsimp only; omega) | (simp only [drew_heap', drewN_heap', World.size_alloc, World.size_setCell]; omega) | rfl | (solve | simp) | (solve | (simp; omega))))))); (obtain ⟨hc1, hf1, hl1, hn1, hm1⟩ := b1.rules); (have K1 := Lib.hid b1); (clear b1)
      have hx1 : Below w.heap.size w w1 := by (repeat (first | with_reducible assumption | with_reducible exact Below.refl _ _ | with_reducible refine Below.setCell ?_ ?_ _ | with_reducible refine Below.alloc ?_ ?_ _ | with_reducible refine below_drewN' ?_ _ | with_reducible refine Below.drew ?_ | with_reducible refine Below.trans ?_ (Below.mono (by assumption) ?_) | omega | (dsimp only; omega) | (simp only [drew_heap', drewN_heap', World.size_alloc, World.size_setCell]; omega) | (solve | simp) | (solve | (simp; omega))))
      go_wp2_with fail
      with_reducible refine (HB.out _ (HT.out.below hx1)).mono ?_
      rintro e w2 ⟨rfl, hb2⟩
      have hz2 := hb2.size
      (have b2 : Box w2 w.heap.size #[.int .u32 a, .int .u32 b, .int .u32 c, .int .u32 d] 24 := (by (try have k2 := K1.out); ((apply Box.cast); (repeat (first | with_reducible assumption | ((with_reducible apply Box.new1); (first | with_reducible rfl | rfl | (solve | simp))) | with_reducible apply Box.drewN | with_reducible apply Box.drew | with_reducible apply Box.set | with_reducible apply Box.other | with_reducible apply Box.alloc | (with_reducible apply Box.below; rotate_left; with_reducible assumption; rotate_right) | with_reducible rfl | omega | (dsimp only; omega) | (simp only [drew_heap', drewN_heap', World.size_alloc, World.size_setCell]; omega) | rfl | (solve | simp) | (solve | (simp; omega))))))); (obtain ⟨hc2, hf2, hl2, hn2, hm2⟩ := b2.rules); (have K2 := Lib.hid b2); (clear b2)
      have hx2 : Below w.heap.size w w2 := hx1.trans (hb2.mono hx1.size)
      go_wp2_with fail
      with_reducible refine (HK.out _ (HT.out.below hx2)).mono ?_
      rintro e w3 ⟨rfl, hb3⟩
      have hz3 := hb3.size
      (have b3 : Box w3 w.heap.size #[.int .u32 a, .int .u32 b, .int .u32 c, .int .u32 d] 24 := (by (try have k3 := K2.out); ((apply Box.cast); (repeat (first | with_reducible assumption | ((with_reducible apply Box.new1); (first | with_reducible rfl | rfl | (solve | simp))) | with_reducible apply Box.drewN | with_reducible apply Box.drew | with_reducible apply Box.set | with_reducible apply Box.other | with_reducible apply Box.alloc | (with_reducible apply Box.below; rotate_left; with_reducible assumption; rotate_right) | with_reducible rfl | omega | (dsimp only; omega) | (simp only [drew_heap', drewN_heap', World.size_alloc, World.size_setCell]; omega) | rfl | (solve | simp) | (solve | (simp; omega))))))); (obtain ⟨hc3, hf3, hl3, hn3, hm3⟩ := b3.rules); (have K3 := Lib.hid b3); (clear b3)
      have hx3 : Below w.heap.size w w3 := hx2.trans (hb3.mono hx2.size)
      go_wp2_with fail
      with_reducible refine (HK.out _ (HT.out.below hx3)).mono ?_
      rintro e w4 ⟨rfl, hb4⟩
      have hz4 := hb4.size
      (have b4 : Box w4 w.heap.size #[.int .u32 a, .int .u32 b, .int .u32 c, .int .u32 d] 24 := (by (try have k4 := K3.out); ((apply Box.cast); (repeat (first | with_reducible assumption | ((with_reducible apply Box.new1); (first | with_reducible rfl | rfl | (solve | simp))) | with_reducible apply Box.drewN | with_reducible apply Box.drew | with_reducible apply Box.set | with_reducible apply Box.other | with_reducible apply Box.alloc | (with_reducible apply Box.below; rotate_left; with_reducible assumption; rotate_right) | with_reducible rfl | omega | (dsimp only; omega) | (simp only [drew_heap', drewN_heap', World.size_alloc, World.size_setCell]; omega) | rfl | (solve | simp) | (solve | (simp; omega))))))); (obtain ⟨hc4, hf4, hl4, hn4, hm4⟩ := b4.rules); (have K4 := Lib.hid b4); (clear b4)
      have hx4 : Below w.heap.size w w4 := hx3.trans (hb4.mono hx3.size)
      go_wp2_with fail
      go_ret
      exact ⟨rfl, hx4⟩
end Go.Proofs.YtmffbhlbikjmaaaDoor
