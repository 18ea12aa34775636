/- The law RouteOwn: its walk. Conditions: what came in is shaped. -/
import Derived.Test.YtmcaeahjnhkbcaaRouteShown
namespace Go.Proofs.Ytmcaeahjnhkbcaa
open Go Go.RowKit Go.Tm
set_option linter.unusedVariables false
set_option linter.unusedSimpArgs false

theorem toF_cases (cs : List Ch) (part port : Int) : ∀ (k i : Nat) (p : Int), i + k = cs.length → 0 ≤ p → ((outsS (cs.take i) part).length : Int) + p = port →
    (∃ j c, toP cs part port j c ∧ toF (cs.take i) (cs.drop i) part p = (c.2.2.1, (((insS (cs.take j) c.2.2.1).length : Nat) : Int), true)) ∨ (((outsS cs part).length : Int) ≤ port ∧ toF (cs.take i) (cs.drop i) part p = (0, 0, false)) := by
  intro k
  induction k with
  | zero =>
    intro i p hi hp he
    right
    have hi' : i = cs.length := by omega
    subst hi'
    rw [List.take_length] at he
    refine ⟨by omega, ?_⟩
    rw [List.drop_length, toF]
  | succ k ih =>
    intro i p hi hp he
    obtain ⟨x, hx⟩ : ∃ x, cs[i]? = some x := ⟨_, List.getElem?_eq_getElem (by omega)⟩
    by_cases h : x.2.1 = part
    · by_cases hz : p = 0
      · subst hz
        left
        exact ⟨i, x, ⟨hx, h, by omega⟩, toF_hit hx h⟩
      · rw [toF_in hx h hz]
        refine ih (i + 1) (p - 1) (by omega) (by omega) ?_
        have : (outsS (cs.take (i + 1)) part).length = (outsS (cs.take i) part).length + 1 := by
          unfold outsS; rw [take_step hx, List.filter_append]; simp [h]
        rw [this]; push_cast; omega
    · rw [toF_out hx h]
      refine ih (i + 1) p (by omega) hp ?_
      have : (outsS (cs.take (i + 1)) part).length = (outsS (cs.take i) part).length := by
        unfold outsS; rw [take_step hx, List.filter_append]; simp [h]
      rw [this]; exact he
theorem toS_cases (cs : List Ch) (part port : Int) : (∃ j c, toP cs part port j c ∧ toS cs part port = (c.2.2.1, (((insS (cs.take j) c.2.2.1).length : Nat) : Int), true)) ∨ (¬ (0 ≤ port ∧ port < (outsS cs part).length) ∧ toS cs part port = (0, 0, false)) := by
  unfold toS
  by_cases h : port < 0
  · rw [if_pos h]; exact .inr ⟨by omega, rfl⟩
  · rw [if_neg h]
    rcases toF_cases cs part port cs.length 0 port (by omega) (by omega) (by simp [outsS]) with ⟨j, c, h1, h2⟩ | ⟨h1, h2⟩
    · exact .inl ⟨j, c, h1, by simpa using h2⟩
    · exact .inr ⟨by omega, by simpa using h2⟩
def RtWf (x : Int × Int) : Prop := (Lit.int .i64 x.1).wf = true ∧ (Lit.int .i64 x.2).wf = true
theorem rt_plain (x : Int × Int) (h : RtWf x) : Plain Try.prog 32 #[.int .i64 x.1, .int .i64 x.2] [.int .i64 x.1, .int .i64 x.2] := by
  refine ⟨by kernel_rfl, 5, ?_⟩
  have h1 : Try.prog.cellsOf 32 = 2 := by kernel_rfl
  have h3 : Try.prog.cellsOf 3 = 1 := by kernel_rfl
  simp [Program.keyLits, Try.underlying32, Try.underlying3, h1, h3, h.1, h.2]
theorem eql_rt (x y : Int × Int) (hx : RtWf x) (hy : RtWf y) (b : Bool) (hb : b = true ↔ x = y) :
    ∀ w, (Op.equalIn 10000 32 (.agg #[.int .i64 x.1, .int .i64 x.2]) (.agg #[.int .i64 y.1, .int .i64 y.2])).run Try.prog w = .ok b w := by
  refine run_eql_plain (m := 5) (by omega) (by kernel_rfl) (by kernel_rfl) (rt_plain x hx) (rt_plain y hy) b ?_
  rw [hb]
  obtain ⟨t, p⟩ := x
  obtain ⟨s, q⟩ := y
  simp
theorem wf_of {n : Int} (h : -9223372036854775808 ≤ n ∧ n ≤ 9223372036854775807) : (Lit.int .i64 n).wf = true := by
  simpa [Lit.wf, IntKind.min, IntKind.max, IntKind.bits, IntKind.signed] using h
theorem to_wf {cs : List Ch} (hw : ∀ x ∈ cs, ChWf x) (hl : cs.length ≤ 9223372036854775807) (part port : Int) : RtWf ((toS cs part port).1, (toS cs part port).2.1) := by
  rcases toS_cases cs part port with ⟨j, c, h1, h2⟩ | ⟨_, h2⟩
  · rw [h2]
    refine ⟨(hw c (List.mem_of_getElem? h1.1)).2.2.1, wf_of ?_⟩
    have := insS_le (cs.take j) c.2.2.1
    rw [List.length_take] at this
    dsimp only
    omega
  · rw [h2]; exact ⟨wf_of (by simp), wf_of (by simp)⟩
theorem few_false {a b : Nat} (h : ¬ (a ≤ 50 ∧ b ≤ 50)) : (decide (a ≤ 50) && decide (b ≤ 50)) = false := by
  rw [Bool.and_eq_false_iff]
  by_cases h1 : a ≤ 50
  · exact .inr (decide_eq_false fun h2 => h ⟨h1, h2⟩)
  · exact .inl (decide_eq_false h1)

set_option maxRecDepth 100000 in
set_option maxHeartbeats 4000000 in
theorem routeOwn_walk (pa : Option Addr) (np pc : Nat) (fr : Int) (wa : Option Addr) (wn wc : Nat) (cv : Value) (cs : List Ch) (x0 x1 x2 x3 : Int) (w : World) (hv : Sl w true 5 cv (chs cs)) (hw : ∀ x ∈ cs, ChWf x) (hby : cs.length * 40 ≤ 140737488355328)
    (h1 : (Lit.int .i64 x1).wf = true) (h3 : (Lit.int .i64 x3).wf = true) :
    Calls Try.prog 3 #[.agg #[.slice pa np pc, .int .i64 fr, .slice wa wn wc, cv, .int .i64 x0, .int .i64 x1, .int .i64 x2, .int .i64 x3]] w fun e w' => e = .returned (.bool true) ∧ Below w.heap.size w w' := by
  have HV := Lib.hid hv
  have HF := Lib.hid (fun W h => few_any pa np pc fr (.slice wa wn wc) cv cs W h)
  have HT1 := Lib.hid (fun W h => to_any pa np pc fr (.slice wa wn wc) cv cs x0 x1 W h h1 hby)
  have HT2 := Lib.hid (fun W h => to_any pa np pc fr (.slice wa wn wc) cv cs x2 x3 W h h3 hby)
  have hwf1 := to_wf hw (by omega) x0 x1
  have hwf2 := to_wf hw (by omega) x2 x3
  have hc1 := toS_cases cs x0 x1
  have hc2 := toS_cases cs x2 x3
  have HAP := Lib.hid (fun c d x y hc hd e1 e2 => to_apart (cs := cs) (a := x0) (i := x1) (b := x2) (k := x3) (x := x) (y := y) (c := c) (d := d) hc hd e1 e2)
  obtain ⟨a, cap, rfl, hl⟩ := hv.shape
  rw [chs_len] at hl HV HF HT1 HT2 ⊢
  obtain ⟨r1, r2, r3, he1⟩ : ∃ r1 r2 r3, toS cs x0 x1 = (r1, r2, r3) := ⟨_, _, _, rfl⟩
  obtain ⟨s1, s2, s3, he2⟩ : ∃ s1 s2 s3, toS cs x2 x3 = (s1, s2, s3) := ⟨_, _, _, rfl⟩
  rw [he1] at HT1 hwf1 hc1
  rw [he2] at HT2 hwf2 hc2
  dsimp only at HT1 HT2 hwf1 hwf2
  have HC1 := Lib.hid hc1
  have HC2 := Lib.hid hc2
  have heq := eql_rt (r1, r2) (s1, s2) hwf1 hwf2 (decide ((r1, r2) = (s1, s2))) (by simp)
  have HEQ := Lib.hid heq
  clear hv hw h1 h3 hwf1 hwf2 hc1 hc2 he1 he2 heq
  go_enter Try.func3, Try.ntmps3
  ((go_wp2_with fail); (with_reducible refine (shown_any _).mono ?_); (rintro e w1 ⟨rfl, hb1⟩); (have hz1 := hb1.size); (try simp only [World.size_alloc, World.size_setCell] at hz1))
  (have b1 : Box w1 (w.heap.size + 1) #[.slice pa np pc, .int .i64 fr, .slice wa wn wc, .slice a cs.length cap] 26 := (by (try have k1 := (Lib.hid True.intro).out); ((apply Box.cast); (repeat (first | with_reducible assumption | ((with_reducible apply Box.new1); (first | with_reducible rfl | rfl | (solve | simp))) | with_reducible apply Box.drewN | with_reducible apply Box.drew | with_reducible apply Box.set | with_reducible apply Box.other | with_reducible apply Box.alloc | (with_reducible apply Box.below; rotate_left; with_reducible assumption; rotate_right) | with_reducible rfl | omega | (dsimp only; omega) | (simp only [drew_heap', drewN_heap', World.size_alloc, World.size_setCell]; omega) | rfl | (solve | simp) | (solve | (simp; omega))))))); (obtain ⟨hc1, hf1, hl1, hn1, hm1⟩ := b1.rules); (have K1 := Lib.hid b1); (clear b1)
  have hbw1 : Below w.heap.size w w1 := by (repeat (first | with_reducible assumption | with_reducible exact Below.refl _ _ | with_reducible refine Below.setCell ?_ ?_ _ | with_reducible refine Below.alloc ?_ ?_ _ | with_reducible refine below_drewN' ?_ _ | with_reducible refine Below.drew ?_ | with_reducible refine Below.trans ?_ (Below.mono (by assumption) ?_) | omega | (dsimp only; omega) | (simp only [drew_heap', drewN_heap', World.size_alloc, World.size_setCell]; omega) | (solve | simp) | (solve | (simp; omega))))
  clear hb1
  go_wp2_with fail
  with_reducible refine (HF.out _ (HV.out.below hbw1)).mono ?_
  rintro e w2 ⟨rfl, hb2⟩
  ((have b2 := K1.out.below hb2 K1.out.lt); (obtain ⟨hc2, hf2, hl2, hn2, hm2⟩ := b2.rules); (have K2 := Lib.hid b2); (clear b2))
  have hbw2 : Below w.heap.size w w2 := hbw1.trans (hb2.mono hbw1.size)
  have hz2 := hbw2.size
  clear hb2 K1 hc1 hf1 hl1 hn1 hm1
  by_cases hfew : cs.length ≤ 50 ∧ np ≤ 50
  rotate_left
  · rw [few_false hfew]
    clear hfew
    go_wp2_with fail
    go_ret
    exact ⟨by simp, hbw2⟩
  rw [show (decide (cs.length ≤ 50) && decide (np ≤ 50)) = true by simp [hfew.1, hfew.2]]
  clear hfew
  by_cases hsame : x0 = x2 ∧ x1 = x3
  · obtain ⟨rfl, rfl⟩ := hsame
    go_wp2_with fail
    go_ret
    exact ⟨by simp, hbw2⟩
  have HNS := Lib.hid hsame
  have hdec : (x0 == x2) = false ∨ ((x0 == x2) = true ∧ (x1 == x3) = false) := by
    by_cases h : x0 = x2
    · exact .inr ⟨by simpa using h, by simpa using fun h' => hsame ⟨h, h'⟩⟩
    · exact .inl (by simpa using h)
  clear hsame
  rcases hdec with hd1 | ⟨hd1, hd2⟩
  all_goals
    go_wp2_with fail
    with_reducible refine (HT1.out _ (HV.out.below hbw2)).mono ?_
    rintro e w3 ⟨rfl, hb3⟩
    ((have b3 := K2.out.below hb3 K2.out.lt); (obtain ⟨hc3, hf3, hl3, hn3, hm3⟩ := b3.rules); (have K3 := Lib.hid b3); (clear b3))
    have hbw3 : Below w.heap.size w w3 := hbw2.trans (hb3.mono hz2)
    have hz3 := hbw3.size
    clear hb3 hc2 hf2 hl2 hn2 hm2
    go_wp2_with fail
    have hbA : Below w3.heap.size w3 (w3.alloc (.cells #[.int .i64 r1, .int .i64 r2] 32)) := (Below.refl _ _).alloc (Nat.le_refl _) _
    have X3 := Lib.hid (Box.new w3 #[.int .i64 r1, .int .i64 r2] 32)
    with_reducible refine (HT2.out _ (HV.out.below (hbw3.trans (hbA.mono hz3)))).mono ?_
    rintro e w4 ⟨rfl, hb4⟩
    have hbA4 : Below w3.heap.size w3 w4 := hbA.trans (hb4.mono hbA.size)
    ((have b4 := X3.out.below hb4 X3.out.lt); (obtain ⟨hc4, hf4, hl4, hn4, hm4⟩ := b4.rules); (have K4 := Lib.hid b4); (clear b4))
    have hbw4 : Below w.heap.size w w4 := hbw3.trans (hbA4.mono hz3)
    have hz4 := hbw4.size
    clear hb4 hbA hbA4 hc3 hf3 hl3 hn3 hm3
    have H9 : Hid (r3 = false ∨ (r3 = true ∧ s3 = false) ∨ (r3 = true ∧ s3 = true ∧ decide ((r1, r2) = (s1, s2)) = false)) := Lib.hid (by
      rcases HC1.out with ⟨i, c, hp1, e1⟩ | ⟨_, e1⟩
      · rcases HC2.out with ⟨j, d, hp2, e2⟩ | ⟨_, e2⟩
        · simp only [Prod.mk.injEq] at e1 e2
          refine .inr (.inr ⟨e1.2.2, e2.2.2, decide_eq_false fun h => ?_⟩)
          simp only [Prod.mk.injEq] at h
          refine HNS.out (HAP.out c d i j hp1 hp2 ?_ ?_)
          · rw [← e1.1, ← e2.1]; exact h.1
          · have := h.2; rw [e1.2.1, e2.2.1] at this; omega
        · simp only [Prod.mk.injEq] at e1 e2
          exact .inr (.inl ⟨e1.2.2, e2.2.2⟩)
      · simp only [Prod.mk.injEq] at e1
        exact .inl e1.2.2)
    rcases H9.out with rfl | ⟨rfl, rfl⟩ | ⟨rfl, rfl, hne⟩
    · go_wp2_with fail
      go_ret
      exact ⟨by simp, by (repeat (first | with_reducible assumption | with_reducible exact Below.refl _ _ | with_reducible refine Below.setCell ?_ ?_ _ | with_reducible refine Below.alloc ?_ ?_ _ | with_reducible refine below_drewN' ?_ _ | with_reducible refine Below.drew ?_ | with_reducible refine Below.trans ?_ (Below.mono (by assumption) ?_) | omega | (dsimp only; omega) | (simp only [drew_heap', drewN_heap', World.size_alloc, World.size_setCell]; omega) | (solve | simp) | (solve | (simp; omega))))⟩
    · go_wp2_with fail
      go_ret
      exact ⟨by simp, by (repeat (first | with_reducible assumption | with_reducible exact Below.refl _ _ | with_reducible refine Below.setCell ?_ ?_ _ | with_reducible refine Below.alloc ?_ ?_ _ | with_reducible refine below_drewN' ?_ _ | with_reducible refine Below.drew ?_ | with_reducible refine Below.trans ?_ (Below.mono (by assumption) ?_) | omega | (dsimp only; omega) | (simp only [drew_heap', drewN_heap', World.size_alloc, World.size_setCell]; omega) | (solve | simp) | (solve | (simp; omega))))⟩
    · have heq := HEQ.out
      rw [hne] at heq
      clear hne
      go_wp2_with fail
      go_ret
      exact ⟨by simp, by (repeat (first | with_reducible assumption | with_reducible exact Below.refl _ _ | with_reducible refine Below.setCell ?_ ?_ _ | with_reducible refine Below.alloc ?_ ?_ _ | with_reducible refine below_drewN' ?_ _ | with_reducible refine Below.drew ?_ | with_reducible refine Below.trans ?_ (Below.mono (by assumption) ?_) | omega | (dsimp only; omega) | (simp only [drew_heap', drewN_heap', World.size_alloc, World.size_setCell]; omega) | (solve | simp) | (solve | (simp; omega))))⟩
end Go.Proofs.Ytmcaeahjnhkbcaa
