/- The law RouteJoins: its walk. Conditions: what came in is shaped. -/
import Derived.Test.YtmcaeahjnhkbcaaRouteOwn
namespace Go.Proofs.Ytmcaeahjnhkbcaa
open Go Go.RowKit Go.Tm
set_option linter.unusedVariables false
set_option linter.unusedSimpArgs false

theorem ch_plain (x : Ch) (h : ChWf x) : Plain Try.prog 40 #[.int .i64 x.1, .int .i64 x.2.1, .int .i64 x.2.2.1, .int .i64 x.2.2.2.1, .int .i64 x.2.2.2.2] [.int .i64 x.1, .int .i64 x.2.1, .int .i64 x.2.2.1, .int .i64 x.2.2.2.1, .int .i64 x.2.2.2.2] := by
  refine ⟨by kernel_rfl, 5, ?_⟩
  have h1 : Try.prog.cellsOf 40 = 5 := by kernel_rfl
  have h3 : Try.prog.cellsOf 3 = 1 := by kernel_rfl
  obtain ⟨g0, g1, g2, g3, g4⟩ := h
  simp [Program.keyLits, Try.underlying40, Try.underlying3, h1, h3, g0, g1, g2, g3, g4]
theorem eql_ch (x : Ch) (hx : ChWf x) :
    ∀ w, (Op.equalIn 10000 40 (.agg #[.int .i64 x.1, .int .i64 x.2.1, .int .i64 x.2.2.1, .int .i64 x.2.2.2.1, .int .i64 x.2.2.2.2]) (.agg #[.int .i64 x.1, .int .i64 x.2.1, .int .i64 x.2.2.1, .int .i64 x.2.2.2.1, .int .i64 x.2.2.2.2])).run Try.prog w = .ok true w :=
  run_eql_plain (m := 5) (by omega) (by kernel_rfl) (by kernel_rfl) (ch_plain x hx) (ch_plain x hx) true (by simp)

set_option maxRecDepth 100000 in
set_option maxHeartbeats 4000000 in
theorem routeJoins_walk (pa : Option Addr) (np pc : Nat) (fr : Int) (wa : Option Addr) (wn wc : Nat) (cv : Value) (cs : List Ch) (part port : Int) (w : World) (hv : Sl w true 5 cv (chs cs)) (hw : ∀ x ∈ cs, ChWf x) (hby : cs.length * 40 ≤ 140737488355328)
    (hp : (Lit.int .i64 port).wf = true) :
    Calls Try.prog 6 #[.agg #[.slice pa np pc, .int .i64 fr, .slice wa wn wc, cv], .int .i64 part, .int .i64 port] w fun e w' => e = .returned (.bool true) ∧ Below w.heap.size w w' := by
  have HV := Lib.hid hv
  have HF := Lib.hid (fun W h => few_any pa np pc fr (.slice wa wn wc) cv cs W h)
  have HT := Lib.hid (fun W h => to_any pa np pc fr (.slice wa wn wc) cv cs part port W h hp hby)
  have HO := Lib.hid (fun W h => outs_any pa np pc fr (.slice wa wn wc) cv cs part W h hby)
  have HIN := Lib.hid (fun a W h => ins_any pa np pc fr (.slice wa wn wc) cv cs a W h hby)
  have hc := toS_cases cs part port
  have HW := Lib.hid hw
  have hol := outsS_le cs part
  obtain ⟨a, cap, rfl, hl⟩ := hv.shape
  rw [chs_len] at hl HV HF HT HO HIN ⊢
  obtain ⟨r1, r2, r3, he⟩ : ∃ r1 r2 r3, toS cs part port = (r1, r2, r3) := ⟨_, _, _, rfl⟩
  rw [he] at HT hc
  dsimp only at HT
  have HC := Lib.hid hc
  clear hv hw hc he
  go_enter Try.func6, Try.ntmps6
  ((go_wp2_with fail); (with_reducible refine (shown_any _).mono ?_); (rintro e w1 ⟨rfl, hb1⟩); (have hz1 := hb1.size); (try simp only [World.size_alloc, World.size_setCell] at hz1))
  (have b1 : Box w1 w.heap.size #[.slice pa np pc, .int .i64 fr, .slice wa wn wc, .slice a cs.length cap] 26 := (by (try have k1 := (Lib.hid True.intro).out); ((apply Box.cast); (repeat (first | with_reducible assumption | ((with_reducible apply Box.new1); (first | with_reducible rfl | rfl | (solve | simp))) | with_reducible apply Box.drewN | with_reducible apply Box.drew | with_reducible apply Box.set | with_reducible apply Box.other | with_reducible apply Box.alloc | (with_reducible apply Box.below; rotate_left; with_reducible assumption; rotate_right) | with_reducible rfl | omega | (dsimp only; omega) | (simp only [drew_heap', drewN_heap', World.size_alloc, World.size_setCell]; omega) | rfl | (solve | simp) | (solve | (simp; omega))))))); (obtain ⟨hc1, hf1, hl1, hn1, hm1⟩ := b1.rules); (have K1 := Lib.hid b1); (clear b1)
  have hbw1 : Below w.heap.size w w1 := by (repeat (first | with_reducible assumption | with_reducible exact Below.refl _ _ | with_reducible refine Below.setCell ?_ ?_ _ | with_reducible refine Below.alloc ?_ ?_ _ | with_reducible refine below_drewN' ?_ _ | with_reducible refine Below.drew ?_ | with_reducible refine Below.trans ?_ (Below.mono (by assumption) ?_) | omega | (dsimp only; omega) | (simp only [drew_heap', drewN_heap', World.size_alloc, World.size_setCell]; omega) | (solve | simp) | (solve | (simp; omega))))
  clear hb1
  go_wp2_with fail
  with_reducible refine (HF.out _ (HV.out.below hbw1)).mono ?_
  rintro e w2 ⟨rfl, hb2⟩
  ((have b2 := K1.out.below hb2 K1.out.lt); (obtain ⟨hc2, hf2, hl2, hn2, hm2⟩ := b2.rules); (have K2 := Lib.hid b2); (clear b2))
  have hbw2 : Below w.heap.size w w2 := hbw1.trans (hb2.mono hbw1.size)
  have hz2 := hbw2.size
  clear hb2 K1 hc1 hf1 hl1 hn1 hm1
  by_cases hfew : cs.length ≤ 50 ∧ np ≤ 50
  rotate_left
  · rw [few_false hfew]
    clear hfew
    go_wp2_with fail
    go_ret
    exact ⟨by simp, hbw2⟩
  rw [show (decide (cs.length ≤ 50) && decide (np ≤ 50)) = true by simp [hfew.1, hfew.2]]
  obtain ⟨hc50, hn50⟩ := hfew
  go_wp2_with fail
  with_reducible refine (HO.out _ (HV.out.below hbw2)).mono ?_
  rintro e w3 ⟨v3, rfl, hs3, hb3⟩
  ((have b3 := K2.out.below hb3 K2.out.lt); (obtain ⟨hc3, hf3, hl3, hn3, hm3⟩ := b3.rules); (have K3 := Lib.hid b3); (clear b3))
  have hbw3 : Below w.heap.size w w3 := hbw2.trans (hb3.mono hz2)
  have hz3 := hbw3.size
  obtain ⟨a3, k3, hv3, _⟩ := hs3.shape
  rw [chs_len] at hv3
  subst hv3
  have HO3 := Lib.hid hs3
  clear hb3 hs3 hc2 hf2 hl2 hn2 hm2 K2
  go_wp2_with fail
  with_reducible refine (HT.out _ (HV.out.below hbw3)).mono ?_
  rintro e w4 ⟨rfl, hb4⟩
  ((have b4 := K3.out.below hb4 K3.out.lt); (obtain ⟨hc4, hf4, hl4, hn4, hm4⟩ := b4.rules); (have K4 := Lib.hid b4); (clear b4))
  have hbw4 : Below w.heap.size w w4 := hbw3.trans (hb4.mono hz3)
  have hz4 := hbw4.size
  have HO4 := Lib.hid (HO3.out.below hb4)
  clear hb4 hc3 hf3 hl3 hn3 hm3 K3 HO3
  rcases HC.out with ⟨i, c, htp, he⟩ | ⟨hno, he⟩
  · simp only [Prod.mk.injEq] at he
    obtain ⟨rfl, hr2, rfl⟩ := he
    have hin := toP_in htp
    have hout := toP_out htp
    have hat := in_at htp.1
    have hcm := HW.out c (List.mem_of_getElem? htp.1)
    have hlt := (List.getElem?_eq_some_iff.1 hat).1
    have heq := eql_ch c hcm
    obtain ⟨n, hn⟩ : ∃ n : Nat, (n : Int) = port := ⟨port.toNat, by omega⟩
    subst hn
    rw [Int.toNat_natCast] at hout
    generalize outsS cs part = lo at *
    have HI2 := Lib.hid (HIN.out c.2.2.1)
    have hil := insS_le (cs.take i) c.2.2.1
    have hil2 := insS_le cs c.2.2.1
    rw [List.length_take] at hil
    generalize insS cs c.2.2.1 = li at *
    generalize (insS (cs.take i) c.2.2.1).length = m at *
    subst hr2
    have HAT := Lib.hid hat
    have HOUT := Lib.hid hout
    have d1 : decide ((n : Int) < (lo.length : Int)) = true := decide_eq_true hin.2
    have d2 : decide ((m : Int) < (li.length : Int)) = true := decide_eq_true (by omega)
    have hnl : n < lo.length := by omega
    have d3 : decide (n < lo.length) = true := decide_eq_true (by omega)
    have d4 : decide (m < li.length) = true := decide_eq_true (by omega)
    clear hat hout htp hin hcm hil hil2 HC HIN HT HO HF
    go_wp2_with fail
    have hbA : Below w4.heap.size w4 (w4.alloc (.cells #[.int .i64 c.2.2.1, .int .i64 m] 32)) := (Below.refl _ _).alloc (Nat.le_refl _) _
    have X4 := Lib.hid (Box.new w4 #[.int .i64 c.2.2.1, .int .i64 m] 32)
    with_reducible refine (HI2.out _ (HV.out.below (hbw4.trans (hbA.mono hz4)))).mono ?_
    rintro e w5 ⟨v5, rfl, hs5, hb5⟩
    have hbA5 : Below w4.heap.size w4 w5 := hbA.trans (hb5.mono hbA.size)
    have hbw5 : Below w.heap.size w w5 := hbw4.trans (hbA5.mono hz4)
    have hz5 := hbw5.size
    obtain ⟨a5, k5, hv5, _⟩ := hs5.shape
    rw [chs_len] at hv5
    subst hv5
    obtain ⟨b5, o5, rfl, hbl5, e0, e1, e2, e3, e4⟩ := Sl.ch hs5 HAT.out
    obtain ⟨b6, o6, rfl, hbl6, g0, g1, g2, g3, g4⟩ := Sl.ch (HO4.out.below hbA5) HOUT.out
    ((have b5 := X4.out.below hb5 X4.out.lt); (obtain ⟨hc5, hf5, hl5, hn5, hm5⟩ := b5.rules); (have K5 := Lib.hid b5); (clear b5))
    clear hs5 hb5 hbA hbA5 hc4 hf4 hl4 hn4 hm4
    go_wp2_with fail
    have q0 := cell_rg e0 hbl5
    have q1 := cell_rg e1 hbl5
    have q2 := cell_rg e2 hbl5
    have q3 := cell_rg e3 hbl5
    have q4 := cell_rg e4 hbl5
    have q5 := cell_rg g0 hbl6
    have q6 := cell_rg g1 hbl6
    have q7 := cell_rg g2 hbl6
    have q8 := cell_rg g3 hbl6
    have q9 := cell_rg g4 hbl6
    have q10 := K5.out.regrown
    ((refine wp_region_quiet_below (by kernel_rfl) (by kernel_rfl) ?_); (repeat (go_big_quiet_step (fail))); (refine wpQuiet_nil ?_); (intro _ hw'); (obtain ⟨⟨dq, osq⟩, hw''⟩ := hw'); (subst hw''); (have hb9 := below_regrown w5 dq osq); (generalize Go.Sort.grow (redrawn w5 dq) osq = w9 at *); (have hz9 := hb9.size))
    clear q0 q1 q2 q3 q4 q5 q6 q7 q8 q9 q10
    go_wp2_with fail
    go_ret
    exact ⟨by simp, hbw5.trans (hb9.mono hz5)⟩
  · simp only [Prod.mk.injEq] at he
    obtain ⟨rfl, rfl, rfl⟩ := he
    have heq := eql_rt (0, 0) (0, 0) ⟨wf_of (by simp), wf_of (by simp)⟩ ⟨wf_of (by simp), wf_of (by simp)⟩ true (by simp)
    generalize (outsS cs part).length = lo at *
    have hdec : decide (0 ≤ port) = false ∨ (decide (0 ≤ port) = true ∧ decide (port < (lo : Int)) = false) := by
      by_cases h : 0 ≤ port
      · exact .inr ⟨decide_eq_true h, decide_eq_false (fun h' => hno ⟨h, h'⟩)⟩
      · exact .inl (decide_eq_false h)
    dsimp only at heq
    clear hno HC HIN HT HO HF
    rcases hdec with d0 | ⟨d0, d1⟩
    · go_wp2_with fail
      go_ret
      exact ⟨by simp, by (repeat (first | with_reducible assumption | with_reducible exact Below.refl _ _ | with_reducible refine Below.setCell ?_ ?_ _ | with_reducible refine Below.alloc ?_ ?_ _ | with_reducible refine below_drewN' ?_ _ | with_reducible refine Below.drew ?_ | with_reducible refine Below.trans ?_ (Below.mono (by assumption) ?_) | omega | (dsimp only; omega) | (simp only [drew_heap', drewN_heap', World.size_alloc, World.size_setCell]; omega) | (solve | simp) | (solve | (simp; omega))))⟩
    · go_wp2_with fail
      go_ret
      exact ⟨by simp, by (repeat (first | with_reducible assumption | with_reducible exact Below.refl _ _ | with_reducible refine Below.setCell ?_ ?_ _ | with_reducible refine Below.alloc ?_ ?_ _ | with_reducible refine below_drewN' ?_ _ | with_reducible refine Below.drew ?_ | with_reducible refine Below.trans ?_ (Below.mono (by assumption) ?_) | omega | (dsimp only; omega) | (simp only [drew_heap', drewN_heap', World.size_alloc, World.size_setCell]; omega) | (solve | simp) | (solve | (simp; omega))))⟩
end Go.Proofs.Ytmcaeahjnhkbcaa
