/- The law CallTells: its walk; the table 'kinds' is a hypothesis. Conditions: arguments within their kinds. -/
import Derived.Test.YtmffbhlbikjmaaaDoorDoorLaws
namespace Go.Proofs.YtmffbhlbikjmaaaDoor
open Go Go.RowKit Go.Tm
set_option linter.unusedVariables false
set_option linter.unusedSimpArgs false

theorem cpu_plain (a b c d e f g h pc : Int) (ha : (Lit.int .u32 a).wf = true) (hb : (Lit.int .u32 b).wf = true) (hc : (Lit.int .u32 c).wf = true) (hd : (Lit.int .u32 d).wf = true) (he : (Lit.int .u32 e).wf = true) (hf : (Lit.int .u32 f).wf = true) (hg : (Lit.int .u32 g).wf = true) (hh : (Lit.int .u32 h).wf = true) (hpc : (Lit.int .u32 pc).wf = true) :
    Plain Tryd.prog 29 #[.int .u32 a, .int .u32 b, .int .u32 c, .int .u32 d, .int .u32 e, .int .u32 f, .int .u32 g, .int .u32 h, .int .u32 pc] [.int .u32 a, .int .u32 b, .int .u32 c, .int .u32 d, .int .u32 e, .int .u32 f, .int .u32 g, .int .u32 h, .int .u32 pc] := by
  refine ⟨by kernel_rfl, 5, ?_⟩
  have h1 : Tryd.prog.cellsOf 29 = 9 := by kernel_rfl
  have h2 : Tryd.prog.cellsOf 27 = 8 := by kernel_rfl
  have h3 : Tryd.prog.cellsOf 22 = 1 := by kernel_rfl
  simp [Program.keyLits, Tryd.underlying29, Tryd.underlying27, Tryd.underlying22, h1, h2, h3, List.range_succ, ha, hb, hc, hd, he, hf, hg, hh, hpc]
theorem valV_wf (k v : Int) (hv : (Lit.int .u32 v).wf = true) : (Lit.int .u32 (valV k v)).wf = true := by
  unfold valV
  split
  · exact hv
  · simp [Lit.wf, IntKind.min, IntKind.max, IntKind.bits, IntKind.signed]
    omega

set_option maxRecDepth 100000 in
set_option maxHeartbeats 8000000 in
theorem callTells_walk (a b c d e f g h pc : Int) (xa xb xc xd : Int) (k v : Int) (w : World) (hT : Tabbed w)
    (ha : (Lit.int .u32 a).wf = true) (hb : (Lit.int .u32 b).wf = true) (hc : (Lit.int .u32 c).wf = true) (hd : (Lit.int .u32 d).wf = true) (he : (Lit.int .u32 e).wf = true) (hf : (Lit.int .u32 f).wf = true) (hg : (Lit.int .u32 g).wf = true) (hh : (Lit.int .u32 h).wf = true) (hpc : (Lit.int .u32 pc).wf = true)
    (wa : (Lit.int .u32 xa).wf = true) (wb : (Lit.int .u32 xb).wf = true) (wc : (Lit.int .u32 xc).wf = true) (wd : (Lit.int .u32 xd).wf = true) (wv : (Lit.int .u32 v).wf = true) :
    Calls Tryd.prog 4 #[.agg #[.int .u32 a, .int .u32 b, .int .u32 c, .int .u32 d, .int .u32 e, .int .u32 f, .int .u32 g, .int .u32 h, .int .u32 pc, .int .u32 xa, .int .u32 xb, .int .u32 xc, .int .u32 xd, .int .i64 k, .int .u32 v]] w fun en w' => en = .returned (.bool true) ∧ Below w.heap.size w w' := by
  have hv := u32_range wv
  have HF := Lib.hid (fun W => failed_any v W hv.1 (by omega))
  have HF2 := Lib.hid (fun W => refFailed_any v W hv.1 (by omega))
  have heq := eql_call a b c d a b c d ha hb hc hd ha hb hc hd true (by simp)
  have hp := cpu_plain (valV k v) b c d e f g h pc (valV_wf k v wv) hb hc hd he hf hg hh hpc
  have heq2 := run_eql_plain (P := Tryd.prog) (t := 29) (m := 5) (by omega) (by kernel_rfl) (by kernel_rfl) hp hp true (by simp)
  have HK := Lib.hid (fun W (h : Tabbed W) => known_any xa xb xc xd W h wa wb wc wd)
  have HK2 := Lib.hid (fun W => refKnown_any xa xb xc xd W)
  have HB := Lib.hid (fun W (h : Tabbed W) => blocks_any xa xb xc xd W h (u32_range wa).1)
  have HB2 := Lib.hid (fun W => refBlocks_any xa xb xc xd W)
  have HV := Lib.hid (fun W => value_any k v W)
  have HV2 := Lib.hid (fun W => refValue_any k v W)
  have HC := Lib.hid (fun W => back_any a b c d e f g h pc k v W)
  have HC2 := Lib.hid (fun W => refBack_any a b c d e f g h pc k v W)
  have HT := Lib.hid hT
  clear hp hv ha hb hc hd he hf hg hh hpc wa wb wc wd wv hT
  generalize valV k v = r at *
  generalize failV v = fv at *
  generalize decide (4294967282 ≤ v) = fb at *
  generalize knownB xa = kb at *
  generalize blocksB xa = bb at *
  have e1 : (r == r) = true := by simp
  have e2 : (fv == fv) = true := by simp
  have e3 : (fb == fb) = true := by simp
  have e4 : (kb == kb) = true := by simp
  have e5 : (bb == bb) = true := by simp
  go_enter Tryd.func4, Tryd.ntmps4
  ((go_wp2_with fail); (with_reducible refine (shown_any _).mono ?_); (rintro e w1 ⟨rfl, hb1⟩); (have hz1 := hb1.size); (try simp only [World.size_alloc, World.size_setCell] at hz1))
  ((go_wp2_with fail); (with_reducible refine (HF.out _).mono ?_); (rintro e w2 ⟨rfl, hb2⟩); (have hz2 := hb2.size); (try simp only [World.size_alloc, World.size_setCell] at hz2))
  ((go_wp2_with fail); (with_reducible refine (HF2.out _).mono ?_); (rintro e w3 ⟨rfl, hb3⟩); (have hz3 := hb3.size); (try simp only [World.size_alloc, World.size_setCell] at hz3))
  (have b1 : Box w1 (w.heap.size + 1) #[.int .u32 a, .int .u32 b, .int .u32 c, .int .u32 d, .int .u32 e, .int .u32 f, .int .u32 g, .int .u32 h, .int .u32 pc] 29 := (by (try have k1 := (Lib.hid True.intro).out); ((apply Box.cast); (repeat (first | with_reducible assumption | ((with_reducible apply Box.new1); (first | with_reducible rfl | rfl | (solve | simp))) | with_reducible apply Box.drewN | with_reducible apply Box.drew | with_reducible apply Box.set | with_reducible apply Box.other | with_reducible apply Box.alloc | (with_reducible apply Box.below; rotate_left; with_reducible assumption; rotate_right) | with_reducible rfl | omega | (dsimp only; omega) | (simp only [drew_heap', drewN_heap', World.size_alloc, World.size_setCell]; omega) | rfl | (solve | simp) | (solve | (simp; omega))))))); (obtain ⟨hc1, hf1, hl1, hn1, hm1⟩ := b1.rules); (have K1 := Lib.hid b1); (clear b1)
  (have b2 : Box w1 (w.heap.size + 1 + 1) #[.int .u32 xa, .int .u32 xb, .int .u32 xc, .int .u32 xd] 24 := (by (try have k2 := (Lib.hid True.intro).out); ((apply Box.cast); (repeat (first | with_reducible assumption | ((with_reducible apply Box.new1); (first | with_reducible rfl | rfl | (solve | simp))) | with_reducible apply Box.drewN | with_reducible apply Box.drew | with_reducible apply Box.set | with_reducible apply Box.other | with_reducible apply Box.alloc | (with_reducible apply Box.below; rotate_left; with_reducible assumption; rotate_right) | with_reducible rfl | omega | (dsimp only; omega) | (simp only [drew_heap', drewN_heap', World.size_alloc, World.size_setCell]; omega) | rfl | (solve | simp) | (solve | (simp; omega))))))); (obtain ⟨hc2, hf2, hl2, hn2, hm2⟩ := b2.rules); (have K2 := Lib.hid b2); (clear b2)
  have HB13 := Lib.hid (Box.below (Box.below K1.out hb2 hl1) hb3 (by omega))
  have HB23 := Lib.hid (Box.below (Box.below K2.out hb2 hl2) hb3 (by omega))
  have hx1 : Below w.heap.size w w1 := by (repeat (first | with_reducible assumption | with_reducible exact Below.refl _ _ | with_reducible refine Below.setCell ?_ ?_ _ | with_reducible refine Below.alloc ?_ ?_ _ | with_reducible refine below_drewN' ?_ _ | with_reducible refine Below.drew ?_ | with_reducible refine Below.trans ?_ (Below.mono (by assumption) ?_) | omega | (dsimp only; omega) | (simp only [drew_heap', drewN_heap', World.size_alloc, World.size_setCell]; omega) | (solve | simp) | (solve | (simp; omega))))
  have hx3 : Below w.heap.size w w3 := (hx1.trans (hb2.mono hx1.size)).trans (hb3.mono (hx1.trans (hb2.mono hx1.size)).size)
  have HT3 := Lib.hid (HT.out.below hx3)
  clear hc1 hf1 hl1 hn1 hm1 hc2 hf2 hl2 hn2 hm2 hb1 hb2 hb3
  have cF : ∀ dd os, Calls Tryd.prog 10 #[.agg #[.int .u32 a, .int .u32 b, .int .u32 c, .int .u32 d, .int .u32 e, .int .u32 f, .int .u32 g, .int .u32 h, .int .u32 pc]] (Go.Sort.grow (redrawn w3 dd) os) fun en w'' => en = .returned (.agg #[.int .u32 a, .int .u32 b, .int .u32 c, .int .u32 d]) ∧ ∃ p : Regrown, w'' = Go.Sort.grow (redrawn w3 p.d) p.os := fun dd os => Calls.regrown_of (from_any a b c d e f g h pc _)
  replace cF := Lib.hid cF
  have cF2 : ∀ dd os, Calls Tryd.prog 11 #[.agg #[.int .u32 a, .int .u32 b, .int .u32 c, .int .u32 d, .int .u32 e, .int .u32 f, .int .u32 g, .int .u32 h, .int .u32 pc]] (Go.Sort.grow (redrawn w3 dd) os) fun en w'' => en = .returned (.agg #[.int .u32 a, .int .u32 b, .int .u32 c, .int .u32 d]) ∧ ∃ p : Regrown, w'' = Go.Sort.grow (redrawn w3 p.d) p.os := fun dd os => Calls.regrown_of (refFrom_any a b c d e f g h pc _)
  replace cF2 := Lib.hid cF2
  have cK : ∀ dd os, Calls Tryd.prog 7 #[.agg #[.int .u32 xa, .int .u32 xb, .int .u32 xc, .int .u32 xd]] (Go.Sort.grow (redrawn w3 dd) os) fun en w'' => en = .returned (.bool kb) ∧ ∃ p : Regrown, w'' = Go.Sort.grow (redrawn w3 p.d) p.os := fun dd os => Calls.regrown_of (HK.out _ (HT3.out.below (below_regrown w3 dd os)))
  replace cK := Lib.hid cK
  have cK2 : ∀ dd os, Calls Tryd.prog 12 #[.agg #[.int .u32 xa, .int .u32 xb, .int .u32 xc, .int .u32 xd]] (Go.Sort.grow (redrawn w3 dd) os) fun en w'' => en = .returned (.bool kb) ∧ ∃ p : Regrown, w'' = Go.Sort.grow (redrawn w3 p.d) p.os := fun dd os => Calls.regrown_of (HK2.out _)
  replace cK2 := Lib.hid cK2
  have cB : ∀ dd os, Calls Tryd.prog 6 #[.agg #[.int .u32 xa, .int .u32 xb, .int .u32 xc, .int .u32 xd]] (Go.Sort.grow (redrawn w3 dd) os) fun en w'' => en = .returned (.bool bb) ∧ ∃ p : Regrown, w'' = Go.Sort.grow (redrawn w3 p.d) p.os := fun dd os => Calls.regrown_of (HB.out _ (HT3.out.below (below_regrown w3 dd os)))
  replace cB := Lib.hid cB
  have cB2 : ∀ dd os, Calls Tryd.prog 13 #[.agg #[.int .u32 xa, .int .u32 xb, .int .u32 xc, .int .u32 xd]] (Go.Sort.grow (redrawn w3 dd) os) fun en w'' => en = .returned (.bool bb) ∧ ∃ p : Regrown, w'' = Go.Sort.grow (redrawn w3 p.d) p.os := fun dd os => Calls.regrown_of (HB2.out _)
  replace cB2 := Lib.hid cB2
  have cV : ∀ dd os, Calls Tryd.prog 14 #[.int .i64 k, .int .u32 v] (Go.Sort.grow (redrawn w3 dd) os) fun en w'' => en = .returned (.int .u32 r) ∧ ∃ p : Regrown, w'' = Go.Sort.grow (redrawn w3 p.d) p.os := fun dd os => Calls.regrown_of (HV.out _)
  replace cV := Lib.hid cV
  have cV2 : ∀ dd os, Calls Tryd.prog 15 #[.int .i64 k, .int .u32 v] (Go.Sort.grow (redrawn w3 dd) os) fun en w'' => en = .returned (.int .u32 r) ∧ ∃ p : Regrown, w'' = Go.Sort.grow (redrawn w3 p.d) p.os := fun dd os => Calls.regrown_of (HV2.out _)
  replace cV2 := Lib.hid cV2
  have cC : ∀ dd os, Calls Tryd.prog 16 #[.agg #[.int .u32 a, .int .u32 b, .int .u32 c, .int .u32 d, .int .u32 e, .int .u32 f, .int .u32 g, .int .u32 h, .int .u32 pc], .int .i64 k, .int .u32 v] (Go.Sort.grow (redrawn w3 dd) os) fun en w'' => en = .returned (.agg #[.int .u32 r, .int .u32 b, .int .u32 c, .int .u32 d, .int .u32 e, .int .u32 f, .int .u32 g, .int .u32 h, .int .u32 pc]) ∧ ∃ p : Regrown, w'' = Go.Sort.grow (redrawn w3 p.d) p.os := fun dd os => Calls.regrown_of (HC.out _)
  replace cC := Lib.hid cC
  have cC2 : ∀ dd os, Calls Tryd.prog 17 #[.agg #[.int .u32 a, .int .u32 b, .int .u32 c, .int .u32 d, .int .u32 e, .int .u32 f, .int .u32 g, .int .u32 h, .int .u32 pc], .int .i64 k, .int .u32 v] (Go.Sort.grow (redrawn w3 dd) os) fun en w'' => en = .returned (.agg #[.int .u32 r, .int .u32 b, .int .u32 c, .int .u32 d, .int .u32 e, .int .u32 f, .int .u32 g, .int .u32 h, .int .u32 pc]) ∧ ∃ p : Regrown, w'' = Go.Sort.grow (redrawn w3 p.d) p.os := fun dd os => Calls.regrown_of (HC2.out _)
  replace cC2 := Lib.hid cC2
  have k1 := HB13.out.regrown
  have k2 := HB23.out.regrown
  go_wp2_with fail
  ((refine wp_region_quiet_below (by kernel_rfl) (by kernel_rfl) ?_); (repeat (go_big_quiet_step ((first | (go_at_call 10; exact cF.out _ _) | (go_at_call 11; exact cF2.out _ _) | (go_at_call 7; exact cK.out _ _) | (go_at_call 12; exact cK2.out _ _) | (go_at_call 6; exact cB.out _ _) | (go_at_call 13; exact cB2.out _ _) | (go_at_call 14; exact cV.out _ _) | (go_at_call 15; exact cV2.out _ _) | (go_at_call 16; exact cC.out _ _) | (go_at_call 17; exact cC2.out _ _))))); (refine wpQuiet_nil ?_); (intro _ hw'); (obtain ⟨⟨dq, osq⟩, hw''⟩ := hw'); (subst hw''); (have hb7 := below_regrown w3 dq osq); (generalize Go.Sort.grow (redrawn w3 dq) osq = w7 at *); (have hz7 := hb7.size))
  clear k1 k2
  go_wp2_with fail
  go_ret
  exact ⟨rfl, hx3.trans (hb7.mono hx3.size)⟩
end Go.Proofs.YtmffbhlbikjmaaaDoor
