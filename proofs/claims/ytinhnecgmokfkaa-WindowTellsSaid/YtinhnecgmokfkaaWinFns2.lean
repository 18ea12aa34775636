/- window.Granted, At, Starts; the document's example. Conditions: what came in is shaped. -/
import Derived.Test.YtinhnecgmokfkaaWinPure
namespace Go.Proofs.Ytinhnecgmokfkaa
open Go Go.RowKit Go.Tm
set_option linter.unusedVariables false
set_option linter.unusedSimpArgs false
attribute [local go_sem] Oper.semAt_some

set_option maxHeartbeats 4000000 in
theorem granted_any (pv wv cv : Value) (p : Pln) (sched part t : Int) (w : World) (hp : PlanIs w pv wv cv p) (ht : 0 ≤ t) (ht2 : t ≤ 18446744073709551615) (hf : p.frame ≤ 9223372036854775807) :
    Calls Try.prog 14 #[planV pv wv cv p, .int .i64 sched, .int .i64 part, .int .u64 t] w fun e w' => e = .returned (.int .u64 (grantS p sched part t)) ∧ Below w.heap.size w w' := by
  have HP := Lib.hid hp
  have HFA := Lib.hid (fun W (h : PlanIs W pv wv cv p) => frame_any pv wv cv p sched part p.frame W h hf)
  have HFB := Lib.hid (fun W (h : PlanIs W pv wv cv p) => frame_any pv wv cv p sched part (cyc p.frame t) W h (by have := cyc_range ht hf; omega))
  have HCY := Lib.hid (fun W => cycle_any pv wv cv p t W ht hf)
  have hgp := grant_parts (p := p) (sched := sched) (part := part) ht
  have h3 := frameS_nonneg p sched part p.frame
  have h4 := frameS_whole p sched part
  have h5 := frameS_nonneg p sched part (cyc p.frame t)
  have h6 := frameS_le (p := p) (sched := sched) (part := part) (cyc_nonneg (f := p.frame) (t := t))
  have h7 := cyc_range ht hf
  have h8 := frm_pos p.frame
  have h9 : frm p.frame ≤ 9223372036854775807 := by unfold frm; split <;> omega
  unfold grantS
  have hfd : (if p.frame < 1 then (1 : Int) else p.frame) = frm p.frame := rfl
  obtain ⟨a1, k1, a2, k2, a3, k3, rfl, rfl, rfl, hl1, hl2, hl3⟩ := hp.shape
  generalize frameS p sched part p.frame = F at *
  generalize frameS p sched part (cyc p.frame t) = R at *
  generalize cyc p.frame t = cy at *
  have hq := Int.tdiv_eq_ediv_of_nonneg (b := frm p.frame) ht
  clear hp
  by_cases hfr : p.frame < 1
  · rw [if_pos hfr] at hfd
    rw [← hfd] at hgp hq h4 ⊢
    have hd1 : t / 1 = t := Int.ediv_one t
    rw [hd1] at hgp hq ⊢
    have hm : IntKind.u64.wrap (t * F) = t * F := u64_small (by omega) (by omega)
    have hs : IntKind.u64.wrap (t * F + R) = t * F + R := u64_small (by omega) (by omega)
    have hwF : IntKind.u64.wrap F = F := u64_small (by omega) (by omega)
    have hwR : IntKind.u64.wrap R = R := u64_small (by omega) (by omega)
    clear hfd h8 h9
    go_enter Try.func14, Try.ntmps14
    go_wp2_with fail
    have hbp := Box.new w (#[.slice a1 p.parts.length k1, .int .i64 p.frame, .slice a2 p.wins.length k2, .slice a3 p.chans.length k3] : Array Value) 26
    have hx0 : Below w.heap.size w (w.alloc (.cells #[.slice a1 p.parts.length k1, .int .i64 p.frame, .slice a2 p.wins.length k2, .slice a3 p.chans.length k3] 26)) := (Below.refl _ _).alloc (Nat.le_refl _) _
    generalize hW0 : w.alloc (.cells #[.slice a1 p.parts.length k1, .int .i64 p.frame, .slice a2 p.wins.length k2, .slice a3 p.chans.length k3] 26) = w0 at *
    clear hW0
    have k0 := hbp.regrown
    have hcA : ∀ dd os, Calls Try.prog 12 #[.agg #[.slice a1 p.parts.length k1, .int .i64 p.frame, .slice a2 p.wins.length k2, .slice a3 p.chans.length k3], .int .i64 sched, .int .i64 part, .int .i64 p.frame] (Go.Sort.grow (redrawn w0 dd) os) fun e w'' => e = .returned (.int .i64 F) ∧ ∃ p : Regrown, w'' = Go.Sort.grow (redrawn w0 p.d) p.os := fun dd os => Calls.regrown_of (HFA.out _ (HP.out.below (hx0.trans ((below_regrown w0 dd os).mono hx0.size))))
    have hcB : ∀ dd os, Calls Try.prog 12 #[.agg #[.slice a1 p.parts.length k1, .int .i64 p.frame, .slice a2 p.wins.length k2, .slice a3 p.chans.length k3], .int .i64 sched, .int .i64 part, .int .i64 cy] (Go.Sort.grow (redrawn w0 dd) os) fun e w'' => e = .returned (.int .i64 R) ∧ ∃ p : Regrown, w'' = Go.Sort.grow (redrawn w0 p.d) p.os := fun dd os => Calls.regrown_of (HFB.out _ (HP.out.below (hx0.trans ((below_regrown w0 dd os).mono hx0.size))))
    have hcC : ∀ dd os, Calls Try.prog 23 #[.agg #[.slice a1 p.parts.length k1, .int .i64 p.frame, .slice a2 p.wins.length k2, .slice a3 p.chans.length k3], .int .u64 t] (Go.Sort.grow (redrawn w0 dd) os) fun e w'' => e = .returned (.int .i64 cy) ∧ ∃ p : Regrown, w'' = Go.Sort.grow (redrawn w0 p.d) p.os := fun dd os => Calls.regrown_of (HCY.out _)
    have CA := Lib.hid hcA
    have CB := Lib.hid hcB
    have CC := Lib.hid hcC
    clear hcA hcB hcC
    ((refine wp_region_quiet_below (by kernel_rfl) (by kernel_rfl) ?_); (repeat (go_big_quiet_step ((first | (go_at_call 12; with_reducible first | exact CA.out _ _ | exact CB.out _ _) | (go_at_call 23; with_reducible exact CC.out _ _))))); (refine wpQuiet_nil ?_); (intro _ hw'); (obtain ⟨⟨dq, osq⟩, hw''⟩ := hw'); (subst hw''); (have hb7 := below_regrown w0 dq osq); (generalize Go.Sort.grow (redrawn w0 dq) osq = w7 at *); (have hz7 := hb7.size))
    clear k0
    go_wp2_with fail
    go_ret
    exact ⟨by simp, hx0.trans (hb7.mono hx0.size)⟩
  · rw [if_neg hfr] at hfd
    rw [← hfd] at hgp hq h4 ⊢
    have hw1 : IntKind.u64.wrap p.frame = p.frame := u64_small (by omega) (by omega)
    have hz : (p.frame == 0) = false := by simp; omega
    have hm : IntKind.u64.wrap (t / p.frame * F) = t / p.frame * F := u64_small (by omega) (by omega)
    have hs : IntKind.u64.wrap (t / p.frame * F + R) = t / p.frame * F + R := u64_small (by omega) (by omega)
    have hwF : IntKind.u64.wrap F = F := u64_small (by omega) (by omega)
    have hwR : IntKind.u64.wrap R = R := u64_small (by omega) (by omega)
    have hq2 : IntKind.u64.wrap (t / p.frame) = t / p.frame := u64_small (by omega) (by have := Int.ediv_le_self p.frame ht; omega)
    clear hfd h8 h9
    go_enter Try.func14, Try.ntmps14
    go_wp2_with fail
    have hbp := Box.new w (#[.slice a1 p.parts.length k1, .int .i64 p.frame, .slice a2 p.wins.length k2, .slice a3 p.chans.length k3] : Array Value) 26
    have hx0 : Below w.heap.size w (w.alloc (.cells #[.slice a1 p.parts.length k1, .int .i64 p.frame, .slice a2 p.wins.length k2, .slice a3 p.chans.length k3] 26)) := (Below.refl _ _).alloc (Nat.le_refl _) _
    generalize hW0 : w.alloc (.cells #[.slice a1 p.parts.length k1, .int .i64 p.frame, .slice a2 p.wins.length k2, .slice a3 p.chans.length k3] 26) = w0 at *
    clear hW0
    have k0 := hbp.regrown
    have hcA : ∀ dd os, Calls Try.prog 12 #[.agg #[.slice a1 p.parts.length k1, .int .i64 p.frame, .slice a2 p.wins.length k2, .slice a3 p.chans.length k3], .int .i64 sched, .int .i64 part, .int .i64 p.frame] (Go.Sort.grow (redrawn w0 dd) os) fun e w'' => e = .returned (.int .i64 F) ∧ ∃ p : Regrown, w'' = Go.Sort.grow (redrawn w0 p.d) p.os := fun dd os => Calls.regrown_of (HFA.out _ (HP.out.below (hx0.trans ((below_regrown w0 dd os).mono hx0.size))))
    have hcB : ∀ dd os, Calls Try.prog 12 #[.agg #[.slice a1 p.parts.length k1, .int .i64 p.frame, .slice a2 p.wins.length k2, .slice a3 p.chans.length k3], .int .i64 sched, .int .i64 part, .int .i64 cy] (Go.Sort.grow (redrawn w0 dd) os) fun e w'' => e = .returned (.int .i64 R) ∧ ∃ p : Regrown, w'' = Go.Sort.grow (redrawn w0 p.d) p.os := fun dd os => Calls.regrown_of (HFB.out _ (HP.out.below (hx0.trans ((below_regrown w0 dd os).mono hx0.size))))
    have hcC : ∀ dd os, Calls Try.prog 23 #[.agg #[.slice a1 p.parts.length k1, .int .i64 p.frame, .slice a2 p.wins.length k2, .slice a3 p.chans.length k3], .int .u64 t] (Go.Sort.grow (redrawn w0 dd) os) fun e w'' => e = .returned (.int .i64 cy) ∧ ∃ p : Regrown, w'' = Go.Sort.grow (redrawn w0 p.d) p.os := fun dd os => Calls.regrown_of (HCY.out _)
    have CA := Lib.hid hcA
    have CB := Lib.hid hcB
    have CC := Lib.hid hcC
    clear hcA hcB hcC
    ((refine wp_region_quiet_below (by kernel_rfl) (by kernel_rfl) ?_); (repeat (go_big_quiet_step ((first | (go_at_call 12; with_reducible first | exact CA.out _ _ | exact CB.out _ _) | (go_at_call 23; with_reducible exact CC.out _ _))))); (refine wpQuiet_nil ?_); (intro _ hw'); (obtain ⟨⟨dq, osq⟩, hw''⟩ := hw'); (subst hw''); (have hb7 := below_regrown w0 dq osq); (generalize Go.Sort.grow (redrawn w0 dq) osq = w7 at *); (have hz7 := hb7.size))
    clear k0
    go_wp2_with fail
    go_ret
    exact ⟨by simp, hx0.trans (hb7.mono hx0.size)⟩

def NoHit (q : Wn → Bool) (pre : List Wa) : Prop := ∀ x ∈ pre, q x.1 = false
theorem NoHit.snoc {q : Wn → Bool} {pre : List Wa} {x : Wa} (h : NoHit q pre) (hx : q x.1 = false) : NoHit q (pre ++ [x]) := by
  intro y hy
  rcases List.mem_append.1 hy with hy | hy
  · exact h y hy
  · obtain rfl : y = x := by simpa using hy
    exact hx
theorem NoHit.none {q : Wn → Bool} {za : List Wa} (h : NoHit q za) : (za.map (·.1)).find? q = none := by
  rw [List.find?_eq_none]
  intro y hy
  obtain ⟨x, hx, rfl⟩ := List.mem_map.1 hy
  rw [h x hx]; simp
theorem NoHit.some {q : Wn → Bool} {ys : List Wa} {x : Wa} {za : List Wa} (h : NoHit q ys) (hx : q x.1 = true) (hp : ys ++ [x] <+: za) : (za.map (·.1)).find? q = some x.1 := by
  obtain ⟨r, rfl⟩ := hp
  rw [List.append_assoc, List.map_append, List.find?_append, h.none]
  simp [hx]
/-- Behind a hit: what the results' cells hold. -/
def HitAt (m : Int) (B1 B2 : Nat) (w : World) (pre : List Wa) (W : World) : Prop :=
  ∃ (x : Wa) (ys : List Wa), pre = ys ++ [x] ∧ NoHit (hitB m) ys ∧ hitB m x.1 = true ∧ (Box W B1 #[.int .i64 x.1.1] 3 ∧ Box W B2 #[.int .i64 (howB m x.1)] 3) ∧ Below w.heap.size w W
theorem hitAt_own {m : Int} {B1 B2 : Nat} {w : World} {B : Nat} (hB : w.heap.size ≤ B) : OwnFrom B (HitAt m B1 B2 w) := by
  intro pre X Y row hs hg hr
  obtain ⟨x, ys, h1, h2, h3, ⟨h4, h5⟩, h6⟩ := hs
  exact ⟨x, ys, h1, h2, h3, ⟨Own.from (box_own (β := Unit) _ 3 (fun _ => #[.int .i64 x.1.1])) _ () X Y row h4 hg hr, Own.from (box_own (β := Unit) _ 3 (fun _ => #[.int .i64 (howB m x.1)])) _ () X Y row h5 hg hr⟩, ownFrom_below (β := Unit) (Nat.le_refl _) hB () X Y row h6 hg hr⟩

set_option maxRecDepth 100000 in
set_option maxHeartbeats 8000000 in
theorem at_any (pv wv cv : Value) (p : Pln) (sched t : Int) (w : World) (hp : PlanIs w pv wv cv p) (ht : 0 ≤ t) (hf : p.frame ≤ 9223372036854775807) :
    Calls Try.prog 13 #[planV pv wv cv p, .int .i64 sched, .int .u64 t] w fun e w' => e = .returned (.tuple #[.int .i64 (atS p sched t).1, .int .i64 (atS p sched t).2]) ∧ Below w.heap.size w w' := by
  have HP := Lib.hid hp
  have HCY := Lib.hid (fun W => cycle_any pv wv cv p t W ht hf)
  have hcr := cyc_range ht hf
  obtain ⟨za, hz⟩ := with_all (l := winsOf p sched) winsOf_wok
  have HZ := Lib.hid hz
  unfold atS
  rw [← hz]
  obtain ⟨a1, k1, a2, k2, a3, k3, rfl, rfl, rfl, hl1, hl2, hl3⟩ := hp.shape
  generalize cyc p.frame t = m at *
  clear hp hz
  refine (callsIn_wide (n := 3)).1 ?_
  refine callsIn_of_wp_marks Try.func13 rfl trivial ?_ rfl
  simp only [Try.ntmps13, List.size_toArray, List.length_cons, List.length_nil, Nat.reduceAdd, Nat.reduceSub, Array.replicate_succ, Array.replicate_zero, List.push_toArray, List.append_toArray, List.nil_append, List.cons_append]
  gi_wp2
  refine ⟨trivial, callsIn_wide.2 ((HCY.out _).mono ?_)⟩
  rintro e w1 ⟨rfl, hb1⟩
  have hq0 : Box (((w.alloc (.cells #[.slice a1 p.parts.length k1, .int .i64 p.frame, .slice a2 p.wins.length k2, .slice a3 p.chans.length k3] 26)).alloc (.cells #[.int .i64 0] 3)).alloc (.cells #[.int .i64 0] 3)) w.heap.size #[.slice a1 p.parts.length k1, .int .i64 p.frame, .slice a2 p.wins.length k2, .slice a3 p.chans.length k3] 26 := ((Box.new _ _ _).alloc _).alloc _
  have hq1 : Box (((w.alloc (.cells #[.slice a1 p.parts.length k1, .int .i64 p.frame, .slice a2 p.wins.length k2, .slice a3 p.chans.length k3] 26)).alloc (.cells #[.int .i64 0] 3)).alloc (.cells #[.int .i64 0] 3)) (w.heap.size + 1) #[.int .i64 0] 3 := (Box.new1 _ _ _ (by simp)).alloc _
  have hq2 : Box (((w.alloc (.cells #[.slice a1 p.parts.length k1, .int .i64 p.frame, .slice a2 p.wins.length k2, .slice a3 p.chans.length k3] 26)).alloc (.cells #[.int .i64 0] 3)).alloc (.cells #[.int .i64 0] 3)) (w.heap.size + 1 + 1) #[.int .i64 0] 3 := Box.new1 _ _ _ (by simp)
  have hx0 : Below w.heap.size w (((w.alloc (.cells #[.slice a1 p.parts.length k1, .int .i64 p.frame, .slice a2 p.wins.length k2, .slice a3 p.chans.length k3] 26)).alloc (.cells #[.int .i64 0] 3)).alloc (.cells #[.int .i64 0] 3)) := (((Below.refl _ _).alloc (Nat.le_refl _) _).alloc (by simp) _).alloc (by simp; omega) _
  have hx1 : Below w.heap.size w w1 := hx0.trans (hb1.mono hx0.size)
  have hz1 := hb1.size
  simp only [World.size_alloc] at hz1
  have hp1 := (hq0.below hb1 hq0.lt).alloc (.cells #[.int .i64 m] 3)
  have hr1 := (hq1.below hb1 hq1.lt).alloc (.cells #[.int .i64 m] 3)
  have hr2 := (hq2.below hb1 hq2.lt).alloc (.cells #[.int .i64 m] 3)
  have hm8 := Box.new w1 (#[.int .i64 m] : Array Value) 3
  have hx2 : Below w.heap.size w (w1.alloc (.cells #[.int .i64 m] 3)) := hx1.alloc hx1.size _
  obtain ⟨c0, f0, l0, n0, m0⟩ := hp1.rules
  clear hq0 hq1 hq2 hb1 hx0
  gi_wp2
  refine ⟨trivial, callsIn_wide.2 ((wins_any _ _ _ _ _ _).mono ?_)⟩
  rintro e w2 ⟨rfl, hw2⟩
  have hz1' : (w1.alloc (.cells #[.int .i64 m] 3)).heap.size = w1.heap.size + 1 := by simp
  generalize hW1 : w1.alloc (.cells #[.int .i64 m] 3) = w1b at *
  clear hW1 c0 f0 l0 n0 m0 hp1
  have hb2 : Below w1b.heap.size w1b w2 := by subst hw2; (repeat (first | with_reducible assumption | with_reducible exact Below.refl _ _ | with_reducible refine Below.setCell ?_ ?_ _ | with_reducible refine Below.alloc ?_ ?_ _ | with_reducible refine below_drewN' ?_ _ | with_reducible refine Below.drew ?_ | with_reducible refine Below.trans ?_ (Below.mono (by assumption) ?_) | omega | (dsimp only; omega) | (simp only [drew_heap', drewN_heap', World.size_alloc, World.size_setCell]; omega) | (solve | simp) | (solve | (simp; omega))))
  have hz2 : w2.heap.size = w1b.heap.size + 1 + 1 := by subst hw2; simp
  have hs1 : Box w2 w1b.heap.size #[.slice a1 p.parts.length k1, .int .i64 p.frame, .slice a2 p.wins.length k2, .slice a3 p.chans.length k3] 26 := by subst hw2; exact (Box.new _ _ _).alloc _
  have hs2 : Box w2 (w1b.heap.size + 1) #[.int .i64 sched] 3 := by subst hw2; exact Box.new1 _ _ _ (by simp)
  have hx3 : Below w.heap.size w w2 := hx2.trans (hb2.mono hx2.size)
  have hr1' := hr1.below hb2 hr1.lt
  have hr2' := hr2.below hb2 hr2.lt
  have hm8' := hm8.below hb2 hm8.lt
  have hbody : Body Try.prog 26 := body_of Try.func26 (by kernel_rfl) (by kernel_rfl)
  unfold Body at hbody
  clear hw2 hr1 hr2 hm8
  rw [hz1'] at hs1 hs2
  have hzx := hx3.size
  gi_wp2
  clear hz1' hz2
  refine wpIn_rangeFunc_ownH rfl (by omega) (gf := 26) (lb := #[.pointer (some ⟨w1.heap.size + 1, 0, none⟩), .pointer (some ⟨w1.heap.size + 1 + 1, 0, none⟩)]) rfl trivial hbody
    (wins_stops 2 _ _ _ _ _ p sched za w2 (by omega) HZ.out (HP.out.below hx3) hs1 hs2) belowK_t (belowK_b (Nat.le_refl _)) (Below.refl _ _) (fun _ => rfl)
    (fun pre W => NoHit (hitB m) pre ∧ Below w2.heap.size w2 W)
    (fun c pre W => c = .ret ∧ HitAt m (w.heap.size + 1) (w.heap.size + 1 + 1) w pre W)
    (OwnFrom.and (ownFrom_pure _ _) (ownFrom_below (Nat.le_refl _) (Nat.le_refl _)))
    (fun c => OwnFrom.and (ownFrom_pure _ (fun _ => c = .ret)) (hitAt_own hx3.size))
    ⟨(by intro y hy; cases hy), Below.refl _ _⟩
    (fun x a' W => ∃ Bx, Box W Bx #[.int .i64 x.1.1, .int .i64 x.1.2.1, .int .i64 x.1.2.2] 48 ∧
      a' = { tmps := #[.agg #[.slice a1 p.parts.length k1, .int .i64 p.frame, .slice a2 p.wins.length k2, .slice a3 p.chans.length k3], .int .i64 sched, .int .u64 t, .pointer (some ⟨w.heap.size, 0, none⟩), undef, undef, .pointer (some ⟨w.heap.size + 1, 0, none⟩), .pointer (some ⟨w.heap.size + 1 + 1, 0, none⟩), .pointer (some ⟨w1.heap.size, 0, none⟩), .pointer (some ⟨Bx, 0, none⟩), undef, .agg #[.slice a1 p.parts.length k1, .int .i64 p.frame, .slice a2 p.wins.length k2, .slice a3 p.chans.length k3], .int .u64 t, .int .i64 m, .agg #[.slice a1 p.parts.length k1, .int .i64 p.frame, .slice a2 p.wins.length k2, .slice a3 p.chans.length k3], .int .i64 sched, .func (.func 26) #[] #[.pointer (some ⟨w1.heap.size + 1, 0, none⟩), .pointer (some ⟨w1.heap.size + 1 + 1, 0, none⟩)], wnV x.1, undef, undef, undef, undef, undef, undef, undef, undef, undef, undef, undef, undef, undef, undef, undef, undef, undef, undef, undef, undef], defers := [] })
    (fun x a' _ X Y row hs hg hr => by
      obtain ⟨Bx, hb, rfl⟩ := hs
      exact ⟨Bx, Own.from (box_own (β := Unit) Bx 48 (fun _ => #[.int .i64 x.1.1, .int .i64 x.1.2.1, .int .i64 x.1.2.2])) _ () X Y row hb hg hr, rfl⟩) ?assign ?body ?done ?stop
  case assign =>
    rintro l pre x W K ⟨hno, hB⟩ hK
    gi_wp2
    exact hK _ _ ((KeepsOthers.alloc _ _).from _) ((Below.refl _ W).alloc hB.size _) ⟨hno, hB.alloc hB.size _⟩ ⟨W.heap.size, Box.new W _ _, rfl⟩
  case body =>
    rintro l pre x a' W hl ⟨r, hr⟩ ⟨hno, hB⟩ ⟨Bx, hb, rfl⟩ hlt
    obtain ⟨⟨xp, xf, xl⟩, hxw⟩ := x
    have hxw' := hxw
    unfold WOk at hxw'
    dsimp only at hxw' hb
    have hm8W := hm8'.below hB hm8'.lt
    have hr1W := hr1'.below hB hr1'.lt
    have hr2W := hr2'.below hB hr2'.lt
    obtain ⟨c1, f1, l1, n1, m1⟩ := hm8W.rules
    obtain ⟨c2, f2, l2, n2, m2⟩ := hb.rules
    obtain ⟨c3, f3, l3, n3, m3⟩ := hr1W.rules
    obtain ⟨c4, f4, l4, n4, m4⟩ := hr2W.rules
    have hwr : IntKind.i64.wrap (m - xf) = m - xf := IntWalk.i64_in _ (by omega)
    have hxB : Below w.heap.size w W := hx3.trans (hB.mono hx3.size)
    have HNO := Lib.hid hno
    have HXW := Lib.hid hxw'
    have hset1 := hr1W.set 0 (.int .i64 xp)
    have hoth1 := hr2W.other ⟨w.heap.size + 1, 0, none⟩ (.int .i64 xp) (by show ¬ w.heap.size + 1 + 1 = w.heap.size + 1; omega)
    clear hno hxw'
    by_cases g1 : m < xf
    · have g1d : decide (m < xf) = true := by simpa using g1
      have g1e : decide (m - xf < 0) = true := by simp; omega
      gi_wp2
      exact ⟨KeepsFrom.refl _ _, Below.refl _ _, HNO.out.snoc (by unfold hitB; simp; omega), hB⟩
    have g1d : decide (m < xf) = false := by simpa using g1
    have g1e : decide (m - xf < 0) = false := by simp; omega
    by_cases g2 : xl ≤ m - xf
    · have g2d : decide (xl ≤ m - xf) = true := by simpa using g2
      gi_wp2
      exact ⟨KeepsFrom.refl _ _, Below.refl _ _, HNO.out.snoc (by unfold hitB; simp; omega), hB⟩
    have g2d : decide (xl ≤ m - xf) = false := by simpa using g2
    have HG := Lib.hid (And.intro g1 g2)
    by_cases g3 : m - xf < 2
    · have g3d : decide (m - xf < 2) = true := by simpa using g3
      gi_wp2
      refine ⟨((KeepsOthers.setCell _ _ _).from _).trans ((KeepsOthers.setCell _ _ _).from _), rfl, ⟨(xp, xf, xl), hxw⟩, pre, rfl, HNO.out, ?_, ⟨?_, ?_⟩, ?_⟩
      · have := HG.out; unfold hitB; simp; omega
      · exact hset1.other ⟨w.heap.size + 1 + 1, 0, none⟩ _ (by show ¬ w.heap.size + 1 = w.heap.size + 1 + 1; omega)
      · have := hoth1.set 0 (.int .i64 1)
        unfold howB
        rw [if_pos (show m - xf < 2 by omega)]
        exact this
      · exact (hxB.setCell (p := ⟨w.heap.size + 1, 0, none⟩) (by show w.heap.size ≤ w.heap.size + 1; omega) _).setCell (p := ⟨w.heap.size + 1 + 1, 0, none⟩) (by show w.heap.size ≤ w.heap.size + 1 + 1; omega) _
    · have g3d : decide (m - xf < 2) = false := by simpa using g3
      gi_wp2
      refine ⟨((KeepsOthers.setCell _ _ _).from _).trans ((KeepsOthers.setCell _ _ _).from _), rfl, ⟨(xp, xf, xl), hxw⟩, pre, rfl, HNO.out, ?_, ⟨?_, ?_⟩, ?_⟩
      · have := HG.out; unfold hitB; simp; omega
      · exact hset1.other ⟨w.heap.size + 1 + 1, 0, none⟩ _ (by show ¬ w.heap.size + 1 = w.heap.size + 1 + 1; omega)
      · have := hoth1.set 0 (.int .i64 2)
        unfold howB
        rw [if_neg (show ¬ m - xf < 2 by omega)]
        exact this
      · exact (hxB.setCell (p := ⟨w.heap.size + 1, 0, none⟩) (by show w.heap.size ≤ w.heap.size + 1; omega) _).setCell (p := ⟨w.heap.size + 1 + 1, 0, none⟩) (by show w.heap.size ≤ w.heap.size + 1 + 1; omega) _
  case done =>
    rintro D ys W hD rfl ⟨hno, hB⟩ hK
    have hr1W := hr1'.below hB hr1'.lt
    have hr2W := hr2'.below hB hr2'.lt
    obtain ⟨c3, f3, l3, n3, m3⟩ := hr1W.rules
    obtain ⟨c4, f4, l4, n4, m4⟩ := hr2W.rules
    have hxB : Below w.heap.size w W := hx3.trans (hB.mono hx3.size)
    have hat : atL (ys.map (·.1)) m = (-1, 0) := by unfold atL; rw [hno.none]
    have HAT := Lib.hid hat
    have hset1 := (hr1W.set 0 (.int .i64 (-1))).other ⟨w.heap.size + 1 + 1, 0, none⟩ (.int .i64 0) (by show ¬ w.heap.size + 1 = w.heap.size + 1 + 1; omega)
    have hset2 := (hr2W.other ⟨w.heap.size + 1, 0, none⟩ (.int .i64 (-1)) (by show ¬ w.heap.size + 1 + 1 = w.heap.size + 1; omega)).set 0 (.int .i64 0)
    have HAT := Lib.hid hat
    have hlt2 := hr2'.lt
    have hKD : ((W.setCell ⟨w.heap.size + 1, 0, none⟩ (.int .i64 (-1))).setCell ⟨w.heap.size + 1 + 1, 0, none⟩ (.int .i64 0)).heap[D]? = some (.deferred (some [])) := by
      rw [heap_setCell_other _ _ _ _ (by show ¬ D = w.heap.size + 1 + 1; omega), heap_setCell_other _ _ _ _ (by show ¬ D = w.heap.size + 1; omega)]; exact hK
    clear hno hat
    gi_wp2
    rw [HAT.out]
    refine ⟨by simp, .inl ⟨_, _, rfl, run_takeDeferred hKD, ?_⟩⟩
    have b1 := ((Own.from (box_own (β := Unit) _ 3 (fun _ => _)) w2.heap.size).putObj (s := ()) (Obj.deferred none) hset1 hD hKD rfl).rules.1 0
    have b2 := ((Own.from (box_own (β := Unit) _ 3 (fun _ => _)) w2.heap.size).putObj (s := ()) (Obj.deferred none) hset2 hD hKD rfl).rules.1 0
    refine ⟨.tuple #[.int .i64 (-1), .int .i64 0], by simp [results, Try.results13, go_sem, b1, b2], rfl, ?_⟩
    refine Below.trans ?_ (belowK_b (w := w2) hx3.size _ D _ _ hD hKD rfl rfl)
    exact (hxB.setCell (p := ⟨w.heap.size + 1, 0, none⟩) (by show w.heap.size ≤ w.heap.size + 1; omega) _).setCell (p := ⟨w.heap.size + 1 + 1, 0, none⟩) (by show w.heap.size ≤ w.heap.size + 1 + 1; omega) _
  case stop =>
    rintro D c pre W hD hpre ⟨rfl, x, ys, rfl, h2, h3, ⟨h4, h5⟩, h6⟩ hK
    have hat : atL (za.map (·.1)) m = (x.1.1, howB m x.1) := by unfold atL; rw [h2.some h3 hpre]
    gi_wp2
    rw [hat]
    refine ⟨by simp, .inl ⟨_, _, rfl, run_takeDeferred hK, ?_⟩⟩
    have b1 := ((Own.from (box_own (β := Unit) _ 3 (fun _ => _)) w2.heap.size).putObj (s := ()) (Obj.deferred none) h4 hD hK rfl).rules.1 0
    have b2 := ((Own.from (box_own (β := Unit) _ 3 (fun _ => _)) w2.heap.size).putObj (s := ()) (Obj.deferred none) h5 hD hK rfl).rules.1 0
    refine ⟨.tuple #[.int .i64 x.1.1, .int .i64 (howB m x.1)], by simp [results, Try.results13, go_sem, b1, b2], rfl, ?_⟩
    exact h6.trans (belowK_b (w := w2) hx3.size _ D _ _ hD hK rfl rfl)
end Go.Proofs.Ytinhnecgmokfkaa
