/- window.Starts; the document's example. Conditions: what came in is shaped. -/
import Derived.Test.YtinhnecgmokfkaaWinFns2
namespace Go.Proofs.Ytinhnecgmokfkaa
open Go Go.RowKit Go.Tm
set_option linter.unusedVariables false
set_option linter.unusedSimpArgs false
attribute [local go_sem] Oper.semAt_some

def begB (m : Int) (x : Wn) : Bool := decide (x.2.1 = m)
noncomputable def startS (p : Pln) (sched t : Int) : Bool := (winsOf p sched).any (begB (cyc p.frame t))
def HitBeg (m : Int) (B1 : Nat) (w : World) (pre : List Wa) (W : World) : Prop :=
  ∃ (x : Wa) (ys : List Wa), pre = ys ++ [x] ∧ begB m x.1 = true ∧ Box W B1 #[.bool true] 4 ∧ Below w.heap.size w W
theorem hitBeg_own {m : Int} {B1 : Nat} {w : World} {B : Nat} (hB : w.heap.size ≤ B) : OwnFrom B (HitBeg m B1 w) := by
  intro pre X Y row hs hg hr
  obtain ⟨x, ys, h1, h3, h4, h6⟩ := hs
  exact ⟨x, ys, h1, h3, Own.from (box_own (β := Unit) _ 4 (fun _ => #[.bool true])) _ () X Y row h4 hg hr, ownFrom_below (β := Unit) (Nat.le_refl _) hB () X Y row h6 hg hr⟩

set_option maxRecDepth 100000 in
set_option maxHeartbeats 8000000 in
theorem starts_any (pv wv cv : Value) (p : Pln) (sched t : Int) (w : World) (hp : PlanIs w pv wv cv p) (ht : 0 ≤ t) (hf : p.frame ≤ 9223372036854775807) :
    Calls Try.prog 15 #[planV pv wv cv p, .int .i64 sched, .int .u64 t] w fun e w' => e = .returned (.bool (startS p sched t)) ∧ Below w.heap.size w w' := by
  have HP := Lib.hid hp
  have HCY := Lib.hid (fun W => cycle_any pv wv cv p t W ht hf)
  obtain ⟨za, hz⟩ := with_all (l := winsOf p sched) winsOf_wok
  have HZ := Lib.hid hz
  unfold startS
  rw [← hz]
  obtain ⟨a1, k1, a2, k2, a3, k3, rfl, rfl, rfl, hl1, hl2, hl3⟩ := hp.shape
  generalize cyc p.frame t = m at *
  clear hp hz
  refine (callsIn_wide (n := 3)).1 ?_
  refine callsIn_of_wp_marks Try.func15 rfl trivial ?_ rfl
  simp only [Try.ntmps15, List.size_toArray, List.length_cons, List.length_nil, Nat.reduceAdd, Nat.reduceSub, Array.replicate_succ, Array.replicate_zero, List.push_toArray, List.append_toArray, List.nil_append, List.cons_append]
  have hq0 : Box (((w.alloc (.cells #[.slice a1 p.parts.length k1, .int .i64 p.frame, .slice a2 p.wins.length k2, .slice a3 p.chans.length k3] 26)).alloc (.cells #[.int .u64 t] 32)).alloc (.cells #[.bool false] 4)) w.heap.size #[.slice a1 p.parts.length k1, .int .i64 p.frame, .slice a2 p.wins.length k2, .slice a3 p.chans.length k3] 26 := ((Box.new _ _ _).alloc _).alloc _
  have hq1 : Box (((w.alloc (.cells #[.slice a1 p.parts.length k1, .int .i64 p.frame, .slice a2 p.wins.length k2, .slice a3 p.chans.length k3] 26)).alloc (.cells #[.int .u64 t] 32)).alloc (.cells #[.bool false] 4)) (w.heap.size + 1) #[.int .u64 t] 32 := (Box.new1 _ _ _ (by simp)).alloc _
  have hq2 : Box (((w.alloc (.cells #[.slice a1 p.parts.length k1, .int .i64 p.frame, .slice a2 p.wins.length k2, .slice a3 p.chans.length k3] 26)).alloc (.cells #[.int .u64 t] 32)).alloc (.cells #[.bool false] 4)) (w.heap.size + 1 + 1) #[.bool false] 4 := Box.new1 _ _ _ (by simp)
  have hx0 : Below w.heap.size w (((w.alloc (.cells #[.slice a1 p.parts.length k1, .int .i64 p.frame, .slice a2 p.wins.length k2, .slice a3 p.chans.length k3] 26)).alloc (.cells #[.int .u64 t] 32)).alloc (.cells #[.bool false] 4)) := (((Below.refl _ _).alloc (Nat.le_refl _) _).alloc (by simp) _).alloc (by simp; omega) _
  gi_wp2
  have hz0 : (((w.alloc (.cells #[.slice a1 p.parts.length k1, .int .i64 p.frame, .slice a2 p.wins.length k2, .slice a3 p.chans.length k3] 26)).alloc (.cells #[.int .u64 t] 32)).alloc (.cells #[.bool false] 4)).heap.size = w.heap.size + 1 + 1 + 1 := by simp
  refine ⟨trivial, callsIn_wide.2 ((wins_any _ _ _ _ _ _).mono ?_)⟩
  rintro e w2 ⟨rfl, hw2⟩
  generalize hW1 : (((w.alloc (.cells #[.slice a1 p.parts.length k1, .int .i64 p.frame, .slice a2 p.wins.length k2, .slice a3 p.chans.length k3] 26)).alloc (.cells #[.int .u64 t] 32)).alloc (.cells #[.bool false] 4)) = w1 at *
  clear hW1
  have hb2 : Below w1.heap.size w1 w2 := by subst hw2; (repeat (first | with_reducible assumption | with_reducible exact Below.refl _ _ | with_reducible refine Below.setCell ?_ ?_ _ | with_reducible refine Below.alloc ?_ ?_ _ | with_reducible refine below_drewN' ?_ _ | with_reducible refine Below.drew ?_ | with_reducible refine Below.trans ?_ (Below.mono (by assumption) ?_) | omega | (dsimp only; omega) | (simp only [drew_heap', drewN_heap', World.size_alloc, World.size_setCell]; omega) | (solve | simp) | (solve | (simp; omega))))
  have hs1 : Box w2 w1.heap.size #[.slice a1 p.parts.length k1, .int .i64 p.frame, .slice a2 p.wins.length k2, .slice a3 p.chans.length k3] 26 := by subst hw2; exact (Box.new _ _ _).alloc _
  have hs2 : Box w2 (w1.heap.size + 1) #[.int .i64 sched] 3 := by subst hw2; exact Box.new1 _ _ _ (by simp)
  have hx3 : Below w.heap.size w w2 := hx0.trans (hb2.mono hx0.size)
  have hp2 := hq0.below hb2 hq0.lt
  have hr1 := hq1.below hb2 hq1.lt
  have hr2 := hq2.below hb2 hq2.lt
  have hbody : Body Try.prog 26 := body_of Try.func26 (by kernel_rfl) (by kernel_rfl)
  unfold Body at hbody
  clear hw2 hq0 hq1 hq2
  rw [hz0] at hs1 hs2
  have hzx := hx3.size
  gi_wp2
  clear hz0
  refine wpIn_rangeFunc_ownH rfl (by omega) (gf := 26) (lb := #[.pointer (some ⟨w.heap.size + 1 + 1 + 1, 0, none⟩), .pointer (some ⟨w.heap.size + 1 + 1 + 1 + 1, 0, none⟩)]) rfl trivial hbody
    (wins_stops 2 _ _ _ _ _ p sched za w2 (by omega) HZ.out (HP.out.below hx3) hs1 hs2) belowK_t (belowK_b (Nat.le_refl _)) (Below.refl _ _) (fun _ => rfl)
    (fun pre W => NoHit (begB m) pre ∧ Below w2.heap.size w2 W)
    (fun c pre W => c = .ret ∧ HitBeg m (w.heap.size + 1 + 1) w pre W)
    (OwnFrom.and (ownFrom_pure _ _) (ownFrom_below (Nat.le_refl _) (Nat.le_refl _)))
    (fun c => OwnFrom.and (ownFrom_pure _ (fun _ => c = .ret)) (hitBeg_own hx3.size))
    ⟨(by intro y hy; cases hy), Below.refl _ _⟩
    (fun x a' W => ∃ Bx, Box W Bx #[.int .i64 x.1.1, .int .i64 x.1.2.1, .int .i64 x.1.2.2] 48 ∧
      a' = { tmps := #[.agg #[.slice a1 p.parts.length k1, .int .i64 p.frame, .slice a2 p.wins.length k2, .slice a3 p.chans.length k3], .int .i64 sched, .int .u64 t, .pointer (some ⟨w.heap.size, 0, none⟩), undef, .pointer (some ⟨w.heap.size + 1, 0, none⟩), .pointer (some ⟨w.heap.size + 1 + 1, 0, none⟩), .pointer (some ⟨Bx, 0, none⟩), .agg #[.slice a1 p.parts.length k1, .int .i64 p.frame, .slice a2 p.wins.length k2, .slice a3 p.chans.length k3], .int .i64 sched, .func (.func 26) #[] #[.pointer (some ⟨w.heap.size + 1 + 1 + 1, 0, none⟩), .pointer (some ⟨w.heap.size + 1 + 1 + 1 + 1, 0, none⟩)], wnV x.1, undef, undef, undef, undef, undef, undef], defers := [] })
    (fun x a' _ X Y row hs hg hr => by
      obtain ⟨Bx, hb, rfl⟩ := hs
      exact ⟨Bx, Own.from (box_own (β := Unit) Bx 48 (fun _ => #[.int .i64 x.1.1, .int .i64 x.1.2.1, .int .i64 x.1.2.2])) _ () X Y row hb hg hr, rfl⟩) ?assign ?body ?done ?stop
  case assign =>
    rintro l pre x W K ⟨hno, hB⟩ hK
    gi_wp2
    exact hK _ _ ((KeepsOthers.alloc _ _).from _) ((Below.refl _ W).alloc hB.size _) ⟨hno, hB.alloc hB.size _⟩ ⟨W.heap.size, Box.new W _ _, rfl⟩
  case body =>
    rintro l pre x a' W hl ⟨r, hr⟩ ⟨hno, hB⟩ ⟨Bx, hb, rfl⟩ hlt
    obtain ⟨⟨xp, xf, xl⟩, hxw⟩ := x
    dsimp only at hb
    have HNO := Lib.hid hno
    have hpW := hp2.below hB hp2.lt
    have hr1W := hr1.below hB hr1.lt
    have hr2W := hr2.below hB hr2.lt
    have hxB : Below w.heap.size w W := hx3.trans (hB.mono hx3.size)
    have hcy : ∀ dd os, Calls Try.prog 23 #[.agg #[.slice a1 p.parts.length k1, .int .i64 p.frame, .slice a2 p.wins.length k2, .slice a3 p.chans.length k3], .int .u64 t] (Go.Sort.grow (redrawn W dd) os) fun e w'' => e = .returned (.int .i64 m) ∧ ∃ p : Regrown, w'' = Go.Sort.grow (redrawn W p.d) p.os := fun dd os => Calls.regrown_of (HCY.out _)
    have CY := Lib.hid hcy
    have g1 := hpW.regrown
    have g2 := hr1W.regrown
    have g3 := hb.regrown
    clear hno hcy
    by_cases he : xf = m
    · have heb : (xf == m) = true := by simpa using he
      have HE := Lib.hid he
      clear he
      gi_wp2
      ((refine wpIn_region_round_quiet (by kernel_rfl) (by kernel_rfl) (by kernel_rfl) ?_); (repeat (go_big_quiet_step ((first | (go_at_call 23; with_reducible exact CY.out _ _))))); (refine wpQuiet_nil ?_); (intro _ hw'); (obtain ⟨⟨dq, osq⟩, hw''⟩ := hw'); (subst hw''); (have hb7 := below_regrown W dq osq); (generalize Go.Sort.grow (redrawn W dq) osq = w7 at *); (have hz7 := hb7.size))
      clear g1 g2 g3
      have hr27 := hr2W.below hb7 hr2W.lt
      obtain ⟨c4, f4, l4, n4, m4⟩ := hr27.rules
      gi_wp2
      refine ⟨(keeps_below hb7).trans ((KeepsOthers.setCell _ _ _).from _), rfl, ⟨(xp, xf, xl), hxw⟩, pre, rfl, ?_, ?_, ?_⟩
      · unfold begB; simpa using HE.out
      · exact hr27.set 0 (.bool true)
      · exact (hxB.trans (hb7.mono hxB.size)).setCell (p := ⟨w.heap.size + 1 + 1, 0, none⟩) (by show w.heap.size ≤ w.heap.size + 1 + 1; omega) _
    · have heb : (xf == m) = false := by simpa using he
      have HE := Lib.hid he
      clear he
      gi_wp2
      ((refine wpIn_region_round_quiet (by kernel_rfl) (by kernel_rfl) (by kernel_rfl) ?_); (repeat (go_big_quiet_step ((first | (go_at_call 23; with_reducible exact CY.out _ _))))); (refine wpQuiet_nil ?_); (intro _ hw'); (obtain ⟨⟨dq, osq⟩, hw''⟩ := hw'); (subst hw''); (have hb7 := below_regrown W dq osq); (generalize Go.Sort.grow (redrawn W dq) osq = w7 at *); (have hz7 := hb7.size))
      clear g1 g2 g3
      gi_wp2
      exact ⟨keeps_below hb7, hb7.mono hB.size, HNO.out.snoc (by have := HE.out; unfold begB; simpa using this), hB.trans (hb7.mono hB.size)⟩
  case done =>
    rintro D ys W hD rfl ⟨hno, hB⟩ hK
    have hr2W := hr2.below hB hr2.lt
    obtain ⟨c4, f4, l4, n4, m4⟩ := hr2W.rules
    have hxB : Below w.heap.size w W := hx3.trans (hB.mono hx3.size)
    have hat : (ys.map (·.1)).any (begB m) = false := by
      rw [List.any_eq_false]
      intro y hy
      obtain ⟨x, hx, rfl⟩ := List.mem_map.1 hy
      rw [hno x hx]; simp
    have HAT := Lib.hid hat
    have hlt2 := hr2.lt
    have hset2 := hr2W.set 0 (.bool false)
    have hKD : (W.setCell ⟨w.heap.size + 1 + 1, 0, none⟩ (.bool false)).heap[D]? = some (.deferred (some [])) := by
      rw [heap_setCell_other _ _ _ _ (by show ¬ D = w.heap.size + 1 + 1; omega)]; exact hK
    clear hno hat
    gi_wp2
    rw [HAT.out]
    refine ⟨by simp, .inl ⟨_, _, rfl, run_takeDeferred hKD, ?_⟩⟩
    have b2 := ((Own.from (box_own (β := Unit) _ 4 (fun _ => _)) w2.heap.size).putObj (s := ()) (Obj.deferred none) hset2 hD hKD rfl).rules.1 0
    refine ⟨.bool false, by simp [results, Try.results15, go_sem, b2], rfl, ?_⟩
    refine Below.trans ?_ (belowK_b (w := w2) hx3.size _ D _ _ hD hKD rfl rfl)
    exact hxB.setCell (p := ⟨w.heap.size + 1 + 1, 0, none⟩) (by show w.heap.size ≤ w.heap.size + 1 + 1; omega) _
  case stop =>
    rintro D c pre W hD hpre ⟨rfl, x, ys, rfl, h3, h5, h6⟩ hK
    have hat : (za.map (·.1)).any (begB m) = true := by
      rw [List.any_eq_true]
      exact ⟨x.1, List.mem_map.2 ⟨x, hpre.subset (by simp), rfl⟩, h3⟩
    gi_wp2
    rw [hat]
    refine ⟨by simp, .inl ⟨_, _, rfl, run_takeDeferred hK, ?_⟩⟩
    have b2 := ((Own.from (box_own (β := Unit) _ 4 (fun _ => _)) w2.heap.size).putObj (s := ()) (Obj.deferred none) h5 hD hK rfl).rules.1 0
    refine ⟨.bool true, by simp [results, Try.results15, go_sem, b2], rfl, ?_⟩
    exact h6.trans (belowK_b (w := w2) hx3.size _ D _ _ hD hK rfl rfl)
end Go.Proofs.Ytinhnecgmokfkaa
