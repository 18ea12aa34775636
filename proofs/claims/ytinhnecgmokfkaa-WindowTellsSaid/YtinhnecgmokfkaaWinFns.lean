/- window.Frame, Granted, At, Starts. Conditions: what came in is shaped. -/
import Derived.Test.YtinhnecgmokfkaaWinSeq
namespace Go.Proofs.Ytinhnecgmokfkaa
open Go Go.RowKit Go.Tm
set_option linter.unusedVariables false
set_option linter.unusedSimpArgs false
attribute [local go_sem] Oper.semAt_some

/-- The frame's length, 1 at the least. -/
def frm (f : Int) : Int := if f < 1 then 1 else f
theorem frm_pos (f : Int) : 1 ≤ frm f := by unfold frm; split <;> omega
def cyc (f t : Int) : Int := t % frm f
theorem cyc_range {f t : Int} (h : 0 ≤ t) (hf : f ≤ 9223372036854775807) : 0 ≤ cyc f t ∧ cyc f t < 9223372036854775807 := by
  have h1 := frm_pos f
  have h2 : frm f ≤ 9223372036854775807 := by unfold frm; split <;> omega
  have := Int.emod_nonneg t (show frm f ≠ 0 by omega)
  have := Int.emod_lt_of_pos t (show 0 < frm f by omega)
  unfold cyc
  omega
theorem u64_small {x : Int} (h0 : 0 ≤ x) (h1 : x ≤ 18446744073709551615) : IntKind.u64.wrap x = x := by rw [IntKind.wrap_u64]; omega
theorem cycle_any (pv wv cv : Value) (p : Pln) (t : Int) (w : World) (ht : 0 ≤ t) (hf : p.frame ≤ 9223372036854775807) :
    Calls Try.prog 23 #[planV pv wv cv p, .int .u64 t] w fun e w' => e = .returned (.int .i64 (cyc p.frame t)) ∧ Below w.heap.size w w' := by
  have hc := cyc_range ht hf
  unfold cyc frm at *
  by_cases h : p.frame < 1
  · rw [if_pos h] at hc ⊢
    have hq : t % 1 = 0 := Int.emod_one t
    go_enter Try.func23, Try.ntmps23
    go_wp2_with fail
    go_ret
    exact ⟨by simp, by (repeat (first | with_reducible assumption | with_reducible exact Below.refl _ _ | with_reducible refine Below.setCell ?_ ?_ _ | with_reducible refine Below.alloc ?_ ?_ _ | with_reducible refine below_drewN' ?_ _ | with_reducible refine Below.drew ?_ | with_reducible refine Below.trans ?_ (Below.mono (by assumption) ?_) | omega | (dsimp only; omega) | (simp only [drew_heap', drewN_heap', World.size_alloc, World.size_setCell]; omega) | (solve | simp) | (solve | (simp; omega))))⟩
  · rw [if_neg h] at hc ⊢
    have hw1 : IntKind.u64.wrap p.frame = p.frame := u64_small (by omega) (by omega)
    have hw2 : p.frame % 18446744073709551616 = p.frame := by omega
    have hz : (p.frame == 0) = false := by simp; omega
    have hw3 : IntKind.i64.wrap (t % p.frame) = t % p.frame := IntWalk.i64_in _ (by omega)
    have hm : t.tmod p.frame = t % p.frame := Int.tmod_eq_emod_of_nonneg ht
    go_enter Try.func23, Try.ntmps23
    go_wp2_with fail
    go_ret
    exact ⟨by simp, by (repeat (first | with_reducible assumption | with_reducible exact Below.refl _ _ | with_reducible refine Below.setCell ?_ ?_ _ | with_reducible refine Below.alloc ?_ ?_ _ | with_reducible refine below_drewN' ?_ _ | with_reducible refine Below.drew ?_ | with_reducible refine Below.trans ?_ (Below.mono (by assumption) ?_) | omega | (dsimp only; omega) | (simp only [drew_heap', drewN_heap', World.size_alloc, World.size_setCell]; omega) | (solve | simp) | (solve | (simp; omega))))⟩

/-- How many of the first n cycles a window gives to the partition. -/
def winN (part n : Int) (x : Wn) : Int := if x.1 = part then max 0 (min (max n 0 - x.2.1) x.2.2 - 2) else 0
theorem winN_range {part n : Int} {x : Wn} (h : WOk x) : 0 ≤ winN part n x ∧ winN part n x ≤ 4096 := by
  unfold winN
  unfold WOk at h
  split <;> omega
set_option maxHeartbeats 1000000 in
theorem frame1_any (x : Wn) (part n : Int) (B1 B2 : Nat) (w : World) (h1 : Box w B1 #[.int .i64 part] 3) (h2 : Box w B2 #[.int .i64 n] 3) (hx : WOk x) (hn : n ≤ 9223372036854775807) :
    Calls Try.prog 22 #[wnV x, .pointer (some ⟨B1, 0, none⟩), .pointer (some ⟨B2, 0, none⟩)] w fun e w' => e = .returned (.int .i64 (winN part n x)) ∧ Below w.heap.size w w' := by
  obtain ⟨xp, xf, xl⟩ := x
  unfold WOk at hx
  dsimp only at hx
  have hb1 : Box (w.alloc (.cells #[.int .i64 xp, .int .i64 xf, .int .i64 xl] 48)) B1 #[.int .i64 part] 3 := h1.alloc _
  have hb2 : Box (w.alloc (.cells #[.int .i64 xp, .int .i64 xf, .int .i64 xl] 48)) B2 #[.int .i64 n] 3 := h2.alloc _
  obtain ⟨c1, f1, l1, n1, m1⟩ := hb1.rules
  obtain ⟨c2, f2, l2, n2, m2⟩ := hb2.rules
  have hl1 := h1.lt
  have hl2 := h2.lt
  clear hb1 hb2 h1 h2
  unfold winN
  dsimp only
  by_cases hp : xp = part
  · subst hp
    rw [if_pos rfl]
    go_enter Try.func22, Try.ntmps22
    go_wp2_with fail
    all_goals
      go_ret
      exact ⟨by simp; omega, by (repeat (first | with_reducible assumption | with_reducible exact Below.refl _ _ | with_reducible refine Below.setCell ?_ ?_ _ | with_reducible refine Below.alloc ?_ ?_ _ | with_reducible refine below_drewN' ?_ _ | with_reducible refine Below.drew ?_ | with_reducible refine Below.trans ?_ (Below.mono (by assumption) ?_) | omega | (dsimp only; omega) | (simp only [drew_heap', drewN_heap', World.size_alloc, World.size_setCell]; omega) | (solve | simp) | (solve | (simp; omega))))⟩
  · have hpb : (xp != part) = true := by simpa using hp
    rw [if_neg hp]
    go_enter Try.func22, Try.ntmps22
    go_wp2_with fail
    go_ret
    exact ⟨rfl, by (repeat (first | with_reducible assumption | with_reducible exact Below.refl _ _ | with_reducible refine Below.setCell ?_ ?_ _ | with_reducible refine Below.alloc ?_ ?_ _ | with_reducible refine below_drewN' ?_ _ | with_reducible refine Below.drew ?_ | with_reducible refine Below.trans ?_ (Below.mono (by assumption) ?_) | omega | (dsimp only; omega) | (simp only [drew_heap', drewN_heap', World.size_alloc, World.size_setCell]; omega) | (solve | simp) | (solve | (simp; omega))))⟩

def sumW (part n : Int) (l : List Wa) : Int := (l.map fun x => winN part n x.1).sum
theorem sumW_range (part n : Int) (l : List Wa) : 0 ≤ sumW part n l ∧ sumW part n l ≤ 4096 * l.length := by
  unfold sumW
  induction l with
  | nil => simp
  | cons x r ih =>
    have := winN_range (part := part) (n := n) x.2
    simp only [List.map_cons, List.sum_cons, List.length_cons]
    push_cast
    omega
theorem sumW_snoc (part n : Int) (l : List Wa) (x : Wa) : sumW part n (l ++ [x]) = sumW part n l + winN part n x.1 := by
  unfold sumW
  rw [List.map_append, List.sum_append]
  simp
theorem keeps_below {B : Nat} {W W' : World} (h : Below W.heap.size W W') : KeepsFrom B W W' := KeepsFrom.of_grownBy (grown_of_below h none) (by simp)
theorem box_own {β : Type} (B : Nat) (t : TypeId) (f : β → Array Value) : Own (fun s W => Box W B (f s) t) := fun s X Y row hs hg hrow =>
  hs.grown hg (fun e' => by obtain ⟨o, ho, hc⟩ := hrow B e'.symm; rw [show X.heap[B]? = _ from hs] at ho; cases ho; cases hc)

set_option maxRecDepth 100000 in
set_option maxHeartbeats 8000000 in
theorem total_any (g : FuncId) (lb : Array Value) (za : List Wa) (Sp : List Wa → Prop) (part n : Int) (B1 B2 : Nat) (w : World) (hN : za.length ≤ 8) (hbody : Body Try.prog g) (hn : n ≤ 9223372036854775807)
    (hseq : ∀ m, 1 ≤ m → SeqStopsK Fence.wide m Try.prog g lb (fun x : Wa => #[wnV x.1]) (Below w.heap.size) (fun ys => ys = za) Sp za.length w)
    (h1 : Box w B1 #[.int .i64 part] 3) (h2 : Box w B2 #[.int .i64 n] 3) :
    Calls Try.prog 20 #[.func (.func g) #[] lb, .func (.func 22) #[] #[.pointer (some ⟨B1, 0, none⟩), .pointer (some ⟨B2, 0, none⟩)]] w fun e w' => e = .returned (.int .i64 (sumW part n za)) ∧ Below w.heap.size w w' := by
  unfold Body at hbody
  have HS := Lib.hid hseq
  have HB1 := Lib.hid h1
  have HB2 := Lib.hid h2
  have hb1 : Body Try.prog 22 := body_of Try.func22 (by kernel_rfl) (by kernel_rfl)
  clear hseq h1 h2
  refine (callsIn_wide (n := 3)).1 ?_
  refine callsIn_of_wp_marks Try.func20 rfl trivial ?_ rfl
  simp only [Try.ntmps20, List.size_toArray, List.length_cons, List.length_nil, Nat.reduceAdd, Nat.reduceSub, Array.replicate_succ, Array.replicate_zero, List.push_toArray, List.append_toArray, List.nil_append, List.cons_append]
  gi_wp2
  have hbf := (Box.new w (#[.func (.func 22) #[] #[.pointer (some ⟨B1, 0, none⟩), .pointer (some ⟨B2, 0, none⟩)]] : Array Value) 59).alloc (.cells #[.int .i64 0] 3)
  have hbn : Box ((w.alloc (.cells #[.func (.func 22) #[] #[.pointer (some ⟨B1, 0, none⟩), .pointer (some ⟨B2, 0, none⟩)]] 59)).alloc (.cells #[.int .i64 0] 3)) (w.heap.size + 1) #[.int .i64 0] 3 := Box.new1 _ _ _ (by simp)
  have hB0 : Below w.heap.size w ((w.alloc (.cells #[.func (.func 22) #[] #[.pointer (some ⟨B1, 0, none⟩), .pointer (some ⟨B2, 0, none⟩)]] 59)).alloc (.cells #[.int .i64 0] 3)) := ((Below.refl _ _).alloc (Nat.le_refl _) _).alloc (by simp) _
  have hz0 : ((w.alloc (.cells #[.func (.func 22) #[] #[.pointer (some ⟨B1, 0, none⟩), .pointer (some ⟨B2, 0, none⟩)]] 59)).alloc (.cells #[.int .i64 0] 3)).heap.size = w.heap.size + 1 + 1 := by simp
  generalize hW0 : (w.alloc (.cells #[.func (.func 22) #[] #[.pointer (some ⟨B1, 0, none⟩), .pointer (some ⟨B2, 0, none⟩)]] 59)).alloc (.cells #[.int .i64 0] 3) = w0 at *
  clear hW0
  refine wpIn_rangeFunc_ownH rfl (by omega) (gf := g) (lb := lb) rfl trivial hbody (HS.out 2 (by omega)) belowK_t (belowK_b (by omega)) hB0 (fun _ => rfl)
    (fun pre W => (Box W (w.heap.size + 1) #[.int .i64 (sumW part n pre)] 3 ∧ Box W w.heap.size #[.func (.func 22) #[] #[.pointer (some ⟨B1, 0, none⟩), .pointer (some ⟨B2, 0, none⟩)]] 59) ∧ Below w.heap.size w W) (fun _ _ _ => False)
    (OwnFrom.and (OwnFrom.and (Own.from (box_own (w.heap.size + 1) 3 (fun pre : List Wa => #[Value.int .i64 (sumW part n pre)])) _) (Own.from (box_own (β := List Wa) w.heap.size 59 (fun _ => #[.func (.func 22) #[] #[.pointer (some ⟨B1, 0, none⟩), .pointer (some ⟨B2, 0, none⟩)]])) _)) (ownFrom_below (Nat.le_refl _) (by omega)))
    (fun _ _ _ _ _ hs _ _ => hs)
    ⟨⟨hbn, hbf⟩, hB0⟩
    (fun x a' W => ∃ Bx, Box W Bx #[.int .i64 x.1.1, .int .i64 x.1.2.1, .int .i64 x.1.2.2] 48 ∧
      a' = { tmps := #[.func (.func g) #[] lb, .func (.func 22) #[] #[.pointer (some ⟨B1, 0, none⟩), .pointer (some ⟨B2, 0, none⟩)], undef, .pointer (some ⟨w.heap.size, 0, none⟩), .int .i64 0, .pointer (some ⟨w.heap.size + 1, 0, none⟩), .pointer (some ⟨Bx, 0, none⟩), .func (.func g) #[] lb, wnV x.1, undef, undef, undef, undef, undef, undef], defers := [] })
    (fun x a' _ X Y row hs hg hr => by
      obtain ⟨Bx, hb, rfl⟩ := hs
      exact ⟨Bx, Own.from (box_own (β := Unit) Bx 48 (fun _ => #[.int .i64 x.1.1, .int .i64 x.1.2.1, .int .i64 x.1.2.2])) _ () X Y row hb hg hr, rfl⟩) ?assign ?body ?done ?stop
  case assign =>
    rintro l pre x W K ⟨⟨hb1, hb2⟩, hB⟩ hK
    gi_wp2
    exact hK _ _ ((KeepsOthers.alloc _ _).from _) ((Below.refl _ W).alloc hB.size _) ⟨⟨hb1.alloc _, hb2.alloc _⟩, hB.alloc hB.size _⟩ ⟨W.heap.size, Box.new W _ _, rfl⟩
  case body =>
    rintro l pre x a' W hl ⟨r, hr⟩ ⟨⟨hbs, hbg⟩, hB⟩ ⟨Bx, hb, rfl⟩ hlt
    have hcr : ∀ dd os, Calls Try.prog 22 #[wnV x.1, .pointer (some ⟨B1, 0, none⟩), .pointer (some ⟨B2, 0, none⟩)] (Go.Sort.grow (redrawn W dd) os) fun e w'' => e = .returned (.int .i64 (winN part n x.1)) ∧ ∃ p : Regrown, w'' = Go.Sort.grow (redrawn W p.d) p.os := fun dd os =>
      Calls.regrown_of (frame1_any x.1 part n B1 B2 _ (HB1.out.below (hB.trans ((below_regrown W dd os).mono hB.size)) HB1.out.lt) (HB2.out.below (hB.trans ((below_regrown W dd os).mono hB.size)) HB2.out.lt) x.2 hn)
    have CR := Lib.hid hcr
    have hsr := sumW_range part n pre
    have hxr := winN_range (part := part) (n := n) x.2
    have hsn := sumW_snoc part n pre x
    generalize winN part n x.1 = y at *
    generalize sumW part n pre = s at *
    have hwr : IntKind.i64.wrap (s + y) = s + y := IntWalk.i64_in _ (by omega)
    have k1 := hbs.regrown
    have k2 := hbg.regrown
    have k3 := hb.regrown
    clear hcr
    gi_wp2
    ((refine wpIn_region_round_tail 5 (by kernel_rfl) (by kernel_rfl) (by kernel_rfl) ?_); (simp only [List.take_succ_cons, List.take_zero, List.drop_succ_cons, List.drop_zero]); (repeat (go_big_quiet_step ((first | (go_at_call 22; exact CR.out _ _))))); (refine wpQuiet_nil ?_); (intro _ hw'); (obtain ⟨⟨dq, osq⟩, hw''⟩ := hw'); (subst hw''); (have hb7 := below_regrown W dq osq); (generalize Go.Sort.grow (redrawn W dq) osq = w7 at *); (have hz7 := hb7.size))
    clear k1 k2 k3
    have hbs7 := Box.below hbs hb7 hbs.lt
    obtain ⟨c1, f1, l1, n1, m1⟩ := hbs7.rules
    gi_wp2
    have hset := hbs7.set 0 (.int .i64 (s + y))
    have hoth := (Box.below hbg hb7 hbg.lt).other ⟨w.heap.size + 1, 0, none⟩ (.int .i64 (s + y)) (by show ¬ w.heap.size = w.heap.size + 1; omega)
    exact ⟨(keeps_below hb7).trans ((KeepsOthers.setCell _ _ _).from _), (hb7.mono hB.size).setCell (p := ⟨w.heap.size + 1, 0, none⟩) (by show w.heap.size ≤ w.heap.size + 1; omega) _, ⟨by rw [hsn]; exact hset, hoth⟩, (hB.trans (hb7.mono hB.size)).setCell (p := ⟨w.heap.size + 1, 0, none⟩) (by show w.heap.size ≤ w.heap.size + 1; omega) _⟩
  case done =>
    rintro D ys W hD rfl ⟨⟨hbs, hbg⟩, hB⟩ hK
    obtain ⟨c1, f1, l1, n1, m1⟩ := hbs.rules
    gi_wp2
    refine ⟨by simp, .inl ⟨_, _, rfl, run_takeDeferred hK, ?_⟩⟩
    exact ⟨_, results_tmp rfl _ _ _, rfl, hB.trans (belowK_b (w := w0) (by omega) W D _ _ hD hK rfl rfl)⟩
  case stop =>
    rintro D c pre W _ _ h _
    exact h.elim

noncomputable def frameS (p : Pln) (sched part n : Int) : Int := ((winsOf p sched).map (winN part n)).sum
theorem sumW_eq {p : Pln} {sched : Int} {za : List Wa} (h : za.map (·.1) = winsOf p sched) (part n : Int) : sumW part n za = frameS p sched part n := by
  unfold sumW frameS
  rw [← h, List.map_map]
  rfl
set_option maxHeartbeats 2000000 in
theorem frame_any (pv wv cv : Value) (p : Pln) (sched part n : Int) (w : World) (hp : PlanIs w pv wv cv p) (hn : n ≤ 9223372036854775807) :
    Calls Try.prog 12 #[planV pv wv cv p, .int .i64 sched, .int .i64 part, .int .i64 n] w fun e w' => e = .returned (.int .i64 (frameS p sched part n)) ∧ Below w.heap.size w w' := by
  have HP := Lib.hid hp
  obtain ⟨za, hz⟩ := with_all (l := winsOf p sched) winsOf_wok
  have hlen : za.length ≤ 8 := by have := winsOf_len p sched; rw [← hz] at this; simpa using this
  have HZ := Lib.hid hz
  rw [← sumW_eq hz]
  obtain ⟨a1, k1, a2, k2, a3, k3, rfl, rfl, rfl, hl1, hl2, hl3⟩ := hp.shape
  clear hp hz
  go_enter Try.func12, Try.ntmps12
  go_wp2_with fail
  have hbp := ((Box.new w (#[.slice a1 p.parts.length k1, .int .i64 p.frame, .slice a2 p.wins.length k2, .slice a3 p.chans.length k3] : Array Value) 26).alloc (.cells #[.int .i64 part] 3)).alloc (.cells #[.int .i64 n] 3)
  have hb1 : Box (((w.alloc (.cells #[.slice a1 p.parts.length k1, .int .i64 p.frame, .slice a2 p.wins.length k2, .slice a3 p.chans.length k3] 26)).alloc (.cells #[.int .i64 part] 3)).alloc (.cells #[.int .i64 n] 3)) (w.heap.size + 1) #[.int .i64 part] 3 := (Box.new1 _ _ _ (by simp)).alloc _
  have hb2 : Box (((w.alloc (.cells #[.slice a1 p.parts.length k1, .int .i64 p.frame, .slice a2 p.wins.length k2, .slice a3 p.chans.length k3] 26)).alloc (.cells #[.int .i64 part] 3)).alloc (.cells #[.int .i64 n] 3)) (w.heap.size + 1 + 1) #[.int .i64 n] 3 := Box.new1 _ _ _ (by simp)
  have hx0 : Below w.heap.size w (((w.alloc (.cells #[.slice a1 p.parts.length k1, .int .i64 p.frame, .slice a2 p.wins.length k2, .slice a3 p.chans.length k3] 26)).alloc (.cells #[.int .i64 part] 3)).alloc (.cells #[.int .i64 n] 3)) := (((Below.refl _ _).alloc (Nat.le_refl _) _).alloc (by simp) _).alloc (by simp; omega) _
  generalize hW0 : ((w.alloc (.cells #[.slice a1 p.parts.length k1, .int .i64 p.frame, .slice a2 p.wins.length k2, .slice a3 p.chans.length k3] 26)).alloc (.cells #[.int .i64 part] 3)).alloc (.cells #[.int .i64 n] 3) = w0 at *
  clear hW0 hbp
  have hz0 := hx0.size
  with_reducible refine (wins_any _ _ _ _ _ _).mono ?_
  rintro e w1 ⟨rfl, hw1⟩
  have hb01 : Below w0.heap.size w0 w1 := by subst hw1; (repeat (first | with_reducible assumption | with_reducible exact Below.refl _ _ | with_reducible refine Below.setCell ?_ ?_ _ | with_reducible refine Below.alloc ?_ ?_ _ | with_reducible refine below_drewN' ?_ _ | with_reducible refine Below.drew ?_ | with_reducible refine Below.trans ?_ (Below.mono (by assumption) ?_) | omega | (dsimp only; omega) | (simp only [drew_heap', drewN_heap', World.size_alloc, World.size_setCell]; omega) | (solve | simp) | (solve | (simp; omega))))
  have hz1 : w1.heap.size = w0.heap.size + 1 + 1 := by subst hw1; simp
  have hq1 : Box w1 w0.heap.size #[.slice a1 p.parts.length k1, .int .i64 p.frame, .slice a2 p.wins.length k2, .slice a3 p.chans.length k3] 26 := by subst hw1; exact (Box.new _ _ _).alloc _
  have hq2 : Box w1 (w0.heap.size + 1) #[.int .i64 sched] 3 := by subst hw1; exact Box.new1 _ _ _ (by simp)
  have hx1 : Below w.heap.size w w1 := hx0.trans (hb01.mono hz0)
  have HT := Lib.hid (total_any 26 _ za (fun pre => pre <+: za) part n (w.heap.size + 1) (w.heap.size + 1 + 1) w1 hlen (body_of Try.func26 (by kernel_rfl) (by kernel_rfl)) hn
    (fun m hm => wins_stops m _ _ _ _ _ p sched za w1 hm HZ.out (HP.out.below hx1) hq1 hq2) (hb1.below hb01 hb1.lt) (hb2.below hb01 hb2.lt))
  clear hw1 hq1 hq2 hb1 hb2
  go_wp2_with fail
  with_reducible refine HT.out.mono ?_
  rintro e w2 ⟨rfl, hb2⟩
  go_wp2_with fail
  go_ret
  exact ⟨rfl, hx1.trans (hb2.mono hx1.size)⟩
end Go.Proofs.Ytinhnecgmokfkaa
