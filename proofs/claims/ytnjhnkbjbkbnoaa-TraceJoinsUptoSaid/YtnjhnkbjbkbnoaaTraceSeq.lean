/- A loop over an iterator of events: many, slices.AppendSeq, slices.Collect. Conditions: lengths within the reach. -/
import Derived.Test.YtnjhnkbjbkbnoaaTraceLib
namespace Go.Proofs.Ytnjhnkbjbkbnoaa
open Go Go.RowKit Go.Tm
set_option linter.unusedVariables false
set_option linter.unusedSimpArgs false
attribute [local go_sem] Oper.semAt_some

theorem of_any (a : Option Addr) (n cap : Nat) (f : Fn) (bd caps : Array Value) (w : World) : Calls Try.prog 24 #[.slice a n cap, .func f bd caps] w fun e w' =>
    e = .returned (.func (.func 34) #[] #[.pointer (some ⟨w.heap.size, 0, none⟩), .pointer (some ⟨w.heap.size + 1, 0, none⟩)]) ∧ w' = (w.alloc (.cells #[.slice a n cap] 22)).alloc (.cells #[.func f bd caps] 49) := by
  go_enter Try.func24, Try.ntmps24
  go_wp2_with fail
  go_ret
  exact ⟨rfl, rfl⟩

theorem box_own {β : Type} (B : Nat) (t : TypeId) (f : β → Array Value) : Own (fun s W => Box W B (f s) t) := fun s X Y row hs hg hrow =>
  hs.grown hg (fun e' => by obtain ⟨o, ho, hc⟩ := hrow B e'.symm; rw [show X.heap[B]? = _ from hs] at ho; cases ho; cases hc)
theorem cells_new (w : World) (cs : Array Value) (t : TypeId) : ∀ j u, cs.toList[j]? = some u → (w.alloc (.cells cs t)).cell? ((⟨w.heap.size, 0, none⟩ : Addr).add j) = some u := by
  intro j u hj
  rw [Array.getElem?_toList] at hj
  have h := (Box.new w cs t).rules.1 j
  rw [hj] at h
  by_cases h0 : j = 0
  · subst h0; exact h
  · simpa [Addr.add, h0] using h

theorem flat_snoc (pre : List Ev) (x : Ev) : flat (evs (pre ++ [x])) = flat (evs pre) ++ [.int .i64 x.1, .int .u32 x.2.1, .int .u32 x.2.2.1, .int .u64 x.2.2.2] := by
  unfold flat evs
  rw [List.map_append, List.flatMap_append]
  congr 1

set_option maxRecDepth 100000 in
set_option maxHeartbeats 2000000 in
theorem many_any (g : FuncId) (lb : Array Value) (zs : List Ev) (Sp : List Ev → Prop) (N : Nat) (w : World) (hN : N ≤ 9223372036854775807) (hbody : Body Try.prog g)
    (hseq : ∀ n, 1 ≤ n → SeqStopsK Fence.wide n Try.prog g lb (fun x : Ev => #[evV x]) (Below w.heap.size) (fun ys => ys = zs) Sp N w) :
    Calls Try.prog 28 #[.func (.func g) #[] lb] w fun e w' => e = .returned (.int .i64 zs.length) ∧ Below w.heap.size w w' := by
  unfold Body at hbody
  have HS := Lib.hid hseq
  clear hseq
  refine (callsIn_wide (n := 3)).1 ?_
  refine callsIn_of_wp_marks Try.func28 rfl trivial ?_ rfl
  simp only [Try.ntmps28, List.size_toArray, List.length_cons, List.length_nil, Nat.reduceAdd, Nat.reduceSub, Array.replicate_succ, Array.replicate_zero, List.push_toArray, List.append_toArray, List.nil_append, List.cons_append]
  gi_wp2
  have hB0 : Below w.heap.size w (w.alloc (.cells #[.int .i64 0] 3)) := (Below.refl _ _).alloc (Nat.le_refl _) _
  refine wpIn_rangeFunc_ownG rfl (by omega) (gf := g) (lb := lb) rfl trivial hbody (HS.out 2 (by omega)) belowK_t (belowK_b (by simp)) hB0 (fun _ => rfl)
    (fun pre W => Boxed W w.heap.size 3 (.int .i64 pre.length) ∧ Below w.heap.size w W) (fun _ _ _ => False)
    (OwnFrom.and (Own.from (boxed_own w.heap.size 3 (fun pre : List Ev => Value.int .i64 pre.length)) _) (ownFrom_below (Nat.le_refl _) (by simp)))
    (fun _ _ _ _ _ hs _ _ => hs)
    ⟨Boxed.new w _ _, hB0⟩
    (fun x => { tmps := #[.func (.func g) #[] lb, undef, .int .i64 0, .pointer (some ⟨w.heap.size, 0, none⟩), .func (.func g) #[] lb, evV x, undef, undef, undef], defers := [] }) ?assign ?body ?done ?stop
  case assign =>
    intro l x W K hK
    gi_wp2
    simpa using hK
  case body =>
    rintro l pre x W ⟨hb, hB⟩ hlt
    have hc := hb.cell
    have hf := hb.frozen
    have hwr : IntKind.i64.wrap ((pre.length : Int) + 1) = pre.length + 1 := IntWalk.i64_in _ (by omega)
    have hs := hb.set (.int .i64 ((pre.length : Int) + 1))
    gi_wp2
    exact ⟨(KeepsOthers.setCell _ _ _).from _, (Below.refl w.heap.size W).setCell (p := ⟨w.heap.size, 0, none⟩) (Nat.le_refl _) _, by rw [List.length_append]; exact hs, hB.setCell (p := ⟨w.heap.size, 0, none⟩) (Nat.le_refl _) _⟩
  case done =>
    rintro D ys W hD rfl ⟨hb, hB⟩ hK
    have hc := hb.cell
    gi_wp2
    refine ⟨by simp, .inl ⟨_, _, rfl, run_takeDeferred hK, ?_⟩⟩
    exact ⟨_, results_tmp rfl _ _ _, rfl, hB.trans (belowK_b (w := w) (Nat.le_refl _) W D _ _ (by simp at hD; omega) hK rfl rfl)⟩
  case stop =>
    rintro D c pre W _ _ h _
    exact h.elim

theorem info_event : (Try.prog.info? 29).map (fun i => (i.zero, i.size, i.bytes)) = some (some (.agg #[.int .i64 0, .int .u32 0, .int .u32 0, .int .u64 0]), 4, 24) := by kernel_rfl

set_option maxRecDepth 100000 in
set_option maxHeartbeats 4000000 in
theorem appendSeq_any (g : FuncId) (lb : Array Value) (zs : List Ev) (Sp : List Ev → Prop) (N : Nat) (w : World) (hN : N * 24 ≤ 140737488355328) (hbody : Body Try.prog g)
    (hseq : ∀ n, 1 ≤ n → SeqStopsK Fence.wide n Try.prog g lb (fun x : Ev => #[evV x]) (Below w.heap.size) (fun ys => ys = zs) Sp N w) :
    Calls Try.prog 33 #[.slice none 0 0, .func (.func g) #[] lb] w fun e w' => ∃ v', e = .returned v' ∧ Owned w' w.heap.size 29 true 4 v' (evs zs) ∧ Below w.heap.size w w' := by
  unfold Body at hbody
  have HS := Lib.hid hseq
  obtain ⟨i0, hi, hz0, hz1, hz2⟩ := info_parts info_event
  clear hseq
  refine (callsIn_wide (n := 3)).1 ?_
  refine callsIn_of_wp_marks Try.func33 rfl trivial ?_ rfl
  simp only [Try.ntmps33, List.size_toArray, List.length_cons, List.length_nil, Nat.reduceAdd, Nat.reduceSub, Array.replicate_succ, Array.replicate_zero, List.push_toArray, List.append_toArray, List.nil_append, List.cons_append]
  gi_wp2
  have hB0 : Below w.heap.size w (w.alloc (.cells #[.slice none 0 0] 22)) := (Below.refl _ _).alloc (Nat.le_refl _) _
  refine wpIn_rangeFunc_ownH rfl (by omega) (gf := g) (lb := lb) rfl trivial hbody (HS.out 2 (by omega)) belowK_t (belowK_b (by simp)) hB0 (fun _ => rfl)
    (fun pre W => (∃ v, Boxed W w.heap.size 22 v ∧ W.ownsRow w.heap.size 29 4 v pre.length (flat (evs pre)) ∧ True) ∧ Below w.heap.size w W) (fun _ _ _ => False)
    (OwnFrom.and (Own.from (holdsRow_own w.heap.size w.heap.size 22 29 4 (fun pre : List Ev => pre.length) (fun pre => flat (evs pre)) (fun _ _ => True)) _) (ownFrom_below (Nat.le_refl _) (by simp)))
    (fun _ _ _ _ _ hs _ _ => hs)
    ⟨⟨_, Boxed.new w _ _, World.ownsRow_nil _ _ _ _, trivial⟩, hB0⟩
    (fun x a' W => ∃ Bx, Box W Bx #[.int .i64 x.1, .int .u32 x.2.1, .int .u32 x.2.2.1, .int .u64 x.2.2.2] 29 ∧
      a' = { tmps := #[.slice none 0 0, .func (.func g) #[] lb, .pointer (some ⟨w.heap.size, 0, none⟩), undef, .slice none 0 0, .pointer (some ⟨Bx, 0, none⟩), .func (.func g) #[] lb, evV x, undef, undef, undef, undef, undef], defers := [] })
    (fun x a' _ X Y row hs hg hr => by
      obtain ⟨Bx, hb, rfl⟩ := hs
      exact ⟨Bx, Own.from (box_own (β := Unit) Bx 29 (fun _ => #[.int .i64 x.1, .int .u32 x.2.1, .int .u32 x.2.2.1, .int .u64 x.2.2.2])) _ () X Y row hb hg hr, rfl⟩) ?assign ?body ?done ?stop
  case assign =>
    rintro l pre x W K ⟨⟨v, hv, hr, -⟩, hB⟩ hK
    gi_wp2
    exact hK _ _ ((KeepsOthers.alloc _ _).from _) ((Below.refl _ W).alloc hB.size _) ⟨⟨v, hv.alloc _, hr.alloc _, trivial⟩, hB.alloc hB.size _⟩ ⟨W.heap.size, Box.new W _ _, rfl⟩
  case body =>
    rintro l pre x a' W hl ⟨r, hr⟩ ⟨⟨v, hv, hrow, -⟩, hB⟩ ⟨Bx, hb, rfl⟩ hlt
    have hc := hv.cell
    obtain ⟨c1, f1, l1, n1, m1⟩ := hb.rules
    have hsz := hB.size
    gi_wp2_with (gi_at_builtin; refine wpListIn_append_own _ rfl _ _ 22 rfl w.heap.size 29 i0 (.agg #[.int .i64 0, .int .u32 0, .int .u32 0, .int .u64 0]) 4 24 Try.underlying22 hi hz0 hz1 hz2 rfl (by decide) _ _ _ rfl (hrow.alloc _) ⟨W.heap.size, 0, none⟩ 1 1 [.int .i64 x.1, .int .u32 x.2.1, .int .u32 x.2.2.1, .int .u64 x.2.2.2] rfl rfl (cells_new _ _ _) (by simp [Value.oneCell']) (by simp [maxLen]; omega) (by omega) (by simp; omega) ?_; intro v' w1 hown' hgrow _; obtain ⟨g', cap', rfl⟩ := ownsRow_succ hown'; obtain ⟨hv1, hv2, hr2, hk2, hb2⟩ := hv.appended (by decide) hrow hB.size (Nat.le_refl _) hown' hgrow; have hc1 := hv1.cell; have hf1 := hv1.frozen)
    exact ⟨hk2.from _, hb2, ⟨_, hv2, by rw [List.length_append, flat_snoc]; exact hr2, trivial⟩, hB.trans hb2⟩
  case done =>
    rintro D ys W hD rfl ⟨⟨v, hv, hrow, -⟩, hB⟩ hK
    have hc := hv.cell
    gi_wp2
    refine ⟨by simp, .inl ⟨_, _, rfl, run_takeDeferred hK, ?_⟩⟩
    refine ⟨_, results_tmp rfl _ _ _, v, rfl, ⟨by rw [evs_len]; exact ownsRow_putObj hrow _ hK rfl, ?_⟩, hB.trans (belowK_b (w := w) (Nat.le_refl _) W D _ _ (by simp at hD; omega) hK rfl rfl)⟩
    intro y hy
    obtain ⟨n, _, rfl⟩ := List.mem_map.1 hy
    exact ev_val n
  case stop =>
    rintro D c pre W _ _ h _
    exact h.elim

theorem collect_any (g : FuncId) (lb : Array Value) (zs : List Ev) (Sp : List Ev → Prop) (N : Nat) (w : World) (hN : N * 24 ≤ 140737488355328) (hbody : Body Try.prog g)
    (hseq : ∀ n, 1 ≤ n → SeqStopsK Fence.wide n Try.prog g lb (fun x : Ev => #[evV x]) (Below w.heap.size) (fun ys => ys = zs) Sp N w) :
    Calls Try.prog 23 #[.func (.func g) #[] lb] w fun e w' => ∃ v', e = .returned v' ∧ Owned w' w.heap.size 29 true 4 v' (evs zs) ∧ Below w.heap.size w w' := by
  have HA := Lib.hid (appendSeq_any g lb zs Sp N w hN hbody hseq)
  clear hseq
  go_enter Try.func23, Try.ntmps23
  go_wp2_with fail
  with_reducible refine HA.out.mono ?_
  rintro e w1 ⟨v1, rfl, ho1, hb1⟩
  have HO := Lib.hid ho1
  clear ho1
  go_wp2_with fail
  go_ret
  exact ⟨_, rfl, HO.out, hb1⟩
end Go.Proofs.Ytnjhnkbjbkbnoaa
