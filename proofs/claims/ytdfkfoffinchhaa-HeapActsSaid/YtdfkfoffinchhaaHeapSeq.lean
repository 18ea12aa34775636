/- slices.AppendSeq, Collect of spans: what they answer. Conditions: lengths within the reach. -/
import Derived.Test.YtdfkfoffinchhaaHeapHoles
import Derived.Maps.OwnIn
namespace Go.Proofs.Ytdfkfoffinchhaa
open Go Go.RowKit Go.Tm
set_option linter.unusedVariables false
set_option linter.unusedSimpArgs false
attribute [local go_sem] Oper.semAt_some

theorem box_own {β : Type} (B : Nat) (t : TypeId) (f : β → Array Value) : Own (fun s W => Box W B (f s) t) := fun s X Y row hs hg hrow =>
  hs.grown hg (fun e' => by obtain ⟨o, ho, hc⟩ := hrow B e'.symm; rw [show X.heap[B]? = _ from hs] at ho; cases ho; cases hc)
theorem cells_new (w : World) (cs : Array Value) (t : TypeId) : ∀ j u, cs.toList[j]? = some u → (w.alloc (.cells cs t)).cell? ((⟨w.heap.size, 0, none⟩ : Addr).add j) = some u := by
  intro j u hj
  rw [Array.getElem?_toList] at hj
  have h := (Box.new w cs t).rules.1 j
  rw [hj] at h
  by_cases h0 : j = 0
  · subst h0; exact h
  · simpa [Addr.add, h0] using h
theorem own_lt {w : World} {base : Nat} {E : TypeId} {k g n cap m : Nat} {ys : List Value} (h : w.ownsRow base E k (.slice (some ⟨g, 0, none⟩) n cap) m ys) : g < w.heap.size := by
  obtain ⟨hlen, hr⟩ := h
  rcases hr with ⟨h0, _⟩ | ⟨g', cap', cur, he, hb, hg, h1⟩
  · cases h0
  · cases he
    exact (Array.getElem?_eq_some_iff.1 hg).1
theorem flat_sps (pre : List Sp) (x : Sp) : flat (sps (pre ++ [x])) = flat (sps pre) ++ [.int .i64 x.1, .int .i64 x.2.1, .int .i64 x.2.2] := by
  unfold flat sps
  rw [List.map_append, List.flatMap_append]
  congr 1

set_option maxRecDepth 100000 in
set_option maxHeartbeats 4000000 in
theorem appendSeq_span (g : FuncId) (lb : Array Value) (zs : List Sp) (Sp' : List Sp → Prop) (N : Nat) (w : World) (hN : N * 24 ≤ 140737488355328) (hbody : Body Try.prog g)
    (hseq : ∀ n, 1 ≤ n → SeqStopsK Fence.wide n Try.prog g lb (fun x : Sp => #[spV x]) (FootK w.heap.size) (fun ys => ys = zs) Sp' N (w.alloc (.cells #[.slice none 0 0] 22))) :
    Calls Try.prog 41 #[.slice none 0 0, .func (.func g) #[] lb] w fun e w' => ∃ v', e = .returned v' ∧ Owned w' w.heap.size 31 true 3 v' (sps zs) ∧ Below w.heap.size w w' := by
  unfold Body at hbody
  have HS := Lib.hid hseq
  obtain ⟨i0, hi, hz0, hz1, hz2⟩ := info_parts info_span
  clear hseq
  refine (callsIn_wide (n := 3)).1 ?_
  ((refine callsIn_of_wp_marks Try.func41 rfl trivial ?_ rfl); (simp only [Try.ntmps41, List.size_toArray, List.length_cons, List.length_nil, Nat.reduceAdd, Nat.reduceSub, Array.replicate_succ, Array.replicate_zero, List.push_toArray, List.append_toArray, List.nil_append, List.cons_append]))
  gi_wp2
  have hB0 : Below w.heap.size w (w.alloc (.cells #[.slice none 0 0] 22)) := (Below.refl _ _).alloc (Nat.le_refl _) _
  refine wpIn_rangeFunc_ownH rfl (by omega) (gf := g) (lb := lb) rfl trivial hbody (HS.out 2 (by omega)) FootK.trans (fun W l o o' h1 h2 h3 h4 => FootK.putObj (n := (w.alloc (.cells #[.slice none 0 0] 22)).heap.size) (by simp) W l o o' h1 h2 h3 h4) (Below.refl _ _) (fun _ => rfl)
    (fun pre W => (∃ v, Boxed W w.heap.size 22 v ∧ W.ownsRow w.heap.size 31 3 v pre.length (flat (sps pre)) ∧ ∀ b, v.ownBlock = some b → w.heap.size ≤ b) ∧ Below w.heap.size w W) (fun _ _ _ => False)
    (OwnFrom.and (Own.from (holdsRow_own w.heap.size w.heap.size 22 31 3 (fun pre : List Sp => pre.length) (fun pre => flat (sps pre)) (fun _ v => ∀ b, v.ownBlock = some b → w.heap.size ≤ b)) _) (ownFrom_below (Nat.le_refl _) (by simp)))
    (fun _ _ _ _ _ hs _ _ => hs)
    ⟨⟨_, Boxed.new w _ _, World.ownsRow_nil _ _ _ _, by intro b hb; cases hb⟩, hB0⟩
    (fun x a' W => ∃ Bx, Box W Bx #[.int .i64 x.1, .int .i64 x.2.1, .int .i64 x.2.2] 31 ∧
      a' = { tmps := #[.slice none 0 0, .func (.func g) #[] lb, .pointer (some ⟨w.heap.size, 0, none⟩), undef, .slice none 0 0, .pointer (some ⟨Bx, 0, none⟩), .func (.func g) #[] lb, spV x, undef, undef, undef, undef, undef], defers := [] })
    (fun x a' _ X Y row hs hg hr => by
      obtain ⟨Bx, hb, rfl⟩ := hs
      exact ⟨Bx, Own.from (box_own (β := Unit) Bx 31 (fun _ => #[.int .i64 x.1, .int .i64 x.2.1, .int .i64 x.2.2])) _ () X Y row hb hg hr, rfl⟩) ?assign ?body ?done ?stop
  case assign =>
    rintro l pre x W K ⟨⟨v, hv, hr, hG⟩, hB⟩ hK
    gi_wp2
    exact hK _ _ ((KeepsOthers.alloc _ _).from _) (FootK.of ((Below.refl _ W).alloc (Nat.le_refl _) _) (Box.lt hv)) ⟨⟨v, hv.alloc _, hr.alloc _, hG⟩, hB.alloc hB.size _⟩ ⟨W.heap.size, Box.new W _ _, rfl⟩
  case body =>
    rintro l pre x a' W hl ⟨r, hr⟩ ⟨⟨v, hv, hrow, hG⟩, hB⟩ ⟨Bx, hb, rfl⟩ hlt
    have hc := hv.cell
    obtain ⟨c1, f1, l1, n1, m1⟩ := hb.rules
    have hsz := hB.size
    gi_wp2_with (gi_at_builtin; refine wpListIn_append_own_at _ rfl _ _ 22 rfl w.heap.size 31 i0 (.agg #[.int .i64 0, .int .i64 0, .int .i64 0]) 3 24 Try.underlying22 hi hz0 hz1 hz2 rfl (by decide) _ _ _ rfl (hrow.alloc _) ⟨W.heap.size, 0, none⟩ 1 1 [.int .i64 x.1, .int .i64 x.2.1, .int .i64 x.2.2] rfl rfl (cells_new _ _ _) (by simp [Value.oneCell']) (by simp [maxLen]; omega) (by omega) (by simp; omega) ?_; intro v' w1 hown' hgrow _ hat; obtain ⟨g', cap', rfl⟩ := ownsRow_succ hown'; obtain ⟨hv1, hv2, hr2, hk2, hb2⟩ := hv.appended (by decide) hrow hB.size (Nat.le_refl _) hown' hgrow; have hc1 := hv1.cell; have hf1 := hv1.frozen)
    have hfoot := FootK.appended (B := w.heap.size) (v := v) (v' := .slice (some ⟨g', 0, none⟩) (pre.length + 1) cap') hv ((Below.refl _ W).alloc (Nat.le_refl _) _) hgrow hv1 (hat.imp id fun h => ⟨_, h, by simp⟩) hG (by intro b hb; cases hb; exact own_lt hown')
    refine ⟨hk2.from _, hfoot, ⟨_, hv2, by rw [List.length_append, flat_sps]; exact hr2, ?_⟩, hB.trans hb2⟩
    intro b hb
    rcases hat with h | h
    · exact hG b (h ▸ hb)
    · rw [h] at hb; cases hb; simp; omega
  case done =>
    rintro D ys W hD rfl ⟨⟨v, hv, hrow, -⟩, hB⟩ hK
    have hc := hv.cell
    gi_wp2
    refine ⟨by simp, .inl ⟨_, _, rfl, run_takeDeferred hK, ?_⟩⟩
    refine ⟨_, results_tmp rfl _ _ _, v, rfl, ⟨by rw [sps_len]; exact ownsRow_putObj hrow _ hK rfl, ?_⟩, hB.trans (belowK_b (w := w) (Nat.le_refl _) W D _ _ (by simp at hD; omega) hK rfl rfl)⟩
    intro y hy
    obtain ⟨n, _, rfl⟩ := List.mem_map.1 hy
    exact sp_val n
  case stop =>
    rintro D c pre W _ _ h _
    exact h.elim

theorem collect_span (g : FuncId) (lb : Array Value) (zs : List Sp) (Sp' : List Sp → Prop) (N : Nat) (w : World) (hN : N * 24 ≤ 140737488355328) (hbody : Body Try.prog g)
    (hseq : ∀ n, 1 ≤ n → SeqStopsK Fence.wide n Try.prog g lb (fun x : Sp => #[spV x]) (FootK w.heap.size) (fun ys => ys = zs) Sp' N (w.alloc (.cells #[.slice none 0 0] 22))) :
    Calls Try.prog 31 #[.func (.func g) #[] lb] w fun e w' => ∃ v', e = .returned v' ∧ Owned w' w.heap.size 31 true 3 v' (sps zs) ∧ Below w.heap.size w w' := by
  have HA := Lib.hid (appendSeq_span g lb zs Sp' N w hN hbody hseq)
  clear hseq
  go_enter Try.func31, Try.ntmps31
  go_wp2_with fail
  with_reducible refine HA.out.mono ?_
  rintro e w1 ⟨v1, rfl, ho1, hb1⟩
  have HO := Lib.hid ho1
  clear ho1
  go_wp2_with fail
  go_ret
  exact ⟨_, rfl, HO.out, hb1⟩
end Go.Proofs.Ytdfkfoffinchhaa
