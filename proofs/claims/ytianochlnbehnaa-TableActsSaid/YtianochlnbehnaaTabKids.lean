/- table.Children, Dead: what they answer. Conditions: lengths within the reach. -/
import Derived.Test.YtianochlnbehnaaTabSeq
import Derived.Maps.OwnIn
namespace Go.Proofs.Ytianochlnbehnaa
open Go Go.RowKit Go.Tm
set_option linter.unusedVariables false
set_option linter.unusedSimpArgs false
attribute [local go_sem] Oper.semAt_some

theorem box_own {β : Type} (B : Nat) (t : TypeId) (f : β → Array Value) : Own (fun s W => Box W B (f s) t) := fun s X Y row hs hg hrow =>
  hs.grown hg (fun e' => by obtain ⟨o, ho, hc⟩ := hrow B e'.symm; rw [show X.heap[B]? = _ from hs] at ho; cases ho; cases hc)
theorem info_int : (Try.prog.info? 3).map (fun i => (i.zero, i.size, i.bytes)) = some (some (.int .i64 0), 1, 8) := by kernel_rfl
abbrev kidI (l : List Prc) (pid : Int) : List Int := (kidsP l pid).map (·.pid)
theorem flat_ints (l : List Int) : flat (ints l) = ints l := by
  induction l with
  | nil => rfl
  | cons x r ih => rw [ints, List.map_cons, flat_cons, ih]; rfl

theorem But.appended {B N : Nat} {W w1 : World} {tmp : Obj} {v : Value} (hgrow : (W.alloc tmp).grownBy w1 v.ownBlock) (hG : ∀ b, v.ownBlock = some b → N ≤ b) (hN : N ≤ W.heap.size) (v' : Value) :
    ∀ b, B < b → b < N → (w1.setCell ⟨B, 0, none⟩ v').heap[b]? = W.heap[b]? := fun b h1 h2 => by
  rw [heap_setCell_other _ _ _ _ (by show ¬ b = B; omega), hgrow.block b (by simp; omega) (fun e => by have := hG b e.symm; omega)]
  exact heap_alloc_old _ _ (by omega)
theorem cells_new (w : World) (cs : Array Value) (t : TypeId) : ∀ j u, cs.toList[j]? = some u → (w.alloc (.cells cs t)).cell? ((⟨w.heap.size, 0, none⟩ : Addr).add j) = some u := by
  intro j u hj
  rw [Array.getElem?_toList] at hj
  have h := (Box.new w cs t).rules.1 j
  rw [hj] at h
  by_cases h0 : j = 0
  · subst h0; exact h
  · simpa [Addr.add, h0] using h

set_option maxRecDepth 100000 in
set_option maxHeartbeats 4000000 in
theorem children_int (v : Value) (l : List Prc) (pid : Int) (w : World) (hv : Sl w true 26 v (prs l)) (hby : l.length * 168 ≤ 140737488355328) :
    Calls Try.prog 15 #[v, .int .i64 pid] w fun e w' => ∃ v', e = .returned v' ∧ Owned w' w.heap.size 3 false 1 v' (ints (kidI l pid)) ∧ Below w.heap.size w w' := by
  have HV := Lib.hid hv
  obtain ⟨i0, hi, hz0, hz1, hz2⟩ := info_parts info_int
  obtain ⟨a, cap, rfl, hl⟩ := hv.shape
  rw [prs_len] at hl HV
  clear hv
  refine (callsIn_wide (n := 3)).1 ?_
  refine callsIn_of_wp_marks Try.func15 rfl trivial ?_ rfl
  simp only [Try.ntmps15, List.size_toArray, List.length_cons, List.length_nil, Nat.reduceAdd, Nat.reduceSub, Array.replicate_succ, Array.replicate_zero, List.push_toArray, List.append_toArray, List.nil_append, List.cons_append]
  gi_wp2
  refine ⟨trivial, callsIn_wide.2 ((children_any _ _ _ _ _).mono ?_)⟩
  rintro e w2 ⟨rfl, hw2⟩
  have hx0 : Below w.heap.size w (w.alloc (.cells #[.slice none 0 0] 41)) := (Below.refl _ _).alloc (Nat.le_refl _) _
  have hq0 : Box (w.alloc (.cells #[.slice none 0 0] 41)) w.heap.size #[.slice none 0 0] 41 := Box.new _ _ _
  have hz0' : (w.alloc (.cells #[.slice none 0 0] 41)).heap.size = w.heap.size + 1 := by simp
  generalize hW1 : w.alloc (.cells #[.slice none 0 0] 41) = w1 at *
  clear hW1
  have hb2 : Below w1.heap.size w1 w2 := by subst hw2; (repeat (first | with_reducible assumption | with_reducible exact Below.refl _ _ | with_reducible refine Below.setCell ?_ ?_ _ | with_reducible refine Below.alloc ?_ ?_ _ | with_reducible refine below_drewN' ?_ _ | with_reducible refine Below.drew ?_ | with_reducible refine Below.trans ?_ (Below.mono (by assumption) ?_) | omega | (dsimp only; omega) | (simp only [drew_heap', drewN_heap', World.size_alloc, World.size_setCell]; omega) | (solve | simp) | (solve | (simp; omega))))
  have hs1 : Box w2 w1.heap.size #[.slice a l.length cap] 22 := by subst hw2; exact (Box.new _ _ _).alloc _
  have hs2 : Box w2 (w1.heap.size + 1) #[.int .i64 pid] 3 := by subst hw2; exact Box.new1 _ _ _ (by simp)
  have hB0 : Below w.heap.size w w2 := hx0.trans (hb2.mono hx0.size)
  have hq2 := hq0.below hb2 hq0.lt
  have hbody : Body Try.prog 46 := body_of Try.func46 (by kernel_rfl) (by kernel_rfl)
  unfold Body at hbody
  clear hw2 hq0
  rw [hz0'] at hs1 hs2
  have hzx := hB0.size
  gi_wp2
  clear hz0'
  have HB := But.of (B := w.heap.size) (Below.refl w2.heap.size w2) hzx
  have hlb : But w.heap.size w2.heap.size w2 w2 := ⟨Below.refl _ _, fun _ _ _ => rfl⟩
  refine wpIn_rangeFunc_ownH rfl (by omega) (gf := 46) (lb := #[.pointer (some ⟨w.heap.size + 1, 0, none⟩), .pointer (some ⟨w.heap.size + 1 + 1, 0, none⟩)]) rfl trivial hbody
    (children_stops 2 _ _ _ pid l w2 (But w.heap.size w2.heap.size) (by omega) hlb (fun W h => h.sl HV.out (Nat.le_refl _) hB0) (fun W h => h.box hs1 (by omega) hs1.lt) (fun W h => h.box hs2 (by omega) hs2.lt) But.trans (fun W W' h hb => But.of (hb.mono h.1.size) hzx))
    But.trans (fun W l' o o' h1 h2 h3 h4 => But.of (belowK_b (w := w2) (Nat.le_refl _) W l' o o' h1 h2 h3 h4) hzx) (Below.refl _ _) (fun _ => rfl)
    (fun pre W => (∃ v, Boxed W w.heap.size 41 v ∧ W.ownsRow w.heap.size 3 1 v pre.length (ints (pre.map (·.pid))) ∧ ∀ b, v.ownBlock = some b → w2.heap.size ≤ b) ∧ Below w.heap.size w W ∧ w2.heap.size ≤ W.heap.size) (fun _ _ _ => False)
    (OwnFrom.and (Own.from (holdsRow_own w.heap.size w.heap.size 41 3 1 (fun pre : List Prc => pre.length) (fun pre => ints (pre.map (·.pid))) (fun _ v => ∀ b, v.ownBlock = some b → w2.heap.size ≤ b)) _) (OwnFrom.and (ownFrom_below (Nat.le_refl _) hzx) (fun _ X Y row hs hg _ => Nat.le_trans hs hg.size)))
    (fun _ _ _ _ _ hs _ _ => hs)
    ⟨⟨_, hq2, World.ownsRow_nil _ _ _ _, by intro b hb; cases hb⟩, hB0, Nat.le_refl _⟩
    (fun x a' W => ∃ Bx, Box W Bx (prC x) 33 ∧
      a' = { tmps := #[.slice a l.length cap, .int .i64 pid, undef, undef, .slice none 0 0, .pointer (some ⟨w.heap.size, 0, none⟩), .pointer (some ⟨Bx, 0, none⟩), .slice a l.length cap, .int .i64 pid, .func (.func 46) #[] #[.pointer (some ⟨w.heap.size + 1, 0, none⟩), .pointer (some ⟨w.heap.size + 1 + 1, 0, none⟩)], prV x, undef, undef, undef, undef, undef, undef], defers := [] })
    (fun x a' _ X Y row hs hg hr => by
      obtain ⟨Bx, hb, rfl⟩ := hs
      exact ⟨Bx, Own.from (box_own (β := Unit) Bx 33 (fun _ => prC x)) _ () X Y row hb hg hr, rfl⟩) ?assign ?body ?done ?stop
  case assign =>
    rintro l' pre x W K ⟨⟨v, hv, hr, hG⟩, hB, hN⟩ hK
    gi_wp2_with (first | (refine wpListIn_store_freshA rfl 33 _ _ rfl (prC x) ty_proc (pr_val x) (by rfl) (by simp [Act.eval, Act.put]) (by simp [Act.eval, Act.put]) ?_) | fail)
    exact hK _ _ ((KeepsOthers.alloc _ _).from _) (But.of ((Below.refl _ W).alloc hN _) hzx) ⟨⟨v, hv.alloc _, hr.alloc _, hG⟩, hB.alloc hB.size _, Nat.le_trans hN (by simp)⟩ ⟨W.heap.size, Box.new W _ _, rfl⟩
  case body =>
    rintro l' pre x a' W hl' ⟨r, hr⟩ ⟨⟨v, hv, hrow, hG⟩, hB, hN⟩ ⟨Bx, hb, rfl⟩ hlt
    have hc := hv.cell
    obtain ⟨c1, f1, l1, n1, m1⟩ := hb.rules
    have hsz := hB.size
    have q0 := prC0 x
    gi_wp2_with (gi_at_builtin; refine wpListIn_append_own_at _ rfl _ _ 41 rfl w.heap.size 3 i0 (.int .i64 0) 1 8 Try.underlying41 hi hz0 hz1 hz2 rfl (by decide) _ _ _ rfl (hrow.alloc _) ⟨W.heap.size, 0, none⟩ 1 1 [.int .i64 x.pid] rfl rfl (cells_new _ _ _) (by simp [Value.oneCell']) (by simp [maxLen]; omega) (by omega) (by simp; omega) ?_; intro v' w1 hown' hgrow _ hat; obtain ⟨g', cap', rfl⟩ := ownsRow_succ hown'; obtain ⟨hv1, hv2, hr2, hk2, hb2⟩ := hv.appended (by decide) hrow hB.size (Nat.le_refl _) hown' hgrow; have hc1 := hv1.cell; have hf1 := hv1.frozen)
    have hbut := But.appended (B := w.heap.size) (v := v) hgrow hG hN (.slice (some ⟨g', 0, none⟩) (pre.length + 1) cap')
    refine ⟨hk2.from _, ⟨hb2, hbut⟩, ⟨_, hv2, by have h := hr2; unfold ints at h ⊢; rw [List.length_append, List.map_append, List.map_append]; exact h, ?_⟩, hB.trans hb2, Nat.le_trans hN hb2.size⟩
    intro b hb
    rcases hat with h | h
    · exact hG b (h ▸ hb)
    · rw [h] at hb; cases hb; simp; omega
  case done =>
    rintro D ys W hD rfl ⟨⟨v, hv, hrow, -⟩, hB, hN⟩ hK
    have hc := hv.cell
    gi_wp2
    refine ⟨by simp, .inl ⟨_, _, rfl, run_takeDeferred hK, ?_⟩⟩
    refine ⟨_, results_tmp rfl _ _ _, v, rfl, ⟨by rw [ints_len]; rw [flat_ints, List.length_map]; exact ownsRow_putObj hrow _ hK rfl, ?_⟩, hB.trans (belowK_b (w := w) (Nat.le_refl _) W D _ _ (by omega) hK rfl rfl)⟩
    exact ints_val _
  case stop =>
    rintro D c pre W _ _ h _
    exact h.elim

def deadB (x : Prc) : Bool := decide (x.st = 4)
def deadS (l : List Prc) (pid : Int) : Int × Bool := match (kidsP l pid).find? deadB with | some x => (x.pid, true) | none => (0, false)
def NoHit (q : Prc → Bool) (pre : List Prc) : Prop := ∀ x ∈ pre, q x = false
theorem deadS_none {l : List Prc} {pid : Int} (h : (kidsP l pid).find? deadB = none) : deadS l pid = (0, false) := by unfold deadS; rw [h]
theorem deadS_some {l : List Prc} {pid : Int} {x : Prc} (h : (kidsP l pid).find? deadB = some x) : deadS l pid = (x.pid, true) := by unfold deadS; rw [h]
theorem NoHit.snoc {q : Prc → Bool} {pre : List Prc} {x : Prc} (h : NoHit q pre) (hx : q x = false) : NoHit q (pre ++ [x]) := by
  intro y hy
  rcases List.mem_append.1 hy with hy | hy
  · exact h y hy
  · simp at hy; subst hy; exact hx
theorem NoHit.none {q : Prc → Bool} {za : List Prc} (h : NoHit q za) : za.find? q = none := by
  rw [List.find?_eq_none]; intro x hx; rw [h x hx]; simp
theorem NoHit.some {q : Prc → Bool} {ys : List Prc} {x : Prc} {za : List Prc} (h : NoHit q ys) (hx : q x = true) (hp : ys ++ [x] <+: za) : za.find? q = some x := by
  obtain ⟨r, rfl⟩ := hp
  rw [List.append_assoc, List.find?_append, h.none]
  simp [hx]
def HitAt (B1 B2 : Nat) (w : World) (pre : List Prc) (W : World) : Prop :=
  ∃ (x : Prc) (ys : List Prc), pre = ys ++ [x] ∧ NoHit deadB ys ∧ deadB x = true ∧ (Box W B1 #[.int .i64 x.pid] 3 ∧ Box W B2 #[.bool true] 4) ∧ Below w.heap.size w W
theorem hitAt_own {B1 B2 : Nat} {w : World} {B : Nat} (hB : w.heap.size ≤ B) : OwnFrom B (HitAt B1 B2 w) := by
  intro pre X Y row hs hg hr
  obtain ⟨x, ys, h1, h2, h3, ⟨h4, h5⟩, h6⟩ := hs
  exact ⟨x, ys, h1, h2, h3, ⟨Own.from (box_own (β := Unit) _ 3 (fun _ => #[.int .i64 x.pid])) _ () X Y row h4 hg hr, Own.from (box_own (β := Unit) _ 4 (fun _ => #[.bool true])) _ () X Y row h5 hg hr⟩, ownFrom_below (β := Unit) (Nat.le_refl _) hB () X Y row h6 hg hr⟩

set_option maxRecDepth 100000 in
set_option maxHeartbeats 8000000 in
theorem dead_any (v : Value) (l : List Prc) (pid : Int) (w : World) (hv : Sl w true 26 v (prs l)) :
    Calls Try.prog 16 #[v, .int .i64 pid] w fun e w' => e = .returned (.tuple #[.int .i64 (deadS l pid).1, .bool (deadS l pid).2]) ∧ Below w.heap.size w w' := by
  have HV := Lib.hid hv
  obtain ⟨a, cap, rfl, hl⟩ := hv.shape
  rw [prs_len] at hl HV
  clear hv
  refine (callsIn_wide (n := 3)).1 ?_
  refine callsIn_of_wp_marks Try.func16 rfl trivial ?_ rfl
  simp only [Try.ntmps16, List.size_toArray, List.length_cons, List.length_nil, Nat.reduceAdd, Nat.reduceSub, Array.replicate_succ, Array.replicate_zero, List.push_toArray, List.append_toArray, List.nil_append, List.cons_append]
  gi_wp2
  refine ⟨trivial, callsIn_wide.2 ((children_any _ _ _ _ _).mono ?_)⟩
  rintro e w2 ⟨rfl, hw2⟩
  have hx0 : Below w.heap.size w ((w.alloc (.cells #[.int .i64 0] 3)).alloc (.cells #[.bool false] 4)) := ((Below.refl _ _).alloc (Nat.le_refl _) _).alloc (by simp) _
  have hq0 : Box ((w.alloc (.cells #[.int .i64 0] 3)).alloc (.cells #[.bool false] 4)) w.heap.size #[.int .i64 0] 3 := (Box.new _ _ _).alloc _
  have hq1 : Box ((w.alloc (.cells #[.int .i64 0] 3)).alloc (.cells #[.bool false] 4)) (w.heap.size + 1) #[.bool false] 4 := Box.new1 _ _ _ (by simp)
  have hz0' : ((w.alloc (.cells #[.int .i64 0] 3)).alloc (.cells #[.bool false] 4)).heap.size = w.heap.size + 1 + 1 := by simp
  generalize hW1 : (w.alloc (.cells #[.int .i64 0] 3)).alloc (.cells #[.bool false] 4) = w1 at *
  clear hW1
  have hb2 : Below w1.heap.size w1 w2 := by subst hw2; (repeat (first | with_reducible assumption | with_reducible exact Below.refl _ _ | with_reducible refine Below.setCell ?_ ?_ _ | with_reducible refine Below.alloc ?_ ?_ _ | with_reducible refine below_drewN' ?_ _ | with_reducible refine Below.drew ?_ | with_reducible refine Below.trans ?_ (Below.mono (by assumption) ?_) | omega | (dsimp only; omega) | (simp only [drew_heap', drewN_heap', World.size_alloc, World.size_setCell]; omega) | (solve | simp) | (solve | (simp; omega))))
  have hs1 : Box w2 w1.heap.size #[.slice a l.length cap] 22 := by subst hw2; exact (Box.new _ _ _).alloc _
  have hs2 : Box w2 (w1.heap.size + 1) #[.int .i64 pid] 3 := by subst hw2; exact Box.new1 _ _ _ (by simp)
  have hx3 : Below w.heap.size w w2 := hx0.trans (hb2.mono hx0.size)
  have hr1' := hq0.below hb2 hq0.lt
  have hr2' := hq1.below hb2 hq1.lt
  have hbody : Body Try.prog 46 := body_of Try.func46 (by kernel_rfl) (by kernel_rfl)
  unfold Body at hbody
  clear hw2 hq0 hq1
  rw [hz0'] at hs1 hs2
  have hzx := hx3.size
  gi_wp2
  clear hz0'
  refine wpIn_rangeFunc_ownH rfl (by omega) (gf := 46) (lb := #[.pointer (some ⟨w.heap.size + 1 + 1, 0, none⟩), .pointer (some ⟨w.heap.size + 1 + 1 + 1, 0, none⟩)]) rfl trivial hbody
    (children_stops 2 _ _ _ pid l w2 (Below w2.heap.size) (by omega) (Below.refl _ _) (fun W h => HV.out.below (hx3.trans (h.mono hzx))) (fun W h => hs1.below h hs1.lt) (fun W h => hs2.below h hs2.lt) belowK_t (fun W W' h hb => hb.mono h.size)) belowK_t (belowK_b (Nat.le_refl _)) (Below.refl _ _) (fun _ => rfl)
    (fun pre W => NoHit deadB pre ∧ Below w2.heap.size w2 W)
    (fun c pre W => c = .ret ∧ HitAt (w.heap.size) (w.heap.size + 1) w pre W)
    (OwnFrom.and (ownFrom_pure _ _) (ownFrom_below (Nat.le_refl _) (Nat.le_refl _)))
    (fun c => OwnFrom.and (ownFrom_pure _ (fun _ => c = .ret)) (hitAt_own hx3.size))
    ⟨(by intro y hy; cases hy), Below.refl _ _⟩
    (fun x a' W => ∃ Bx, Box W Bx (prC x) 33 ∧
      a' = { tmps := #[.slice a l.length cap, .int .i64 pid, undef, undef, .pointer (some ⟨w.heap.size, 0, none⟩), .pointer (some ⟨w.heap.size + 1, 0, none⟩), .pointer (some ⟨Bx, 0, none⟩), .slice a l.length cap, .int .i64 pid, .func (.func 46) #[] #[.pointer (some ⟨w.heap.size + 1 + 1, 0, none⟩), .pointer (some ⟨w.heap.size + 1 + 1 + 1, 0, none⟩)], prV x, undef, undef, undef, undef, undef], defers := [] })
    (fun x a' _ X Y row hs hg hr => by
      obtain ⟨Bx, hb, rfl⟩ := hs
      exact ⟨Bx, Own.from (box_own (β := Unit) Bx 33 (fun _ => prC x)) _ () X Y row hb hg hr, rfl⟩) ?assign ?body ?done ?stop
  case assign =>
    rintro l' pre x W K ⟨hno, hB⟩ hK
    gi_wp2_with (first | (refine wpListIn_store_freshA rfl 33 _ _ rfl (prC x) ty_proc (pr_val x) (by rfl) (by simp [Act.eval, Act.put]) (by simp [Act.eval, Act.put]) ?_) | fail)
    exact hK _ _ ((KeepsOthers.alloc _ _).from _) ((Below.refl _ W).alloc hB.size _) ⟨hno, hB.alloc hB.size _⟩ ⟨W.heap.size, Box.new W _ _, rfl⟩
  case body =>
    rintro l' pre x a' W hl' ⟨r, hr⟩ ⟨hno, hB⟩ ⟨Bx, hb, rfl⟩ hlt
    have hr1W := hr1'.below hB hr1'.lt
    have hr2W := hr2'.below hB hr2'.lt
    obtain ⟨c2, f2, l2, n2, m2⟩ := hb.rules
    obtain ⟨c3, f3, l3, n3, m3⟩ := hr1W.rules
    obtain ⟨c4, f4, l4, n4, m4⟩ := hr2W.rules
    have hxB : Below w.heap.size w W := hx3.trans (hB.mono hx3.size)
    have q0 := prC0 x
    have q2 := prC2 x
    have HNO := Lib.hid hno
    have hset1 := hr1W.set 0 (.int .i64 x.pid)
    have hoth1 := hr2W.other ⟨w.heap.size, 0, none⟩ (.int .i64 x.pid) (by show ¬ w.heap.size + 1 = w.heap.size; omega)
    clear hno
    by_cases g1 : x.st = 4
    · have g1b : (x.st == 4) = true := by simpa using g1
      gi_wp2
      refine ⟨((KeepsOthers.setCell _ _ _).from _).trans ((KeepsOthers.setCell _ _ _).from _), rfl, x, pre, rfl, HNO.out, by unfold deadB; simpa using g1, ⟨?_, ?_⟩, ?_⟩
      · exact hset1.other ⟨w.heap.size + 1, 0, none⟩ _ (by show ¬ w.heap.size = w.heap.size + 1; omega)
      · exact hoth1.set 0 (.bool true)
      · exact (hxB.setCell (p := ⟨w.heap.size, 0, none⟩) (Nat.le_refl _) _).setCell (p := ⟨w.heap.size + 1, 0, none⟩) (by show w.heap.size ≤ w.heap.size + 1; omega) _
    · have g1b : (x.st == 4) = false := by simpa using g1
      gi_wp2
      exact ⟨KeepsFrom.refl _ _, Below.refl _ _, HNO.out.snoc (by unfold deadB; simpa using g1), hB⟩
  case done =>
    rintro D ys W hD rfl ⟨hno, hB⟩ hK
    have hr1W := hr1'.below hB hr1'.lt
    have hr2W := hr2'.below hB hr2'.lt
    obtain ⟨c3, f3, l3, n3, m3⟩ := hr1W.rules
    obtain ⟨c4, f4, l4, n4, m4⟩ := hr2W.rules
    have hxB : Below w.heap.size w W := hx3.trans (hB.mono hx3.size)
    have HAT := Lib.hid hno.none
    have hset1 := (hr1W.set 0 (.int .i64 0)).other ⟨w.heap.size + 1, 0, none⟩ (.bool false) (by show ¬ w.heap.size = w.heap.size + 1; omega)
    have hset2 := (hr2W.other ⟨w.heap.size, 0, none⟩ (.int .i64 0) (by show ¬ w.heap.size + 1 = w.heap.size; omega)).set 0 (.bool false)
    have hlt2 := hr2'.lt
    have hKD : ((W.setCell ⟨w.heap.size, 0, none⟩ (.int .i64 0)).setCell ⟨w.heap.size + 1, 0, none⟩ (.bool false)).heap[D]? = some (.deferred (some [])) := by
      rw [heap_setCell_other _ _ _ _ (by show ¬ D = w.heap.size + 1; omega), heap_setCell_other _ _ _ _ (by show ¬ D = w.heap.size; omega)]; exact hK
    clear hno
    gi_wp2
    rw [deadS_none HAT.out]
    refine ⟨by simp, .inl ⟨_, _, rfl, run_takeDeferred hKD, ?_⟩⟩
    have b1 := ((Own.from (box_own (β := Unit) _ 3 (fun _ => _)) w2.heap.size).putObj (s := ()) (Obj.deferred none) hset1 hD hKD rfl).rules.1 0
    have b2 := ((Own.from (box_own (β := Unit) _ 4 (fun _ => _)) w2.heap.size).putObj (s := ()) (Obj.deferred none) hset2 hD hKD rfl).rules.1 0
    refine ⟨.tuple #[.int .i64 0, .bool false], by simp [results, Try.results16, go_sem, b1, b2], rfl, ?_⟩
    refine Below.trans ?_ (belowK_b (w := w2) hx3.size _ D _ _ hD hKD rfl rfl)
    exact (hxB.setCell (p := ⟨w.heap.size, 0, none⟩) (Nat.le_refl _) _).setCell (p := ⟨w.heap.size + 1, 0, none⟩) (by show w.heap.size ≤ w.heap.size + 1; omega) _
  case stop =>
    rintro D c pre W hD hpre ⟨rfl, x, ys, rfl, h2, h3, ⟨h4, h5⟩, h6⟩ hK
    have hat := h2.some h3 hpre
    gi_wp2
    rw [deadS_some hat]
    refine ⟨by simp, .inl ⟨_, _, rfl, run_takeDeferred hK, ?_⟩⟩
    have b1 := ((Own.from (box_own (β := Unit) _ 3 (fun _ => _)) w2.heap.size).putObj (s := ()) (Obj.deferred none) h4 hD hK rfl).rules.1 0
    have b2 := ((Own.from (box_own (β := Unit) _ 4 (fun _ => _)) w2.heap.size).putObj (s := ()) (Obj.deferred none) h5 hD hK rfl).rules.1 0
    refine ⟨.tuple #[.int .i64 x.pid, .bool true], by simp [results, Try.results16, go_sem, b1, b2], rfl, ?_⟩
    exact h6.trans (belowK_b (w := w2) hx3.size _ D _ _ hD hK rfl rfl)
end Go.Proofs.Ytianochlnbehnaa
