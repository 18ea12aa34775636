/- heap.Take: what it answers. Conditions: lengths within the reach. -/
import Derived.Test.YtdfkfoffinchhaaHeapTake
import Derived.Scope
namespace Go.Proofs.Ytdfkfoffinchhaa
open Go Go.RowKit Go.Tm
set_option linter.unusedVariables false
set_option linter.unusedSimpArgs false
attribute [local go_sem] Oper.semAt_some

def fitB (n : Int) (x : Sp) : Bool := decide (n ≤ x.2.1)
/-- What Take answers: the row, the place, the error. -/
noncomputable def takeS (size : Int) (l : List Sp) (n who : Int) : List Sp × Int × Int :=
  if n < 1 ∨ rightB size l = false then (l, 0, 1) else match (holesS size l).find? (fitB n) with | some x => (ins l (x.1, n, who), x.1, 0) | none => (l, 0, 5)
theorem takeS_arg {size : Int} {l : List Sp} {n who : Int} (h : n < 1 ∨ ¬ RightP size l) : takeS size l n who = (l, 0, 1) := by
  unfold takeS; rw [if_pos (h.imp id rightB_false)]
theorem takeS_none {size : Int} {l : List Sp} {n who : Int} (h : ¬ n < 1) (hr : RightP size l) (hf : (holesS size l).find? (fitB n) = none) : takeS size l n who = (l, 0, 5) := by
  unfold takeS; rw [if_neg (by rw [rightB_true hr]; simp [h]), hf]
theorem takeS_some {size : Int} {l : List Sp} {n who : Int} (h : ¬ n < 1) (hr : RightP size l) {x : Sp} (hf : (holesS size l).find? (fitB n) = some x) : takeS size l n who = (ins l (x.1, n, who), x.1, 0) := by
  unfold takeS; rw [if_neg (by rw [rightB_true hr]; simp [h]), hf]
def NoFit (n : Int) (pre : List Sp) : Prop := ∀ x ∈ pre, fitB n x = false
theorem NoFit.snoc {n : Int} {pre : List Sp} {x : Sp} (h : NoFit n pre) (hx : fitB n x = false) : NoFit n (pre ++ [x]) := by
  intro y hy
  rcases List.mem_append.1 hy with hy | hy
  · exact h y hy
  · simp at hy; subst hy; exact hx
theorem NoFit.none {n : Int} {za : List Sp} (h : NoFit n za) : za.find? (fitB n) = none := by
  rw [List.find?_eq_none]; intro x hx; rw [h x hx]; simp
theorem NoFit.some {n : Int} {ys : List Sp} {x : Sp} {za : List Sp} (h : NoFit n ys) (hx : fitB n x = true) (hp : ys ++ [x] <+: za) : za.find? (fitB n) = some x := by
  obtain ⟨r, rfl⟩ := hp
  rw [List.append_assoc, List.find?_append, h.none]
  simp [hx]
def FitAt (n : Int) (B : Nat) (w2 : World) (pre : List Sp) (W : World) : Prop :=
  ∃ (x : Sp) (ys : List Sp), pre = ys ++ [x] ∧ NoFit n ys ∧ fitB n x = true ∧ Box W B #[.int .i64 x.1] 3 ∧ FootK B w2 W
theorem FootK.own {β : Type} {B n : Nat} {w2 : World} (hB : B < n) : OwnFrom n (fun (_ : β) W => FootK B w2 W) := by
  intro s X Y row hs hg hr
  have hBX : B < X.heap.size := Nat.lt_of_lt_of_le hs.2.1 hs.size
  have hrow : ∀ b (o : Obj), X.heap[b]? = some o → o.isCells = true → Y.heap[b]? = some o := fun b o h1 h2 => by
    rw [hg.block b (Array.getElem?_eq_some_iff.1 h1).1 (fun e => by obtain ⟨_, o', h3, h4⟩ := hr b e.symm; rw [h1] at h3; cases h3; rw [h2] at h4; cases h4)]
    exact h1
  have hne : Y.heap[B]? = X.heap[B]? := hg.block B hBX (fun e => by have := (hr B e.symm).1; omega)
  refine hs.trans ⟨(Below.refl B X).grown hg (by omega) (fun k e => Nat.le_of_lt (Nat.lt_of_lt_of_le hB (hr k e).1)), hBX, fun b o h1 h2 h3 => ⟨hrow b o h1 h2, fun k => h3 (k.same hne)⟩, fun h1 b k => Nat.lt_of_lt_of_le (h1 b (k.same hne)) hg.size⟩

theorem fitAt_own {n : Int} {B m : Nat} {w2 : World} (hB : B < m) : OwnFrom m (FitAt n B w2) := by
  intro pre X Y row hs hg hr
  obtain ⟨x, ys, h1, h2, h3, h4, h5⟩ := hs
  exact ⟨x, ys, h1, h2, h3, Own.from (box_own (β := Unit) _ 3 (fun _ => #[.int .i64 x.1])) _ () X Y row h4 hg hr, FootK.own (β := Unit) hB () X Y row h5 hg hr⟩
theorem sp_cells (x : Sp) : (spV x).cells = #[.int .i64 x.1, .int .i64 x.2.1, .int .i64 x.2.2] := rfl
def SK (X0 : World) (h b1 b2 : Nat) (n p : Int) (W' : World) : Prop := W'.cell? ⟨b1, 0, none⟩ = some (.int .i64 n) ∧ W'.cell? ⟨b2, 0, none⟩ = some (.int .i64 p) ∧ ∃ X, Below X0.heap.size X0 X ∧ (W' = X ∨ ∃ u, W' = X.setCell ⟨h, 1, none⟩ u)
theorem SK.of {X0 X : World} {h b1 b2 : Nat} {n p : Int} (hc : X0.cell? ⟨b1, 0, none⟩ = some (.int .i64 n) ∧ X0.cell? ⟨b2, 0, none⟩ = some (.int .i64 p)) (hh : h < X0.heap.size) (hb : Below X0.heap.size X0 X) : SK X0 h b1 b2 n p X :=
  ⟨(hb.cell (p := ⟨b1, 0, none⟩) (World.block_lt_of_cell? _ _ hc.1)).trans hc.1, (hb.cell (p := ⟨b2, 0, none⟩) (World.block_lt_of_cell? _ _ hc.2)).trans hc.2, X, hb, .inl rfl⟩
theorem SK.set {X0 X : World} {h b1 b2 : Nat} {n p : Int} (hc : X0.cell? ⟨b1, 0, none⟩ = some (.int .i64 n) ∧ X0.cell? ⟨b2, 0, none⟩ = some (.int .i64 p)) (h1 : h ≠ b1) (h2 : h ≠ b2) (hl1 : b1 < X0.heap.size) (hl2 : b2 < X0.heap.size) (u : Value) (hb : Below X0.heap.size X0 X) : SK X0 h b1 b2 n p (X.setCell ⟨h, 1, none⟩ u) :=
  ⟨(World.cell?_setCell_far _ _ _ _ h1).trans ((hb.cell (p := ⟨b1, 0, none⟩) hl1).trans hc.1), (World.cell?_setCell_far _ _ _ _ h2).trans ((hb.cell (p := ⟨b2, 0, none⟩) hl2).trans hc.2), X, hb, .inr ⟨u, rfl⟩⟩
theorem noGoto_ret {Q : Exit → Act → World → Prop} {a : Act} {w : World} (h : Q .ret a w) : Exit.noGoto Q .ret a w := h

set_option maxRecDepth 100000 in
set_option maxHeartbeats 8000000 in
theorem take_any (size : Int) (v : Value) (l : List Sp) (n who : Int) (w : World) (hv : Sl w true 3 v (sps l)) (hs : (Lit.int .i64 size).wf = true) (hw : ∀ x ∈ l, SpWf x) (hby : (l.length + 1) * 24 ≤ 140737488355328) :
    Calls Try.prog 12 #[.agg #[.int .i64 size, v], .int .i64 n, .int .i64 who] w fun e w' => ∃ v', e = .returned (.tuple #[.agg #[.int .i64 size, v'], .int .i64 (takeS size l n who).2.1, .int .i64 (takeS size l n who).2.2]) ∧ Sl w' true 3 v' (sps (takeS size l n who).1) ∧ Res w.heap.size v (sps l) v' (sps (takeS size l n who).1) ∧ Below w.heap.size w w' := by
  have HV := Lib.hid hv
  have HR := Lib.hid (fun W h => right_any size v l W h hs hw)
  have HS := Lib.hid hs
  have HBY := Lib.hid hby
  obtain ⟨a, cap, rfl, hl⟩ := hv.shape
  rw [sps_len] at hl HV HR ⊢
  clear hv hw hs hby
  by_cases hn : n < 1
  · have hd : decide (n < 1) = true := by simpa using hn
    have HT := Lib.hid (takeS_arg (size := size) (l := l) (who := who) (.inl hn))
    rw [HT.out]
    go_enter Try.func12, Try.ntmps12
    go_wp2_with fail
    refine wp_scope_straight ?_
    go_wp2_with fail
    refine noGoto_ret ?_
    refine bodyPost_ret (v := .tuple #[.agg #[.int .i64 size, .slice a l.length cap], .int .i64 0, .int .i64 1]) (by simp [results, Try.results12, go_sem]) rfl ⟨_, rfl, ?_, Res.same, by (repeat (first | with_reducible assumption | with_reducible exact Below.refl _ _ | with_reducible refine Below.setCell ?_ ?_ _ | with_reducible refine Below.alloc ?_ ?_ _ | with_reducible refine below_drewN' ?_ _ | with_reducible refine Below.drew ?_ | with_reducible refine Below.trans ?_ (Below.mono (by assumption) ?_) | omega | (dsimp only; omega) | (simp only [drew_heap', drewN_heap', World.size_alloc, World.size_setCell]; omega) | (solve | simp) | (solve | (simp; omega))))⟩
    exact HV.out.below (by (repeat (first | with_reducible assumption | with_reducible exact Below.refl _ _ | with_reducible refine Below.setCell ?_ ?_ _ | with_reducible refine Below.alloc ?_ ?_ _ | with_reducible refine below_drewN' ?_ _ | with_reducible refine Below.drew ?_ | with_reducible refine Below.trans ?_ (Below.mono (by assumption) ?_) | omega | (dsimp only; omega) | (simp only [drew_heap', drewN_heap', World.size_alloc, World.size_setCell]; omega) | (solve | simp) | (solve | (simp; omega)))))
  have hd : decide (n < 1) = false := by simpa using hn
  have HN := Lib.hid hn
  by_cases hr : RightP size l
  rotate_left
  · rw [rightB_false hr] at HR
    have HT := Lib.hid (takeS_arg (size := size) (l := l) (n := n) (who := who) (.inr hr))
    rw [HT.out]
    clear hr hn
    go_enter Try.func12, Try.ntmps12
    go_wp2_with fail
    refine wp_scope_straight ?_
    go_wp2_with fail
    with_reducible refine (HR.out _ (HV.out.below (by (repeat (first | with_reducible assumption | with_reducible exact Below.refl _ _ | with_reducible refine Below.setCell ?_ ?_ _ | with_reducible refine Below.alloc ?_ ?_ _ | with_reducible refine below_drewN' ?_ _ | with_reducible refine Below.drew ?_ | with_reducible refine Below.trans ?_ (Below.mono (by assumption) ?_) | omega | (dsimp only; omega) | (simp only [drew_heap', drewN_heap', World.size_alloc, World.size_setCell]; omega) | (solve | simp) | (solve | (simp; omega))))))).mono ?_
    rintro e w1 ⟨rfl, hb1⟩
    have hz1 := hb1.size
    simp only [World.size_alloc] at hz1
    have bx1 : Box w1 w.heap.size #[.int .i64 size, .slice a l.length cap] 24 := (((Box.new _ _ _).alloc _).alloc _).below hb1 (by simp only [World.size_alloc]; omega)
    have bx3 : Box w1 (w.heap.size + 1 + 1) #[.int .i64 0, .slice none 0 0] 24 := Box.below (Box.new1 _ _ _ (by simp)) hb1 (by simp only [World.size_alloc]; omega)
    have hbw1 : Below w.heap.size w w1 := by (repeat (first | with_reducible assumption | with_reducible exact Below.refl _ _ | with_reducible refine Below.setCell ?_ ?_ _ | with_reducible refine Below.alloc ?_ ?_ _ | with_reducible refine below_drewN' ?_ _ | with_reducible refine Below.drew ?_ | with_reducible refine Below.trans ?_ (Below.mono (by assumption) ?_) | omega | (dsimp only; omega) | (simp only [drew_heap', drewN_heap', World.size_alloc, World.size_setCell]; omega) | (solve | simp) | (solve | (simp; omega))))
    obtain ⟨c1, f1, l1, n1, m1⟩ := bx1.rules
    obtain ⟨c3, f3, l3, n3, m3⟩ := bx3.rules
    clear bx1 bx3 hb1
    go_wp2_with fail
    refine noGoto_ret ?_
    refine bodyPost_ret (v := .tuple #[.agg #[.int .i64 size, .slice a l.length cap], .int .i64 0, .int .i64 1]) (by simp [results, Try.results12, go_sem, c1, c3]) rfl ⟨_, rfl, ?_, Res.same, by (repeat (first | with_reducible assumption | with_reducible exact Below.refl _ _ | with_reducible refine Below.setCell ?_ ?_ _ | with_reducible refine Below.alloc ?_ ?_ _ | with_reducible refine below_drewN' ?_ _ | with_reducible refine Below.drew ?_ | with_reducible refine Below.trans ?_ (Below.mono (by assumption) ?_) | omega | (dsimp only; omega) | (simp only [drew_heap', drewN_heap', World.size_alloc, World.size_setCell]; omega) | (solve | simp) | (solve | (simp; omega))))⟩
    exact HV.out.below (by (repeat (first | with_reducible assumption | with_reducible exact Below.refl _ _ | with_reducible refine Below.setCell ?_ ?_ _ | with_reducible refine Below.alloc ?_ ?_ _ | with_reducible refine below_drewN' ?_ _ | with_reducible refine Below.drew ?_ | with_reducible refine Below.trans ?_ (Below.mono (by assumption) ?_) | omega | (dsimp only; omega) | (simp only [drew_heap', drewN_heap', World.size_alloc, World.size_setCell]; omega) | (solve | simp) | (solve | (simp; omega)))))
  rw [rightB_true hr] at HR
  have HRR := Lib.hid hr
  clear hr hn
  refine (callsIn_wide (n := 3)).1 ?_
  ((refine callsIn_of_wp_marks Try.func12 rfl trivial ?_ rfl); (simp only [Try.ntmps12, List.size_toArray, List.length_cons, List.length_nil, Nat.reduceAdd, Nat.reduceSub, Array.replicate_succ, Array.replicate_zero, List.push_toArray, List.append_toArray, List.nil_append, List.cons_append]))
  refine wpIn_wide.2 ?_
  go_wp2_with fail
  refine wp_scope_straight ?_
  go_wp2_with fail
  with_reducible refine (HR.out _ (HV.out.below (by (repeat (first | with_reducible assumption | with_reducible exact Below.refl _ _ | with_reducible refine Below.setCell ?_ ?_ _ | with_reducible refine Below.alloc ?_ ?_ _ | with_reducible refine below_drewN' ?_ _ | with_reducible refine Below.drew ?_ | with_reducible refine Below.trans ?_ (Below.mono (by assumption) ?_) | omega | (dsimp only; omega) | (simp only [drew_heap', drewN_heap', World.size_alloc, World.size_setCell]; omega) | (solve | simp) | (solve | (simp; omega))))))).mono ?_
  rintro e w1 ⟨rfl, hb1⟩
  have hz1 := hb1.size
  simp only [World.size_alloc] at hz1
  have bx1 : Box w1 w.heap.size #[.int .i64 size, .slice a l.length cap] 24 := (((Box.new _ _ _).alloc _).alloc _).below hb1 (by simp only [World.size_alloc]; omega)
  have bx2 : Box w1 (w.heap.size + 1) #[.int .i64 n] 3 := Box.below ((Box.new1 _ _ _ (by simp)).alloc _) hb1 (by simp only [World.size_alloc]; omega)
  have bx3 : Box w1 (w.heap.size + 1 + 1) #[.int .i64 0, .slice none 0 0] 24 := Box.below (Box.new1 _ _ _ (by simp)) hb1 (by simp only [World.size_alloc]; omega)
  have hbw1 : Below w.heap.size w w1 := by (repeat (first | with_reducible assumption | with_reducible exact Below.refl _ _ | with_reducible refine Below.setCell ?_ ?_ _ | with_reducible refine Below.alloc ?_ ?_ _ | with_reducible refine below_drewN' ?_ _ | with_reducible refine Below.drew ?_ | with_reducible refine Below.trans ?_ (Below.mono (by assumption) ?_) | omega | (dsimp only; omega) | (simp only [drew_heap', drewN_heap', World.size_alloc, World.size_setCell]; omega) | (solve | simp) | (solve | (simp; omega))))
  have HB1 := Lib.hid bx1
  have HB2 := Lib.hid bx2
  have HB3 := Lib.hid bx3
  obtain ⟨c1, f1, l1, n1, m1⟩ := bx1.rules
  obtain ⟨c2, f2, l2, n2, m2⟩ := bx2.rules
  clear bx1 bx2 bx3 hb1
  go_wp2_with fail
  refine wp_label ?_
  go_wp2_with fail
  with_reducible refine (holes_any _ _ _).mono ?_
  rintro e w2 ⟨rfl, hw2⟩
  have hq0 : Box (w1.alloc (.cells #[.int .i64 (-1)] 3)) w1.heap.size #[.int .i64 (-1)] 3 := Box.new _ _ _
  have hb2 : Below (w1.heap.size + 1) (w1.alloc (.cells #[.int .i64 (-1)] 3)) w2 := by subst hw2; (repeat (first | with_reducible assumption | with_reducible exact Below.refl _ _ | with_reducible refine Below.setCell ?_ ?_ _ | with_reducible refine Below.alloc ?_ ?_ _ | with_reducible refine below_drewN' ?_ _ | with_reducible refine Below.drew ?_ | with_reducible refine Below.trans ?_ (Below.mono (by assumption) ?_) | omega | (dsimp only; omega) | (simp only [drew_heap', drewN_heap', World.size_alloc, World.size_setCell]; omega) | (solve | simp) | (solve | (simp; omega))))
  have hs1 : Box w2 (w1.heap.size + 1) #[.int .i64 size, .slice a l.length cap] 24 := by subst hw2; exact Box.new1 _ _ _ (by simp)
  have hq2 : Box w2 w1.heap.size #[.int .i64 (-1)] 3 := hq0.below hb2 (by omega)
  have hbw2 : Below w.heap.size w w2 := (hbw1.alloc hbw1.size _).trans (hb2.mono (by omega))
  have hzz := hs1.lt
  have hb12 : Below w1.heap.size w1 w2 := ((Below.refl w1.heap.size w1).alloc (Nat.le_refl _) _).trans (hb2.mono (by omega))
  clear hw2 hq0 hb2 c1 f1 l1 n1 m1 c2 f2 l2 n2 m2
  have hbody := holes1_body
  unfold Body at hbody
  have hfeet : ∀ b, Feet w1.heap.size b w2 → b = w1.heap.size := fun b h => Feet.lt hq2 rfl rfl h
  have HQ2 := Lib.hid hq2
  have HB12 := Lib.hid hb12
  have HBW2 := Lib.hid hbw2
  have HS1 := Lib.hid hs1
  have HFE := Lib.hid hfeet
  clear hq2 hb12 hs1 hfeet hbw2
  go_wp2_with fail
  refine (wpIn_wide (n := 3)).1 ?_
  refine wpIn_rangeFunc_ownH rfl (by omega) (gf := 37) (lb := #[.pointer (some ⟨w1.heap.size + 1, 0, none⟩)]) rfl trivial hbody
    (holes_stops 2 w1.heap.size (w1.heap.size + 1) (.slice a l.length cap) size l w2 (by omega) (by omega) HFE.out HRR.out HS.out HBY.out (fun W h => HV.out.below (HBW2.out.trans (h.1.mono hbw1.size))) (fun W h => h.box HS1.out (fun k => by have := HFE.out _ k; omega)))
    FootK.trans (fun W l o o' h1 h2 h3 h4 => FootK.putObj (n := w2.heap.size) (by omega) W l o o' h1 h2 h3 h4) (Below.refl _ _) (fun _ => rfl)
    (fun pre W => NoFit n pre ∧ FootK w1.heap.size w2 W ∧ Box W w1.heap.size #[.int .i64 (-1)] 3)
    (fun c pre W => c = .exit 0 ∧ FitAt n w1.heap.size w2 pre W)
    (OwnFrom.and (ownFrom_pure _ _) (OwnFrom.and (FootK.own (by omega)) (Own.from (box_own w1.heap.size 3 (fun _ => #[.int .i64 (-1)])) _)))
    (fun c => OwnFrom.and (ownFrom_pure _ (fun _ => c = .exit 0)) (fitAt_own (by omega)))
    ⟨(by intro y hy; cases hy), FootK.refl (by omega), HQ2.out⟩
    (fun x a' W => ∃ Bx, Box W Bx #[.int .i64 x.1, .int .i64 x.2.1, .int .i64 x.2.2] 31 ∧
      a' = { tmps := #[.agg #[.int .i64 size, .slice a l.length cap], .int .i64 n, .int .i64 who, .pointer (some ⟨w.heap.size, 0, none⟩), .pointer (some ⟨w.heap.size + 1, 0, none⟩), undef, .pointer (some ⟨w.heap.size + 1 + 1, 0, none⟩), .int .i64 0, .int .i64 0, .pointer (some ⟨w1.heap.size, 0, none⟩), .pointer (some ⟨Bx, 0, none⟩), undef, .int .i64 n, .bool false, .bool false, .agg #[.int .i64 size, .slice a l.length cap], .bool true, .bool false, .bool false, undef, .agg #[.int .i64 size, .slice a l.length cap], .func (.func 37) #[] #[.pointer (some ⟨w1.heap.size + 1, 0, none⟩)], spV x, undef, undef, undef, undef, undef, undef, undef, undef, undef, undef, undef, undef, undef, undef, undef, undef, undef, undef, undef, undef, undef, undef, undef, undef, undef, undef, undef, undef, undef, undef, undef, undef, undef, undef, undef, undef, undef, undef, undef], defers := [] })
    (fun x a' _ X Y row hs hg hr => by
      obtain ⟨Bx, hb, rfl⟩ := hs
      exact ⟨Bx, Own.from (box_own (β := Unit) Bx 31 (fun _ => #[.int .i64 x.1, .int .i64 x.2.1, .int .i64 x.2.2])) _ () X Y row hb hg hr, rfl⟩) ?assign ?body ?done ?stop
  case assign =>
    rintro l' pre x W K ⟨hno, hB, hq⟩ hK
    gi_wp2
    exact hK _ _ ((KeepsOthers.alloc _ _).from _) (FootK.of ((Below.refl _ W).alloc (Nat.le_refl _) _) hq.lt) ⟨hno, hB.trans (FootK.of ((Below.refl _ W).alloc (Nat.le_refl _) _) hq.lt), hq.alloc _⟩ ⟨W.heap.size, Box.new W _ _, rfl⟩
  case body =>
    rintro l' pre x a' W hl' ⟨r, hr⟩ ⟨hno, hB, hq⟩ ⟨Bx, hb, rfl⟩ hlt
    have hb2W := (HB2.out.below HB12.out HB2.out.lt).below hB.1 HB2.out.lt
    obtain ⟨c2, f2, l2, n2, m2⟩ := hb.rules
    obtain ⟨c3, f3, l3, n3, m3⟩ := hq.rules
    obtain ⟨c4, f4, l4, n4, m4⟩ := hb2W.rules
    have HNO := Lib.hid hno
    have hset := FootK.set hq (by simp) (.int .i64 x.1) rfl
    have hset1 := hq.set 0 (.int .i64 x.1)
    have HSET := Lib.hid (And.intro hset hset1)
    have HQ := Lib.hid hq
    clear hno hset hset1 hb2W hb hq
    by_cases g1 : n ≤ x.2.1
    · have g1b : decide (n ≤ x.2.1) = true := by simpa using g1
      gi_wp2
      exact ⟨(KeepsOthers.setCell _ _ _).from _, rfl, x, pre, rfl, HNO.out, by unfold fitB; simpa using g1, HSET.out.2, hB.trans HSET.out.1⟩
    · have g1b : decide (n ≤ x.2.1) = false := by simpa using g1
      gi_wp2
      exact ⟨KeepsFrom.refl _ _, FootK.refl HQ.out.lt, HNO.out.snoc (by unfold fitB; simpa using g1), hB, HQ.out⟩
  case done =>
    rintro D ys W hD rfl ⟨hno, hB, hq⟩ hK
    have HAT := Lib.hid (takeS_none (who := who) (by have := HN.out; omega) HRR.out hno.none)
    have HB := Lib.hid hB
    have b1 := (HB1.out.below HB12.out HB1.out.lt).below hB.1 HB1.out.lt
    have b3 := (HB3.out.below HB12.out HB3.out.lt).below hB.1 HB3.out.lt
    have hwz := hB.1.size
    clear hno hB
    obtain ⟨c1, f1, l1, n1, m1⟩ := b1.rules
    obtain ⟨c3, f3, l3, n3, m3⟩ := b3.rules
    obtain ⟨c4, f4, l4, n4, m4⟩ := hq.rules
    have HQ := Lib.hid hq
    have H3 := Lib.hid b3
    have HK := Lib.hid hK
    clear hq b1 b3 hK
    go_wp2_with fail
    refine noGoto_ret ?_
    have hset : Box ((W.setCell ⟨w.heap.size + 1 + 1, 0, none⟩ (.int .i64 size)).setCell ⟨w.heap.size + 1 + 1, 1, none⟩ (.slice a l.length cap)) (w.heap.size + 1 + 1) #[.int .i64 size, .slice a l.length cap] 24 := (H3.out.set 0 (.int .i64 size)).set 1 (.slice a l.length cap)
    have hKD : ((W.setCell ⟨w.heap.size + 1 + 1, 0, none⟩ (.int .i64 size)).setCell ⟨w.heap.size + 1 + 1, 1, none⟩ (.slice a l.length cap)).heap[D]? = some (.deferred (some [])) := by
      rw [heap_setCell_other _ _ _ _ (by show ¬ D = w.heap.size + 1 + 1; omega), heap_setCell_other _ _ _ _ (by show ¬ D = w.heap.size + 1 + 1; omega)]; exact HK.out
    have hbe : Below w.heap.size w ((W.setCell ⟨w.heap.size + 1 + 1, 0, none⟩ (.int .i64 size)).setCell ⟨w.heap.size + 1 + 1, 1, none⟩ (.slice a l.length cap)) :=
      ((HBW2.out.trans (HB.out.1.mono hbw1.size)).setCell (p := ⟨w.heap.size + 1 + 1, 0, none⟩) (by show w.heap.size ≤ w.heap.size + 1 + 1; omega) _).setCell (p := ⟨w.heap.size + 1 + 1, 1, none⟩) (by show w.heap.size ≤ w.heap.size + 1 + 1; omega) _
    refine ⟨by simp, .inl ⟨_, _, rfl, run_takeDeferred hKD, ?_⟩⟩
    have b1 := ((Own.from (box_own (β := Unit) _ 24 (fun _ => _)) w2.heap.size).putObj (s := ()) (Obj.deferred none) hset hD hKD rfl).rules.1
    have b10 := b1 0
    have b11 := b1 1
    have hbe2 := hbe.trans (belowK_b (w := w2) HBW2.out.size _ D _ (Obj.deferred none) hD hKD rfl rfl)
    exact ⟨.tuple #[.agg #[.int .i64 size, .slice a l.length cap], .int .i64 0, .int .i64 5], by simp [results, Try.results12, go_sem, b10, b11], _, by rw [HAT.out], by rw [HAT.out]; exact HV.out.below hbe2, by rw [HAT.out]; exact Res.same, hbe2⟩
  case stop =>
    rintro D c pre W hD hpre ⟨rfl, x, ys, rfl, h2, h3, h4, h5⟩ hK
    have hat := takeS_some (who := who) (by have := HN.out; omega) HRR.out (h2.some h3 hpre)
    obtain ⟨l1, l2, hl12, hins, -, hp0, hpq, hlt1, hlt2, -⟩ := ins_facts (who := who) HRR.out (List.mem_of_find?_eq_some (h2.some h3 hpre)) HN.out (by simpa [fitB] using h3)
    rw [hins] at hat
    have HAT := Lib.hid hat
    have b1 := (HB1.out.below HB12.out HB1.out.lt).below h5.1 HB1.out.lt
    have b2 := (HB2.out.below HB12.out HB2.out.lt).below h5.1 HB2.out.lt
    have b3 := (HB3.out.below HB12.out HB3.out.lt).below h5.1 HB3.out.lt
    have hwz := h5.1.size
    have HBW := Lib.hid (HBW2.out.trans (h5.1.mono hbw1.size))
    clear h2 h3 hpre h5 hat hins
    obtain ⟨p, q, u⟩ := x
    dsimp only at h4 HAT hp0 hpq hlt1 hlt2
    obtain ⟨c1, f1, l1', n1, m1⟩ := b1.rules
    obtain ⟨c4, f4, l4', n4, m4⟩ := h4.rules
    have H1 := Lib.hid b1
    have H2 := Lib.hid b2
    have H3 := Lib.hid b3
    have H4 := Lib.hid h4
    have HK := Lib.hid hK
    have HL1 := Lib.hid hlt1
    have HL2 := Lib.hid hlt2
    have HL := Lib.hid hl12
    have hll : l1.length + l2.length = l.length := by rw [hl12]; simp
    obtain ⟨zs, hz1, hz2⟩ : ∃ zs, List.take l1.length (sps l) ++ spV (p, n, who) :: List.drop l1.length (sps l) = zs ∧ zs = sps (takeS size l n who).1 := ⟨_, rfl, by
      rw [HAT.out, hl12]
      simp [sps]⟩
    have HZ1 := Lib.hid hz1
    have HZ2 := Lib.hid hz2
    clear hz1 hz2
    clear b1 b2 b3 h4 hK hlt1 hlt2 hl12
    have hpd : decide (p < 0) = false := by simpa using hp0
    refine wpIn_wide.2 ?_
    go_wp2_with fail
    clear c1 f1 l1' n1 m1 c4 f4 l4' n4 m4
    go_loopw [11] (fun t W' => ∃ i : Nat, i ≤ l1.length ∧ t = .int .i64 i ∧ Below W.heap.size W W') (fun t _ => l1.length - (intOf t).toNat)
    case atStart => exact ⟨0, Nat.zero_le _, rfl, Below.refl _ _⟩
    case round =>
      obtain ⟨i, hi, rfl, hbw⟩ := hrel
      have hby := HBY.out
      have hwr : IntKind.i64.wrap ((i : Int) + 1) = i + 1 := IntWalk.i64_in _ (by omega)
      clear hby
      have b1 := H1.out.below hbw H1.out.lt
      have b4 := H4.out.below hbw H4.out.lt
      have g1 := b1.regrown
      have g4 := b4.regrown
      by_cases hlt : i < l1.length
      · have hx : l[i]? = some l1[i] := by rw [HL.out, List.getElem?_append_left hlt]; exact List.getElem?_eq_getElem hlt
        have hxp := HL1.out _ (List.getElem_mem hlt)
        generalize l1[i] = x at hx hxp
        obtain ⟨b, off, rfl, hb, d0, d1, d2⟩ := Sl.sp (HV.out.below (HBW.out.trans (hbw.mono HBW.out.size))) hx
        have k0 := cell_rg d0 hb
        have hil : i < l.length := by omega
        have e1 : decide ((i : Int) < (l.length : Int)) = true := by simp; omega
        have e2 : decide (x.1 < p) = true := by simpa using hxp
        clear d0 d1 d2
        go_wp2_with fail
        ((refine wp_region_quiet_below (by kernel_rfl) (by kernel_rfl) ?_); (repeat (go_big_quiet_step (fail))); (refine wpQuiet_nil ?_); (intro _ hw'); (obtain ⟨⟨dq, osq⟩, hw''⟩ := hw'); (subst hw''); (have hb7 := below_regrown wr dq osq); (generalize Go.Sort.grow (redrawn wr dq) osq = w7 at *); (have hz7 := hb7.size))
        clear g1 g4 k0
        go_wp2_with fail
        go_roundw
        case rel => exact ⟨i + 1, by omega, by go_num, hbw.trans (hb7.mono hbw.size)⟩
        case measure => simp [intOf]; omega
      · obtain rfl : i = l1.length := by omega
        by_cases hlt2 : l1.length < l.length
        · obtain ⟨x, hx, hxp⟩ : ∃ x, l[l1.length]? = some x ∧ p < x.1 := by
            cases l2 with
            | nil => simp at hll; omega
            | cons y r => exact ⟨y, by rw [HL.out]; simp, HL2.out y (by simp)⟩
          obtain ⟨b, off, rfl, hb, d0, d1, d2⟩ := Sl.sp (HV.out.below (HBW.out.trans (hbw.mono HBW.out.size))) hx
          have k0 := cell_rg d0 hb
          have e1 : decide ((l1.length : Int) < (l.length : Int)) = true := by simp; omega
          have e2 : decide (x.1 < p) = false := by simp; omega
          clear d0 d1 d2
          go_wp2_with fail
          ((refine wp_region_quiet_below (by kernel_rfl) (by kernel_rfl) ?_); (repeat (go_big_quiet_step (fail))); (refine wpQuiet_nil ?_); (intro _ hw'); (obtain ⟨⟨dq, osq⟩, hw''⟩ := hw'); (subst hw''); (have hb7 := below_regrown wr dq osq); (generalize Go.Sort.grow (redrawn wr dq) osq = w7 at *); (have hz7 := hb7.size))
          clear g1 g4 k0
          go_wp2_with fail
          have hbw7 : Below W.heap.size W w7 := hbw.trans (hb7.mono hbw.size)
          have R1 := Lib.hid (H1.out.below hbw7 H1.out.lt)
          have R2 := Lib.hid (H2.out.below hbw7 H2.out.lt)
          have R3 := Lib.hid (H3.out.below hbw7 H3.out.lt)
          have R4 := Lib.hid (H4.out.below hbw7 H4.out.lt)
          have HV7 := Lib.hid (HV.out.below (HBW.out.trans (hbw7.mono HBW.out.size)))
          obtain ⟨c1, f1, l1', n1, m1⟩ := R1.out.rules
          obtain ⟨c2, f2, l2', n2, m2⟩ := R2.out.rules
          obtain ⟨c4, f4, l4', n4, m4⟩ := R4.out.rules
          have hS0 : SK w7 w.heap.size (w.heap.size + 1) w1.heap.size n p w7 := SK.of ⟨c2 0, c4 0⟩ l1' (Below.refl _ _)
          refine wp_region_noPanic ?_
          refine wp_region_held_drew (S := (fun W' => W'.cell? ⟨w.heap.size + 1, 0, none⟩ = some (.int .i64 n) ∧ W'.cell? ⟨w1.heap.size, 0, none⟩ = some (.int .i64 p) ∧ ∃ X, Below w7.heap.size w7 X ∧ (W' = X ∨ ∃ u, W' = X.setCell ⟨w.heap.size, 1, none⟩ u))) (by kernel_rfl) (SK.of ⟨c2 0, c4 0⟩ l1' (by (repeat (first | with_reducible assumption | with_reducible exact Below.refl _ _ | with_reducible refine Below.setCell ?_ ?_ _ | with_reducible refine Below.alloc ?_ ?_ _ | with_reducible refine below_drewN' ?_ _ | with_reducible refine Below.drew ?_ | with_reducible refine Below.trans ?_ (Below.mono (by assumption) ?_) | omega | (dsimp only; omega) | (simp only [drew_heap', drewN_heap', World.size_alloc, World.size_setCell]; omega) | (solve | simp) | (solve | (simp; omega)))))) (fun hHeld => ?_)
          ((refine wpAnyH_take (i := 0) (oi := ⟨some 49, _, _, _, _, _⟩) (v := ?_) rfl (by kernel_rfl) (by kernel_rfl) (by kernel_rfl) (fun _ _ _ h => h) (Or.inl ⟨by rfl, ?_⟩) (by assumption) ?_); rotate_left; (focus ((intro w hSw); (try dsimp only at hSw); go_simp; (try with_reducible rfl))); (try simp only [Act.put, List.setIfInBounds_toArray, List.set_cons_zero, List.set_cons_succ]))
          ((refine wpAnyH_take (i := 3) (oi := ⟨some 52, _, _, _, _, _⟩) (v := ?_) rfl (by kernel_rfl) (by kernel_rfl) (by kernel_rfl) (fun _ _ _ h => h) (Or.inl ⟨by rfl, ?_⟩) (by assumption) ?_); rotate_left; (focus ((intro w hSw); (try dsimp only at hSw); go_simp; (try with_reducible rfl))); (try simp only [Act.put, List.setIfInBounds_toArray, List.set_cons_zero, List.set_cons_succ]))
          ((refine wpAnyH_take (i := 4) (oi := ⟨some 53, _, _, _, _, _⟩) (v := ?_) rfl (by kernel_rfl) (by kernel_rfl) (by kernel_rfl) (fun _ _ _ h => h) (Or.inl ⟨by rfl, ?_⟩) (by assumption) ?_); rotate_left; (focus ((intro w hSw); (try dsimp only at hSw); go_simp; (try with_reducible rfl))); (try simp only [Act.put, List.setIfInBounds_toArray, List.set_cons_zero, List.set_cons_succ]))
          ((refine wpAnyH_take (i := 5) (oi := ⟨some 54, _, _, _, _, _⟩) (v := ?_) rfl (by kernel_rfl) (by kernel_rfl) (by kernel_rfl) (fun _ _ _ h => h) (Or.inl ⟨by rfl, ?_⟩) (by assumption) ?_); rotate_left; (focus ((intro w hSw); (try dsimp only at hSw); go_simp; (try with_reducible rfl))); (try simp only [Act.put, List.setIfInBounds_toArray, List.set_cons_zero, List.set_cons_succ]))
          ((refine wpAnyH_take (i := 6) (oi := ⟨some 55, _, _, _, _, _⟩) (v := ?_) rfl (by kernel_rfl) (by kernel_rfl) (by kernel_rfl) (fun _ _ _ h => h) (Or.inl ⟨by rfl, ?_⟩) (by assumption) ?_); rotate_left; (focus ((intro w hSw); (try dsimp only at hSw); go_simp; (try with_reducible rfl))); (try simp only [Act.put, List.setIfInBounds_toArray, List.set_cons_zero, List.set_cons_succ]))
          ((refine wpAnyH_take (i := 7) (oi := ⟨some 56, _, _, _, _, _⟩) (v := ?_) rfl (by kernel_rfl) (by kernel_rfl) (by kernel_rfl) (fun _ _ _ h => h) (Or.inl ⟨by rfl, ?_⟩) (by assumption) ?_); rotate_left; (focus ((intro w hSw); (try dsimp only at hSw); go_simp; (try with_reducible rfl))); (try simp only [Act.put, List.setIfInBounds_toArray, List.set_cons_zero, List.set_cons_succ]))
          refine wpAnyH_ready (rs := [1, 8]) (by kernel_rfl) (by simp) ?_
          refine AllReadyH.cons (o := ⟨some 50, _, _, _, _, _⟩) rfl (fun K hK => ?_) (AllReadyH.cons (o := ⟨some 57, _, _, _, _, _⟩) rfl (fun K hK => ?_) AllReadyH.nil)
          · go_simp
            refine hK.out _ _ (SK.of ⟨c2 0, c4 0⟩ l1' (by (repeat (first | with_reducible assumption | with_reducible exact Below.refl _ _ | with_reducible refine Below.setCell ?_ ?_ _ | with_reducible refine Below.alloc ?_ ?_ _ | with_reducible refine below_drewN' ?_ _ | with_reducible refine Below.drew ?_ | with_reducible refine Below.trans ?_ (Below.mono (by assumption) ?_) | omega | (dsimp only; omega) | (simp only [drew_heap', drewN_heap', World.size_alloc, World.size_setCell]; omega) | (solve | simp) | (solve | (simp; omega)))))) (fun hHeld => ?_)
            clear hK K
            (try simp only [Act.put, List.setIfInBounds_toArray, List.set_cons_zero, List.set_cons_succ])
            refine wpAnyH_ready (rs := [2, 8]) (by kernel_rfl) (by simp) ?_
            refine AllReadyH.cons (o := ⟨some 51, _, _, _, _, _⟩) rfl (fun K hK => ?_) (AllReadyH.cons (o := ⟨some 57, _, _, _, _, _⟩) rfl (fun K hK => ?_) AllReadyH.nil)
            · go_simp
              with_reducible refine (clone_span _ (sps l) _ (HV7.out.below (by (repeat (first | with_reducible assumption | with_reducible exact Below.refl _ _ | with_reducible refine Below.setCell ?_ ?_ _ | with_reducible refine Below.alloc ?_ ?_ _ | with_reducible refine below_drewN' ?_ _ | with_reducible refine Below.drew ?_ | with_reducible refine Below.trans ?_ (Below.mono (by assumption) ?_) | omega | (dsimp only; omega) | (simp only [drew_heap', drewN_heap', World.size_alloc, World.size_setCell]; omega) | (solve | simp) | (solve | (simp; omega)))))) (by rw [sps_len]; (have := HBY.out); omega)).mono ?_
              rintro en w8 ⟨v8, rfl, ho8, hb8⟩
              have hz8 := hb8.size
              (try simp only [drew_heap', drewN_heap', World.size_alloc] at hz8)
              have hb78 : Below w7.heap.size w7 w8 := (by (repeat (first | with_reducible assumption | with_reducible exact Below.refl _ _ | with_reducible refine Below.setCell ?_ ?_ _ | with_reducible refine Below.alloc ?_ ?_ _ | with_reducible refine below_drewN' ?_ _ | with_reducible refine Below.drew ?_ | with_reducible refine Below.trans ?_ (Below.mono (by assumption) ?_) | omega | (dsimp only; omega) | (simp only [drew_heap', drewN_heap', World.size_alloc, World.size_setCell]; omega) | (solve | simp) | (solve | (simp; omega)))))
              have HO8 := Lib.hid ho8
              clear ho8
              dsimp only
              refine hK.out _ _ (SK.of ⟨c2 0, c4 0⟩ l1' hb78) (fun hHeld => ?_)
              clear hK K
              (try simp only [Act.put, List.setIfInBounds_toArray, List.set_cons_zero, List.set_cons_succ])
              refine wpAnyH_ready (rs := [8]) (by kernel_rfl) (by simp) ?_
              refine AllReadyH.cons (o := ⟨some 57, _, _, _, _, _⟩) rfl (fun K hK => ?_) AllReadyH.nil
              go_simp
              refine hK.out _ _ (SK.of ⟨c2 0, c4 0⟩ l1' (by (repeat (first | with_reducible assumption | with_reducible exact Below.refl _ _ | with_reducible refine Below.setCell ?_ ?_ _ | with_reducible refine Below.alloc ?_ ?_ _ | with_reducible refine below_drewN' ?_ _ | with_reducible refine Below.drew ?_ | with_reducible refine Below.trans ?_ (Below.mono (by assumption) ?_) | omega | (dsimp only; omega) | (simp only [drew_heap', drewN_heap', World.size_alloc, World.size_setCell]; omega) | (solve | simp) | (solve | (simp; omega)))))) (fun hHeld => ?_)
              clear hK K
              (try simp only [Act.put, List.setIfInBounds_toArray, List.set_cons_zero, List.set_cons_succ])
              refine wpAnyH_ready (rs := [9]) (by kernel_rfl) (by simp) ?_
              refine AllReadyH.cons (o := ⟨some 58, _, _, _, _, _⟩) rfl (fun K hK => ?_) AllReadyH.nil
              go_simp
              have hb78' : Below w7.heap.size w7 (w8.alloc (.cells #[.int .i64 p, .int .i64 n, .int .i64 who] 31)) := (by (repeat (first | with_reducible assumption | with_reducible exact Below.refl _ _ | with_reducible refine Below.setCell ?_ ?_ _ | with_reducible refine Below.alloc ?_ ?_ _ | with_reducible refine below_drewN' ?_ _ | with_reducible refine Below.drew ?_ | with_reducible refine Below.trans ?_ (Below.mono (by assumption) ?_) | omega | (dsimp only; omega) | (simp only [drew_heap', drewN_heap', World.size_alloc, World.size_setCell]; omega) | (solve | simp) | (solve | (simp; omega)))))
              with_reducible refine (insert_span v8 (sps l) l1.length (spV (p, n, who)) w8.heap.size _ w7.heap.size ((HO8.out.le (base' := w7.heap.size) (by first | omega | (simp only [drew_heap', drewN_heap', World.size_alloc]; omega))).kept ?_) ?_ (sp_val (p, n, who)) ?_ ?_ ?_ ?_).mono ?_
              focus (repeat (first | with_reducible assumption | with_reducible exact Below.refl _ _ | with_reducible refine Below.setCell ?_ ?_ _ | with_reducible refine Below.alloc ?_ ?_ _ | with_reducible refine below_drewN' ?_ _ | with_reducible refine Below.drew ?_ | with_reducible refine Below.trans ?_ (Below.mono (by assumption) ?_) | omega | (dsimp only; omega) | (simp only [drew_heap', drewN_heap', World.size_alloc, World.size_setCell]; omega) | (solve | simp) | (solve | (simp; omega))))
              focus (rw [sps_len]; omega)
              focus (rw [sp_cells]; ((apply Box.cast); (repeat (first | with_reducible assumption | ((with_reducible apply Box.new1); (first | with_reducible rfl | rfl | (solve | simp))) | with_reducible apply Box.drewN | with_reducible apply Box.drew | with_reducible apply Box.set | with_reducible apply Box.other | with_reducible apply Box.alloc | (with_reducible apply Box.below; rotate_left; with_reducible assumption; rotate_right) | with_reducible rfl | omega | (dsimp only; omega) | (simp only [drew_heap', drewN_heap', World.size_alloc, World.size_setCell]; omega) | rfl | (solve | simp) | (solve | (simp; omega))))))
              focus (intro b hb; (have h1 := HO8.out.own_ge b hb); (have h2 := (HO8.out.row.lt b hb).2); (try simp only [drew_heap', drewN_heap', World.size_alloc] at h1 h2 ⊢); omega)
              focus (first | omega | (simp only [drew_heap', drewN_heap', World.size_alloc]; omega))
              focus (rw [sps_len]; exact HBY.out)
              rintro en w9 ⟨v9, rfl, ho9, hg9⟩
              have hb9 : Below w7.heap.size w7 w9 := (((HO8.out.le (base' := w7.heap.size) (by first | omega | (simp only [drew_heap', drewN_heap', World.size_alloc]; omega))).kept (by (repeat (first | with_reducible assumption | with_reducible exact Below.refl _ _ | with_reducible refine Below.setCell ?_ ?_ _ | with_reducible refine Below.alloc ?_ ?_ _ | with_reducible refine below_drewN' ?_ _ | with_reducible refine Below.drew ?_ | with_reducible refine Below.trans ?_ (Below.mono (by assumption) ?_) | omega | (dsimp only; omega) | (simp only [drew_heap', drewN_heap', World.size_alloc, World.size_setCell]; omega) | (solve | simp) | (solve | (simp; omega))))))).below hg9 hb78' (Nat.le_refl _) (by first | omega | (simp only [drew_heap', drewN_heap', World.size_alloc]; omega))
              rw [HZ1.out] at ho9
              obtain ⟨a9, cap9, rfl, _⟩ := ho9.sl.shape
              have HO9 := Lib.hid ho9
              clear ho9 hg9
              dsimp only
              refine hK.out _ _ (SK.of ⟨c2 0, c4 0⟩ l1' hb9) (fun hHeld => ?_)
              clear hK K
              (try simp only [Act.put, List.setIfInBounds_toArray, List.set_cons_zero, List.set_cons_succ])
              clear HO8 hb8 hb78 hb78'
              ((refine wpAnyH_take (i := 10) (oi := ⟨some 59, _, _, _, _, _⟩) (v := ?_) rfl (by kernel_rfl) (by kernel_rfl) (by kernel_rfl) (fun _ _ _ h => h) (Or.inl ⟨by rfl, ?_⟩) (by assumption) ?_); rotate_left; (focus ((intro w hSw); (try dsimp only at hSw); go_simp; (try with_reducible rfl))); (try simp only [Act.put, List.setIfInBounds_toArray, List.set_cons_zero, List.set_cons_succ]))
              obtain ⟨c9, f9, l9, n9, m9⟩ := (R1.out.below hb9 R1.out.lt).rules
              refine wpAnyH_ready (rs := [11]) (by kernel_rfl) (by simp) ?_
              refine AllReadyH.cons (o := ⟨none, _, _, _, _, _⟩) rfl (fun K hK => ?_) AllReadyH.nil
              go_simp
              refine hK.out _ _ (SK.set ⟨c2 0, c4 0⟩ (by omega) (by omega) l2' l4' _ hb9) (fun hHeld => ?_)
              clear hK K c9 f9 l9 n9 m9
              refine wpAnyH_done (by kernel_rfl) (NoPanic.normal ?_) _
              have X1 : Box (w9.setCell ⟨w.heap.size, 1, none⟩ (.slice a9 zs.length cap9)) w.heap.size #[.int .i64 size, .slice a9 zs.length cap9] 24 := (R1.out.below hb9 R1.out.lt).set 1 _
              have X3 := (R3.out.below hb9 R3.out.lt).other ⟨w.heap.size, 1, none⟩ (.slice a9 zs.length cap9) (by show ¬ w.heap.size + 1 + 1 = w.heap.size; omega)
              have X4 := (R4.out.below hb9 R4.out.lt).other ⟨w.heap.size, 1, none⟩ (.slice a9 zs.length cap9) (by show ¬ w1.heap.size = w.heap.size; omega)
              have HO10 := Lib.hid (HO9.out.setOther (b := w.heap.size) (by omega) 1 (.slice a9 zs.length cap9))
              have hb10 : Below w.heap.size w (w9.setCell ⟨w.heap.size, 1, none⟩ (.slice a9 zs.length cap9)) := ((HBW.out.trans (hbw7.mono HBW.out.size)).trans (hb9.mono (by omega))).setCell (p := ⟨w.heap.size, 1, none⟩) (Nat.le_refl _) _
              have hDl : D < W.heap.size := (Array.getElem?_eq_some_iff.1 HK.out).1
              have hzw := hbw7.size
              have hK10 : (w9.setCell ⟨w.heap.size, 1, none⟩ (.slice a9 zs.length cap9)).heap[D]? = some (.deferred (some [])) := by
                rw [heap_setCell_other _ _ _ _ (by show ¬ D = w.heap.size; omega)]
                exact (hb9.block D (by omega)).trans ((hbw7.block D (by omega)).trans HK.out)
              generalize w9.setCell ⟨w.heap.size, 1, none⟩ (.slice a9 zs.length cap9) = w10 at *
              obtain ⟨c1x, f1x, l1x, n1x, m1x⟩ := X1.rules
              obtain ⟨c3x, f3x, l3x, n3x, m3x⟩ := X3.rules
              obtain ⟨c4x, f4x, l4x, n4x, m4x⟩ := X4.rules
              clear c1 f1 l1' n1 m1 c2 f2 l2' n2 m2 c4 f4 l4' n4 m4
              go_wp2_with fail
              go_region
              all_goals
                go_wp2_with fail
                refine noGoto_ret ?_
                have hset : Box (((w10.setCell ⟨w.heap.size + 1 + 1, 0, none⟩ (.int .i64 size)).setCell ⟨w.heap.size + 1 + 1, 1, none⟩ (.slice a9 zs.length cap9)).drew) (w.heap.size + 1 + 1) #[.int .i64 size, .slice a9 zs.length cap9] 24 := ((X3.set 0 (.int .i64 size)).set 1 (.slice a9 zs.length cap9)).drew
                have hKD : (((w10.setCell ⟨w.heap.size + 1 + 1, 0, none⟩ (.int .i64 size)).setCell ⟨w.heap.size + 1 + 1, 1, none⟩ (.slice a9 zs.length cap9)).drew).heap[D]? = some (.deferred (some [])) := by
                  rw [drew_heap', heap_setCell_other _ _ _ _ (by show ¬ D = w.heap.size + 1 + 1; omega), heap_setCell_other _ _ _ _ (by show ¬ D = w.heap.size + 1 + 1; omega)]; exact hK10
                have hbe : Below w.heap.size w (((w10.setCell ⟨w.heap.size + 1 + 1, 0, none⟩ (.int .i64 size)).setCell ⟨w.heap.size + 1 + 1, 1, none⟩ (.slice a9 zs.length cap9)).drew) :=
                  ((hb10.setCell (p := ⟨w.heap.size + 1 + 1, 0, none⟩) (by show w.heap.size ≤ w.heap.size + 1 + 1; omega) _).setCell (p := ⟨w.heap.size + 1 + 1, 1, none⟩) (by show w.heap.size ≤ w.heap.size + 1 + 1; omega) _).drew
                have hbe2 := hbe.trans (belowK_b (w := w2) HBW2.out.size _ D _ (Obj.deferred none) hD hKD rfl rfl)
                refine ⟨by simp, .inl ⟨_, _, rfl, run_takeDeferred hKD, ?_⟩⟩
                have b1 := ((Own.from (box_own (β := Unit) _ 24 (fun _ => _)) w2.heap.size).putObj (s := ()) (Obj.deferred none) hset hD hKD rfl).rules.1
                have b10 := b1 0
                have b11 := b1 1
                refine ⟨.tuple #[.agg #[.int .i64 size, .slice a9 zs.length cap9], .int .i64 p, .int .i64 0], by simp [results, Try.results12, go_sem, b10, b11], _, by rw [HAT.out], ?_, HO10.out.res (by omega), hbe2⟩
                rw [← HZ2.out]
                have ho := (((HO10.out.setOther (b := w.heap.size + 1 + 1) (by omega) 0 (.int .i64 size)).setOther (b := w.heap.size + 1 + 1) (by omega) 1 (.slice a9 zs.length cap9)).kept (Below.refl _ _).drew)
                exact Owned.sl ⟨ownsRow_putObj ho.1 _ hKD rfl, ho.2⟩
            · go_simp
              refine hK.out _ _ (SK.of ⟨c2 0, c4 0⟩ l1' (by (repeat (first | with_reducible assumption | with_reducible exact Below.refl _ _ | with_reducible refine Below.setCell ?_ ?_ _ | with_reducible refine Below.alloc ?_ ?_ _ | with_reducible refine below_drewN' ?_ _ | with_reducible refine Below.drew ?_ | with_reducible refine Below.trans ?_ (Below.mono (by assumption) ?_) | omega | (dsimp only; omega) | (simp only [drew_heap', drewN_heap', World.size_alloc, World.size_setCell]; omega) | (solve | simp) | (solve | (simp; omega)))))) (fun hHeld => ?_)
              clear hK K
              (try simp only [Act.put, List.setIfInBounds_toArray, List.set_cons_zero, List.set_cons_succ])
              refine wpAnyH_ready (rs := [2]) (by kernel_rfl) (by simp) ?_
              refine AllReadyH.cons (o := ⟨some 51, _, _, _, _, _⟩) rfl (fun K hK => ?_) AllReadyH.nil
              go_simp
              with_reducible refine (clone_span _ (sps l) _ (HV7.out.below (by (repeat (first | with_reducible assumption | with_reducible exact Below.refl _ _ | with_reducible refine Below.setCell ?_ ?_ _ | with_reducible refine Below.alloc ?_ ?_ _ | with_reducible refine below_drewN' ?_ _ | with_reducible refine Below.drew ?_ | with_reducible refine Below.trans ?_ (Below.mono (by assumption) ?_) | omega | (dsimp only; omega) | (simp only [drew_heap', drewN_heap', World.size_alloc, World.size_setCell]; omega) | (solve | simp) | (solve | (simp; omega)))))) (by rw [sps_len]; (have := HBY.out); omega)).mono ?_
              rintro en w8 ⟨v8, rfl, ho8, hb8⟩
              have hz8 := hb8.size
              (try simp only [drew_heap', drewN_heap', World.size_alloc] at hz8)
              have hb78 : Below w7.heap.size w7 w8 := (by (repeat (first | with_reducible assumption | with_reducible exact Below.refl _ _ | with_reducible refine Below.setCell ?_ ?_ _ | with_reducible refine Below.alloc ?_ ?_ _ | with_reducible refine below_drewN' ?_ _ | with_reducible refine Below.drew ?_ | with_reducible refine Below.trans ?_ (Below.mono (by assumption) ?_) | omega | (dsimp only; omega) | (simp only [drew_heap', drewN_heap', World.size_alloc, World.size_setCell]; omega) | (solve | simp) | (solve | (simp; omega)))))
              have HO8 := Lib.hid ho8
              clear ho8
              dsimp only
              refine hK.out _ _ (SK.of ⟨c2 0, c4 0⟩ l1' hb78) (fun hHeld => ?_)
              clear hK K
              (try simp only [Act.put, List.setIfInBounds_toArray, List.set_cons_zero, List.set_cons_succ])
              refine wpAnyH_ready (rs := [9]) (by kernel_rfl) (by simp) ?_
              refine AllReadyH.cons (o := ⟨some 58, _, _, _, _, _⟩) rfl (fun K hK => ?_) AllReadyH.nil
              go_simp
              have hb78' : Below w7.heap.size w7 w8 := (by (repeat (first | with_reducible assumption | with_reducible exact Below.refl _ _ | with_reducible refine Below.setCell ?_ ?_ _ | with_reducible refine Below.alloc ?_ ?_ _ | with_reducible refine below_drewN' ?_ _ | with_reducible refine Below.drew ?_ | with_reducible refine Below.trans ?_ (Below.mono (by assumption) ?_) | omega | (dsimp only; omega) | (simp only [drew_heap', drewN_heap', World.size_alloc, World.size_setCell]; omega) | (solve | simp) | (solve | (simp; omega)))))
              with_reducible refine (insert_span v8 (sps l) l1.length (spV (p, n, who)) w7.heap.size w8 w7.heap.size ((HO8.out.le (base' := w7.heap.size) (by first | omega | (simp only [drew_heap', drewN_heap', World.size_alloc]; omega))).kept ?_) ?_ (sp_val (p, n, who)) ?_ ?_ ?_ ?_).mono ?_
              focus (repeat (first | with_reducible assumption | with_reducible exact Below.refl _ _ | with_reducible refine Below.setCell ?_ ?_ _ | with_reducible refine Below.alloc ?_ ?_ _ | with_reducible refine below_drewN' ?_ _ | with_reducible refine Below.drew ?_ | with_reducible refine Below.trans ?_ (Below.mono (by assumption) ?_) | omega | (dsimp only; omega) | (simp only [drew_heap', drewN_heap', World.size_alloc, World.size_setCell]; omega) | (solve | simp) | (solve | (simp; omega))))
              focus (rw [sps_len]; omega)
              focus exact (Box.new w7.drew #[.int .i64 p, .int .i64 n, .int .i64 who] 31).below hb8 (by simp [drew_heap'])
              focus (intro b hb; (have h1 := HO8.out.own_ge b hb); (have h2 := (HO8.out.row.lt b hb).2); (try simp only [drew_heap', drewN_heap', World.size_alloc] at h1 h2 ⊢); omega)
              focus (first | omega | (simp only [drew_heap', drewN_heap', World.size_alloc]; omega))
              focus (rw [sps_len]; exact HBY.out)
              rintro en w9 ⟨v9, rfl, ho9, hg9⟩
              have hb9 : Below w7.heap.size w7 w9 := (((HO8.out.le (base' := w7.heap.size) (by first | omega | (simp only [drew_heap', drewN_heap', World.size_alloc]; omega))).kept (by (repeat (first | with_reducible assumption | with_reducible exact Below.refl _ _ | with_reducible refine Below.setCell ?_ ?_ _ | with_reducible refine Below.alloc ?_ ?_ _ | with_reducible refine below_drewN' ?_ _ | with_reducible refine Below.drew ?_ | with_reducible refine Below.trans ?_ (Below.mono (by assumption) ?_) | omega | (dsimp only; omega) | (simp only [drew_heap', drewN_heap', World.size_alloc, World.size_setCell]; omega) | (solve | simp) | (solve | (simp; omega))))))).below hg9 hb78' (Nat.le_refl _) (by first | omega | (simp only [drew_heap', drewN_heap', World.size_alloc]; omega))
              rw [HZ1.out] at ho9
              obtain ⟨a9, cap9, rfl, _⟩ := ho9.sl.shape
              have HO9 := Lib.hid ho9
              clear ho9 hg9
              dsimp only
              refine hK.out _ _ (SK.of ⟨c2 0, c4 0⟩ l1' hb9) (fun hHeld => ?_)
              clear hK K
              (try simp only [Act.put, List.setIfInBounds_toArray, List.set_cons_zero, List.set_cons_succ])
              clear HO8 hb8 hb78 hb78'
              ((refine wpAnyH_take (i := 10) (oi := ⟨some 59, _, _, _, _, _⟩) (v := ?_) rfl (by kernel_rfl) (by kernel_rfl) (by kernel_rfl) (fun _ _ _ h => h) (Or.inl ⟨by rfl, ?_⟩) (by assumption) ?_); rotate_left; (focus ((intro w hSw); (try dsimp only at hSw); go_simp; (try with_reducible rfl))); (try simp only [Act.put, List.setIfInBounds_toArray, List.set_cons_zero, List.set_cons_succ]))
              obtain ⟨c9, f9, l9, n9, m9⟩ := (R1.out.below hb9 R1.out.lt).rules
              refine wpAnyH_ready (rs := [11]) (by kernel_rfl) (by simp) ?_
              refine AllReadyH.cons (o := ⟨none, _, _, _, _, _⟩) rfl (fun K hK => ?_) AllReadyH.nil
              go_simp
              refine hK.out _ _ (SK.set ⟨c2 0, c4 0⟩ (by omega) (by omega) l2' l4' _ hb9) (fun hHeld => ?_)
              clear hK K c9 f9 l9 n9 m9
              refine wpAnyH_done (by kernel_rfl) (NoPanic.normal ?_) _
              have X1 : Box (w9.setCell ⟨w.heap.size, 1, none⟩ (.slice a9 zs.length cap9)) w.heap.size #[.int .i64 size, .slice a9 zs.length cap9] 24 := (R1.out.below hb9 R1.out.lt).set 1 _
              have X3 := (R3.out.below hb9 R3.out.lt).other ⟨w.heap.size, 1, none⟩ (.slice a9 zs.length cap9) (by show ¬ w.heap.size + 1 + 1 = w.heap.size; omega)
              have X4 := (R4.out.below hb9 R4.out.lt).other ⟨w.heap.size, 1, none⟩ (.slice a9 zs.length cap9) (by show ¬ w1.heap.size = w.heap.size; omega)
              have HO10 := Lib.hid (HO9.out.setOther (b := w.heap.size) (by omega) 1 (.slice a9 zs.length cap9))
              have hb10 : Below w.heap.size w (w9.setCell ⟨w.heap.size, 1, none⟩ (.slice a9 zs.length cap9)) := ((HBW.out.trans (hbw7.mono HBW.out.size)).trans (hb9.mono (by omega))).setCell (p := ⟨w.heap.size, 1, none⟩) (Nat.le_refl _) _
              have hDl : D < W.heap.size := (Array.getElem?_eq_some_iff.1 HK.out).1
              have hzw := hbw7.size
              have hK10 : (w9.setCell ⟨w.heap.size, 1, none⟩ (.slice a9 zs.length cap9)).heap[D]? = some (.deferred (some [])) := by
                rw [heap_setCell_other _ _ _ _ (by show ¬ D = w.heap.size; omega)]
                exact (hb9.block D (by omega)).trans ((hbw7.block D (by omega)).trans HK.out)
              generalize w9.setCell ⟨w.heap.size, 1, none⟩ (.slice a9 zs.length cap9) = w10 at *
              obtain ⟨c1x, f1x, l1x, n1x, m1x⟩ := X1.rules
              obtain ⟨c3x, f3x, l3x, n3x, m3x⟩ := X3.rules
              obtain ⟨c4x, f4x, l4x, n4x, m4x⟩ := X4.rules
              clear c1 f1 l1' n1 m1 c2 f2 l2' n2 m2 c4 f4 l4' n4 m4
              go_wp2_with fail
              go_region
              all_goals
                go_wp2_with fail
                refine noGoto_ret ?_
                have hset : Box (((w10.setCell ⟨w.heap.size + 1 + 1, 0, none⟩ (.int .i64 size)).setCell ⟨w.heap.size + 1 + 1, 1, none⟩ (.slice a9 zs.length cap9)).drew) (w.heap.size + 1 + 1) #[.int .i64 size, .slice a9 zs.length cap9] 24 := ((X3.set 0 (.int .i64 size)).set 1 (.slice a9 zs.length cap9)).drew
                have hKD : (((w10.setCell ⟨w.heap.size + 1 + 1, 0, none⟩ (.int .i64 size)).setCell ⟨w.heap.size + 1 + 1, 1, none⟩ (.slice a9 zs.length cap9)).drew).heap[D]? = some (.deferred (some [])) := by
                  rw [drew_heap', heap_setCell_other _ _ _ _ (by show ¬ D = w.heap.size + 1 + 1; omega), heap_setCell_other _ _ _ _ (by show ¬ D = w.heap.size + 1 + 1; omega)]; exact hK10
                have hbe : Below w.heap.size w (((w10.setCell ⟨w.heap.size + 1 + 1, 0, none⟩ (.int .i64 size)).setCell ⟨w.heap.size + 1 + 1, 1, none⟩ (.slice a9 zs.length cap9)).drew) :=
                  ((hb10.setCell (p := ⟨w.heap.size + 1 + 1, 0, none⟩) (by show w.heap.size ≤ w.heap.size + 1 + 1; omega) _).setCell (p := ⟨w.heap.size + 1 + 1, 1, none⟩) (by show w.heap.size ≤ w.heap.size + 1 + 1; omega) _).drew
                have hbe2 := hbe.trans (belowK_b (w := w2) HBW2.out.size _ D _ (Obj.deferred none) hD hKD rfl rfl)
                refine ⟨by simp, .inl ⟨_, _, rfl, run_takeDeferred hKD, ?_⟩⟩
                have b1 := ((Own.from (box_own (β := Unit) _ 24 (fun _ => _)) w2.heap.size).putObj (s := ()) (Obj.deferred none) hset hD hKD rfl).rules.1
                have b10 := b1 0
                have b11 := b1 1
                refine ⟨.tuple #[.agg #[.int .i64 size, .slice a9 zs.length cap9], .int .i64 p, .int .i64 0], by simp [results, Try.results12, go_sem, b10, b11], _, by rw [HAT.out], ?_, HO10.out.res (by omega), hbe2⟩
                rw [← HZ2.out]
                have ho := (((HO10.out.setOther (b := w.heap.size + 1 + 1) (by omega) 0 (.int .i64 size)).setOther (b := w.heap.size + 1 + 1) (by omega) 1 (.slice a9 zs.length cap9)).kept (Below.refl _ _).drew)
                exact Owned.sl ⟨ownsRow_putObj ho.1 _ hKD rfl, ho.2⟩
          · go_simp
            refine hK.out _ _ (SK.of ⟨c2 0, c4 0⟩ l1' (by (repeat (first | with_reducible assumption | with_reducible exact Below.refl _ _ | with_reducible refine Below.setCell ?_ ?_ _ | with_reducible refine Below.alloc ?_ ?_ _ | with_reducible refine below_drewN' ?_ _ | with_reducible refine Below.drew ?_ | with_reducible refine Below.trans ?_ (Below.mono (by assumption) ?_) | omega | (dsimp only; omega) | (simp only [drew_heap', drewN_heap', World.size_alloc, World.size_setCell]; omega) | (solve | simp) | (solve | (simp; omega)))))) (fun hHeld => ?_)
            clear hK K
            (try simp only [Act.put, List.setIfInBounds_toArray, List.set_cons_zero, List.set_cons_succ])
            refine wpAnyH_ready (rs := [1]) (by kernel_rfl) (by simp) ?_
            refine AllReadyH.cons (o := ⟨some 50, _, _, _, _, _⟩) rfl (fun K hK => ?_) AllReadyH.nil
            go_simp
            refine hK.out _ _ (SK.of ⟨c2 0, c4 0⟩ l1' (by (repeat (first | with_reducible assumption | with_reducible exact Below.refl _ _ | with_reducible refine Below.setCell ?_ ?_ _ | with_reducible refine Below.alloc ?_ ?_ _ | with_reducible refine below_drewN' ?_ _ | with_reducible refine Below.drew ?_ | with_reducible refine Below.trans ?_ (Below.mono (by assumption) ?_) | omega | (dsimp only; omega) | (simp only [drew_heap', drewN_heap', World.size_alloc, World.size_setCell]; omega) | (solve | simp) | (solve | (simp; omega)))))) (fun hHeld => ?_)
            clear hK K
            (try simp only [Act.put, List.setIfInBounds_toArray, List.set_cons_zero, List.set_cons_succ])
            refine wpAnyH_ready (rs := [2]) (by kernel_rfl) (by simp) ?_
            refine AllReadyH.cons (o := ⟨some 51, _, _, _, _, _⟩) rfl (fun K hK => ?_) AllReadyH.nil
            go_simp
            with_reducible refine (clone_span _ (sps l) _ (HV7.out.below (by (repeat (first | with_reducible assumption | with_reducible exact Below.refl _ _ | with_reducible refine Below.setCell ?_ ?_ _ | with_reducible refine Below.alloc ?_ ?_ _ | with_reducible refine below_drewN' ?_ _ | with_reducible refine Below.drew ?_ | with_reducible refine Below.trans ?_ (Below.mono (by assumption) ?_) | omega | (dsimp only; omega) | (simp only [drew_heap', drewN_heap', World.size_alloc, World.size_setCell]; omega) | (solve | simp) | (solve | (simp; omega)))))) (by rw [sps_len]; (have := HBY.out); omega)).mono ?_
            rintro en w8 ⟨v8, rfl, ho8, hb8⟩
            have hz8 := hb8.size
            (try simp only [drew_heap', drewN_heap', World.size_alloc] at hz8)
            have hb78 : Below w7.heap.size w7 w8 := (by (repeat (first | with_reducible assumption | with_reducible exact Below.refl _ _ | with_reducible refine Below.setCell ?_ ?_ _ | with_reducible refine Below.alloc ?_ ?_ _ | with_reducible refine below_drewN' ?_ _ | with_reducible refine Below.drew ?_ | with_reducible refine Below.trans ?_ (Below.mono (by assumption) ?_) | omega | (dsimp only; omega) | (simp only [drew_heap', drewN_heap', World.size_alloc, World.size_setCell]; omega) | (solve | simp) | (solve | (simp; omega)))))
            have HO8 := Lib.hid ho8
            clear ho8
            dsimp only
            refine hK.out _ _ (SK.of ⟨c2 0, c4 0⟩ l1' hb78) (fun hHeld => ?_)
            clear hK K
            (try simp only [Act.put, List.setIfInBounds_toArray, List.set_cons_zero, List.set_cons_succ])
            refine wpAnyH_ready (rs := [9]) (by kernel_rfl) (by simp) ?_
            refine AllReadyH.cons (o := ⟨some 58, _, _, _, _, _⟩) rfl (fun K hK => ?_) AllReadyH.nil
            go_simp
            have hb78' : Below w7.heap.size w7 w8 := (by (repeat (first | with_reducible assumption | with_reducible exact Below.refl _ _ | with_reducible refine Below.setCell ?_ ?_ _ | with_reducible refine Below.alloc ?_ ?_ _ | with_reducible refine below_drewN' ?_ _ | with_reducible refine Below.drew ?_ | with_reducible refine Below.trans ?_ (Below.mono (by assumption) ?_) | omega | (dsimp only; omega) | (simp only [drew_heap', drewN_heap', World.size_alloc, World.size_setCell]; omega) | (solve | simp) | (solve | (simp; omega)))))
            with_reducible refine (insert_span v8 (sps l) l1.length (spV (p, n, who)) w7.heap.size w8 w7.heap.size ((HO8.out.le (base' := w7.heap.size) (by first | omega | (simp only [drew_heap', drewN_heap', World.size_alloc]; omega))).kept ?_) ?_ (sp_val (p, n, who)) ?_ ?_ ?_ ?_).mono ?_
            focus (repeat (first | with_reducible assumption | with_reducible exact Below.refl _ _ | with_reducible refine Below.setCell ?_ ?_ _ | with_reducible refine Below.alloc ?_ ?_ _ | with_reducible refine below_drewN' ?_ _ | with_reducible refine Below.drew ?_ | with_reducible refine Below.trans ?_ (Below.mono (by assumption) ?_) | omega | (dsimp only; omega) | (simp only [drew_heap', drewN_heap', World.size_alloc, World.size_setCell]; omega) | (solve | simp) | (solve | (simp; omega))))
            focus (rw [sps_len]; omega)
            focus exact (Box.new w7.drew #[.int .i64 p, .int .i64 n, .int .i64 who] 31).below hb8 (by simp [drew_heap'])
            focus (intro b hb; (have h1 := HO8.out.own_ge b hb); (have h2 := (HO8.out.row.lt b hb).2); (try simp only [drew_heap', drewN_heap', World.size_alloc] at h1 h2 ⊢); omega)
            focus (first | omega | (simp only [drew_heap', drewN_heap', World.size_alloc]; omega))
            focus (rw [sps_len]; exact HBY.out)
            rintro en w9 ⟨v9, rfl, ho9, hg9⟩
            have hb9 : Below w7.heap.size w7 w9 := (((HO8.out.le (base' := w7.heap.size) (by first | omega | (simp only [drew_heap', drewN_heap', World.size_alloc]; omega))).kept (by (repeat (first | with_reducible assumption | with_reducible exact Below.refl _ _ | with_reducible refine Below.setCell ?_ ?_ _ | with_reducible refine Below.alloc ?_ ?_ _ | with_reducible refine below_drewN' ?_ _ | with_reducible refine Below.drew ?_ | with_reducible refine Below.trans ?_ (Below.mono (by assumption) ?_) | omega | (dsimp only; omega) | (simp only [drew_heap', drewN_heap', World.size_alloc, World.size_setCell]; omega) | (solve | simp) | (solve | (simp; omega))))))).below hg9 hb78' (Nat.le_refl _) (by first | omega | (simp only [drew_heap', drewN_heap', World.size_alloc]; omega))
            rw [HZ1.out] at ho9
            obtain ⟨a9, cap9, rfl, _⟩ := ho9.sl.shape
            have HO9 := Lib.hid ho9
            clear ho9 hg9
            dsimp only
            refine hK.out _ _ (SK.of ⟨c2 0, c4 0⟩ l1' hb9) (fun hHeld => ?_)
            clear hK K
            (try simp only [Act.put, List.setIfInBounds_toArray, List.set_cons_zero, List.set_cons_succ])
            clear HO8 hb8 hb78 hb78'
            ((refine wpAnyH_take (i := 10) (oi := ⟨some 59, _, _, _, _, _⟩) (v := ?_) rfl (by kernel_rfl) (by kernel_rfl) (by kernel_rfl) (fun _ _ _ h => h) (Or.inl ⟨by rfl, ?_⟩) (by assumption) ?_); rotate_left; (focus ((intro w hSw); (try dsimp only at hSw); go_simp; (try with_reducible rfl))); (try simp only [Act.put, List.setIfInBounds_toArray, List.set_cons_zero, List.set_cons_succ]))
            obtain ⟨c9, f9, l9, n9, m9⟩ := (R1.out.below hb9 R1.out.lt).rules
            refine wpAnyH_ready (rs := [11]) (by kernel_rfl) (by simp) ?_
            refine AllReadyH.cons (o := ⟨none, _, _, _, _, _⟩) rfl (fun K hK => ?_) AllReadyH.nil
            go_simp
            refine hK.out _ _ (SK.set ⟨c2 0, c4 0⟩ (by omega) (by omega) l2' l4' _ hb9) (fun hHeld => ?_)
            clear hK K c9 f9 l9 n9 m9
            refine wpAnyH_done (by kernel_rfl) (NoPanic.normal ?_) _
            have X1 : Box (w9.setCell ⟨w.heap.size, 1, none⟩ (.slice a9 zs.length cap9)) w.heap.size #[.int .i64 size, .slice a9 zs.length cap9] 24 := (R1.out.below hb9 R1.out.lt).set 1 _
            have X3 := (R3.out.below hb9 R3.out.lt).other ⟨w.heap.size, 1, none⟩ (.slice a9 zs.length cap9) (by show ¬ w.heap.size + 1 + 1 = w.heap.size; omega)
            have X4 := (R4.out.below hb9 R4.out.lt).other ⟨w.heap.size, 1, none⟩ (.slice a9 zs.length cap9) (by show ¬ w1.heap.size = w.heap.size; omega)
            have HO10 := Lib.hid (HO9.out.setOther (b := w.heap.size) (by omega) 1 (.slice a9 zs.length cap9))
            have hb10 : Below w.heap.size w (w9.setCell ⟨w.heap.size, 1, none⟩ (.slice a9 zs.length cap9)) := ((HBW.out.trans (hbw7.mono HBW.out.size)).trans (hb9.mono (by omega))).setCell (p := ⟨w.heap.size, 1, none⟩) (Nat.le_refl _) _
            have hDl : D < W.heap.size := (Array.getElem?_eq_some_iff.1 HK.out).1
            have hzw := hbw7.size
            have hK10 : (w9.setCell ⟨w.heap.size, 1, none⟩ (.slice a9 zs.length cap9)).heap[D]? = some (.deferred (some [])) := by
              rw [heap_setCell_other _ _ _ _ (by show ¬ D = w.heap.size; omega)]
              exact (hb9.block D (by omega)).trans ((hbw7.block D (by omega)).trans HK.out)
            generalize w9.setCell ⟨w.heap.size, 1, none⟩ (.slice a9 zs.length cap9) = w10 at *
            obtain ⟨c1x, f1x, l1x, n1x, m1x⟩ := X1.rules
            obtain ⟨c3x, f3x, l3x, n3x, m3x⟩ := X3.rules
            obtain ⟨c4x, f4x, l4x, n4x, m4x⟩ := X4.rules
            clear c1 f1 l1' n1 m1 c2 f2 l2' n2 m2 c4 f4 l4' n4 m4
            go_wp2_with fail
            go_region
            all_goals
              go_wp2_with fail
              refine noGoto_ret ?_
              have hset : Box (((w10.setCell ⟨w.heap.size + 1 + 1, 0, none⟩ (.int .i64 size)).setCell ⟨w.heap.size + 1 + 1, 1, none⟩ (.slice a9 zs.length cap9)).drew) (w.heap.size + 1 + 1) #[.int .i64 size, .slice a9 zs.length cap9] 24 := ((X3.set 0 (.int .i64 size)).set 1 (.slice a9 zs.length cap9)).drew
              have hKD : (((w10.setCell ⟨w.heap.size + 1 + 1, 0, none⟩ (.int .i64 size)).setCell ⟨w.heap.size + 1 + 1, 1, none⟩ (.slice a9 zs.length cap9)).drew).heap[D]? = some (.deferred (some [])) := by
                rw [drew_heap', heap_setCell_other _ _ _ _ (by show ¬ D = w.heap.size + 1 + 1; omega), heap_setCell_other _ _ _ _ (by show ¬ D = w.heap.size + 1 + 1; omega)]; exact hK10
              have hbe : Below w.heap.size w (((w10.setCell ⟨w.heap.size + 1 + 1, 0, none⟩ (.int .i64 size)).setCell ⟨w.heap.size + 1 + 1, 1, none⟩ (.slice a9 zs.length cap9)).drew) :=
                ((hb10.setCell (p := ⟨w.heap.size + 1 + 1, 0, none⟩) (by show w.heap.size ≤ w.heap.size + 1 + 1; omega) _).setCell (p := ⟨w.heap.size + 1 + 1, 1, none⟩) (by show w.heap.size ≤ w.heap.size + 1 + 1; omega) _).drew
              have hbe2 := hbe.trans (belowK_b (w := w2) HBW2.out.size _ D _ (Obj.deferred none) hD hKD rfl rfl)
              refine ⟨by simp, .inl ⟨_, _, rfl, run_takeDeferred hKD, ?_⟩⟩
              have b1 := ((Own.from (box_own (β := Unit) _ 24 (fun _ => _)) w2.heap.size).putObj (s := ()) (Obj.deferred none) hset hD hKD rfl).rules.1
              have b10 := b1 0
              have b11 := b1 1
              refine ⟨.tuple #[.agg #[.int .i64 size, .slice a9 zs.length cap9], .int .i64 p, .int .i64 0], by simp [results, Try.results12, go_sem, b10, b11], _, by rw [HAT.out], ?_, HO10.out.res (by omega), hbe2⟩
              rw [← HZ2.out]
              have ho := (((HO10.out.setOther (b := w.heap.size + 1 + 1) (by omega) 0 (.int .i64 size)).setOther (b := w.heap.size + 1 + 1) (by omega) 1 (.slice a9 zs.length cap9)).kept (Below.refl _ _).drew)
              exact Owned.sl ⟨ownsRow_putObj ho.1 _ hKD rfl, ho.2⟩
        · have e1 : decide ((l1.length : Int) < (l.length : Int)) = false := by simp; omega
          go_wp2_with fail
          ((refine wp_region_quiet_below (by kernel_rfl) (by kernel_rfl) ?_); (repeat (go_big_quiet_step (fail))); (refine wpQuiet_nil ?_); (intro _ hw'); (obtain ⟨⟨dq, osq⟩, hw''⟩ := hw'); (subst hw''); (have hb7 := below_regrown wr dq osq); (generalize Go.Sort.grow (redrawn wr dq) osq = w7 at *); (have hz7 := hb7.size))
          clear g1 g4
          go_wp2_with fail
          have hbw7 : Below W.heap.size W w7 := hbw.trans (hb7.mono hbw.size)
          have R1 := Lib.hid (H1.out.below hbw7 H1.out.lt)
          have R2 := Lib.hid (H2.out.below hbw7 H2.out.lt)
          have R3 := Lib.hid (H3.out.below hbw7 H3.out.lt)
          have R4 := Lib.hid (H4.out.below hbw7 H4.out.lt)
          have HV7 := Lib.hid (HV.out.below (HBW.out.trans (hbw7.mono HBW.out.size)))
          obtain ⟨c1, f1, l1', n1, m1⟩ := R1.out.rules
          obtain ⟨c2, f2, l2', n2, m2⟩ := R2.out.rules
          obtain ⟨c4, f4, l4', n4, m4⟩ := R4.out.rules
          have hS0 : SK w7 w.heap.size (w.heap.size + 1) w1.heap.size n p w7 := SK.of ⟨c2 0, c4 0⟩ l1' (Below.refl _ _)
          refine wp_region_noPanic ?_
          refine wp_region_held_drew (S := (fun W' => W'.cell? ⟨w.heap.size + 1, 0, none⟩ = some (.int .i64 n) ∧ W'.cell? ⟨w1.heap.size, 0, none⟩ = some (.int .i64 p) ∧ ∃ X, Below w7.heap.size w7 X ∧ (W' = X ∨ ∃ u, W' = X.setCell ⟨w.heap.size, 1, none⟩ u))) (by kernel_rfl) (SK.of ⟨c2 0, c4 0⟩ l1' (by (repeat (first | with_reducible assumption | with_reducible exact Below.refl _ _ | with_reducible refine Below.setCell ?_ ?_ _ | with_reducible refine Below.alloc ?_ ?_ _ | with_reducible refine below_drewN' ?_ _ | with_reducible refine Below.drew ?_ | with_reducible refine Below.trans ?_ (Below.mono (by assumption) ?_) | omega | (dsimp only; omega) | (simp only [drew_heap', drewN_heap', World.size_alloc, World.size_setCell]; omega) | (solve | simp) | (solve | (simp; omega)))))) (fun hHeld => ?_)
          ((refine wpAnyH_take (i := 0) (oi := ⟨some 49, _, _, _, _, _⟩) (v := ?_) rfl (by kernel_rfl) (by kernel_rfl) (by kernel_rfl) (fun _ _ _ h => h) (Or.inl ⟨by rfl, ?_⟩) (by assumption) ?_); rotate_left; (focus ((intro w hSw); (try dsimp only at hSw); go_simp; (try with_reducible rfl))); (try simp only [Act.put, List.setIfInBounds_toArray, List.set_cons_zero, List.set_cons_succ]))
          ((refine wpAnyH_take (i := 3) (oi := ⟨some 52, _, _, _, _, _⟩) (v := ?_) rfl (by kernel_rfl) (by kernel_rfl) (by kernel_rfl) (fun _ _ _ h => h) (Or.inl ⟨by rfl, ?_⟩) (by assumption) ?_); rotate_left; (focus ((intro w hSw); (try dsimp only at hSw); go_simp; (try with_reducible rfl))); (try simp only [Act.put, List.setIfInBounds_toArray, List.set_cons_zero, List.set_cons_succ]))
          ((refine wpAnyH_take (i := 4) (oi := ⟨some 53, _, _, _, _, _⟩) (v := ?_) rfl (by kernel_rfl) (by kernel_rfl) (by kernel_rfl) (fun _ _ _ h => h) (Or.inl ⟨by rfl, ?_⟩) (by assumption) ?_); rotate_left; (focus ((intro w hSw); (try dsimp only at hSw); go_simp; (try with_reducible rfl))); (try simp only [Act.put, List.setIfInBounds_toArray, List.set_cons_zero, List.set_cons_succ]))
          ((refine wpAnyH_take (i := 5) (oi := ⟨some 54, _, _, _, _, _⟩) (v := ?_) rfl (by kernel_rfl) (by kernel_rfl) (by kernel_rfl) (fun _ _ _ h => h) (Or.inl ⟨by rfl, ?_⟩) (by assumption) ?_); rotate_left; (focus ((intro w hSw); (try dsimp only at hSw); go_simp; (try with_reducible rfl))); (try simp only [Act.put, List.setIfInBounds_toArray, List.set_cons_zero, List.set_cons_succ]))
          ((refine wpAnyH_take (i := 6) (oi := ⟨some 55, _, _, _, _, _⟩) (v := ?_) rfl (by kernel_rfl) (by kernel_rfl) (by kernel_rfl) (fun _ _ _ h => h) (Or.inl ⟨by rfl, ?_⟩) (by assumption) ?_); rotate_left; (focus ((intro w hSw); (try dsimp only at hSw); go_simp; (try with_reducible rfl))); (try simp only [Act.put, List.setIfInBounds_toArray, List.set_cons_zero, List.set_cons_succ]))
          ((refine wpAnyH_take (i := 7) (oi := ⟨some 56, _, _, _, _, _⟩) (v := ?_) rfl (by kernel_rfl) (by kernel_rfl) (by kernel_rfl) (fun _ _ _ h => h) (Or.inl ⟨by rfl, ?_⟩) (by assumption) ?_); rotate_left; (focus ((intro w hSw); (try dsimp only at hSw); go_simp; (try with_reducible rfl))); (try simp only [Act.put, List.setIfInBounds_toArray, List.set_cons_zero, List.set_cons_succ]))
          refine wpAnyH_ready (rs := [1, 8]) (by kernel_rfl) (by simp) ?_
          refine AllReadyH.cons (o := ⟨some 50, _, _, _, _, _⟩) rfl (fun K hK => ?_) (AllReadyH.cons (o := ⟨some 57, _, _, _, _, _⟩) rfl (fun K hK => ?_) AllReadyH.nil)
          · go_simp
            refine hK.out _ _ (SK.of ⟨c2 0, c4 0⟩ l1' (by (repeat (first | with_reducible assumption | with_reducible exact Below.refl _ _ | with_reducible refine Below.setCell ?_ ?_ _ | with_reducible refine Below.alloc ?_ ?_ _ | with_reducible refine below_drewN' ?_ _ | with_reducible refine Below.drew ?_ | with_reducible refine Below.trans ?_ (Below.mono (by assumption) ?_) | omega | (dsimp only; omega) | (simp only [drew_heap', drewN_heap', World.size_alloc, World.size_setCell]; omega) | (solve | simp) | (solve | (simp; omega)))))) (fun hHeld => ?_)
            clear hK K
            (try simp only [Act.put, List.setIfInBounds_toArray, List.set_cons_zero, List.set_cons_succ])
            refine wpAnyH_ready (rs := [2, 8]) (by kernel_rfl) (by simp) ?_
            refine AllReadyH.cons (o := ⟨some 51, _, _, _, _, _⟩) rfl (fun K hK => ?_) (AllReadyH.cons (o := ⟨some 57, _, _, _, _, _⟩) rfl (fun K hK => ?_) AllReadyH.nil)
            · go_simp
              with_reducible refine (clone_span _ (sps l) _ (HV7.out.below (by (repeat (first | with_reducible assumption | with_reducible exact Below.refl _ _ | with_reducible refine Below.setCell ?_ ?_ _ | with_reducible refine Below.alloc ?_ ?_ _ | with_reducible refine below_drewN' ?_ _ | with_reducible refine Below.drew ?_ | with_reducible refine Below.trans ?_ (Below.mono (by assumption) ?_) | omega | (dsimp only; omega) | (simp only [drew_heap', drewN_heap', World.size_alloc, World.size_setCell]; omega) | (solve | simp) | (solve | (simp; omega)))))) (by rw [sps_len]; (have := HBY.out); omega)).mono ?_
              rintro en w8 ⟨v8, rfl, ho8, hb8⟩
              have hz8 := hb8.size
              (try simp only [drew_heap', drewN_heap', World.size_alloc] at hz8)
              have hb78 : Below w7.heap.size w7 w8 := (by (repeat (first | with_reducible assumption | with_reducible exact Below.refl _ _ | with_reducible refine Below.setCell ?_ ?_ _ | with_reducible refine Below.alloc ?_ ?_ _ | with_reducible refine below_drewN' ?_ _ | with_reducible refine Below.drew ?_ | with_reducible refine Below.trans ?_ (Below.mono (by assumption) ?_) | omega | (dsimp only; omega) | (simp only [drew_heap', drewN_heap', World.size_alloc, World.size_setCell]; omega) | (solve | simp) | (solve | (simp; omega)))))
              have HO8 := Lib.hid ho8
              clear ho8
              dsimp only
              refine hK.out _ _ (SK.of ⟨c2 0, c4 0⟩ l1' hb78) (fun hHeld => ?_)
              clear hK K
              (try simp only [Act.put, List.setIfInBounds_toArray, List.set_cons_zero, List.set_cons_succ])
              refine wpAnyH_ready (rs := [8]) (by kernel_rfl) (by simp) ?_
              refine AllReadyH.cons (o := ⟨some 57, _, _, _, _, _⟩) rfl (fun K hK => ?_) AllReadyH.nil
              go_simp
              refine hK.out _ _ (SK.of ⟨c2 0, c4 0⟩ l1' (by (repeat (first | with_reducible assumption | with_reducible exact Below.refl _ _ | with_reducible refine Below.setCell ?_ ?_ _ | with_reducible refine Below.alloc ?_ ?_ _ | with_reducible refine below_drewN' ?_ _ | with_reducible refine Below.drew ?_ | with_reducible refine Below.trans ?_ (Below.mono (by assumption) ?_) | omega | (dsimp only; omega) | (simp only [drew_heap', drewN_heap', World.size_alloc, World.size_setCell]; omega) | (solve | simp) | (solve | (simp; omega)))))) (fun hHeld => ?_)
              clear hK K
              (try simp only [Act.put, List.setIfInBounds_toArray, List.set_cons_zero, List.set_cons_succ])
              refine wpAnyH_ready (rs := [9]) (by kernel_rfl) (by simp) ?_
              refine AllReadyH.cons (o := ⟨some 58, _, _, _, _, _⟩) rfl (fun K hK => ?_) AllReadyH.nil
              go_simp
              have hb78' : Below w7.heap.size w7 (w8.alloc (.cells #[.int .i64 p, .int .i64 n, .int .i64 who] 31)) := (by (repeat (first | with_reducible assumption | with_reducible exact Below.refl _ _ | with_reducible refine Below.setCell ?_ ?_ _ | with_reducible refine Below.alloc ?_ ?_ _ | with_reducible refine below_drewN' ?_ _ | with_reducible refine Below.drew ?_ | with_reducible refine Below.trans ?_ (Below.mono (by assumption) ?_) | omega | (dsimp only; omega) | (simp only [drew_heap', drewN_heap', World.size_alloc, World.size_setCell]; omega) | (solve | simp) | (solve | (simp; omega)))))
              with_reducible refine (insert_span v8 (sps l) l1.length (spV (p, n, who)) w8.heap.size _ w7.heap.size ((HO8.out.le (base' := w7.heap.size) (by first | omega | (simp only [drew_heap', drewN_heap', World.size_alloc]; omega))).kept ?_) ?_ (sp_val (p, n, who)) ?_ ?_ ?_ ?_).mono ?_
              focus (repeat (first | with_reducible assumption | with_reducible exact Below.refl _ _ | with_reducible refine Below.setCell ?_ ?_ _ | with_reducible refine Below.alloc ?_ ?_ _ | with_reducible refine below_drewN' ?_ _ | with_reducible refine Below.drew ?_ | with_reducible refine Below.trans ?_ (Below.mono (by assumption) ?_) | omega | (dsimp only; omega) | (simp only [drew_heap', drewN_heap', World.size_alloc, World.size_setCell]; omega) | (solve | simp) | (solve | (simp; omega))))
              focus (rw [sps_len]; omega)
              focus (rw [sp_cells]; ((apply Box.cast); (repeat (first | with_reducible assumption | ((with_reducible apply Box.new1); (first | with_reducible rfl | rfl | (solve | simp))) | with_reducible apply Box.drewN | with_reducible apply Box.drew | with_reducible apply Box.set | with_reducible apply Box.other | with_reducible apply Box.alloc | (with_reducible apply Box.below; rotate_left; with_reducible assumption; rotate_right) | with_reducible rfl | omega | (dsimp only; omega) | (simp only [drew_heap', drewN_heap', World.size_alloc, World.size_setCell]; omega) | rfl | (solve | simp) | (solve | (simp; omega))))))
              focus (intro b hb; (have h1 := HO8.out.own_ge b hb); (have h2 := (HO8.out.row.lt b hb).2); (try simp only [drew_heap', drewN_heap', World.size_alloc] at h1 h2 ⊢); omega)
              focus (first | omega | (simp only [drew_heap', drewN_heap', World.size_alloc]; omega))
              focus (rw [sps_len]; exact HBY.out)
              rintro en w9 ⟨v9, rfl, ho9, hg9⟩
              have hb9 : Below w7.heap.size w7 w9 := (((HO8.out.le (base' := w7.heap.size) (by first | omega | (simp only [drew_heap', drewN_heap', World.size_alloc]; omega))).kept (by (repeat (first | with_reducible assumption | with_reducible exact Below.refl _ _ | with_reducible refine Below.setCell ?_ ?_ _ | with_reducible refine Below.alloc ?_ ?_ _ | with_reducible refine below_drewN' ?_ _ | with_reducible refine Below.drew ?_ | with_reducible refine Below.trans ?_ (Below.mono (by assumption) ?_) | omega | (dsimp only; omega) | (simp only [drew_heap', drewN_heap', World.size_alloc, World.size_setCell]; omega) | (solve | simp) | (solve | (simp; omega))))))).below hg9 hb78' (Nat.le_refl _) (by first | omega | (simp only [drew_heap', drewN_heap', World.size_alloc]; omega))
              rw [HZ1.out] at ho9
              obtain ⟨a9, cap9, rfl, _⟩ := ho9.sl.shape
              have HO9 := Lib.hid ho9
              clear ho9 hg9
              dsimp only
              refine hK.out _ _ (SK.of ⟨c2 0, c4 0⟩ l1' hb9) (fun hHeld => ?_)
              clear hK K
              (try simp only [Act.put, List.setIfInBounds_toArray, List.set_cons_zero, List.set_cons_succ])
              clear HO8 hb8 hb78 hb78'
              ((refine wpAnyH_take (i := 10) (oi := ⟨some 59, _, _, _, _, _⟩) (v := ?_) rfl (by kernel_rfl) (by kernel_rfl) (by kernel_rfl) (fun _ _ _ h => h) (Or.inl ⟨by rfl, ?_⟩) (by assumption) ?_); rotate_left; (focus ((intro w hSw); (try dsimp only at hSw); go_simp; (try with_reducible rfl))); (try simp only [Act.put, List.setIfInBounds_toArray, List.set_cons_zero, List.set_cons_succ]))
              obtain ⟨c9, f9, l9, n9, m9⟩ := (R1.out.below hb9 R1.out.lt).rules
              refine wpAnyH_ready (rs := [11]) (by kernel_rfl) (by simp) ?_
              refine AllReadyH.cons (o := ⟨none, _, _, _, _, _⟩) rfl (fun K hK => ?_) AllReadyH.nil
              go_simp
              refine hK.out _ _ (SK.set ⟨c2 0, c4 0⟩ (by omega) (by omega) l2' l4' _ hb9) (fun hHeld => ?_)
              clear hK K c9 f9 l9 n9 m9
              refine wpAnyH_done (by kernel_rfl) (NoPanic.normal ?_) _
              have X1 : Box (w9.setCell ⟨w.heap.size, 1, none⟩ (.slice a9 zs.length cap9)) w.heap.size #[.int .i64 size, .slice a9 zs.length cap9] 24 := (R1.out.below hb9 R1.out.lt).set 1 _
              have X3 := (R3.out.below hb9 R3.out.lt).other ⟨w.heap.size, 1, none⟩ (.slice a9 zs.length cap9) (by show ¬ w.heap.size + 1 + 1 = w.heap.size; omega)
              have X4 := (R4.out.below hb9 R4.out.lt).other ⟨w.heap.size, 1, none⟩ (.slice a9 zs.length cap9) (by show ¬ w1.heap.size = w.heap.size; omega)
              have HO10 := Lib.hid (HO9.out.setOther (b := w.heap.size) (by omega) 1 (.slice a9 zs.length cap9))
              have hb10 : Below w.heap.size w (w9.setCell ⟨w.heap.size, 1, none⟩ (.slice a9 zs.length cap9)) := ((HBW.out.trans (hbw7.mono HBW.out.size)).trans (hb9.mono (by omega))).setCell (p := ⟨w.heap.size, 1, none⟩) (Nat.le_refl _) _
              have hDl : D < W.heap.size := (Array.getElem?_eq_some_iff.1 HK.out).1
              have hzw := hbw7.size
              have hK10 : (w9.setCell ⟨w.heap.size, 1, none⟩ (.slice a9 zs.length cap9)).heap[D]? = some (.deferred (some [])) := by
                rw [heap_setCell_other _ _ _ _ (by show ¬ D = w.heap.size; omega)]
                exact (hb9.block D (by omega)).trans ((hbw7.block D (by omega)).trans HK.out)
              generalize w9.setCell ⟨w.heap.size, 1, none⟩ (.slice a9 zs.length cap9) = w10 at *
              obtain ⟨c1x, f1x, l1x, n1x, m1x⟩ := X1.rules
              obtain ⟨c3x, f3x, l3x, n3x, m3x⟩ := X3.rules
              obtain ⟨c4x, f4x, l4x, n4x, m4x⟩ := X4.rules
              clear c1 f1 l1' n1 m1 c2 f2 l2' n2 m2 c4 f4 l4' n4 m4
              go_wp2_with fail
              go_region
              all_goals
                go_wp2_with fail
                refine noGoto_ret ?_
                have hset : Box (((w10.setCell ⟨w.heap.size + 1 + 1, 0, none⟩ (.int .i64 size)).setCell ⟨w.heap.size + 1 + 1, 1, none⟩ (.slice a9 zs.length cap9)).drew) (w.heap.size + 1 + 1) #[.int .i64 size, .slice a9 zs.length cap9] 24 := ((X3.set 0 (.int .i64 size)).set 1 (.slice a9 zs.length cap9)).drew
                have hKD : (((w10.setCell ⟨w.heap.size + 1 + 1, 0, none⟩ (.int .i64 size)).setCell ⟨w.heap.size + 1 + 1, 1, none⟩ (.slice a9 zs.length cap9)).drew).heap[D]? = some (.deferred (some [])) := by
                  rw [drew_heap', heap_setCell_other _ _ _ _ (by show ¬ D = w.heap.size + 1 + 1; omega), heap_setCell_other _ _ _ _ (by show ¬ D = w.heap.size + 1 + 1; omega)]; exact hK10
                have hbe : Below w.heap.size w (((w10.setCell ⟨w.heap.size + 1 + 1, 0, none⟩ (.int .i64 size)).setCell ⟨w.heap.size + 1 + 1, 1, none⟩ (.slice a9 zs.length cap9)).drew) :=
                  ((hb10.setCell (p := ⟨w.heap.size + 1 + 1, 0, none⟩) (by show w.heap.size ≤ w.heap.size + 1 + 1; omega) _).setCell (p := ⟨w.heap.size + 1 + 1, 1, none⟩) (by show w.heap.size ≤ w.heap.size + 1 + 1; omega) _).drew
                have hbe2 := hbe.trans (belowK_b (w := w2) HBW2.out.size _ D _ (Obj.deferred none) hD hKD rfl rfl)
                refine ⟨by simp, .inl ⟨_, _, rfl, run_takeDeferred hKD, ?_⟩⟩
                have b1 := ((Own.from (box_own (β := Unit) _ 24 (fun _ => _)) w2.heap.size).putObj (s := ()) (Obj.deferred none) hset hD hKD rfl).rules.1
                have b10 := b1 0
                have b11 := b1 1
                refine ⟨.tuple #[.agg #[.int .i64 size, .slice a9 zs.length cap9], .int .i64 p, .int .i64 0], by simp [results, Try.results12, go_sem, b10, b11], _, by rw [HAT.out], ?_, HO10.out.res (by omega), hbe2⟩
                rw [← HZ2.out]
                have ho := (((HO10.out.setOther (b := w.heap.size + 1 + 1) (by omega) 0 (.int .i64 size)).setOther (b := w.heap.size + 1 + 1) (by omega) 1 (.slice a9 zs.length cap9)).kept (Below.refl _ _).drew)
                exact Owned.sl ⟨ownsRow_putObj ho.1 _ hKD rfl, ho.2⟩
            · go_simp
              refine hK.out _ _ (SK.of ⟨c2 0, c4 0⟩ l1' (by (repeat (first | with_reducible assumption | with_reducible exact Below.refl _ _ | with_reducible refine Below.setCell ?_ ?_ _ | with_reducible refine Below.alloc ?_ ?_ _ | with_reducible refine below_drewN' ?_ _ | with_reducible refine Below.drew ?_ | with_reducible refine Below.trans ?_ (Below.mono (by assumption) ?_) | omega | (dsimp only; omega) | (simp only [drew_heap', drewN_heap', World.size_alloc, World.size_setCell]; omega) | (solve | simp) | (solve | (simp; omega)))))) (fun hHeld => ?_)
              clear hK K
              (try simp only [Act.put, List.setIfInBounds_toArray, List.set_cons_zero, List.set_cons_succ])
              refine wpAnyH_ready (rs := [2]) (by kernel_rfl) (by simp) ?_
              refine AllReadyH.cons (o := ⟨some 51, _, _, _, _, _⟩) rfl (fun K hK => ?_) AllReadyH.nil
              go_simp
              with_reducible refine (clone_span _ (sps l) _ (HV7.out.below (by (repeat (first | with_reducible assumption | with_reducible exact Below.refl _ _ | with_reducible refine Below.setCell ?_ ?_ _ | with_reducible refine Below.alloc ?_ ?_ _ | with_reducible refine below_drewN' ?_ _ | with_reducible refine Below.drew ?_ | with_reducible refine Below.trans ?_ (Below.mono (by assumption) ?_) | omega | (dsimp only; omega) | (simp only [drew_heap', drewN_heap', World.size_alloc, World.size_setCell]; omega) | (solve | simp) | (solve | (simp; omega)))))) (by rw [sps_len]; (have := HBY.out); omega)).mono ?_
              rintro en w8 ⟨v8, rfl, ho8, hb8⟩
              have hz8 := hb8.size
              (try simp only [drew_heap', drewN_heap', World.size_alloc] at hz8)
              have hb78 : Below w7.heap.size w7 w8 := (by (repeat (first | with_reducible assumption | with_reducible exact Below.refl _ _ | with_reducible refine Below.setCell ?_ ?_ _ | with_reducible refine Below.alloc ?_ ?_ _ | with_reducible refine below_drewN' ?_ _ | with_reducible refine Below.drew ?_ | with_reducible refine Below.trans ?_ (Below.mono (by assumption) ?_) | omega | (dsimp only; omega) | (simp only [drew_heap', drewN_heap', World.size_alloc, World.size_setCell]; omega) | (solve | simp) | (solve | (simp; omega)))))
              have HO8 := Lib.hid ho8
              clear ho8
              dsimp only
              refine hK.out _ _ (SK.of ⟨c2 0, c4 0⟩ l1' hb78) (fun hHeld => ?_)
              clear hK K
              (try simp only [Act.put, List.setIfInBounds_toArray, List.set_cons_zero, List.set_cons_succ])
              refine wpAnyH_ready (rs := [9]) (by kernel_rfl) (by simp) ?_
              refine AllReadyH.cons (o := ⟨some 58, _, _, _, _, _⟩) rfl (fun K hK => ?_) AllReadyH.nil
              go_simp
              have hb78' : Below w7.heap.size w7 w8 := (by (repeat (first | with_reducible assumption | with_reducible exact Below.refl _ _ | with_reducible refine Below.setCell ?_ ?_ _ | with_reducible refine Below.alloc ?_ ?_ _ | with_reducible refine below_drewN' ?_ _ | with_reducible refine Below.drew ?_ | with_reducible refine Below.trans ?_ (Below.mono (by assumption) ?_) | omega | (dsimp only; omega) | (simp only [drew_heap', drewN_heap', World.size_alloc, World.size_setCell]; omega) | (solve | simp) | (solve | (simp; omega)))))
              with_reducible refine (insert_span v8 (sps l) l1.length (spV (p, n, who)) w7.heap.size w8 w7.heap.size ((HO8.out.le (base' := w7.heap.size) (by first | omega | (simp only [drew_heap', drewN_heap', World.size_alloc]; omega))).kept ?_) ?_ (sp_val (p, n, who)) ?_ ?_ ?_ ?_).mono ?_
              focus (repeat (first | with_reducible assumption | with_reducible exact Below.refl _ _ | with_reducible refine Below.setCell ?_ ?_ _ | with_reducible refine Below.alloc ?_ ?_ _ | with_reducible refine below_drewN' ?_ _ | with_reducible refine Below.drew ?_ | with_reducible refine Below.trans ?_ (Below.mono (by assumption) ?_) | omega | (dsimp only; omega) | (simp only [drew_heap', drewN_heap', World.size_alloc, World.size_setCell]; omega) | (solve | simp) | (solve | (simp; omega))))
              focus (rw [sps_len]; omega)
              focus exact (Box.new w7.drew #[.int .i64 p, .int .i64 n, .int .i64 who] 31).below hb8 (by simp [drew_heap'])
              focus (intro b hb; (have h1 := HO8.out.own_ge b hb); (have h2 := (HO8.out.row.lt b hb).2); (try simp only [drew_heap', drewN_heap', World.size_alloc] at h1 h2 ⊢); omega)
              focus (first | omega | (simp only [drew_heap', drewN_heap', World.size_alloc]; omega))
              focus (rw [sps_len]; exact HBY.out)
              rintro en w9 ⟨v9, rfl, ho9, hg9⟩
              have hb9 : Below w7.heap.size w7 w9 := (((HO8.out.le (base' := w7.heap.size) (by first | omega | (simp only [drew_heap', drewN_heap', World.size_alloc]; omega))).kept (by (repeat (first | with_reducible assumption | with_reducible exact Below.refl _ _ | with_reducible refine Below.setCell ?_ ?_ _ | with_reducible refine Below.alloc ?_ ?_ _ | with_reducible refine below_drewN' ?_ _ | with_reducible refine Below.drew ?_ | with_reducible refine Below.trans ?_ (Below.mono (by assumption) ?_) | omega | (dsimp only; omega) | (simp only [drew_heap', drewN_heap', World.size_alloc, World.size_setCell]; omega) | (solve | simp) | (solve | (simp; omega))))))).below hg9 hb78' (Nat.le_refl _) (by first | omega | (simp only [drew_heap', drewN_heap', World.size_alloc]; omega))
              rw [HZ1.out] at ho9
              obtain ⟨a9, cap9, rfl, _⟩ := ho9.sl.shape
              have HO9 := Lib.hid ho9
              clear ho9 hg9
              dsimp only
              refine hK.out _ _ (SK.of ⟨c2 0, c4 0⟩ l1' hb9) (fun hHeld => ?_)
              clear hK K
              (try simp only [Act.put, List.setIfInBounds_toArray, List.set_cons_zero, List.set_cons_succ])
              clear HO8 hb8 hb78 hb78'
              ((refine wpAnyH_take (i := 10) (oi := ⟨some 59, _, _, _, _, _⟩) (v := ?_) rfl (by kernel_rfl) (by kernel_rfl) (by kernel_rfl) (fun _ _ _ h => h) (Or.inl ⟨by rfl, ?_⟩) (by assumption) ?_); rotate_left; (focus ((intro w hSw); (try dsimp only at hSw); go_simp; (try with_reducible rfl))); (try simp only [Act.put, List.setIfInBounds_toArray, List.set_cons_zero, List.set_cons_succ]))
              obtain ⟨c9, f9, l9, n9, m9⟩ := (R1.out.below hb9 R1.out.lt).rules
              refine wpAnyH_ready (rs := [11]) (by kernel_rfl) (by simp) ?_
              refine AllReadyH.cons (o := ⟨none, _, _, _, _, _⟩) rfl (fun K hK => ?_) AllReadyH.nil
              go_simp
              refine hK.out _ _ (SK.set ⟨c2 0, c4 0⟩ (by omega) (by omega) l2' l4' _ hb9) (fun hHeld => ?_)
              clear hK K c9 f9 l9 n9 m9
              refine wpAnyH_done (by kernel_rfl) (NoPanic.normal ?_) _
              have X1 : Box (w9.setCell ⟨w.heap.size, 1, none⟩ (.slice a9 zs.length cap9)) w.heap.size #[.int .i64 size, .slice a9 zs.length cap9] 24 := (R1.out.below hb9 R1.out.lt).set 1 _
              have X3 := (R3.out.below hb9 R3.out.lt).other ⟨w.heap.size, 1, none⟩ (.slice a9 zs.length cap9) (by show ¬ w.heap.size + 1 + 1 = w.heap.size; omega)
              have X4 := (R4.out.below hb9 R4.out.lt).other ⟨w.heap.size, 1, none⟩ (.slice a9 zs.length cap9) (by show ¬ w1.heap.size = w.heap.size; omega)
              have HO10 := Lib.hid (HO9.out.setOther (b := w.heap.size) (by omega) 1 (.slice a9 zs.length cap9))
              have hb10 : Below w.heap.size w (w9.setCell ⟨w.heap.size, 1, none⟩ (.slice a9 zs.length cap9)) := ((HBW.out.trans (hbw7.mono HBW.out.size)).trans (hb9.mono (by omega))).setCell (p := ⟨w.heap.size, 1, none⟩) (Nat.le_refl _) _
              have hDl : D < W.heap.size := (Array.getElem?_eq_some_iff.1 HK.out).1
              have hzw := hbw7.size
              have hK10 : (w9.setCell ⟨w.heap.size, 1, none⟩ (.slice a9 zs.length cap9)).heap[D]? = some (.deferred (some [])) := by
                rw [heap_setCell_other _ _ _ _ (by show ¬ D = w.heap.size; omega)]
                exact (hb9.block D (by omega)).trans ((hbw7.block D (by omega)).trans HK.out)
              generalize w9.setCell ⟨w.heap.size, 1, none⟩ (.slice a9 zs.length cap9) = w10 at *
              obtain ⟨c1x, f1x, l1x, n1x, m1x⟩ := X1.rules
              obtain ⟨c3x, f3x, l3x, n3x, m3x⟩ := X3.rules
              obtain ⟨c4x, f4x, l4x, n4x, m4x⟩ := X4.rules
              clear c1 f1 l1' n1 m1 c2 f2 l2' n2 m2 c4 f4 l4' n4 m4
              go_wp2_with fail
              go_region
              all_goals
                go_wp2_with fail
                refine noGoto_ret ?_
                have hset : Box (((w10.setCell ⟨w.heap.size + 1 + 1, 0, none⟩ (.int .i64 size)).setCell ⟨w.heap.size + 1 + 1, 1, none⟩ (.slice a9 zs.length cap9)).drew) (w.heap.size + 1 + 1) #[.int .i64 size, .slice a9 zs.length cap9] 24 := ((X3.set 0 (.int .i64 size)).set 1 (.slice a9 zs.length cap9)).drew
                have hKD : (((w10.setCell ⟨w.heap.size + 1 + 1, 0, none⟩ (.int .i64 size)).setCell ⟨w.heap.size + 1 + 1, 1, none⟩ (.slice a9 zs.length cap9)).drew).heap[D]? = some (.deferred (some [])) := by
                  rw [drew_heap', heap_setCell_other _ _ _ _ (by show ¬ D = w.heap.size + 1 + 1; omega), heap_setCell_other _ _ _ _ (by show ¬ D = w.heap.size + 1 + 1; omega)]; exact hK10
                have hbe : Below w.heap.size w (((w10.setCell ⟨w.heap.size + 1 + 1, 0, none⟩ (.int .i64 size)).setCell ⟨w.heap.size + 1 + 1, 1, none⟩ (.slice a9 zs.length cap9)).drew) :=
                  ((hb10.setCell (p := ⟨w.heap.size + 1 + 1, 0, none⟩) (by show w.heap.size ≤ w.heap.size + 1 + 1; omega) _).setCell (p := ⟨w.heap.size + 1 + 1, 1, none⟩) (by show w.heap.size ≤ w.heap.size + 1 + 1; omega) _).drew
                have hbe2 := hbe.trans (belowK_b (w := w2) HBW2.out.size _ D _ (Obj.deferred none) hD hKD rfl rfl)
                refine ⟨by simp, .inl ⟨_, _, rfl, run_takeDeferred hKD, ?_⟩⟩
                have b1 := ((Own.from (box_own (β := Unit) _ 24 (fun _ => _)) w2.heap.size).putObj (s := ()) (Obj.deferred none) hset hD hKD rfl).rules.1
                have b10 := b1 0
                have b11 := b1 1
                refine ⟨.tuple #[.agg #[.int .i64 size, .slice a9 zs.length cap9], .int .i64 p, .int .i64 0], by simp [results, Try.results12, go_sem, b10, b11], _, by rw [HAT.out], ?_, HO10.out.res (by omega), hbe2⟩
                rw [← HZ2.out]
                have ho := (((HO10.out.setOther (b := w.heap.size + 1 + 1) (by omega) 0 (.int .i64 size)).setOther (b := w.heap.size + 1 + 1) (by omega) 1 (.slice a9 zs.length cap9)).kept (Below.refl _ _).drew)
                exact Owned.sl ⟨ownsRow_putObj ho.1 _ hKD rfl, ho.2⟩
          · go_simp
            refine hK.out _ _ (SK.of ⟨c2 0, c4 0⟩ l1' (by (repeat (first | with_reducible assumption | with_reducible exact Below.refl _ _ | with_reducible refine Below.setCell ?_ ?_ _ | with_reducible refine Below.alloc ?_ ?_ _ | with_reducible refine below_drewN' ?_ _ | with_reducible refine Below.drew ?_ | with_reducible refine Below.trans ?_ (Below.mono (by assumption) ?_) | omega | (dsimp only; omega) | (simp only [drew_heap', drewN_heap', World.size_alloc, World.size_setCell]; omega) | (solve | simp) | (solve | (simp; omega)))))) (fun hHeld => ?_)
            clear hK K
            (try simp only [Act.put, List.setIfInBounds_toArray, List.set_cons_zero, List.set_cons_succ])
            refine wpAnyH_ready (rs := [1]) (by kernel_rfl) (by simp) ?_
            refine AllReadyH.cons (o := ⟨some 50, _, _, _, _, _⟩) rfl (fun K hK => ?_) AllReadyH.nil
            go_simp
            refine hK.out _ _ (SK.of ⟨c2 0, c4 0⟩ l1' (by (repeat (first | with_reducible assumption | with_reducible exact Below.refl _ _ | with_reducible refine Below.setCell ?_ ?_ _ | with_reducible refine Below.alloc ?_ ?_ _ | with_reducible refine below_drewN' ?_ _ | with_reducible refine Below.drew ?_ | with_reducible refine Below.trans ?_ (Below.mono (by assumption) ?_) | omega | (dsimp only; omega) | (simp only [drew_heap', drewN_heap', World.size_alloc, World.size_setCell]; omega) | (solve | simp) | (solve | (simp; omega)))))) (fun hHeld => ?_)
            clear hK K
            (try simp only [Act.put, List.setIfInBounds_toArray, List.set_cons_zero, List.set_cons_succ])
            refine wpAnyH_ready (rs := [2]) (by kernel_rfl) (by simp) ?_
            refine AllReadyH.cons (o := ⟨some 51, _, _, _, _, _⟩) rfl (fun K hK => ?_) AllReadyH.nil
            go_simp
            with_reducible refine (clone_span _ (sps l) _ (HV7.out.below (by (repeat (first | with_reducible assumption | with_reducible exact Below.refl _ _ | with_reducible refine Below.setCell ?_ ?_ _ | with_reducible refine Below.alloc ?_ ?_ _ | with_reducible refine below_drewN' ?_ _ | with_reducible refine Below.drew ?_ | with_reducible refine Below.trans ?_ (Below.mono (by assumption) ?_) | omega | (dsimp only; omega) | (simp only [drew_heap', drewN_heap', World.size_alloc, World.size_setCell]; omega) | (solve | simp) | (solve | (simp; omega)))))) (by rw [sps_len]; (have := HBY.out); omega)).mono ?_
            rintro en w8 ⟨v8, rfl, ho8, hb8⟩
            have hz8 := hb8.size
            (try simp only [drew_heap', drewN_heap', World.size_alloc] at hz8)
            have hb78 : Below w7.heap.size w7 w8 := (by (repeat (first | with_reducible assumption | with_reducible exact Below.refl _ _ | with_reducible refine Below.setCell ?_ ?_ _ | with_reducible refine Below.alloc ?_ ?_ _ | with_reducible refine below_drewN' ?_ _ | with_reducible refine Below.drew ?_ | with_reducible refine Below.trans ?_ (Below.mono (by assumption) ?_) | omega | (dsimp only; omega) | (simp only [drew_heap', drewN_heap', World.size_alloc, World.size_setCell]; omega) | (solve | simp) | (solve | (simp; omega)))))
            have HO8 := Lib.hid ho8
            clear ho8
            dsimp only
            refine hK.out _ _ (SK.of ⟨c2 0, c4 0⟩ l1' hb78) (fun hHeld => ?_)
            clear hK K
            (try simp only [Act.put, List.setIfInBounds_toArray, List.set_cons_zero, List.set_cons_succ])
            refine wpAnyH_ready (rs := [9]) (by kernel_rfl) (by simp) ?_
            refine AllReadyH.cons (o := ⟨some 58, _, _, _, _, _⟩) rfl (fun K hK => ?_) AllReadyH.nil
            go_simp
            have hb78' : Below w7.heap.size w7 w8 := (by (repeat (first | with_reducible assumption | with_reducible exact Below.refl _ _ | with_reducible refine Below.setCell ?_ ?_ _ | with_reducible refine Below.alloc ?_ ?_ _ | with_reducible refine below_drewN' ?_ _ | with_reducible refine Below.drew ?_ | with_reducible refine Below.trans ?_ (Below.mono (by assumption) ?_) | omega | (dsimp only; omega) | (simp only [drew_heap', drewN_heap', World.size_alloc, World.size_setCell]; omega) | (solve | simp) | (solve | (simp; omega)))))
            with_reducible refine (insert_span v8 (sps l) l1.length (spV (p, n, who)) w7.heap.size w8 w7.heap.size ((HO8.out.le (base' := w7.heap.size) (by first | omega | (simp only [drew_heap', drewN_heap', World.size_alloc]; omega))).kept ?_) ?_ (sp_val (p, n, who)) ?_ ?_ ?_ ?_).mono ?_
            focus (repeat (first | with_reducible assumption | with_reducible exact Below.refl _ _ | with_reducible refine Below.setCell ?_ ?_ _ | with_reducible refine Below.alloc ?_ ?_ _ | with_reducible refine below_drewN' ?_ _ | with_reducible refine Below.drew ?_ | with_reducible refine Below.trans ?_ (Below.mono (by assumption) ?_) | omega | (dsimp only; omega) | (simp only [drew_heap', drewN_heap', World.size_alloc, World.size_setCell]; omega) | (solve | simp) | (solve | (simp; omega))))
            focus (rw [sps_len]; omega)
            focus exact (Box.new w7.drew #[.int .i64 p, .int .i64 n, .int .i64 who] 31).below hb8 (by simp [drew_heap'])
            focus (intro b hb; (have h1 := HO8.out.own_ge b hb); (have h2 := (HO8.out.row.lt b hb).2); (try simp only [drew_heap', drewN_heap', World.size_alloc] at h1 h2 ⊢); omega)
            focus (first | omega | (simp only [drew_heap', drewN_heap', World.size_alloc]; omega))
            focus (rw [sps_len]; exact HBY.out)
            rintro en w9 ⟨v9, rfl, ho9, hg9⟩
            have hb9 : Below w7.heap.size w7 w9 := (((HO8.out.le (base' := w7.heap.size) (by first | omega | (simp only [drew_heap', drewN_heap', World.size_alloc]; omega))).kept (by (repeat (first | with_reducible assumption | with_reducible exact Below.refl _ _ | with_reducible refine Below.setCell ?_ ?_ _ | with_reducible refine Below.alloc ?_ ?_ _ | with_reducible refine below_drewN' ?_ _ | with_reducible refine Below.drew ?_ | with_reducible refine Below.trans ?_ (Below.mono (by assumption) ?_) | omega | (dsimp only; omega) | (simp only [drew_heap', drewN_heap', World.size_alloc, World.size_setCell]; omega) | (solve | simp) | (solve | (simp; omega))))))).below hg9 hb78' (Nat.le_refl _) (by first | omega | (simp only [drew_heap', drewN_heap', World.size_alloc]; omega))
            rw [HZ1.out] at ho9
            obtain ⟨a9, cap9, rfl, _⟩ := ho9.sl.shape
            have HO9 := Lib.hid ho9
            clear ho9 hg9
            dsimp only
            refine hK.out _ _ (SK.of ⟨c2 0, c4 0⟩ l1' hb9) (fun hHeld => ?_)
            clear hK K
            (try simp only [Act.put, List.setIfInBounds_toArray, List.set_cons_zero, List.set_cons_succ])
            clear HO8 hb8 hb78 hb78'
            ((refine wpAnyH_take (i := 10) (oi := ⟨some 59, _, _, _, _, _⟩) (v := ?_) rfl (by kernel_rfl) (by kernel_rfl) (by kernel_rfl) (fun _ _ _ h => h) (Or.inl ⟨by rfl, ?_⟩) (by assumption) ?_); rotate_left; (focus ((intro w hSw); (try dsimp only at hSw); go_simp; (try with_reducible rfl))); (try simp only [Act.put, List.setIfInBounds_toArray, List.set_cons_zero, List.set_cons_succ]))
            obtain ⟨c9, f9, l9, n9, m9⟩ := (R1.out.below hb9 R1.out.lt).rules
            refine wpAnyH_ready (rs := [11]) (by kernel_rfl) (by simp) ?_
            refine AllReadyH.cons (o := ⟨none, _, _, _, _, _⟩) rfl (fun K hK => ?_) AllReadyH.nil
            go_simp
            refine hK.out _ _ (SK.set ⟨c2 0, c4 0⟩ (by omega) (by omega) l2' l4' _ hb9) (fun hHeld => ?_)
            clear hK K c9 f9 l9 n9 m9
            refine wpAnyH_done (by kernel_rfl) (NoPanic.normal ?_) _
            have X1 : Box (w9.setCell ⟨w.heap.size, 1, none⟩ (.slice a9 zs.length cap9)) w.heap.size #[.int .i64 size, .slice a9 zs.length cap9] 24 := (R1.out.below hb9 R1.out.lt).set 1 _
            have X3 := (R3.out.below hb9 R3.out.lt).other ⟨w.heap.size, 1, none⟩ (.slice a9 zs.length cap9) (by show ¬ w.heap.size + 1 + 1 = w.heap.size; omega)
            have X4 := (R4.out.below hb9 R4.out.lt).other ⟨w.heap.size, 1, none⟩ (.slice a9 zs.length cap9) (by show ¬ w1.heap.size = w.heap.size; omega)
            have HO10 := Lib.hid (HO9.out.setOther (b := w.heap.size) (by omega) 1 (.slice a9 zs.length cap9))
            have hb10 : Below w.heap.size w (w9.setCell ⟨w.heap.size, 1, none⟩ (.slice a9 zs.length cap9)) := ((HBW.out.trans (hbw7.mono HBW.out.size)).trans (hb9.mono (by omega))).setCell (p := ⟨w.heap.size, 1, none⟩) (Nat.le_refl _) _
            have hDl : D < W.heap.size := (Array.getElem?_eq_some_iff.1 HK.out).1
            have hzw := hbw7.size
            have hK10 : (w9.setCell ⟨w.heap.size, 1, none⟩ (.slice a9 zs.length cap9)).heap[D]? = some (.deferred (some [])) := by
              rw [heap_setCell_other _ _ _ _ (by show ¬ D = w.heap.size; omega)]
              exact (hb9.block D (by omega)).trans ((hbw7.block D (by omega)).trans HK.out)
            generalize w9.setCell ⟨w.heap.size, 1, none⟩ (.slice a9 zs.length cap9) = w10 at *
            obtain ⟨c1x, f1x, l1x, n1x, m1x⟩ := X1.rules
            obtain ⟨c3x, f3x, l3x, n3x, m3x⟩ := X3.rules
            obtain ⟨c4x, f4x, l4x, n4x, m4x⟩ := X4.rules
            clear c1 f1 l1' n1 m1 c2 f2 l2' n2 m2 c4 f4 l4' n4 m4
            go_wp2_with fail
            go_region
            all_goals
              go_wp2_with fail
              refine noGoto_ret ?_
              have hset : Box (((w10.setCell ⟨w.heap.size + 1 + 1, 0, none⟩ (.int .i64 size)).setCell ⟨w.heap.size + 1 + 1, 1, none⟩ (.slice a9 zs.length cap9)).drew) (w.heap.size + 1 + 1) #[.int .i64 size, .slice a9 zs.length cap9] 24 := ((X3.set 0 (.int .i64 size)).set 1 (.slice a9 zs.length cap9)).drew
              have hKD : (((w10.setCell ⟨w.heap.size + 1 + 1, 0, none⟩ (.int .i64 size)).setCell ⟨w.heap.size + 1 + 1, 1, none⟩ (.slice a9 zs.length cap9)).drew).heap[D]? = some (.deferred (some [])) := by
                rw [drew_heap', heap_setCell_other _ _ _ _ (by show ¬ D = w.heap.size + 1 + 1; omega), heap_setCell_other _ _ _ _ (by show ¬ D = w.heap.size + 1 + 1; omega)]; exact hK10
              have hbe : Below w.heap.size w (((w10.setCell ⟨w.heap.size + 1 + 1, 0, none⟩ (.int .i64 size)).setCell ⟨w.heap.size + 1 + 1, 1, none⟩ (.slice a9 zs.length cap9)).drew) :=
                ((hb10.setCell (p := ⟨w.heap.size + 1 + 1, 0, none⟩) (by show w.heap.size ≤ w.heap.size + 1 + 1; omega) _).setCell (p := ⟨w.heap.size + 1 + 1, 1, none⟩) (by show w.heap.size ≤ w.heap.size + 1 + 1; omega) _).drew
              have hbe2 := hbe.trans (belowK_b (w := w2) HBW2.out.size _ D _ (Obj.deferred none) hD hKD rfl rfl)
              refine ⟨by simp, .inl ⟨_, _, rfl, run_takeDeferred hKD, ?_⟩⟩
              have b1 := ((Own.from (box_own (β := Unit) _ 24 (fun _ => _)) w2.heap.size).putObj (s := ()) (Obj.deferred none) hset hD hKD rfl).rules.1
              have b10 := b1 0
              have b11 := b1 1
              refine ⟨.tuple #[.agg #[.int .i64 size, .slice a9 zs.length cap9], .int .i64 p, .int .i64 0], by simp [results, Try.results12, go_sem, b10, b11], _, by rw [HAT.out], ?_, HO10.out.res (by omega), hbe2⟩
              rw [← HZ2.out]
              have ho := (((HO10.out.setOther (b := w.heap.size + 1 + 1) (by omega) 0 (.int .i64 size)).setOther (b := w.heap.size + 1 + 1) (by omega) 1 (.slice a9 zs.length cap9)).kept (Below.refl _ _).drew)
              exact Owned.sl ⟨ownsRow_putObj ho.1 _ hKD rfl, ho.2⟩
end Go.Proofs.Ytdfkfoffinchhaa
