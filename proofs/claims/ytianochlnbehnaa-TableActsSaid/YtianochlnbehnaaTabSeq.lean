/- One's children: the iterator, Children, Dead. Conditions: lengths within the reach. -/
import Derived.Test.YtianochlnbehnaaTabFns
import Derived.HandedShaped
import Derived.RangeFuncNested
import Derived.RangeFuncBound
import Derived.RangeFuncCalls
import Derived.RangeFuncLeaves
import Derived.Shelf.Abstract
import Derived.OwnWalkIn
import Derived.TacticsInMore
import Derived.LoopNIn
import Derived.LoopIn
import Derived.Maps.AppendAt
namespace Go.Proofs.Ytianochlnbehnaa
open Go Go.RowKit Go.Tm
set_option linter.unusedVariables false
set_option linter.unusedSimpArgs false
attribute [local go_sem] Oper.semAt_some

def kidsP (l : List Prc) (pid : Int) : List Prc := l.filter fun x => decide (x.par = pid)
theorem filter_take_step {α : Type} {l : List α} {i : Nat} {x : α} (h : l[i]? = some x) (q : α → Bool) : (l.take (i + 1)).filter q = (l.take i).filter q ++ (if q x = true then [x] else []) := by
  rw [take_step h, List.filter_append]
  by_cases hx : q x = true
  · simp [hx]
  · simp [hx]
theorem filter_take_le {α : Type} (l : List α) (i : Nat) (q : α → Bool) : ((l.take i).filter q).length ≤ i := by
  refine Nat.le_trans (List.length_filter_le _ _) ?_
  simp; omega
theorem children_any (a : Option Addr) (n cap : Nat) (pid : Int) (w : World) : Calls Try.prog 36 #[.slice a n cap, .int .i64 pid] w fun e w' =>
    e = .returned (.func (.func 46) #[] #[.pointer (some ⟨w.heap.size, 0, none⟩), .pointer (some ⟨w.heap.size + 1, 0, none⟩)]) ∧ w' = (w.alloc (.cells #[.slice a n cap] 22)).alloc (.cells #[.int .i64 pid] 3) := by
  go_enter Try.func36, Try.ntmps36
  go_wp2_with fail
  go_ret
  exact ⟨rfl, rfl⟩

/-- What the loop's body may do: write into the block B, and above N. -/
def But (B N : Nat) (X Y : World) : Prop := Below B X Y ∧ ∀ b, B < b → b < N → Y.heap[b]? = X.heap[b]?
theorem But.trans {B N : Nat} {X Y Z : World} (h : But B N X Y) (k : But B N Y Z) : But B N X Z := ⟨h.1.trans k.1, fun b h1 h2 => (k.2 b h1 h2).trans (h.2 b h1 h2)⟩
theorem But.of {B N : Nat} {X Y : World} (h : Below N X Y) (hB : B ≤ N) : But B N X Y := ⟨h.mono hB, fun b _ h2 => h.block b h2⟩
theorem But.set {B N : Nat} (X : World) (o : Nat) (v : Value) : But B N X (X.setCell ⟨B, o, none⟩ v) := ⟨(Below.refl B X).setCell (p := ⟨B, o, none⟩) (Nat.le_refl _) _, fun b h1 _ => heap_setCell_other _ _ _ _ (by show ¬ b = B; omega)⟩
theorem But.sl {B N : Nat} {X Y : World} (h : But B N X Y) {v : Value} {xs : List Value} {w : World} (hs : Sl w true 26 v xs) (hB : w.heap.size ≤ B) (hX : Below w.heap.size w X) : Sl Y true 26 v xs := hs.below (hX.trans (h.1.mono hB))
theorem But.box {B N : Nat} {X Y : World} (h : But B N X Y) {b : Nat} {cs : Array Value} {t : TypeId} (hb : Box X b cs t) (h1 : B < b) (h2 : b < N) : Box Y b cs t := (h.2 b h1 h2).trans hb

set_option maxRecDepth 100000 in
set_option maxHeartbeats 4000000 in
theorem children_stops (n B1 B2 : Nat) (v : Value) (pid : Int) (l : List Prc) (w : World) (KK : World → World → Prop) (hn : 1 ≤ n) (hR : KK w w) (hv : ∀ W, KK w W → Sl W true 26 v (prs l))
    (h1 : ∀ W, KK w W → Box W B1 #[v] 22) (h2 : ∀ W, KK w W → Box W B2 #[.int .i64 pid] 3) (hT : ∀ {A B C : World}, KK A B → KK B C → KK A C) (hA : ∀ W W', KK w W → Below W.heap.size W W' → KK W W') :
    SeqStopsK Fence.wide n Try.prog 46 #[.pointer (some ⟨B1, 0, none⟩), .pointer (some ⟨B2, 0, none⟩)] (fun x : Prc => #[prV x]) KK (fun ys => ys = kidsP l pid) (fun ys => ys <+: kidsP l pid) l.length w := by
  unfold kidsP
  intro l' J Jx W hW0 hJ hJx hY h0
  have hW := hA _ _ hR hW0
  have HV := Lib.hid hv
  have HB1 := Lib.hid h1
  have HB2 := Lib.hid h2
  have HJ := Lib.hid hJ
  have HY := Lib.hid hY
  obtain ⟨a, cap, rfl, hl⟩ := (hv W hW).shape
  rw [prs_len] at hl HV HB1
  clear hv hJ hY
  have hx1 : Box W B1 #[.slice a l.length cap] 22 := HB1.out W hW
  obtain ⟨c1, f1, l1, n1, m1⟩ := hx1.rules
  clear h1 h2 hx1
  refine callsIn_of_wp Try.func46 rfl trivial ?_ rfl
  simp only [Try.ntmps46, List.size_toArray, List.length_cons, List.length_nil, Nat.reduceAdd, Nat.reduceSub, Array.replicate_succ, Array.replicate_zero, List.push_toArray, List.append_toArray, List.nil_append, List.cons_append]
  gi_wp2
  gi_loopw [8] (fun t wr => ∃ k : Nat, k ≤ l.length ∧ t = .int .i64 k ∧ KK w wr ∧ J ((l.take k).filter fun x => decide (x.par = pid)) wr) (fun t _ => l.length - (intOf t).toNat)
  case atStart => exact ⟨0, Nat.zero_le _, rfl, hW, h0⟩
  case round =>
    obtain ⟨k, hk, rfl, hbw, hJs⟩ := hrel
    have HJS := Lib.hid hJs
    clear hJs
    by_cases hlt : k < l.length
    · obtain ⟨x, hx⟩ : ∃ x, l[k]? = some x := ⟨_, List.getElem?_eq_getElem hlt⟩
      obtain ⟨b, off, rfl, hb, hcells, -, -, -⟩ := Sl.pr (HV.out wr hbw) hx
      have hx2 : Box wr B2 #[.int .i64 pid] 3 := HB2.out wr hbw
      obtain ⟨c2, f2, l2, n2, m2⟩ := hx2.rules
      clear hx2
      have hstep := filter_take_step hx (fun x => decide (x.par = pid))
      have hfl := filter_take_le l k (fun x => decide (x.par = pid))
      have hwr : IntKind.i64.wrap ((k : Int) + 1) = k + 1 := IntWalk.i64_in _ (by omega)
      have q1 := prC1 x
      have HCE := Lib.hid hcells
      have HVX := Lib.hid (pr_val x)
      have hbx : Below wr.heap.size wr (wr.alloc (.cells (prC x) 33)) := (Below.refl _ _).alloc (Nat.le_refl _) _
      clear hcells
      by_cases hq : x.par = pid
      · rw [if_pos (by simpa using hq)] at hstep
        have hqb : (x.par == pid) = true := by simpa using hq
        have HST := Lib.hid hstep
        clear hstep hx hq
        have hJ1 : J ((l.take k).filter fun x => decide (x.par = pid)) (wr.alloc (.cells (prC x) 33)) := HJ.out _ wr _ none HJS.out (grown_of_below hbx none) (fun r e => by cases e)
        obtain ⟨fn, tmps, assign, body, hy, hR⟩ := HY.out _ x _ hJ1 (by omega)
        have HR := Lib.hid hR
        clear hR hJ1
        gi_wp2_with (first | (refine wpListIn_load_valA rfl 33 _ rfl b (off + k * 26) (prC x) ty_proc HVX.out HCE.out (by simp [Act.eval]) ?_) | (refine wpListIn_store_freshA rfl 33 _ _ rfl (prC x) ty_proc HVX.out (by rfl) (by simp [Act.eval, Act.put]) (by simp [Act.eval, Act.put]) ?_) | (refine wpListIn_unguard (by rfl) (wpListIn_load_boxA rfl 33 _ rfl (prC x) ty_proc HVX.out (Box.new wr _ _) (by simp [Act.eval, Act.put]) ?_)) | fail)
        refine HR.out.mono ?_
        rintro e w3 (⟨rfl, hJ3, hk3⟩ | ⟨rfl, hJx3⟩)
        · gi_wp2
          go_roundw
          case rel => exact ⟨k + 1, by omega, by go_num, hT (hT hbw (hA _ _ hbw hbx)) hk3, by rw [HST.out]; exact hJ3⟩
          case measure => simp [intOf]; omega
        · gi_wp2
          refine bodyPost_ret (results_none rfl _ _ _) rfl ?_
          exact ⟨⟨_, rfl⟩, .inr ⟨_, by rw [← HST.out]; exact (List.take_prefix _ _).filter _, hJx3⟩⟩
      · rw [if_neg (by simpa using hq), List.append_nil] at hstep
        have hqb : (x.par == pid) = false := by simpa using hq
        have HST := Lib.hid hstep
        clear hstep hx hq
        gi_wp2_with (first | (refine wpListIn_load_valA rfl 33 _ rfl b (off + k * 26) (prC x) ty_proc HVX.out HCE.out (by simp [Act.eval]) ?_) | (refine wpListIn_store_freshA rfl 33 _ _ rfl (prC x) ty_proc HVX.out (by rfl) (by simp [Act.eval, Act.put]) (by simp [Act.eval, Act.put]) ?_) | fail)
        refine ⟨fun _ h => (by cases h), ?_⟩
        gi_wp2
        go_roundw
        case rel => exact ⟨k + 1, by omega, by go_num, hT hbw (hA _ _ hbw hbx), by rw [HST.out]; exact HJ.out _ wr _ none HJS.out (grown_of_below hbx none) (fun r e => by cases e)⟩
        case measure => simp [intOf]; omega
    · obtain rfl : k = l.length := by omega
      gi_wp2
      go_end0
      exact ⟨⟨_, rfl⟩, .inl ⟨_, rfl, by rw [List.take_length] at HJS; exact HJS.out⟩⟩
end Go.Proofs.Ytianochlnbehnaa
