/- Rows of events; trace's iterator `of` over whatever predicate. Conditions: lengths within the reach. -/
import Derived.Test.YtnjhnkbjbkbnoaaRows
import Derived.Test.YtnjhnkbjbkbnoaaChecked
import Derived.Test.YtnjhnkbjbkbnoaaLib6
import Derived.Test.YtnjhnkbjbkbnoaaQTail
import Derived.StillTail
import Derived.RegionTactic
import Derived.BigRegion
import Derived.RangeFuncNested
import Derived.RangeFuncBound
import Derived.RangeFuncCalls
import Derived.RangeFuncLeaves
import Derived.Shelf.Abstract
import Derived.Shelf.RegionOpen
import Derived.WalkKit
import Derived.OwnWalkIn
import Derived.TacticsInMore
import Derived.LoopNIn
import Derived.LoopIn
import Derived.Maps.AppendAt
namespace Go.Proofs.Ytnjhnkbjbkbnoaa
open Go Go.RowKit Go.Tm
set_option linter.unusedVariables false
set_option linter.unusedSimpArgs false
attribute [local go_sem] Oper.semAt_some


theorem ty_event : Ty Try.prog 29 4 true := ⟨by kernel_rfl, by kernel_rfl, by decide, by kernel_rfl⟩


/-- An event: whose it is, the call, the answer, the time. -/
abbrev Ev := Int × Int × Int × Int
abbrev evV (x : Ev) : Value := .agg #[.int .i64 x.1, .int .u32 x.2.1, .int .u32 x.2.2.1, .int .u64 x.2.2.2]
abbrev evs (l : List Ev) : List Value := l.map evV
theorem ev_val (x : Ev) : Val true 4 (evV x) := ⟨_, rfl, rfl, by intro c hc; simp at hc; rcases hc with rfl | rfl | rfl | rfl <;> rfl⟩
theorem evs_len (l : List Ev) : (evs l).length = l.length := by simp
theorem evs_get {l : List Ev} {i : Nat} {x : Ev} (h : l[i]? = some x) : (evs l)[i]? = some (evV x) := by simp [h]
theorem ev_cells (x : Ev) : (evV x).cells = #[.int .i64 x.1, .int .u32 x.2.1, .int .u32 x.2.2.1, .int .u64 x.2.2.2] := rfl
theorem Sl.ev {w : World} {a : Option Addr} {n cap : Nat} {l : List Ev} (h : Sl w true 4 (.slice a n cap) (evs l)) {i : Nat} {x : Ev} (hx : l[i]? = some x) :
    ∃ b off, a = some ⟨b, off, none⟩ ∧ b < w.heap.size ∧ w.cell? ⟨b, off + i * 4, none⟩ = some (.int .i64 x.1) ∧ w.cell? ⟨b, off + i * 4 + 1, none⟩ = some (.int .u32 x.2.1) ∧
      w.cell? ⟨b, off + i * 4 + 2, none⟩ = some (.int .u32 x.2.2.1) ∧ w.cell? ⟨b, off + i * 4 + 3, none⟩ = some (.int .u64 x.2.2.2) := by
  obtain ⟨b, off, ha, hb, hcell⟩ := h.at (evs_get hx)
  exact ⟨b, off, ha, hb, hcell 0 _ rfl, hcell 1 _ rfl, hcell 2 _ rfl, hcell 3 _ rfl⟩

/-- A predicate on events as a function value, bound or closed over. -/
structure PredE (P : Program) (w : World) (f : FuncId) (bd caps : Array Value) (q : Ev → Bool) (l : List Ev) : Prop where
  body : Body P f
  asks : ∀ w', Below w.heap.size w w' → ∀ x ∈ l, Calls P f (bd.push (evV x) ++ caps) w' fun e w'' => e = .returned (.bool (q x)) ∧ Below w'.heap.size w' w''

theorem filter_take_step {α : Type} {l : List α} {i : Nat} {x : α} (h : l[i]? = some x) (q : α → Bool) : (l.take (i + 1)).filter q = (l.take i).filter q ++ (if q x = true then [x] else []) := by
  rw [take_step h, List.filter_append]
  by_cases hx : q x = true
  · simp [hx]
  · simp [hx]
theorem filter_take_le {α : Type} (l : List α) (i : Nat) (q : α → Bool) : ((l.take i).filter q).length ≤ i := by
  refine Nat.le_trans (List.length_filter_le _ _) ?_
  simp; omega

set_option maxRecDepth 100000 in
set_option maxHeartbeats 4000000 in
theorem of_stops (n B1 B2 : Nat) (v : Value) (f : FuncId) (bd caps : Array Value) (q : Ev → Bool) (l : List Ev) (w : World) (hn : 1 ≤ n) (hv : Sl w true 4 v (evs l)) (hp : PredE Try.prog w f bd caps q l)
    (h1 : Box w B1 #[v] 22) (h2 : Box w B2 #[.func (.func f) bd caps] 49) :
    SeqStopsK Fence.wide n Try.prog 34 #[.pointer (some ⟨B1, 0, none⟩), .pointer (some ⟨B2, 0, none⟩)] (fun x : Ev => #[evV x]) (Below w.heap.size) (fun ys => ys = l.filter q) (fun _ => True) l.length w := by
  intro l' J Jx W hW hJ hJx hY h0
  have HV := Lib.hid hv
  have HB1 := Lib.hid h1
  have HB2 := Lib.hid h2
  have HJ := Lib.hid hJ
  have HY := Lib.hid hY
  have HP := Lib.hid hp.asks
  have hbody := hp.body
  unfold Body at hbody
  obtain ⟨a, cap, rfl, hl⟩ := hv.shape
  rw [evs_len] at hl HV HB1
  clear hv hp hJ hY
  have hx1 : Box W B1 #[.slice a l.length cap] 22 := Box.below HB1.out hW h1.lt
  obtain ⟨c1, f1, l1, n1, m1⟩ := hx1.rules
  clear h1 h2 hx1
  refine callsIn_of_wp Try.func34 rfl trivial ?_ rfl
  simp only [Try.ntmps34, List.size_toArray, List.length_cons, List.length_nil, Nat.reduceAdd, Nat.reduceSub, Array.replicate_succ, Array.replicate_zero, List.push_toArray, List.append_toArray, List.nil_append, List.cons_append]
  gi_wp2
  gi_loopw [8] (fun t wr => ∃ k : Nat, k ≤ l.length ∧ t = .int .i64 k ∧ Below w.heap.size w wr ∧ J ((l.take k).filter q) wr) (fun t _ => l.length - (intOf t).toNat)
  case atStart => exact ⟨0, Nat.zero_le _, rfl, hW, h0⟩
  case round =>
    obtain ⟨k, hk, rfl, hbw, hJs⟩ := hrel
    have HJS := Lib.hid hJs
    have hws := hbw.size
    clear hJs
    by_cases hlt : k < l.length
    · obtain ⟨x, hx⟩ : ∃ x, l[k]? = some x := ⟨_, List.getElem?_eq_getElem hlt⟩
      have hmem := List.mem_of_getElem? hx
      obtain ⟨b, off, rfl, hb, d0, d1, d2, d3⟩ := Sl.ev (HV.out.below hbw) hx
      have hx2 : Box wr B2 #[.func (.func f) bd caps] 49 := Box.below HB2.out hbw HB2.out.lt
      obtain ⟨c2, f2, l2, n2, m2⟩ := hx2.rules
      clear hx2
      have hstep := filter_take_step hx q
      have hfl := filter_take_le l k q
      have hwr : IntKind.i64.wrap ((k : Int) + 1) = k + 1 := IntWalk.i64_in _ (by omega)
      cases hq : q x
      · rw [if_neg (by rw [hq]; simp), List.append_nil] at hstep
        have HST := Lib.hid hstep
        clear hstep hx
        gi_wp2
        refine ⟨trivial, callsIn_wide.2 ((HP.out _ (by (repeat (first | with_reducible assumption | with_reducible exact Below.refl _ _ | with_reducible refine Below.setCell ?_ ?_ _ | with_reducible refine Below.alloc ?_ ?_ _ | with_reducible refine below_drewN' ?_ _ | with_reducible refine Below.drew ?_ | with_reducible refine Below.trans ?_ (Below.mono (by assumption) ?_) | omega | (dsimp only; omega) | (simp only [drew_heap', drewN_heap', World.size_alloc, World.size_setCell]; omega) | (solve | simp) | (solve | (simp; omega))))) x hmem).mono ?_)⟩
        rintro e w1 ⟨rfl, hb1⟩
        have hbx : Below wr.heap.size wr w1 := by (repeat (first | with_reducible assumption | with_reducible exact Below.refl _ _ | with_reducible refine Below.setCell ?_ ?_ _ | with_reducible refine Below.alloc ?_ ?_ _ | with_reducible refine below_drewN' ?_ _ | with_reducible refine Below.drew ?_ | with_reducible refine Below.trans ?_ (Below.mono (by assumption) ?_) | omega | (dsimp only; omega) | (simp only [drew_heap', drewN_heap', World.size_alloc, World.size_setCell]; omega) | (solve | simp) | (solve | (simp; omega))))
        rw [hq]
        gi_wp2
        refine ⟨fun _ h => (by cases h), ?_⟩
        gi_wp2
        go_roundw
        case rel => exact ⟨k + 1, by omega, by go_num, hbw.trans (hbx.mono hws), by rw [HST.out]; exact HJ.out _ wr w1 none HJS.out (grown_of_below hbx none) (fun r e => by cases e)⟩
        case measure => simp [intOf]; omega
      · rw [if_pos hq] at hstep
        have HST := Lib.hid hstep
        clear hstep hx
        gi_wp2
        refine ⟨trivial, callsIn_wide.2 ((HP.out _ (by (repeat (first | with_reducible assumption | with_reducible exact Below.refl _ _ | with_reducible refine Below.setCell ?_ ?_ _ | with_reducible refine Below.alloc ?_ ?_ _ | with_reducible refine below_drewN' ?_ _ | with_reducible refine Below.drew ?_ | with_reducible refine Below.trans ?_ (Below.mono (by assumption) ?_) | omega | (dsimp only; omega) | (simp only [drew_heap', drewN_heap', World.size_alloc, World.size_setCell]; omega) | (solve | simp) | (solve | (simp; omega))))) x hmem).mono ?_)⟩
        rintro e w1 ⟨rfl, hb1⟩
        have hbx : Below wr.heap.size wr w1 := by (repeat (first | with_reducible assumption | with_reducible exact Below.refl _ _ | with_reducible refine Below.setCell ?_ ?_ _ | with_reducible refine Below.alloc ?_ ?_ _ | with_reducible refine below_drewN' ?_ _ | with_reducible refine Below.drew ?_ | with_reducible refine Below.trans ?_ (Below.mono (by assumption) ?_) | omega | (dsimp only; omega) | (simp only [drew_heap', drewN_heap', World.size_alloc, World.size_setCell]; omega) | (solve | simp) | (solve | (simp; omega))))
        have hz1 := hb1.size
        simp only [World.size_alloc] at hz1
        have hbe : Box w1 wr.heap.size #[.int .i64 x.1, .int .u32 x.2.1, .int .u32 x.2.2.1, .int .u64 x.2.2.2] 29 := Box.below (Box.new _ _ _) hb1 (by simp only [World.size_alloc]; omega)
        obtain ⟨c3, f3, l3, n3, m3⟩ := hbe.rules
        clear hbe
        have hJ1 : J ((l.take k).filter q) w1 := HJ.out _ wr w1 none HJS.out (grown_of_below hbx none) (fun r e => by cases e)
        obtain ⟨fn, tmps, assign, body, hy, hR⟩ := HY.out _ x w1 hJ1 (by omega)
        have HR := Lib.hid hR
        clear hR hJ1
        rw [hq]
        gi_wp2
        refine HR.out.mono ?_
        rintro e w3 (⟨rfl, hJ3, hk3⟩ | ⟨rfl, hJx3⟩)
        · gi_wp2
          go_roundw
          case rel => exact ⟨k + 1, by omega, by go_num, (hbw.trans (hbx.mono hws)).trans hk3, by rw [HST.out]; exact hJ3⟩
          case measure => simp [intOf]; omega
        · gi_wp2
          refine bodyPost_ret (results_none rfl _ _ _) rfl ?_
          exact ⟨⟨_, rfl⟩, .inr ⟨_, trivial, hJx3⟩⟩
    · obtain rfl : k = l.length := by omega
      gi_wp2
      go_end0
      exact ⟨⟨_, rfl⟩, .inl ⟨_, rfl, by rw [List.take_length] at HJS; exact HJS.out⟩⟩
end Go.Proofs.Ytnjhnkbjbkbnoaa
