/- window.wins: the windows of a right plan's schedule, one by one; window.cycle; Frame's closure. Conditions: what came in is shaped. -/
import Derived.Test.YtinhnecgmokfkaaPlanCheck2
import Derived.Test.YtinhnecgmokfkaaQRound
import Derived.RangeFuncNested
import Derived.RangeFuncBound
import Derived.RangeFuncCalls
import Derived.RangeFuncLeaves
import Derived.Shelf.Abstract
import Derived.Shelf.RegionOpen
import Derived.WalkKit
import Derived.OwnWalkIn
import Derived.TacticsInMore
import Derived.LoopNIn
import Derived.LoopIn
namespace Go.Proofs.Ytinhnecgmokfkaa
open Go Go.RowKit Go.Tm
set_option linter.unusedVariables false
set_option linter.unusedSimpArgs false
attribute [local go_sem] Oper.semAt_some

open Classical in
/-- The windows of the schedule: of a right plan that has it. -/
noncomputable def winsOf (p : Pln) (sched : Int) : List Wn := if PlanOk p ∧ 0 ≤ sched ∧ sched < p.wins.length then (p.wins[sched.toNat]?).getD [] else []
theorem winsOf_at {p : Pln} {sched : Int} {l : List Wn} (hp : PlanOk p) (h0 : 0 ≤ sched) (h1 : sched < p.wins.length) (hl : p.wins[sched.toNat]? = some l) : winsOf p sched = l := by
  unfold winsOf; rw [if_pos ⟨hp, h0, h1⟩, hl]; rfl
theorem winsOf_none {p : Pln} {sched : Int} (h : ¬ (PlanOk p ∧ 0 ≤ sched ∧ sched < p.wins.length)) : winsOf p sched = [] := by unfold winsOf; rw [if_neg h]
/-- A window as it stands in a right plan. -/
def WOk (x : Wn) : Prop := 0 ≤ x.1 ∧ x.1 < 4 ∧ 0 ≤ x.2.1 ∧ 2 < x.2.2 ∧ x.2.1 + x.2.2 ≤ 4096
abbrev Wa := {x : Wn // WOk x}
theorem rowOk_all {n : Nat} {frame : Int} : ∀ {l : List Wn} {b : Int}, RowOk n frame b l → ∀ x ∈ l, WinOk n frame x := by
  intro l
  induction l with
  | nil => intro b _ x hx; cases hx
  | cons y r ih =>
    intro b h x hx
    rcases List.mem_cons.1 hx with rfl | hx
    · exact h.1
    · exact ih h.2.2 x hx
theorem winsOf_ok {p : Pln} {sched : Int} : ∀ x ∈ winsOf p sched, PlanOk p ∧ WinOk p.parts.length p.frame x := by
  intro x hx
  by_cases h : PlanOk p ∧ 0 ≤ sched ∧ sched < p.wins.length
  · have hl := List.getElem?_eq_getElem (l := p.wins) (show sched.toNat < p.wins.length by omega)
    rw [winsOf_at h.1 h.2.1 h.2.2 hl] at hx
    exact ⟨h.1, rowOk_all (h.1.rows _ (List.getElem_mem _)) x hx⟩
  · rw [winsOf_none h] at hx; cases hx
theorem winsOf_wok {p : Pln} {sched : Int} : ∀ x ∈ winsOf p sched, WOk x := by
  intro x hx
  obtain ⟨hp, h⟩ := winsOf_ok x hx
  have := hp.frame4096
  have := hp.parts4
  unfold WinOk at h
  unfold WOk
  omega
theorem winsOf_len (p : Pln) (sched : Int) : (winsOf p sched).length ≤ 8 := by
  by_cases h : PlanOk p ∧ 0 ≤ sched ∧ sched < p.wins.length
  · have hl := List.getElem?_eq_getElem (l := p.wins) (show sched.toNat < p.wins.length by omega)
    rw [winsOf_at h.1 h.2.1 h.2.2 hl]
    exact h.1.wins8 _ (List.getElem_mem _)
  · rw [winsOf_none h]; simp
theorem with_all {q : Wn → Prop} : ∀ {l : List Wn}, (∀ x ∈ l, q x) → ∃ la : List {x : Wn // q x}, la.map (·.1) = l := by
  intro l
  induction l with
  | nil => intro _; exact ⟨[], rfl⟩
  | cons x r ih =>
    intro h
    obtain ⟨la, he⟩ := ih fun y hy => h y (List.mem_cons_of_mem _ hy)
    exact ⟨⟨x, h x (by simp)⟩ :: la, by simp [he]⟩

theorem wins_any (pv wv cv : Value) (p : Pln) (sched : Int) (w : World) : Calls Try.prog 21 #[planV pv wv cv p, .int .i64 sched] w fun e w' =>
    e = .returned (.func (.func 26) #[] #[.pointer (some ⟨w.heap.size, 0, none⟩), .pointer (some ⟨w.heap.size + 1, 0, none⟩)]) ∧
      w' = (w.alloc (.cells #[pv, .int .i64 p.frame, wv, cv] 26)).alloc (.cells #[.int .i64 sched] 3) := by
  go_enter Try.func21, Try.ntmps21
  go_wp2_with fail
  go_ret
  exact ⟨by simp, rfl⟩

set_option maxRecDepth 100000 in
set_option maxHeartbeats 8000000 in
theorem wins_stops (n B1 B2 : Nat) (pv wv cv : Value) (p : Pln) (sched : Int) (za : List Wa) (w : World) (hn : 1 ≤ n) (hz : za.map (·.1) = winsOf p sched) (hp : PlanIs w pv wv cv p)
    (h1 : Box w B1 #[pv, .int .i64 p.frame, wv, cv] 26) (h2 : Box w B2 #[.int .i64 sched] 3) :
    SeqStopsK Fence.wide n Try.prog 26 #[.pointer (some ⟨B1, 0, none⟩), .pointer (some ⟨B2, 0, none⟩)] (fun x : Wa => #[wnV x.1]) (Below w.heap.size) (fun ys => ys = za) (fun pre => pre <+: za) za.length w := by
  intro l' J Jx W hW hJ hJx hY h0
  have HP := Lib.hid hp
  have HB1 := Lib.hid h1
  have HB2 := Lib.hid h2
  have HJ := Lib.hid hJ
  have HY := Lib.hid hY
  have HZ := Lib.hid hz
  obtain ⟨a1, k1, a2, k2, a3, k3, rfl, rfl, rfl, hl1, hl2, hl3⟩ := hp.shape
  have hb1W := Box.below HB1.out hW h1.lt
  have hb2W := Box.below HB2.out hW h2.lt
  have HCK := Lib.hid (check_any _ _ _ p W (HP.out.below hW))
  obtain ⟨c1, f1, l1, n1, m1⟩ := hb1W.rules
  clear h1 h2 hp hJ hY hz
  refine callsIn_of_wp Try.func26 rfl trivial ?_ rfl
  simp only [Try.ntmps26, List.size_toArray, List.length_cons, List.length_nil, Nat.reduceAdd, Nat.reduceSub, Array.replicate_succ, Array.replicate_zero, List.push_toArray, List.append_toArray, List.nil_append, List.cons_append]
  gi_wp2
  refine ⟨trivial, callsIn_wide.2 (HCK.out.mono ?_)⟩
  rintro e w1 ⟨⟨k, rfl, hk⟩, hb1⟩
  have hx1 : Below w.heap.size w w1 := hW.trans (hb1.mono hW.size)
  have HJ1 := Lib.hid (HJ.out _ W w1 none h0 (grown_of_below hb1 none) (fun r e => by cases e))
  have HBX1 := Lib.hid (hb1W.below hb1 hb1W.lt)
  have HBX2 := Lib.hid (hb2W.below hb1 hb2W.lt)
  clear h0 c1 f1 l1 n1 m1 hb1W hb2W
  by_cases hpk : PlanOk p
  case neg =>
    have hk0 : (k != 0) = true := by simp; exact fun e => hpk (hk.1 e)
    have hne : za = [] := by have := HZ.out; rw [winsOf_none (fun h => hpk h.1)] at this; simpa using this
    clear hk
    gi_wp2
    refine bodyPost_ret (results_none rfl _ _ _) rfl ?_
    exact ⟨⟨_, rfl⟩, .inl ⟨_, hne.symm, HJ1.out⟩⟩
  obtain rfl : k = 0 := hk.2 hpk
  clear hk
  obtain ⟨c1, f1, l1, n1, m1⟩ := HBX1.out.rules
  obtain ⟨c2, f2, l2, n2, m2⟩ := HBX2.out.rules
  by_cases hs0 : sched < 0
  case pos =>
    have hs0d : decide (sched < 0) = true := by simpa using hs0
    have hne : za = [] := by have := HZ.out; rw [winsOf_none (fun h => by omega)] at this; simpa using this
    gi_wp2
    refine bodyPost_ret (results_none rfl _ _ _) rfl ?_
    exact ⟨⟨_, rfl⟩, .inl ⟨_, hne.symm, HJ1.out⟩⟩
  have hs0d : decide (sched < 0) = false := by simpa using hs0
  by_cases hs1 : (p.wins.length : Int) ≤ sched
  case pos =>
    have hs1d : decide ((p.wins.length : Int) ≤ sched) = true := by simpa using hs1
    have hne : za = [] := by have := HZ.out; rw [winsOf_none (fun h => by omega)] at this; simpa using this
    gi_wp2
    refine bodyPost_ret (results_none rfl _ _ _) rfl ?_
    exact ⟨⟨_, rfl⟩, .inl ⟨_, hne.symm, HJ1.out⟩⟩
  have hs1d : decide ((p.wins.length : Int) ≤ sched) = false := by simpa using hs1
  obtain ⟨s, rfl⟩ : ∃ s : Nat, sched = s := ⟨sched.toNat, by omega⟩
  have hs1n : decide (p.wins.length ≤ s) = false := by simp; omega
  obtain ⟨l, hl⟩ : ∃ l, p.wins[s]? = some l := ⟨_, List.getElem?_eq_getElem (by omega)⟩
  have hzl : za.map (·.1) = l := by rw [HZ.out]; exact winsOf_at hpk (by omega) (by omega) (by simpa using hl)
  have hzlen : za.length = l.length := by rw [← hzl]; simp
  obtain ⟨b, off, a5, c5, rfl, hb, hcell0, hll, hsl⟩ := WinsIs.at HP.out.wins hl
  have hcell := (hx1.cell (p := ⟨b, off + s, none⟩) hb).trans hcell0
  have hbw1 : b < w1.heap.size := Nat.lt_of_lt_of_le hb hx1.size
  have HSL := Lib.hid hsl
  have HZL := Lib.hid hzl
  clear hl hsl hzl hcell0
  gi_wp2
  clear c1 f1 l1 n1 m1 c2 f2 l2 n2 m2 hcell
  gi_loopw [26] (fun t wr => ∃ k : Nat, k ≤ l.length ∧ t = .int .i64 k ∧ Below w.heap.size w wr ∧ J (za.take k) wr) (fun t _ => l.length - (intOf t).toNat)
  case atStart => exact ⟨0, Nat.zero_le _, rfl, hx1, HJ1.out⟩
  case round =>
    obtain ⟨k, hk, rfl, hbw, hJs⟩ := hrel
    have HJS := Lib.hid hJs
    have hws := hbw.size
    clear hJs
    by_cases hlt : k < l.length
    · obtain ⟨x, hx⟩ : ∃ x, za[k]? = some x := ⟨_, List.getElem?_eq_getElem (by omega)⟩
      have hxl : l[k]? = some x.1 := by rw [← HZL.out]; simp [hx]
      obtain ⟨b2, off2, rfl, hb2, q0, q1, q2⟩ := Sl.wn (HSL.out.below hbw) hxl
      have HST := Lib.hid (take_step hx)
      have HPX := Lib.hid (show za.take (k + 1) <+: za from List.take_prefix _ _)
      have hwr : IntKind.i64.wrap ((k : Int) + 1) = k + 1 := IntWalk.i64_in _ (by omega)
      have htl : (za.take k).length < za.length := by rw [List.length_take]; omega
      have hbz : Below wr.heap.size wr (wr.alloc (.cells #[.int .i64 x.1.1, .int .i64 x.1.2.1, .int .i64 x.1.2.2] 48)) := (Below.refl _ _).alloc (Nat.le_refl _) _
      have HJ2 := Lib.hid (HJ.out _ wr _ none HJS.out (grown_of_below hbz none) (fun r e => by cases e))
      obtain ⟨fn, tmps, assign, body, hy, hR⟩ := HY.out _ x _ HJ2.out htl
      have HR := Lib.hid hR
      clear hx hxl hR
      gi_wp2
      refine HR.out.mono ?_
      rintro e w3 (⟨rfl, hJ3, hk3⟩ | ⟨rfl, hJx3⟩)
      · gi_wp2
        go_roundw
        case rel => exact ⟨k + 1, by omega, by go_num, (hbw.alloc hws _).trans hk3, by rw [HST.out]; exact hJ3⟩
        case measure => simp [intOf]; omega
      · gi_wp2
        refine bodyPost_ret (results_none rfl _ _ _) rfl ?_
        exact ⟨⟨_, rfl⟩, .inr ⟨_, by rw [← HST.out]; exact HPX.out, hJx3⟩⟩
    · obtain rfl : k = l.length := by omega
      gi_wp2
      go_end0
      exact ⟨⟨_, rfl⟩, .inl ⟨_, rfl, by rw [← hzlen, List.take_length] at HJS; exact HJS.out⟩⟩
end Go.Proofs.Ytinhnecgmokfkaa
